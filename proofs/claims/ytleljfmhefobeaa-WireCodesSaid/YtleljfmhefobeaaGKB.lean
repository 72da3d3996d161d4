/- Messages held against each other; a message's bytes say which it is. -/
import Derived.Test.YtleljfmhefobeaaGKPw
import Derived.Test.YtleljfmhefobeaaGKPe
import Derived.Test.YtleljfmhefobeaaGKx7
set_option linter.unusedVariables false
namespace Go.Proofs.Ytleljfmhefobeaa.GKB
open Go.RowKit Go.Proofs.YtleljfmhefobeaaW.PrintWords Go.Proofs.YtleljfmhefobeaaW.PrintLast Go.Proofs.YtleljfmhefobeaaW.PrintMore Go.Proofs.Ytleljfmhefobeaa.GK Go.Proofs.Ytleljfmhefobeaa.GKPa Go.Proofs.Ytleljfmhefobeaa.GKPw Go.Proofs.Ytleljfmhefobeaa.GKPe

theorem sameJ (k : Nat) (x : Bool) (r q : M) (hu : r.us.length ≤ 1099511627776) (hn : r.ns.length ≤ 1099511627776) (hk : r.us.length < k) (hk2 : r.ns.length < k) (hb : bytesL r.tx) (hb2 : bytesL q.tx) :
    wire_Same.j0 (k + 1) x r.a0 r.a1 r.a2 r.a3 r.a4 r.a5 r.a6 r.a7 r.a8 r.y r.lo r.hi r.us r.ns r.tx q.a0 q.a1 q.a2 q.a3 q.a4 q.a5 q.a6 q.a7 q.a8 q.y q.lo q.hi q.us q.ns q.tx = some (!x && (decide (r.us = q.us) && (decide (r.ns = q.ns) && decide (r.tx = q.tx)))) := by
  rw [wire_Same.j0]
  cases x with
  | true => rfl
  | false =>
    rw [if_neg (by decide), equal_eq k _ _ hu hk, Option.bind_some]
    by_cases h1 : r.us = q.us
    · rw [if_pos (by simp [h1]), equal_eq k _ _ hn hk2, Option.bind_some]
      by_cases h2 : r.ns = q.ns
      · rw [if_pos (by simp [h2]), bequal_eq _ _ hb hb2]
        simp [h1, h2]
      · rw [if_neg (by simp [h2])]; simp [h2]
    · rw [if_neg (by simp [h1])]; simp [h1]
theorem same_eq (k : Nat) (r q : M) (hu : r.us.length ≤ 1099511627776) (hn : r.ns.length ≤ 1099511627776) (hk : r.us.length + 1 < k) (hk2 : r.ns.length + 1 < k) (hb : bytesL r.tx) (hb2 : bytesL q.tx) :
    ∃ b : Bool, wire_Same.f k r.a0 r.a1 r.a2 r.a3 r.a4 r.a5 r.a6 r.a7 r.a8 r.y r.lo r.hi r.us r.ns r.tx q.a0 q.a1 q.a2 q.a3 q.a4 q.a5 q.a6 q.a7 q.a8 q.y q.lo q.hi q.us q.ns q.tx = some b ∧ (b = true ↔ r = q) := by
  obtain ⟨k, rfl⟩ : ∃ m, k = m + 1 := ⟨k - 1, by omega⟩
  have J := fun x => sameJ k x r q hu hn (by omega) (by omega) hb hb2
  unfold wire_Same.f
  have no : ∀ {p : Prop}, ¬ p → (r = q → p) → ∃ b : Bool, wire_Same.j0 (k + 1) true r.a0 r.a1 r.a2 r.a3 r.a4 r.a5 r.a6 r.a7 r.a8 r.y r.lo r.hi r.us r.ns r.tx q.a0 q.a1 q.a2 q.a3 q.a4 q.a5 q.a6 q.a7 q.a8 q.y q.lo q.hi q.us q.ns q.tx = some b ∧ (b = true ↔ r = q) :=
    fun hp h => ⟨false, by rw [J]; rfl, ⟨(fun g => by cases g), fun g => absurd (h g) hp⟩⟩
  by_cases h0 : r.a0 = q.a0
  rotate_left
  · rw [if_neg h0]; exact no h0 (fun h => by rw [h])
  by_cases h1 : r.a1 = q.a1
  rotate_left
  · rw [if_pos h0, if_neg h1]; exact no h1 (fun h => by rw [h])
  by_cases h2 : r.a2 = q.a2
  rotate_left
  · rw [if_pos h0, if_pos h1, if_neg h2]; exact no h2 (fun h => by rw [h])
  by_cases h3 : r.a3 = q.a3
  rotate_left
  · rw [if_pos h0, if_pos h1, if_pos h2, if_neg h3]; exact no h3 (fun h => by rw [h])
  by_cases h4 : r.a4 = q.a4
  rotate_left
  · rw [if_pos h0, if_pos h1, if_pos h2, if_pos h3, if_neg h4]; exact no h4 (fun h => by rw [h])
  by_cases h5 : r.a5 = q.a5
  rotate_left
  · rw [if_pos h0, if_pos h1, if_pos h2, if_pos h3, if_pos h4, if_neg h5]; exact no h5 (fun h => by rw [h])
  by_cases h6 : r.a6 = q.a6
  rotate_left
  · rw [if_pos h0, if_pos h1, if_pos h2, if_pos h3, if_pos h4, if_pos h5, if_neg h6]; exact no h6 (fun h => by rw [h])
  by_cases h7 : r.a7 = q.a7
  rotate_left
  · rw [if_pos h0, if_pos h1, if_pos h2, if_pos h3, if_pos h4, if_pos h5, if_pos h6, if_neg h7]; exact no h7 (fun h => by rw [h])
  by_cases h8 : r.a8 = q.a8
  rotate_left
  · rw [if_pos h0, if_pos h1, if_pos h2, if_pos h3, if_pos h4, if_pos h5, if_pos h6, if_pos h7, if_neg h8]; exact no h8 (fun h => by rw [h])
  rw [if_pos h0, if_pos h1, if_pos h2, if_pos h3, if_pos h4, if_pos h5, if_pos h6, if_pos h7, if_pos h8]
  by_cases hy : r.y = q.y
  rotate_left
  · rw [if_pos (by simpa using hy)]; exact no hy (fun h => by rw [h])
  rw [if_neg (by simpa using hy)]
  refine ⟨_, J _, ?_⟩
  obtain ⟨r0, r1, r2, r3, r4, r5, r6, r7, r8, ry, rlo, rhi, ru, rn, rt⟩ := r
  obtain ⟨q0, q1, q2, q3, q4, q5, q6, q7, q8, qy, qlo, qhi, qu, qn, qt⟩ := q
  simp only at h0 h1 h2 h3 h4 h5 h6 h7 h8 hy
  simp only [M.mk.injEq, h0, h1, h2, h3, h4, h5, h6, h7, h8, hy, true_and, Bool.and_eq_true, decide_eq_true_eq, Bool.not_eq_true', Bool.or_eq_false_iff, Bool.not_eq_false', beq_iff_eq, and_assoc]
theorem short {m : M} (h : May m) : m.us.length ≤ 64 ∧ m.ns.length ≤ 16 ∧ m.tx.length ≤ 4096 := by
  have h1 := h.us.2; have h2 := h.ns.2; have h3 := h.text
  omega
theorem flag_byte (b : Bool) : 0 ≤ flag b ∧ flag b < 256 := by have := flag_range b; omega
theorem flag_inj {a b : Bool} (h : flag a = flag b) : a = b := by cases a <;> cases b <;> first | rfl | (exact absurd h (by decide))
theorem bytes_tail (u n t : List Int) (ht : bytesL t) : bytesL (tail u n t) := by
  unfold tail
  exact bytesL_append (bytesL_cons (by omega) (bytesL_lows _)) (bytesL_append (bytesL_cons (by omega) (bytesL_lows _)) (bytesL_append (bytesL_beR _ _) ht))
theorem bytes_body (m : M) (ht : bytesL m.tx) : bytesL (body m) := by
  unfold body
  exact bytesL_append (bytesL_cons (by omega) (bytesL_cons (by omega) (bytesL_cons (by omega) (bytesL_cons (by omega) (bytesL_cons (by omega) (bytesL_cons (flag_byte _) bytesL_nil)))))) (bytesL_append (bytesL_beR _ _) (bytesL_append (bytesL_beR _ _) (bytesL_append (bytesL_beR _ _) (bytesL_append (bytesL_beR _ _) (bytesL_append (bytesL_beR _ _) (bytesL_append (bytesL_beR _ _) (bytes_tail _ _ _ ht)))))))
end Go.Proofs.Ytleljfmhefobeaa.GKB
