/- Records held against each other; a record's bytes say which it is. -/
import Derived.Test.YtleljfmhefobeaaGJPr
import Derived.Test.YtleljfmhefobeaaGJPe
set_option linter.unusedVariables false
namespace Go.Proofs.Ytleljfmhefobeaa.GJB
open Go.RowKit Go.Proofs.YtleljfmhefobeaaW.PrintWords Go.Proofs.YtleljfmhefobeaaW.PrintLast Go.Proofs.YtleljfmhefobeaaW.PrintMore Go.Proofs.Ytleljfmhefobeaa.GJ Go.Proofs.Ytleljfmhefobeaa.GJPa Go.Proofs.Ytleljfmhefobeaa.GJPr Go.Proofs.Ytleljfmhefobeaa.GJPe

theorem same_eq (k : Nat) (r q : M) (hu : r.us.length ≤ 1099511627776) (hn : r.ns.length ≤ 1099511627776) (hk : r.us.length < k) (hk2 : r.ns.length < k) (hb : bytesL r.tx) (hb2 : bytesL q.tx) :
    ∃ b : Bool, rec_Same.f k r.a0 r.a1 r.a2 r.a3 r.a4 r.y r.us r.ns r.tx q.a0 q.a1 q.a2 q.a3 q.a4 q.y q.us q.ns q.tx = some b ∧ (b = true ↔ r = q) := by
  have no : ∀ {p : Prop}, ¬ p → (r = q → p) → ((false : Bool) = true ↔ r = q) := fun hp h => ⟨(fun g => by cases g), fun g => absurd (h g) hp⟩
  obtain ⟨r0, r1, r2, r3, r4, ry, ru, rn, rt⟩ := r
  obtain ⟨q0, q1, q2, q3, q4, qy, qu, qn, qt⟩ := q
  simp only at hu hn hk hk2 hb hb2
  simp only [rec_Same.f, equal_eq k ru qu hu hk, equal_eq k rn qn hn hk2, bequal_eq rt qt hb hb2, Option.bind_some, M.mk.injEq]
  by_cases h0 : r0 = q0
  · by_cases h1 : r1 = q1
    · by_cases h2 : r2 = q2
      · by_cases h3 : r3 = q3
        · by_cases h4 : r4 = q4
          · by_cases hy : ry = qy
            · by_cases h6 : ru = qu
              · by_cases h7 : rn = qn
                · refine ⟨decide (rt = qt), by simp [h0, h1, h2, h3, h4, hy, h6, h7], by simp [h0, h1, h2, h3, h4, hy, h6, h7]⟩
                · exact ⟨false, by simp [h0, h1, h2, h3, h4, hy, h6, h7], by simp [h7]⟩
              · exact ⟨false, by simp [h0, h1, h2, h3, h4, hy, h6], by simp [h6]⟩
            · exact ⟨false, by simp [h0, h1, h2, h3, h4, hy], by simp [hy]⟩
          · exact ⟨false, by simp [h0, h1, h2, h3, h4], by simp [h4]⟩
        · exact ⟨false, by simp [h0, h1, h2, h3], by simp [h3]⟩
      · exact ⟨false, by simp [h0, h1, h2], by simp [h2]⟩
    · exact ⟨false, by simp [h0, h1], by simp [h1]⟩
  · exact ⟨false, by simp [h0], by simp [h0]⟩

theorem ranges {m : M} (h : May m) : (0 ≤ m.a1 ∧ m.a1 < 281474976710656) ∧ (0 ≤ m.a2 ∧ m.a2 < 281474976710656) ∧ (0 ≤ m.a4 ∧ m.a4 < 281474976710656) ∧ (0 ≤ m.a3 ∧ m.a3 < 256) ∧ (∀ x ∈ m.us, 0 ≤ x ∧ x < 256) ∧ (∀ x ∈ m.ns, 0 ≤ x ∧ x < 256) := by
  have k1 := h.num1; have k2 := h.num; have k3 := h.op1; have k4 := h.op0; have k5 := h.id
  refine ⟨?_, by omega, ?_, ?_, ?_, ?_⟩
  · by_cases g : m.a0 = 1
    · have := k1 g; omega
    · have := k2 g; omega
  · by_cases g : big m.a0
    · rcases k3 g with ⟨_, h2⟩ | ⟨_, h2⟩ <;> omega
    · have := k4 g; omega
  · by_cases g : big m.a0
    · rcases k3 g with ⟨h2, _⟩ | ⟨h2, _⟩ <;> omega
    · have := k4 g; omega
  · by_cases g : big m.a0
    · intro x hx; have := rises_range (h.lists g).1 x hx; omega
    · intro x hx; rw [(h.none g).1] at hx; cases hx
  · by_cases g : big m.a0
    · intro x hx; have := rises_range (h.lists g).2.1 x hx; omega
    · intro x hx; rw [(h.none g).2.1] at hx; cases hx
theorem beR_inj {n : Nat} {v w : Int} (hn : n = 6) (hv : 0 ≤ v ∧ v < 281474976710656) (hw : 0 ≤ w ∧ w < 281474976710656) (h : beR n v = beR n w) : v = w := by
  subst hn
  rw [← num_be6 v hv.1 hv.2, h, num_be6 w hw.1 hw.2]
theorem tail_inj {u n t u' n' t' : List Int} (h : tail u n t = tail u' n' t') (h1 : u.length ≤ 64) (h2 : u'.length ≤ 64) (h3 : n.length ≤ 16) (h4 : n'.length ≤ 16) (hu : ∀ x ∈ u, 0 ≤ x ∧ x < 256) (hu' : ∀ x ∈ u', 0 ≤ x ∧ x < 256) (hn : ∀ x ∈ n, 0 ≤ x ∧ x < 256) (hn' : ∀ x ∈ n', 0 ≤ x ∧ x < 256) :
    u = u' ∧ n = n' ∧ t = t' := by
  unfold tail at h
  rw [lows_id hu, lows_id hu', lows_id hn, lows_id hn'] at h
  simp only [List.cons_append, List.cons.injEq] at h
  obtain ⟨e1, h⟩ := h
  obtain ⟨e2, h⟩ := List.append_inj h (by omega)
  simp only [List.cons.injEq] at h
  obtain ⟨e3, h⟩ := h
  obtain ⟨e4, h⟩ := List.append_inj h (by omega)
  obtain ⟨_, e5⟩ := List.append_inj h (by simp [beR_length])
  exact ⟨e2, e4, e5⟩
theorem flag_inj {a b : Bool} (h : flag a = flag b) : a = b := by cases a <;> cases b <;> first | rfl | (exact absurd h (by decide))
theorem body_inj {r q : M} (hr : May r) (hq : May q) (h : body r = body q) : r = q := by
  obtain ⟨a1, a2, a4, a3, au, an⟩ := ranges hr
  obtain ⟨b1, b2, b4, b3, bu, bn⟩ := ranges hq
  have s1 := hr.short; have s2 := hq.short
  have k1 := hr.kind; have k2 := hq.kind
  unfold body at h
  obtain ⟨e0, h⟩ := List.append_inj h (by simp)
  obtain ⟨e1, h⟩ := List.append_inj h (by simp [beR_length])
  obtain ⟨e2, h⟩ := List.append_inj h (by simp [beR_length])
  obtain ⟨e4, h⟩ := List.append_inj h (by simp [beR_length])
  obtain ⟨e3, h⟩ := List.append_inj h (by simp)
  obtain ⟨e6, e7, e8⟩ := tail_inj h (by omega) (by omega) (by omega) (by omega) au bu an bn
  simp only [List.cons.injEq, and_true] at e0 e3
  have f1 := beR_inj rfl a1 b1 e1
  have f2 := beR_inj rfl a2 b2 e2
  have f4 := beR_inj rfl a4 b4 e4
  have fy := flag_inj e3.2
  have f0 : r.a0 = q.a0 := by omega
  have f3 : r.a3 = q.a3 := by omega
  cases r; cases q
  simp only at f0 f1 f2 f3 f4 fy e6 e7 e8
  subst f0 f1 f2 f3 f4 fy e6 e7 e8
  rfl
theorem flag_byte (b : Bool) : 0 ≤ flag b ∧ flag b < 256 := by have := flag_range b; omega
theorem bytes_body (m : M) (ht : bytesL m.tx) : bytesL (body m) := by
  unfold body tail
  refine bytesL_append (bytesL_cons (by omega) bytesL_nil) (bytesL_append (bytesL_beR _ _) (bytesL_append (bytesL_beR _ _) (bytesL_append (bytesL_beR _ _) (bytesL_append (bytesL_cons (by omega) (bytesL_cons (flag_byte _) bytesL_nil)) ?_))))
  exact bytesL_append (bytesL_cons (by omega) (bytesL_lows _)) (bytesL_append (bytesL_cons (by omega) (bytesL_lows _)) (bytesL_append (bytesL_beR _ _) ht))
end Go.Proofs.Ytleljfmhefobeaa.GJB
