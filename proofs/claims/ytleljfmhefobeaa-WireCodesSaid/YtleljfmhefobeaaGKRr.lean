/- The reference's message answers as the program's does: May, body, Encode, Same. -/
import Derived.Test.YtleljfmhefobeaaGKRa
import Derived.Test.YtleljfmhefobeaaGKPw
import Derived.Test.YtleljfmhefobeaaGKx10
import Derived.Test.YtleljfmhefobeaaGKx11
set_option linter.unusedVariables false
namespace Go.Proofs.Ytleljfmhefobeaa.GKRr
open Go.RowKit Go.Proofs.YtleljfmhefobeaaW.PrintWords Go.Proofs.YtleljfmhefobeaaW.PrintLast Go.Proofs.YtleljfmhefobeaaW.PrintMore Go.Proofs.Ytleljfmhefobeaa.GK Go.Proofs.Ytleljfmhefobeaa.GKPa Go.Proofs.Ytleljfmhefobeaa.GKPe Go.Proofs.Ytleljfmhefobeaa.GKPw Go.Proofs.Ytleljfmhefobeaa.GKRa

theorem vwithin_eq (n h : Int) : vokref17_within.f n h = some (decide (within n h)) := by
  unfold vokref17_within.f within
  by_cases h0 : n ≥ 0
  · rw [if_pos h0]; simp [h0]
  · rw [if_neg h0]; simp [show ¬ 0 ≤ n from h0]
theorem vmay_eq' (k : Nat) (m : M) (hu : m.us.length ≤ 20000) (hn : m.ns.length ≤ 20000) (hk : 2 * m.us.length + 1 < k) (hk2 : 2 * m.ns.length + 1 < k) :
    vokref17_Msg_May.f k m.a0 m.a1 m.a2 m.a3 m.a4 m.a5 m.a6 m.a7 m.a8 m.y m.lo m.hi m.us m.ns m.tx = some (mayB m) := by
  have no : ¬ May m → some false = some (mayB m) := fun h => by rw [mayB_no h]
  unfold vokref17_Msg_May.f
  by_cases h1 : m.a0 ≥ 1
  rotate_left
  · rw [if_neg h1]; exact no fun h => h1 h.kind.1
  rw [if_pos h1]
  by_cases h2 : m.a0 ≤ 8
  rotate_left
  · rw [if_neg h2]; exact no fun h => h2 h.kind.2
  rw [if_pos h2]
  simp only [vwithin_eq, Option.bind_some, decide_eq_true_eq]
  by_cases w_frm : within m.a1 15
  rotate_left
  · rw [if_neg w_frm]; exact no fun h => w_frm h.frm
  rw [if_pos w_frm]
  by_cases w_dst : within m.a2 15
  rotate_left
  · rw [if_neg w_dst]; exact no fun h => w_dst h.dst
  rw [if_pos w_dst]
  by_cases w_tx : within m.a3 1099511627776
  rotate_left
  · rw [if_neg w_tx]; exact no fun h => w_tx h.tx
  rw [if_pos w_tx]
  by_cases w_id : within m.a4 1099511627776
  rotate_left
  · rw [if_neg w_id]; exact no fun h => w_id h.id
  rw [if_pos w_id]
  by_cases w_old : within m.a6 1099511627776
  rotate_left
  · rw [if_neg w_old]; exact no fun h => w_old h.old
  rw [if_pos w_old]
  by_cases w_owner : within m.a8 1099511627776
  rotate_left
  · rw [if_neg w_owner]; exact no fun h => w_owner h.owner
  rw [if_pos w_owner]
  by_cases w_op : within m.a5 3
  rotate_left
  · rw [if_neg w_op]; exact no fun h => w_op h.op
  rw [if_pos w_op]
  by_cases w_code : within m.a7 255
  rotate_left
  · rw [if_neg w_code]; exact no fun h => w_code h.code
  rw [if_pos w_code]
  by_cases w_lo : within m.lo 140737488355328
  rotate_left
  · rw [if_neg w_lo]; exact no fun h => w_lo h.lo
  rw [if_pos w_lo]
  by_cases w_hi : within m.hi 140737488355328
  rotate_left
  · rw [if_neg w_hi]; exact no fun h => w_hi h.hi
  rw [if_pos w_hi]
  rw [vlist_eq m.us 63 64 (by omega) k (by omega) hk, Option.bind_some]
  by_cases hu' : rises m.us 64
  rotate_left
  · rw [if_neg (by rw [risesB_iff]; exact hu')]; exact no fun h => hu' h.us
  rw [if_pos ((risesB_iff _ _).2 hu'), vlist_eq m.ns 15 16 (by omega) k (by omega) hk2, Option.bind_some]
  by_cases hn' : rises m.ns 16
  rotate_left
  · rw [if_neg (by rw [risesB_iff]; exact hn')]; exact no fun h => hn' h.ns
  rw [if_pos ((risesB_iff _ _).2 hn')]
  congr 1
  rw [Bool.eq_iff_iff, mayB_iff, decide_eq_true_eq]
  exact ⟨fun h => ⟨⟨h1, h2⟩, w_frm, w_dst, w_tx, w_id, w_op, w_old, w_code, w_owner, w_lo, w_hi, hu', hn', h⟩, fun h => h.text⟩
theorem vbody_l0 (m : M) (ys : List Int) (hy : ys.length ≤ 1000) (hu : m.us.length ≤ 1000) (hn : m.ns.length ≤ 1000) (ht : m.tx.length ≤ 1099511627776) : ∀ d i k (b : List Int), ys.length - i = d → i ≤ ys.length → d + 1100 < k → b.length + 6 * d ≤ 100000 →
    vokref17_Msg_body.l0 k b ys (i : Int) m.a0 m.a1 m.a2 m.a3 m.a4 m.a5 m.a6 m.a7 m.a8 m.y m.lo m.hi m.us m.ns m.tx = some (b ++ ((ys.drop i).flatMap (beR 6) ++ tail m.us m.ns m.tx)) := by
  intro d
  induction d with
  | zero =>
    intro i k b hd hi hk hb
    obtain ⟨k, rfl⟩ : ∃ m, k = m + 1 := ⟨k - 1, by omega⟩
    have b2 : ∀ v, vokref10_Be.f k 2 v = some (beR 2 v) := fun v => vbe_eq k 2 v (by omega) (by omega)
    rw [vokref17_Msg_body.l0, if_neg (by omega), vshort_eq k m.us (by omega) (by omega)]
    simp only [Option.bind_some, vshort_eq k m.ns (by omega) (by omega), b2]
    rw [if_pos (by simp [lows_length]; omega), if_pos (by simp [lows_length]; omega), if_pos (by simp [beR_length, lows_length]; omega), if_pos (by simp [beR_length, lows_length]; omega), List.drop_eq_nil_of_le (by omega)]
    simp [tail]
  | succ d ih =>
    intro i k b hd hi hk hb
    obtain ⟨k, rfl⟩ : ∃ m, k = m + 1 := ⟨k - 1, by omega⟩
    have hlt : i < ys.length := by omega
    have b6 : ∀ v, vokref10_Be.f k 6 v = some (beR 6 v) := fun v => vbe_eq k 6 v (by omega) (by omega)
    rw [vokref17_Msg_body.l0, if_pos (by omega), if_pos (by omega), b6, Option.bind_some, if_pos (by simp [beR_length]; omega)]
    rw [w64 (by omega) (by omega), show (i : Int) + 1 = ((i + 1 : Nat) : Int) by omega, ih (i + 1) k _ (by omega) (by omega) (by omega) (by simp [beR_length]; omega), drop_rd hlt]
    simp
theorem vbody_eq (k : Nat) (m : M) (hu : m.us.length < 1000) (hn : m.ns.length < 1000) (ht : m.tx.length ≤ 1099511627776) (hk : 1200 ≤ k) :
    vokref17_Msg_body.f k m.a0 m.a1 m.a2 m.a3 m.a4 m.a5 m.a6 m.a7 m.a8 m.y m.lo m.hi m.us m.ns m.tx = some (body m) := by
  obtain ⟨k, rfl⟩ : ∃ m, k = m + 1 := ⟨k - 1, by omega⟩
  have go : ∀ x : Int, vokref17_Msg_body.j0 (k + 1) x m.a0 m.a1 m.a2 m.a3 m.a4 m.a5 m.a6 m.a7 m.a8 m.y m.lo m.hi m.us m.ns m.tx = some ([m.a0 % 256, m.a1 % 256, m.a2 % 256, m.a5 % 256, m.a7 % 256, x] ++ (([m.a3, m.a4, m.a6, m.a8, m.lo, m.hi]).flatMap (beR 6) ++ tail m.us m.ns m.tx)) := by
    intro x
    have := vbody_l0 m [m.a3, m.a4, m.a6, m.a8, m.lo, m.hi] (by simp) (by omega) (by omega) ht 6 0 k [m.a0 % 256, m.a1 % 256, m.a2 % 256, m.a5 % 256, m.a7 % 256, x] (by simp) (by omega) (by omega) (by simp)
    rw [vokref17_Msg_body.j0]
    exact this
  unfold vokref17_Msg_body.f
  cases hy : m.y with
  | true => rw [if_pos rfl, ← hy, go]; simp [body, flag, hy]
  | false => rw [if_neg (by decide), ← hy, go]; simp [body, flag, hy]
theorem vEncode_eq (k : Nat) (m : M) (hu : m.us.length ≤ 300) (hn : m.ns.length ≤ 300) (ht : m.tx.length ≤ 1099511627776) (hk : 1200 ≤ k) :
    vokref17_Msg_Encode.f k m.a0 m.a1 m.a2 m.a3 m.a4 m.a5 m.a6 m.a7 m.a8 m.y m.lo m.hi m.us m.ns m.tx = some (if mayB m = true then (body m, 0) else ([], 1)) := by
  unfold vokref17_Msg_Encode.f
  rw [vmay_eq' k m (by omega) (by omega) (by omega) (by omega), vbody_eq k m (by omega) (by omega) ht hk]
  cases mayB m <;> rfl
theorem vSame_eq (k : Nat) (r q : M) (hu : r.us.length ≤ 1099511627776) (hn : r.ns.length ≤ 1099511627776) (hk : r.us.length < k) (hk2 : r.ns.length < k) (hb : bytesL r.tx) (hb2 : bytesL q.tx) :
    ∃ b : Bool, vokref17_Msg_Same.f k r.a0 r.a1 r.a2 r.a3 r.a4 r.a5 r.a6 r.a7 r.a8 r.y r.lo r.hi r.us r.ns r.tx q.a0 q.a1 q.a2 q.a3 q.a4 q.a5 q.a6 q.a7 q.a8 q.y q.lo q.hi q.us q.ns q.tx = some b ∧ (b = true ↔ r = q) := by
  obtain ⟨r0, r1, r2, r3, r4, r5, r6, r7, r8, ry, rl, rh, ru, rn, rt⟩ := r
  obtain ⟨q0, q1, q2, q3, q4, q5, q6, q7, q8, qy, ql, qh, qu, qn, qt⟩ := q
  simp only at hu hn hk hk2 hb hb2
  simp only [vokref17_Msg_Same.f, vints_eq k ru qu hu hk, vints_eq k rn qn hn hk2, vbytes_eq rt qt hb hb2, Option.bind_some, M.mk.injEq]
  by_cases h0 : r0 = q0
  · by_cases h1 : r1 = q1
    · by_cases h2 : r2 = q2
      · by_cases h3 : r3 = q3
        · by_cases h4 : r4 = q4
          · by_cases h5 : r5 = q5
            · by_cases h6 : r6 = q6
              · by_cases h7 : r7 = q7
                · by_cases h8 : r8 = q8
                  · by_cases hy : ry = qy
                    · by_cases hl : rl = ql
                      · by_cases hh : rh = qh
                        · by_cases hu2 : ru = qu
                          · by_cases hn2 : rn = qn
                            · exact ⟨decide (rt = qt), by simp [h0, h1, h2, h3, h4, h5, h6, h7, h8, hy, hl, hh, hu2, hn2], by simp [h0, h1, h2, h3, h4, h5, h6, h7, h8, hy, hl, hh, hu2, hn2]⟩
                            · exact ⟨false, by simp [h0, h1, h2, h3, h4, h5, h6, h7, h8, hy, hl, hh, hu2, hn2], by simp [hn2]⟩
                          · exact ⟨false, by simp [h0, h1, h2, h3, h4, h5, h6, h7, h8, hy, hl, hh, hu2], by simp [hu2]⟩
                        · exact ⟨false, by simp [h0, h1, h2, h3, h4, h5, h6, h7, h8, hy, hl, hh], by simp [hh]⟩
                      · exact ⟨false, by simp [h0, h1, h2, h3, h4, h5, h6, h7, h8, hy, hl], by simp [hl]⟩
                    · exact ⟨false, by simp [h0, h1, h2, h3, h4, h5, h6, h7, h8, hy], by simp [hy]⟩
                  · exact ⟨false, by simp [h0, h1, h2, h3, h4, h5, h6, h7, h8], by simp [h8]⟩
                · exact ⟨false, by simp [h0, h1, h2, h3, h4, h5, h6, h7], by simp [h7]⟩
              · exact ⟨false, by simp [h0, h1, h2, h3, h4, h5, h6], by simp [h6]⟩
            · exact ⟨false, by simp [h0, h1, h2, h3, h4, h5], by simp [h5]⟩
          · exact ⟨false, by simp [h0, h1, h2, h3, h4], by simp [h4]⟩
        · exact ⟨false, by simp [h0, h1, h2, h3], by simp [h3]⟩
      · exact ⟨false, by simp [h0, h1, h2], by simp [h2]⟩
    · exact ⟨false, by simp [h0, h1], by simp [h1]⟩
  · exact ⟨false, by simp [h0], by simp [h0]⟩
end Go.Proofs.Ytleljfmhefobeaa.GKRr
