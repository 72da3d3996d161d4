/- What RecCodes' walk wants: both encoders answer alike, both records are the same alike, Plain hands on what it was given. -/
import Derived.Test.YtleljfmhefobeaaGJVd
import Derived.WalkKit
import Derived.WalkSpells
import Derived.Lib.Hide
set_option linter.unusedVariables false
set_option linter.unusedSimpArgs false
namespace Go.Proofs.Ytleljfmhefobeaa.GJAux
open Go.RowKit Go.Proofs.YtleljfmhefobeaaW.PrintWords Go.Proofs.YtleljfmhefobeaaW.PrintLast Go.Proofs.YtleljfmhefobeaaW.PrintMore Go.Proofs.Ytleljfmhefobeaa.GJ Go.Proofs.Ytleljfmhefobeaa.GJPa Go.Proofs.Ytleljfmhefobeaa.GJPe Go.Proofs.Ytleljfmhefobeaa.GJPr Go.Proofs.Ytleljfmhefobeaa.GJSrc Go.Proofs.Ytleljfmhefobeaa.GJDec Go.Proofs.Ytleljfmhefobeaa.GJRd Go.Proofs.Ytleljfmhefobeaa.GJRa Go.Proofs.Ytleljfmhefobeaa.GJRr Go.Proofs.Ytleljfmhefobeaa.GJTail Go.Proofs.Ytleljfmhefobeaa.GJB Go.Proofs.Ytleljfmhefobeaa.GJVd

theorem no1000 (m : M) (h : ¬ May m) (hu : m.us.length ≤ 300) (hn : m.ns.length ≤ 300) (ht : m.tx.length ≤ 20000) : rec_Encode.f 1000 m.a0 m.a1 m.a2 m.a3 m.a4 m.y m.us m.ns m.tx = some ([], 1) := Encode_no 1000 m h (by omega) (by omega) (by omega) (by omega)
theorem enc_both (m : M) (hu : m.us.length ≤ 300) (hn : m.ns.length ≤ 300) (ht : m.tx.length ≤ 20000) (hb : bytesL m.tx) :
    ∃ (x : List Int) (ec : Int), rec_Encode.f 1000 m.a0 m.a1 m.a2 m.a3 m.a4 m.y m.us m.ns m.tx = some (x, ec) ∧ vokref10_Rec_Encode.f 1000 m.a0 m.a1 m.a2 m.a3 m.a4 m.y m.us m.ns m.tx = some (x, ec) ∧ bytesL x := by
  have hv := vEncode_eq 1000 m hu hn (by omega) (by omega) (by omega)
  by_cases h : May m
  · rw [(mayB_iff m).2 h, if_pos rfl] at hv
    exact ⟨_, _, Encode_yes 1000 m h (by omega) (by omega), hv, bytes_body m hb⟩
  · rw [mayB_no h, if_neg (by decide)] at hv
    exact ⟨_, _, no1000 m h hu hn ht, hv, fun x hx => by cases hx⟩
theorem same_both (r q : M) (hu : r.us.length ≤ 300) (hn : r.ns.length ≤ 300) (hb : bytesL r.tx) (hb2 : bytesL q.tx) :
    ∃ b : Bool, rec_Same.f 1000 r.a0 r.a1 r.a2 r.a3 r.a4 r.y r.us r.ns r.tx q.a0 q.a1 q.a2 q.a3 q.a4 q.y q.us q.ns q.tx = some b ∧ vokref10_Rec_Same.f 1000 r.a0 r.a1 r.a2 r.a3 r.a4 r.y r.us r.ns r.tx q.a0 q.a1 q.a2 q.a3 q.a4 q.y q.us q.ns q.tx = some b := by
  obtain ⟨b1, h1, i1⟩ := same_eq 1000 r q (by omega) (by omega) (by omega) (by omega) hb hb2
  obtain ⟨b2, h2, i2⟩ := vSame_eq 1000 r q (by omega) (by omega) (by omega) (by omega) hb hb2
  have : b1 = b2 := by rw [Bool.eq_iff_iff]; exact i1.trans i2.symm
  exact ⟨b1, h1, this ▸ h2⟩
theorem vsame_self (r : M) (hu : r.us.length ≤ 20000) (hn : r.ns.length ≤ 20000) (hb : bytesL r.tx) :
    vokref10_Rec_Same.f 30000 r.a0 r.a1 r.a2 r.a3 r.a4 r.y r.us r.ns r.tx r.a0 r.a1 r.a2 r.a3 r.a4 r.y r.us r.ns r.tx = some true := by
  obtain ⟨b2, h2, i2⟩ := vSame_eq 30000 r r (by omega) (by omega) (by omega) (by omega) hb hb
  rw [h2, i2.2 rfl]
theorem dec_parts (b : List Int) (hb : bytesL b) (hl : b.length ≤ 20000) : (dec b).1.us.length ≤ 20000 ∧ (dec b).1.ns.length ≤ 20000 ∧ bytesL (dec b).1.tx := by
  have no : m0.us.length ≤ 20000 ∧ m0.ns.length ≤ 20000 ∧ bytesL m0.tx := ⟨Nat.zero_le _, Nat.zero_le _, fun x hx => by cases hx⟩
  rw [dec_vdec b hb]
  by_cases h : b.length < 21
  · rw [vdec_short h]; exact no
  · rw [vdec_long (by omega)]
    obtain ⟨l1, l2, l3, l4⟩ := vtail_ok b 21 hb
    by_cases h1 : (vtail b 21).2.2.2 ≠ 0
    · rw [if_pos h1]; exact no
    · rw [if_neg h1]
      by_cases h2 : ¬ May (hd b (vtail b 21).1 (vtail b 21).2.1 (vtail b 21).2.2.1) ∨ body (hd b (vtail b 21).1 (vtail b 21).2.1 (vtail b 21).2.2.1) ≠ b
      · rw [if_pos h2]; exact no
      · rw [if_neg h2]; exact ⟨by show (vtail b 21).1.length ≤ 20000; omega, by show (vtail b 21).2.1.length ≤ 20000; omega, l4⟩
set_option maxRecDepth 100000 in
set_option maxHeartbeats 400000 in
theorem plain_any (n0 n1 n2 n3 n4 : Int) (y : Bool) (A6 A7 A8 : Option Addr) (l6 c6 l7 c7 l8 c8 : Nat) (w : World) :
    Calls Try.prog 31 #[.agg #[.int .i64 n0, .int .i64 n1, .int .i64 n2, .int .i64 n3, .int .i64 n4, .bool y, .slice A6 l6 c6, .slice A7 l7 c7, .slice A8 l8 c8]] w
      (fun e w' => e = .returned (.agg #[.int .i64 n0, .int .i64 n1, .int .i64 n2, .int .i64 n3, .int .i64 n4, .bool y, .slice A6 l6 c6, .slice A7 l7 c7, .slice A8 l8 c8]) ∧ Below w.heap.size w w') := by
  have hu1 := Try.underlying34
  have hu2 := Try.underlying53
  have hbl := ((Below.refl w.heap.size w).alloc (Nat.le_refl _) (.cells #[.int .i64 n0, .int .i64 n1, .int .i64 n2, .int .i64 n3, .int .i64 n4, .bool y, .slice A6 l6 c6, .slice A7 l7 c7, .slice A8 l8 c8] 34)).alloc (by simp) (.cells #[.int .i64 n0, .int .i64 n1, .int .i64 n2, .int .i64 n3, .int .i64 n4, .bool y, .slice A6 l6 c6, .slice A7 l7 c7, .slice A8 l8 c8] 53)
  have HB := Lib.hid hbl
  clear hbl
  go_enter Try.func31, Try.ntmps31
  go_wp2
  (try simp only [Exit.inBlock, Exit.then])
  have hnew := blk_new (w.alloc (.cells #[.int .i64 n0, .int .i64 n1, .int .i64 n2, .int .i64 n3, .int .i64 n4, .bool y, .slice A6 l6 c6, .slice A7 l7 c7, .slice A8 l8 c8] 34)) (.cells #[.int .i64 n0, .int .i64 n1, .int .i64 n2, .int .i64 n3, .int .i64 n4, .bool y, .slice A6 l6 c6, .slice A7 l7 c7, .slice A8 l8 c8] 53)
  rw [show (w.alloc (.cells #[.int .i64 n0, .int .i64 n1, .int .i64 n2, .int .i64 n3, .int .i64 n4, .bool y, .slice A6 l6 c6, .slice A7 l7 c7, .slice A8 l8 c8] 34)).heap.size = w.heap.size + 1 by simp] at hnew
  refine bodyPost_ret (results_cell_row rfl _ _ (w.heap.size + 1) 53 _ (0, 0) _ rfl hnew hu2 rfl (by kernel_rfl)) rfl ?_
  exact ⟨rfl, HB.out⟩
end Go.Proofs.Ytleljfmhefobeaa.GJAux
