/- What WireCodes' walk wants: both encoders answer alike, both records are the same alike, Plain hands on what it was given. -/
import Derived.Test.YtleljfmhefobeaaGKVd
import Derived.WalkKit
import Derived.WalkSpells
import Derived.Lib.Hide
set_option linter.unusedVariables false
set_option linter.unusedSimpArgs false
namespace Go.Proofs.Ytleljfmhefobeaa.GKAux
open Go.RowKit Go.Proofs.YtleljfmhefobeaaW.PrintWords Go.Proofs.YtleljfmhefobeaaW.PrintLast Go.Proofs.YtleljfmhefobeaaW.PrintMore Go.Proofs.Ytleljfmhefobeaa.GK Go.Proofs.Ytleljfmhefobeaa.GKPa Go.Proofs.Ytleljfmhefobeaa.GKPe Go.Proofs.Ytleljfmhefobeaa.GKPw Go.Proofs.Ytleljfmhefobeaa.GKSrc Go.Proofs.Ytleljfmhefobeaa.GKDec Go.Proofs.Ytleljfmhefobeaa.GKRd Go.Proofs.Ytleljfmhefobeaa.GKRa Go.Proofs.Ytleljfmhefobeaa.GKRr Go.Proofs.Ytleljfmhefobeaa.GKTail Go.Proofs.Ytleljfmhefobeaa.GKB Go.Proofs.Ytleljfmhefobeaa.GKVd

theorem no1000 (m : M) (h : ¬ May m) (hu : m.us.length ≤ 300) (hn : m.ns.length ≤ 300) (ht : m.tx.length ≤ 20000) : wire_Encode.f 1000 m.a0 m.a1 m.a2 m.a3 m.a4 m.a5 m.a6 m.a7 m.a8 m.y m.lo m.hi m.us m.ns m.tx = some ([], 1) := Encode_no 1000 m h (by omega) (by omega) (by omega)
abbrev Cells15 (w : World) (g : Nat) (o0 o1 o2 o3 o4 o5 o6 o7 o8 o9 o10 o11 o12 o13 o14 : Value) : Prop := w.cell? ⟨g, 0, none⟩ = some o0 ∧ w.cell? ⟨g, 1, none⟩ = some o1 ∧ w.cell? ⟨g, 2, none⟩ = some o2 ∧ w.cell? ⟨g, 3, none⟩ = some o3 ∧ w.cell? ⟨g, 4, none⟩ = some o4 ∧ w.cell? ⟨g, 5, none⟩ = some o5 ∧ w.cell? ⟨g, 6, none⟩ = some o6 ∧ w.cell? ⟨g, 7, none⟩ = some o7 ∧ w.cell? ⟨g, 8, none⟩ = some o8 ∧ w.cell? ⟨g, 9, none⟩ = some o9 ∧ w.cell? ⟨g, 10, none⟩ = some o10 ∧ w.cell? ⟨g, 11, none⟩ = some o11 ∧ w.cell? ⟨g, 12, none⟩ = some o12 ∧ w.cell? ⟨g, 13, none⟩ = some o13 ∧ w.cell? ⟨g, 14, none⟩ = some o14
theorem cells15 {w : World} {g : Nat} {t : TypeId} {o0 o1 o2 o3 o4 o5 o6 o7 o8 o9 o10 o11 o12 o13 o14 : Value} (h : w.heap[g]? = some (.cells #[o0, o1, o2, o3, o4, o5, o6, o7, o8, o9, o10, o11, o12, o13, o14] t (0, 0))) : Cells15 w g o0 o1 o2 o3 o4 o5 o6 o7 o8 o9 o10 o11 o12 o13 o14 :=
  ⟨(blk_cell h 0).trans rfl, (blk_cell h 1).trans rfl, (blk_cell h 2).trans rfl, (blk_cell h 3).trans rfl, (blk_cell h 4).trans rfl, (blk_cell h 5).trans rfl, (blk_cell h 6).trans rfl, (blk_cell h 7).trans rfl, (blk_cell h 8).trans rfl, (blk_cell h 9).trans rfl, (blk_cell h 10).trans rfl, (blk_cell h 11).trans rfl, (blk_cell h 12).trans rfl, (blk_cell h 13).trans rfl, (blk_cell h 14).trans rfl⟩
theorem call_S {P : Program} {f : FuncId} {args : Array Value} {w0 w : World} {v : Value} {R : Ending → World → Prop} (h : Calls P f args w (fun e w' => e = .returned v ∧ Below w.heap.size w w')) (hB : Below w0.heap.size w0 w) (k : ∀ y, Below w0.heap.size w0 y → R (.returned v) y) : Calls P f args w R :=
  h.mono (fun e y hy => by obtain ⟨rfl, hb⟩ := hy; exact k y (hB.trans (hb.mono hB.size)))
theorem call_D {P : Program} {f : FuncId} {args : Array Value} {w0 w : World} {v : Value} {R : Ending → World → Prop} (h : Calls P f args w (fun e w' => e = .returned v ∧ Drawn0 w w')) (hB : Below w0.heap.size w0 w) (k : ∀ y, Below w0.heap.size w0 y → R (.returned v) y) : Calls P f args w R :=
  h.mono (fun e y hy => by obtain ⟨rfl, hb⟩ := hy; exact k y (hB.trans (hb.below.mono hB.size)))
theorem lift_S {P : Program} {f : FuncId} {args : Array Value} {w0 : World} {v : Value} (h : ∀ w, Below w0.heap.size w0 w → Calls P f args w (fun e w' => e = .returned v ∧ Below w.heap.size w w')) : ∀ w, Below w0.heap.size w0 w → Calls P f args w (fun e w' => e = .returned v ∧ Below w0.heap.size w0 w') :=
  fun w z => (h w z).mono (fun e y hy => ⟨hy.1, z.trans (hy.2.mono z.size)⟩)
theorem lift_D {P : Program} {f : FuncId} {args : Array Value} {w0 : World} {v : Value} (h : ∀ w, Below w0.heap.size w0 w → Calls P f args w (fun e w' => e = .returned v ∧ Drawn0 w w')) : ∀ w, Below w0.heap.size w0 w → Calls P f args w (fun e w' => e = .returned v ∧ Below w0.heap.size w0 w') :=
  fun w z => (h w z).mono (fun e y hy => ⟨hy.1, z.trans (hy.2.below.mono z.size)⟩)
theorem cells60 {w0 w : World} {g1 g2 g3 g4 : Nat} {t1 t2 t3 t4 : TypeId} {o1_0 o1_1 o1_2 o1_3 o1_4 o1_5 o1_6 o1_7 o1_8 o1_9 o1_10 o1_11 o1_12 o1_13 o1_14 o2_0 o2_1 o2_2 o2_3 o2_4 o2_5 o2_6 o2_7 o2_8 o2_9 o2_10 o2_11 o2_12 o2_13 o2_14 o3_0 o3_1 o3_2 o3_3 o3_4 o3_5 o3_6 o3_7 o3_8 o3_9 o3_10 o3_11 o3_12 o3_13 o3_14 o4_0 o4_1 o4_2 o4_3 o4_4 o4_5 o4_6 o4_7 o4_8 o4_9 o4_10 o4_11 o4_12 o4_13 o4_14 : Value} (h1 : w0.heap[g1]? = some (.cells #[o1_0, o1_1, o1_2, o1_3, o1_4, o1_5, o1_6, o1_7, o1_8, o1_9, o1_10, o1_11, o1_12, o1_13, o1_14] t1 (0, 0))) (h2 : w0.heap[g2]? = some (.cells #[o2_0, o2_1, o2_2, o2_3, o2_4, o2_5, o2_6, o2_7, o2_8, o2_9, o2_10, o2_11, o2_12, o2_13, o2_14] t2 (0, 0))) (h3 : w0.heap[g3]? = some (.cells #[o3_0, o3_1, o3_2, o3_3, o3_4, o3_5, o3_6, o3_7, o3_8, o3_9, o3_10, o3_11, o3_12, o3_13, o3_14] t3 (0, 0))) (h4 : w0.heap[g4]? = some (.cells #[o4_0, o4_1, o4_2, o4_3, o4_4, o4_5, o4_6, o4_7, o4_8, o4_9, o4_10, o4_11, o4_12, o4_13, o4_14] t4 (0, 0))) (hB : Below w0.heap.size w0 w) :
    Cells15 w g1 o1_0 o1_1 o1_2 o1_3 o1_4 o1_5 o1_6 o1_7 o1_8 o1_9 o1_10 o1_11 o1_12 o1_13 o1_14 ∧ Cells15 w g2 o2_0 o2_1 o2_2 o2_3 o2_4 o2_5 o2_6 o2_7 o2_8 o2_9 o2_10 o2_11 o2_12 o2_13 o2_14 ∧ Cells15 w g3 o3_0 o3_1 o3_2 o3_3 o3_4 o3_5 o3_6 o3_7 o3_8 o3_9 o3_10 o3_11 o3_12 o3_13 o3_14 ∧ Cells15 w g4 o4_0 o4_1 o4_2 o4_3 o4_4 o4_5 o4_6 o4_7 o4_8 o4_9 o4_10 o4_11 o4_12 o4_13 o4_14 :=
  ⟨cells15 (blk_below h1 hB), cells15 (blk_below h2 hB), cells15 (blk_below h3 hB), cells15 (blk_below h4 hB)⟩
theorem few_eq (m : M) : voklaw19_Few.f m.a0 m.a1 m.a2 m.a3 m.a4 m.a5 m.a6 m.a7 m.a8 m.y m.lo m.hi m.us m.ns m.tx = some (decide (m.us.length ≤ 300 ∧ m.ns.length ≤ 300 ∧ m.tx.length ≤ 20000)) := by
  unfold voklaw19_Few.f
  by_cases h1 : m.us.length ≤ 300
  · rw [if_pos (by omega)]
    by_cases h2 : m.ns.length ≤ 300
    · rw [if_pos (by omega)]
      congr 1
      simp [h1, h2]
      omega
    · rw [if_neg (by omega)]; simp [h2]
  · rw [if_neg (by omega)]; simp [h1]
theorem enc_both (m : M) (hu : m.us.length ≤ 300) (hn : m.ns.length ≤ 300) (ht : m.tx.length ≤ 20000) (hb : bytesL m.tx) :
    ∃ (x : List Int) (ec : Int), wire_Encode.f 1000 m.a0 m.a1 m.a2 m.a3 m.a4 m.a5 m.a6 m.a7 m.a8 m.y m.lo m.hi m.us m.ns m.tx = some (x, ec) ∧ vokref17_Msg_Encode.f 1200 m.a0 m.a1 m.a2 m.a3 m.a4 m.a5 m.a6 m.a7 m.a8 m.y m.lo m.hi m.us m.ns m.tx = some (x, ec) ∧ bytesL x := by
  have hv := vEncode_eq 1200 m hu hn (by omega) (by omega)
  by_cases h : May m
  · rw [(mayB_iff m).2 h, if_pos rfl] at hv
    exact ⟨_, _, Encode_yes 1000 m h (by omega) (by omega), hv, bytes_body m hb⟩
  · rw [mayB_no h, if_neg (by decide)] at hv
    exact ⟨_, _, no1000 m h hu hn ht, hv, fun x hx => by cases hx⟩
theorem same_both (r q : M) (hu : r.us.length ≤ 300) (hn : r.ns.length ≤ 300) (hb : bytesL r.tx) (hb2 : bytesL q.tx) :
    ∃ b : Bool, wire_Same.f 1000 r.a0 r.a1 r.a2 r.a3 r.a4 r.a5 r.a6 r.a7 r.a8 r.y r.lo r.hi r.us r.ns r.tx q.a0 q.a1 q.a2 q.a3 q.a4 q.a5 q.a6 q.a7 q.a8 q.y q.lo q.hi q.us q.ns q.tx = some b ∧ vokref17_Msg_Same.f 1000 r.a0 r.a1 r.a2 r.a3 r.a4 r.a5 r.a6 r.a7 r.a8 r.y r.lo r.hi r.us r.ns r.tx q.a0 q.a1 q.a2 q.a3 q.a4 q.a5 q.a6 q.a7 q.a8 q.y q.lo q.hi q.us q.ns q.tx = some b := by
  obtain ⟨b1, h1, i1⟩ := same_eq 1000 r q (by omega) (by omega) (by omega) (by omega) hb hb2
  obtain ⟨b2, h2, i2⟩ := vSame_eq 1000 r q (by omega) (by omega) (by omega) (by omega) hb hb2
  have : b1 = b2 := by rw [Bool.eq_iff_iff]; exact i1.trans i2.symm
  exact ⟨b1, h1, this ▸ h2⟩
theorem vsame_self (r : M) (hu : r.us.length ≤ 20000) (hn : r.ns.length ≤ 20000) (hb : bytesL r.tx) :
    vokref17_Msg_Same.f 30000 r.a0 r.a1 r.a2 r.a3 r.a4 r.a5 r.a6 r.a7 r.a8 r.y r.lo r.hi r.us r.ns r.tx r.a0 r.a1 r.a2 r.a3 r.a4 r.a5 r.a6 r.a7 r.a8 r.y r.lo r.hi r.us r.ns r.tx = some true := by
  obtain ⟨b2, h2, i2⟩ := vSame_eq 30000 r r (by omega) (by omega) (by omega) (by omega) hb hb
  rw [h2, i2.2 rfl]
theorem dec_parts (b : List Int) (hb : bytesL b) (hl : b.length ≤ 20000) : (dec b).1.us.length ≤ 20000 ∧ (dec b).1.ns.length ≤ 20000 ∧ bytesL (dec b).1.tx := by
  have no : m0.us.length ≤ 20000 ∧ m0.ns.length ≤ 20000 ∧ bytesL m0.tx := ⟨Nat.zero_le _, Nat.zero_le _, fun x hx => by cases hx⟩
  rw [dec_vdec b hb]
  by_cases h : b.length < 42
  · rw [vdec_short h]; exact no
  · rw [vdec_long (by omega)]
    obtain ⟨l1, l2, l3, l4⟩ := vtail_ok b 42 hb
    by_cases h1 : (vtail b 42).2.2.2 ≠ 0
    · rw [if_pos h1]; exact no
    · rw [if_neg h1]
      by_cases h2 : ¬ May (hd b (vtail b 42).1 (vtail b 42).2.1 (vtail b 42).2.2.1) ∨ body (hd b (vtail b 42).1 (vtail b 42).2.1 (vtail b 42).2.2.1) ≠ b
      · rw [if_pos h2]; exact no
      · rw [if_neg h2]; exact ⟨by show (vtail b 42).1.length ≤ 20000; omega, by show (vtail b 42).2.1.length ≤ 20000; omega, l4⟩
theorem may1000 (m : M) (hu : m.us.length ≤ 300) (hn : m.ns.length ≤ 300) : wire_May.f 1000 m.a0 m.a1 m.a2 m.a3 m.a4 m.a5 m.a6 m.a7 m.a8 m.y m.lo m.hi m.us m.ns m.tx = some (mayB m) := may_eq 998 m (by omega) (by omega) (by omega)
theorem vmay1000 (m : M) (hu : m.us.length ≤ 300) (hn : m.ns.length ≤ 300) : vokref17_Msg_May.f 1000 m.a0 m.a1 m.a2 m.a3 m.a4 m.a5 m.a6 m.a7 m.a8 m.y m.lo m.hi m.us m.ns m.tx = some (mayB m) := vmay_eq' 1000 m (by omega) (by omega) (by omega) (by omega)
set_option maxRecDepth 100000 in
set_option maxHeartbeats 4000000 in
theorem plain_any (n0 n1 n2 n3 n4 n5 n6 n7 n8 : Int) (y : Bool) (lo hi : Int) (A6 A7 A8 : Option Addr) (l6 c6 l7 c7 l8 c8 : Nat) (w : World) :
    Calls Try.prog 25 #[.agg #[.int .i64 n0, .int .i64 n1, .int .i64 n2, .int .i64 n3, .int .i64 n4, .int .i64 n5, .int .i64 n6, .int .i64 n7, .int .i64 n8, .bool y, .int .i64 lo, .int .i64 hi, .slice A6 l6 c6, .slice A7 l7 c7, .slice A8 l8 c8]] w
      (fun e w' => e = .returned (.agg #[.int .i64 n0, .int .i64 n1, .int .i64 n2, .int .i64 n3, .int .i64 n4, .int .i64 n5, .int .i64 n6, .int .i64 n7, .int .i64 n8, .bool y, .int .i64 lo, .int .i64 hi, .slice A6 l6 c6, .slice A7 l7 c7, .slice A8 l8 c8]) ∧ Below w.heap.size w w') := by
  have hu1 := Try.underlying27
  have hu2 := Try.underlying43
  have hbl := ((Below.refl w.heap.size w).alloc (Nat.le_refl _) (.cells #[.int .i64 n0, .int .i64 n1, .int .i64 n2, .int .i64 n3, .int .i64 n4, .int .i64 n5, .int .i64 n6, .int .i64 n7, .int .i64 n8, .bool y, .int .i64 lo, .int .i64 hi, .slice A6 l6 c6, .slice A7 l7 c7, .slice A8 l8 c8] 27)).alloc (by simp) (.cells #[.int .i64 n0, .int .i64 n1, .int .i64 n2, .int .i64 n3, .int .i64 n4, .int .i64 n5, .int .i64 n6, .int .i64 n7, .int .i64 n8, .bool y, .int .i64 lo, .int .i64 hi, .slice A6 l6 c6, .slice A7 l7 c7, .slice A8 l8 c8] 43)
  have HB := Lib.hid hbl
  clear hbl
  go_enter Try.func25, Try.ntmps25
  go_wp2
  (try simp only [Exit.inBlock, Exit.then])
  have hnew := blk_new (w.alloc (.cells #[.int .i64 n0, .int .i64 n1, .int .i64 n2, .int .i64 n3, .int .i64 n4, .int .i64 n5, .int .i64 n6, .int .i64 n7, .int .i64 n8, .bool y, .int .i64 lo, .int .i64 hi, .slice A6 l6 c6, .slice A7 l7 c7, .slice A8 l8 c8] 27)) (.cells #[.int .i64 n0, .int .i64 n1, .int .i64 n2, .int .i64 n3, .int .i64 n4, .int .i64 n5, .int .i64 n6, .int .i64 n7, .int .i64 n8, .bool y, .int .i64 lo, .int .i64 hi, .slice A6 l6 c6, .slice A7 l7 c7, .slice A8 l8 c8] 43)
  rw [show (w.alloc (.cells #[.int .i64 n0, .int .i64 n1, .int .i64 n2, .int .i64 n3, .int .i64 n4, .int .i64 n5, .int .i64 n6, .int .i64 n7, .int .i64 n8, .bool y, .int .i64 lo, .int .i64 hi, .slice A6 l6 c6, .slice A7 l7 c7, .slice A8 l8 c8] 27)).heap.size = w.heap.size + 1 by simp] at hnew
  refine bodyPost_ret (results_cell_row rfl _ _ (w.heap.size + 1) 43 _ (0, 0) _ rfl hnew hu2 rfl (by kernel_rfl)) rfl ?_
  exact ⟨rfl, HB.out⟩
end Go.Proofs.Ytleljfmhefobeaa.GKAux
