/- WireUnlike: the walk. -/
import Derived.Test.YtleljfmhefobeaaWalkWireUnlikeA
import Derived.WalkKit
import Derived.WalkSpells
import Derived.Lib.Hide
set_option linter.unusedVariables false
set_option linter.unusedSimpArgs false
namespace Go.Proofs.Ytleljfmhefobeaa.WalkWireUnlike
open Go.RowKit Go.Proofs.YtleljfmhefobeaaW.PrintWords Go.Proofs.YtleljfmhefobeaaW.PrintLast Go.Proofs.YtleljfmhefobeaaW.PrintMore Go.Proofs.Ytleljfmhefobeaa.GW Go.Proofs.Ytleljfmhefobeaa.GWPa Go.Proofs.Ytleljfmhefobeaa.GWPe Go.Proofs.Ytleljfmhefobeaa.GWPw Go.Proofs.Ytleljfmhefobeaa.GWB Go.Proofs.Ytleljfmhefobeaa.GWSrc Go.Proofs.Ytleljfmhefobeaa.GWAux

set_option maxRecDepth 100000 in
set_option maxHeartbeats 4000000 in
theorem walk_2 (a0_0 : Int) (a0_1 : Int) (a0_2 : Int) (a0_3 : Int) (a0_4 : Int) (a0_5 : Int) (a0_6 : Int) (a0_7 : Int) (a0_8 : Int) (a0_9 : Bool) (a0_10 : Int) (a0_11 : Int) (A0_12 : Option Addr) (c0_12 : Nat) (l0_12 : List Int) (A0_13 : Option Addr) (c0_13 : Nat) (l0_13 : List Int) (A0_14 : Option Addr) (c0_14 : Nat) (l0_14 : List Int) (a1 : Int) (w : World) (hr0_12 : Kd.C (Kd.int .i64) w A0_12 l0_12.length l0_12) (hc0_12 : l0_12.length ≤ c0_12) (hr0_13 : Kd.C (Kd.int .i64) w A0_13 l0_13.length l0_13) (hc0_13 : l0_13.length ≤ c0_13) (hr0_14 : Kd.C (Kd.int .u8) w A0_14 l0_14.length l0_14) (hc0_14 : l0_14.length ≤ c0_14) (hbt : bytesL l0_14) (hfew : l0_12.length ≤ 300 ∧ l0_13.length ≤ 300 ∧ l0_14.length ≤ 20000) (hm : May ⟨a0_0, a0_1, a0_2, a0_3, a0_4, a0_5, a0_6, a0_7, a0_8, a0_9, a0_10, a0_11, l0_12, l0_13, l0_14⟩) (hs : a1 = 2) :
    Calls Try.prog 6 #[.agg #[.int .i64 a0_0, .int .i64 a0_1, .int .i64 a0_2, .int .i64 a0_3, .int .i64 a0_4, .int .i64 a0_5, .int .i64 a0_6, .int .i64 a0_7, .int .i64 a0_8, .bool a0_9, .int .i64 a0_10, .int .i64 a0_11, .slice A0_12 l0_12.length c0_12, .slice A0_13 l0_13.length c0_13, .slice A0_14 l0_14.length c0_14], .int .i64 a1] w fun e w' => e = .returned (.bool true) ∧ Below w.heap.size w w' := by
  have hurec := Try.underlying27
  have hu23 := Try.underlying23
  have HBt := Lib.hid hbt
  have hwlt : w.heap.size < w.heap.size + 1 := by omega
  have hbl := (Below.refl w.heap.size w).alloc (Nat.le_refl _) (.cells #[.int .i64 a0_0, .int .i64 a0_1, .int .i64 a0_2, .int .i64 a0_3, .int .i64 a0_4, .int .i64 a0_5, .int .i64 a0_6, .int .i64 a0_7, .int .i64 a0_8, .bool a0_9, .int .i64 a0_10, .int .i64 a0_11, .slice A0_12 l0_12.length c0_12, .slice A0_13 l0_13.length c0_13, .slice A0_14 l0_14.length c0_14] 27)
  have HB := Lib.hid hbl
  have HA := Lib.hid (blk_new w (.cells #[.int .i64 a0_0, .int .i64 a0_1, .int .i64 a0_2, .int .i64 a0_3, .int .i64 a0_4, .int .i64 a0_5, .int .i64 a0_6, .int .i64 a0_7, .int .i64 a0_8, .bool a0_9, .int .i64 a0_10, .int .i64 a0_11, .slice A0_12 l0_12.length c0_12, .slice A0_13 l0_13.length c0_13, .slice A0_14 l0_14.length c0_14] 27))
  have HC0_12 := Lib.hid (Kd.C_below hr0_12 hbl)
  have HR0_12 := Lib.hid hr0_12
  have HC0_13 := Lib.hid (Kd.C_below hr0_13 hbl)
  have HR0_13 := Lib.hid hr0_13
  have HC0_14 := Lib.hid (Kd.C_below hr0_14 hbl)
  have HR0_14 := Lib.hid hr0_14
  have hsw : (w.alloc (.cells #[.int .i64 a0_0, .int .i64 a0_1, .int .i64 a0_2, .int .i64 a0_3, .int .i64 a0_4, .int .i64 a0_5, .int .i64 a0_6, .int .i64 a0_7, .int .i64 a0_8, .bool a0_9, .int .i64 a0_10, .int .i64 a0_11, .slice A0_12 l0_12.length c0_12, .slice A0_13 l0_13.length c0_13, .slice A0_14 l0_14.length c0_14] 27)).heap.size = w.heap.size + 1 := by simp
  clear hbl hbt hr0_12 hr0_13 hr0_14
  have hfe := Lib.hid (few_eq ⟨a0_0, a0_1, a0_2, a0_3, a0_4, a0_5, a0_6, a0_7, a0_8, a0_9, a0_10, a0_11, l0_12, l0_13, l0_14⟩)
  go_enter Try.func6, Try.ntmps6
  go_wp2_with fail
  generalize hW0 : w.alloc (.cells #[.int .i64 a0_0, .int .i64 a0_1, .int .i64 a0_2, .int .i64 a0_3, .int .i64 a0_4, .int .i64 a0_5, .int .i64 a0_6, .int .i64 a0_7, .int .i64 a0_8, .bool a0_9, .int .i64 a0_10, .int .i64 a0_11, .slice A0_12 l0_12.length c0_12, .slice A0_13 l0_13.length c0_13, .slice A0_14 l0_14.length c0_14] 27) = W0 at *
  have hws : w.heap.size < W0.heap.size := by omega
  clear hW0 hsw hwlt
  have HC := Lib.hid (voklaw19_first.calls 1000 true W0 (first_eq 1000 (by omega) (by omega)))
  go_wp2_with fail
  refine HC.out.mono ?_
  rintro e w1 ⟨rfl, hbl⟩
  clear HC
  have HB' := Lib.hid (HB.out.trans (hbl.mono HB.out.size))
  clear HB
  have HB := HB'
  clear HB'
  have HA' := Lib.hid (blk_below HA.out hbl)
  clear HA
  have HA := HA'
  clear HA'
  have HC0_12' := Lib.hid (Kd.C_below HC0_12.out hbl)
  clear HC0_12
  have HC0_12 := HC0_12'
  clear HC0_12'
  have HC0_13' := Lib.hid (Kd.C_below HC0_13.out hbl)
  clear HC0_13
  have HC0_13 := HC0_13'
  clear HC0_13'
  have HC0_14' := Lib.hid (Kd.C_below HC0_14.out hbl)
  clear HC0_14
  have HC0_14 := HC0_14'
  clear HC0_14'
  clear hbl
  have hq_ := True.intro
  have xc0 := blk_cell HA.out 0
  have xc1 := blk_cell HA.out 1
  have xc2 := blk_cell HA.out 2
  have xc3 := blk_cell HA.out 3
  have xc4 := blk_cell HA.out 4
  have xc5 := blk_cell HA.out 5
  have xc6 := blk_cell HA.out 6
  have xc7 := blk_cell HA.out 7
  have xc8 := blk_cell HA.out 8
  have xc9 := blk_cell HA.out 9
  have xc10 := blk_cell HA.out 10
  have xc11 := blk_cell HA.out 11
  have xc12 := blk_cell HA.out 12
  have xc13 := blk_cell HA.out 13
  have xc14 := blk_cell HA.out 14
  simp only [List.getElem?_toArray, List.getElem?_cons_succ, List.getElem?_cons_zero] at xc0 xc1 xc2 xc3 xc4 xc5 xc6 xc7 xc8 xc9 xc10 xc11 xc12 xc13 xc14
  have HC := Lib.hid (voklaw19_Few.calls a0_0 a0_1 a0_2 a0_3 a0_4 a0_5 a0_6 a0_7 a0_8 a0_9 a0_10 a0_11 A0_12 c0_12 l0_12 A0_13 c0_13 l0_13 A0_14 c0_14 l0_14 _ w1 HC0_12.out hc0_12 HC0_13.out hc0_13 HC0_14.out hc0_14 hfe.out)
  rw [decide_eq_true hfew] at HC
  go_wp2_with fail
  refine HC.out.mono ?_
  rintro e w2 ⟨rfl, hbl⟩
  clear HC
  clear xc0 xc1 xc2 xc3 xc4 xc5 xc6 xc7 xc8 xc9 xc10 xc11 xc12 xc13 xc14
  have HB' := Lib.hid (HB.out.trans (hbl.mono HB.out.size))
  clear HB
  have HB := HB'
  clear HB'
  have HA' := Lib.hid (blk_below HA.out hbl)
  clear HA
  have HA := HA'
  clear HA'
  have HC0_12' := Lib.hid (Kd.C_below HC0_12.out hbl)
  clear HC0_12
  have HC0_12 := HC0_12'
  clear HC0_12'
  have HC0_13' := Lib.hid (Kd.C_below HC0_13.out hbl)
  clear HC0_13
  have HC0_13 := HC0_13'
  clear HC0_13'
  have HC0_14' := Lib.hid (Kd.C_below HC0_14.out hbl)
  clear HC0_14
  have HC0_14 := HC0_14'
  clear HC0_14'
  clear hbl
  obtain ⟨hfu, hfn, hft⟩ := hfew
  have xc0 := blk_cell HA.out 0
  have xc1 := blk_cell HA.out 1
  have xc2 := blk_cell HA.out 2
  have xc3 := blk_cell HA.out 3
  have xc4 := blk_cell HA.out 4
  have xc5 := blk_cell HA.out 5
  have xc6 := blk_cell HA.out 6
  have xc7 := blk_cell HA.out 7
  have xc8 := blk_cell HA.out 8
  have xc9 := blk_cell HA.out 9
  have xc10 := blk_cell HA.out 10
  have xc11 := blk_cell HA.out 11
  have xc12 := blk_cell HA.out 12
  have xc13 := blk_cell HA.out 13
  have xc14 := blk_cell HA.out 14
  simp only [List.getElem?_toArray, List.getElem?_cons_succ, List.getElem?_cons_zero] at xc0 xc1 xc2 xc3 xc4 xc5 xc6 xc7 xc8 xc9 xc10 xc11 xc12 xc13 xc14
  have HC := Lib.hid (wire_May.calls 1000 a0_0 a0_1 a0_2 a0_3 a0_4 a0_5 a0_6 a0_7 a0_8 a0_9 a0_10 a0_11 A0_12 c0_12 l0_12 A0_13 c0_13 l0_13 A0_14 c0_14 l0_14 _ w2 HC0_12.out hc0_12 HC0_13.out hc0_13 HC0_14.out hc0_14 (may_eq1000 ⟨a0_0, a0_1, a0_2, a0_3, a0_4, a0_5, a0_6, a0_7, a0_8, a0_9, a0_10, a0_11, l0_12, l0_13, l0_14⟩ (by show l0_12.length ≤ 300; omega) (by show l0_13.length ≤ 300; omega) (by show l0_14.length ≤ 20000; omega)))
  rw [(mayB_iff _).2 hm] at HC
  go_wp2_with fail
  refine HC.out.mono ?_
  rintro e w3 ⟨rfl, hbl⟩
  clear HC
  clear xc0 xc1 xc2 xc3 xc4 xc5 xc6 xc7 xc8 xc9 xc10 xc11 xc12 xc13 xc14
  have HB' := Lib.hid (HB.out.trans (hbl.mono HB.out.size))
  clear HB
  have HB := HB'
  clear HB'
  have HA' := Lib.hid (blk_below HA.out hbl)
  clear HA
  have HA := HA'
  clear HA'
  have HC0_12' := Lib.hid (Kd.C_below HC0_12.out hbl)
  clear HC0_12
  have HC0_12 := HC0_12'
  clear HC0_12'
  have HC0_13' := Lib.hid (Kd.C_below HC0_13.out hbl)
  clear HC0_13
  have HC0_13 := HC0_13'
  clear HC0_13'
  have HC0_14' := Lib.hid (Kd.C_below HC0_14.out hbl)
  clear HC0_14
  have HC0_14 := HC0_14'
  clear HC0_14'
  clear hbl
  have hk2 := hm.dst
  have hk3 := hm.tx
  have hk7 := hm.code
  have hk8 := hm.owner
  have hkh := hm.hi
  unfold within at hk2 hk3 hk7 hk8 hkh
  simp only at hk2 hk3 hk7 hk8 hkh
  have hne : (⟨a0_0, a0_1, a0_2, a0_3, a0_4, a0_5, a0_6, a0_7, a0_8, a0_9, a0_10, a0_11, l0_12, l0_13, l0_14⟩ : M) ≠ ⟨a0_0, a0_1, a0_2, a0_3, a0_4, a0_5, a0_6, a0_7, a0_8, a0_9, a0_10, (a0_11 + 1) % 140737488355328, l0_12, l0_13, l0_14⟩ := by
    intro h
    simp only [M.mk.injEq] at h
    obtain ⟨_, _, h2, h3, _, _, _, h7, h8, h9, _, h11, _, _, h⟩ := h
    omega
  have Hne := Lib.hid hne
  clear hne
  have hk2a := hk2.1
  have hk2b := hk2.2
  have hk3a := hk3.1
  have hk3b := hk3.2
  have hk7a := hk7.1
  have hk7b := hk7.2
  have hk8a := hk8.1
  have hk8b := hk8.2
  have hkha := hkh.1
  have hkhb := hkh.2
  clear hk2 hk3 hk7 hk8 hkh
  have hsh := short hm
  simp only at hsh
  obtain ⟨hsu, hsn, hst⟩ := hsh
  have Hm := Lib.hid hm
  clear hm
  subst hs
  have xc0 := blk_cell HA.out 0
  have xc1 := blk_cell HA.out 1
  have xc2 := blk_cell HA.out 2
  have xc3 := blk_cell HA.out 3
  have xc4 := blk_cell HA.out 4
  have xc5 := blk_cell HA.out 5
  have xc6 := blk_cell HA.out 6
  have xc7 := blk_cell HA.out 7
  have xc8 := blk_cell HA.out 8
  have xc9 := blk_cell HA.out 9
  have xc10 := blk_cell HA.out 10
  have xc11 := blk_cell HA.out 11
  have xc12 := blk_cell HA.out 12
  have xc13 := blk_cell HA.out 13
  have xc14 := blk_cell HA.out 14
  simp only [List.getElem?_toArray, List.getElem?_cons_succ, List.getElem?_cons_zero] at xc0 xc1 xc2 xc3 xc4 xc5 xc6 xc7 xc8 xc9 xc10 xc11 xc12 xc13 xc14
  have hlta := (Array.getElem?_eq_some_iff.1 HA.out).1
  have hbl := (Below.refl w3.heap.size w3).alloc (Nat.le_refl _) (.cells #[.int .i64 a0_0, .int .i64 a0_1, .int .i64 a0_2, .int .i64 a0_3, .int .i64 a0_4, .int .i64 a0_5, .int .i64 a0_6, .int .i64 a0_7, .int .i64 a0_8, .bool a0_9, .int .i64 a0_10, .int .i64 ((a0_11 + 1) % 140737488355328), .slice A0_12 l0_12.length c0_12, .slice A0_13 l0_13.length c0_13, .slice A0_14 l0_14.length c0_14] 27)
  have hnew := blk_new w3 (.cells #[.int .i64 a0_0, .int .i64 a0_1, .int .i64 a0_2, .int .i64 a0_3, .int .i64 a0_4, .int .i64 a0_5, .int .i64 a0_6, .int .i64 a0_7, .int .i64 a0_8, .bool a0_9, .int .i64 a0_10, .int .i64 ((a0_11 + 1) % 140737488355328), .slice A0_12 l0_12.length c0_12, .slice A0_13 l0_13.length c0_13, .slice A0_14 l0_14.length c0_14] 27)
  have HB' := Lib.hid (HB.out.trans (hbl.mono HB.out.size))
  clear HB
  have HB := HB'
  clear HB'
  have HA' := Lib.hid (blk_below HA.out hbl)
  clear HA
  have HA := HA'
  clear HA'
  have HC0_12' := Lib.hid (Kd.C_below HC0_12.out hbl)
  clear HC0_12
  have HC0_12 := HC0_12'
  clear HC0_12'
  have HC0_13' := Lib.hid (Kd.C_below HC0_13.out hbl)
  clear HC0_13
  have HC0_13 := HC0_13'
  clear HC0_13'
  have HC0_14' := Lib.hid (Kd.C_below HC0_14.out hbl)
  clear HC0_14
  have HC0_14 := HC0_14'
  clear HC0_14'
  have HP := Lib.hid hnew
  clear hnew hbl
  go_wp2_with fail
  generalize hal : w3.alloc (.cells #[.int .i64 a0_0, .int .i64 a0_1, .int .i64 a0_2, .int .i64 a0_3, .int .i64 a0_4, .int .i64 a0_5, .int .i64 a0_6, .int .i64 a0_7, .int .i64 a0_8, .bool a0_9, .int .i64 a0_10, .int .i64 ((a0_11 + 1) % 140737488355328), .slice A0_12 l0_12.length c0_12, .slice A0_13 l0_13.length c0_13, .slice A0_14 l0_14.length c0_14] 27) = w4 at *
  clear hal
  clear xc0 xc1 xc2 xc3 xc4 xc5 xc6 xc7 xc8 xc9 xc10 xc11 xc12 xc13 xc14
  generalize hpn : w3.heap.size = pn at *
  clear hpn hlta
  have xc0 := blk_cell HA.out 0
  have xc1 := blk_cell HA.out 1
  have xc2 := blk_cell HA.out 2
  have xc3 := blk_cell HA.out 3
  have xc4 := blk_cell HA.out 4
  have xc5 := blk_cell HA.out 5
  have xc6 := blk_cell HA.out 6
  have xc7 := blk_cell HA.out 7
  have xc8 := blk_cell HA.out 8
  have xc9 := blk_cell HA.out 9
  have xc10 := blk_cell HA.out 10
  have xc11 := blk_cell HA.out 11
  have xc12 := blk_cell HA.out 12
  have xc13 := blk_cell HA.out 13
  have xc14 := blk_cell HA.out 14
  simp only [List.getElem?_toArray, List.getElem?_cons_succ, List.getElem?_cons_zero] at xc0 xc1 xc2 xc3 xc4 xc5 xc6 xc7 xc8 xc9 xc10 xc11 xc12 xc13 xc14
  have HC := Lib.hid (wire_Encode.calls 1000 a0_0 a0_1 a0_2 a0_3 a0_4 a0_5 a0_6 a0_7 a0_8 a0_9 a0_10 a0_11 A0_12 c0_12 l0_12 A0_13 c0_13 l0_13 A0_14 c0_14 l0_14 _ _ w4 HC0_12.out hc0_12 HC0_13.out hc0_13 HC0_14.out hc0_14 (Encode_yes 1000 ⟨a0_0, a0_1, a0_2, a0_3, a0_4, a0_5, a0_6, a0_7, a0_8, a0_9, a0_10, a0_11, l0_12, l0_13, l0_14⟩ Hm.out (by omega) (by omega)))
  refine HC.out.mono ?_
  rintro e w5 ⟨vx, rfl, hX, hbl⟩
  clear HC
  clear xc0 xc1 xc2 xc3 xc4 xc5 xc6 xc7 xc8 xc9 xc10 xc11 xc12 xc13 xc14
  have HB' := Lib.hid (HB.out.trans (hbl.mono HB.out.size))
  clear HB
  have HB := HB'
  clear HB'
  have HA' := Lib.hid (blk_below HA.out hbl)
  clear HA
  have HA := HA'
  clear HA'
  have HC0_12' := Lib.hid (Kd.C_below HC0_12.out hbl)
  clear HC0_12
  have HC0_12 := HC0_12'
  clear HC0_12'
  have HC0_13' := Lib.hid (Kd.C_below HC0_13.out hbl)
  clear HC0_13
  have HC0_13 := HC0_13'
  clear HC0_13'
  have HC0_14' := Lib.hid (Kd.C_below HC0_14.out hbl)
  clear HC0_14
  have HC0_14 := HC0_14'
  clear HC0_14'
  have HP' := Lib.hid (blk_below HP.out hbl)
  clear HP
  have HP := HP'
  clear HP'
  obtain ⟨Ax, cx, rfl⟩ := Kd.R_slice hX
  have HX := Lib.hid hX
  clear hX hbl
  by_cases hn : May ⟨a0_0, a0_1, a0_2, a0_3, a0_4, a0_5, a0_6, a0_7, a0_8, a0_9, a0_10, (a0_11 + 1) % 140737488355328, l0_12, l0_13, l0_14⟩
  · as_aux_lemma =>
    have Hn := Lib.hid hn
    clear hn
    have xc0 := blk_cell HP.out 0
    have xc1 := blk_cell HP.out 1
    have xc2 := blk_cell HP.out 2
    have xc3 := blk_cell HP.out 3
    have xc4 := blk_cell HP.out 4
    have xc5 := blk_cell HP.out 5
    have xc6 := blk_cell HP.out 6
    have xc7 := blk_cell HP.out 7
    have xc8 := blk_cell HP.out 8
    have xc9 := blk_cell HP.out 9
    have xc10 := blk_cell HP.out 10
    have xc11 := blk_cell HP.out 11
    have xc12 := blk_cell HP.out 12
    have xc13 := blk_cell HP.out 13
    have xc14 := blk_cell HP.out 14
    simp only [List.getElem?_toArray, List.getElem?_cons_succ, List.getElem?_cons_zero] at xc0 xc1 xc2 xc3 xc4 xc5 xc6 xc7 xc8 xc9 xc10 xc11 xc12 xc13 xc14
    have HC := Lib.hid (wire_Encode.calls 1000 a0_0 a0_1 a0_2 a0_3 a0_4 a0_5 a0_6 a0_7 a0_8 a0_9 a0_10 ((a0_11 + 1) % 140737488355328) A0_12 c0_12 l0_12 A0_13 c0_13 l0_13 A0_14 c0_14 l0_14 _ _ w5 HC0_12.out hc0_12 HC0_13.out hc0_13 HC0_14.out hc0_14 (Encode_yes 1000 ⟨a0_0, a0_1, a0_2, a0_3, a0_4, a0_5, a0_6, a0_7, a0_8, a0_9, a0_10, (a0_11 + 1) % 140737488355328, l0_12, l0_13, l0_14⟩ Hn.out (by omega) (by omega)))
    go_wp2_with fail
    refine HC.out.mono ?_
    rintro e w6 ⟨vy, rfl, hY, hbl⟩
    clear HC
    clear xc0 xc1 xc2 xc3 xc4 xc5 xc6 xc7 xc8 xc9 xc10 xc11 xc12 xc13 xc14
    have HB' := Lib.hid (HB.out.trans (hbl.mono HB.out.size))
    clear HB
    have HB := HB'
    clear HB'
    have HA' := Lib.hid (blk_below HA.out hbl)
    clear HA
    have HA := HA'
    clear HA'
    have HC0_12' := Lib.hid (Kd.C_below HC0_12.out hbl)
    clear HC0_12
    have HC0_12 := HC0_12'
    clear HC0_12'
    have HC0_13' := Lib.hid (Kd.C_below HC0_13.out hbl)
    clear HC0_13
    have HC0_13 := HC0_13'
    clear HC0_13'
    have HC0_14' := Lib.hid (Kd.C_below HC0_14.out hbl)
    clear HC0_14
    have HC0_14 := HC0_14'
    clear HC0_14'
    have HP' := Lib.hid (blk_below HP.out hbl)
    clear HP
    have HP := HP'
    clear HP'
    have HX' := Lib.hid (Kd.R_below HX.out hbl)
    clear HX
    have HX := HX'
    clear HX'
    obtain ⟨Ay, cy, rfl⟩ := Kd.R_slice hY
    have HY := Lib.hid hY
    clear hY hbl
    have HC := Lib.hid (voklaw19_first.calls 1000 true w6 (first_eq 1000 (by omega) (by omega)))
    go_wp2_with fail
    refine HC.out.mono ?_
    rintro e w7 ⟨rfl, hbl⟩
    clear HC
    have HB' := Lib.hid (HB.out.trans (hbl.mono HB.out.size))
    clear HB
    have HB := HB'
    clear HB'
    have HA' := Lib.hid (blk_below HA.out hbl)
    clear HA
    have HA := HA'
    clear HA'
    have HC0_12' := Lib.hid (Kd.C_below HC0_12.out hbl)
    clear HC0_12
    have HC0_12 := HC0_12'
    clear HC0_12'
    have HC0_13' := Lib.hid (Kd.C_below HC0_13.out hbl)
    clear HC0_13
    have HC0_13 := HC0_13'
    clear HC0_13'
    have HC0_14' := Lib.hid (Kd.C_below HC0_14.out hbl)
    clear HC0_14
    have HC0_14 := HC0_14'
    clear HC0_14'
    have HP' := Lib.hid (blk_below HP.out hbl)
    clear HP
    have HP := HP'
    clear HP'
    have HX' := Lib.hid (Kd.R_below HX.out hbl)
    clear HX
    have HX := HX'
    clear HX'
    have HY' := Lib.hid (Kd.R_below HY.out hbl)
    clear HY
    have HY := HY'
    clear HY'
    clear hbl
    obtain ⟨bs, hbs, hbi⟩ := same_eq 1000 ⟨a0_0, a0_1, a0_2, a0_3, a0_4, a0_5, a0_6, a0_7, a0_8, a0_9, a0_10, a0_11, l0_12, l0_13, l0_14⟩ ⟨a0_0, a0_1, a0_2, a0_3, a0_4, a0_5, a0_6, a0_7, a0_8, a0_9, a0_10, (a0_11 + 1) % 140737488355328, l0_12, l0_13, l0_14⟩ (by show l0_12.length ≤ 1099511627776; omega) (by show l0_13.length ≤ 1099511627776; omega) (by show l0_12.length + 1 < 1000; omega) (by show l0_13.length + 1 < 1000; omega) HBt.out HBt.out
    have hbf : bs = false := by
      cases bs with
      | false => rfl
      | true => exact absurd (hbi.1 rfl) Hne.out
    subst hbf
    simp only at hbs
    have Hbs := Lib.hid hbs
    clear hbi hbs
    have xc0 := blk_cell HA.out 0
    have xc1 := blk_cell HA.out 1
    have xc2 := blk_cell HA.out 2
    have xc3 := blk_cell HA.out 3
    have xc4 := blk_cell HA.out 4
    have xc5 := blk_cell HA.out 5
    have xc6 := blk_cell HA.out 6
    have xc7 := blk_cell HA.out 7
    have xc8 := blk_cell HA.out 8
    have xc9 := blk_cell HA.out 9
    have xc10 := blk_cell HA.out 10
    have xc11 := blk_cell HA.out 11
    have xc12 := blk_cell HA.out 12
    have xc13 := blk_cell HA.out 13
    have xc14 := blk_cell HA.out 14
    simp only [List.getElem?_toArray, List.getElem?_cons_succ, List.getElem?_cons_zero] at xc0 xc1 xc2 xc3 xc4 xc5 xc6 xc7 xc8 xc9 xc10 xc11 xc12 xc13 xc14
    have xd0 := blk_cell HP.out 0
    have xd1 := blk_cell HP.out 1
    have xd2 := blk_cell HP.out 2
    have xd3 := blk_cell HP.out 3
    have xd4 := blk_cell HP.out 4
    have xd5 := blk_cell HP.out 5
    have xd6 := blk_cell HP.out 6
    have xd7 := blk_cell HP.out 7
    have xd8 := blk_cell HP.out 8
    have xd9 := blk_cell HP.out 9
    have xd10 := blk_cell HP.out 10
    have xd11 := blk_cell HP.out 11
    have xd12 := blk_cell HP.out 12
    have xd13 := blk_cell HP.out 13
    have xd14 := blk_cell HP.out 14
    simp only [List.getElem?_toArray, List.getElem?_cons_succ, List.getElem?_cons_zero] at xd0 xd1 xd2 xd3 xd4 xd5 xd6 xd7 xd8 xd9 xd10 xd11 xd12 xd13 xd14
    have HC := Lib.hid (wire_Same.calls 1000 a0_0 a0_1 a0_2 a0_3 a0_4 a0_5 a0_6 a0_7 a0_8 a0_9 a0_10 a0_11 A0_12 c0_12 l0_12 A0_13 c0_13 l0_13 A0_14 c0_14 l0_14 a0_0 a0_1 a0_2 a0_3 a0_4 a0_5 a0_6 a0_7 a0_8 a0_9 a0_10 ((a0_11 + 1) % 140737488355328) A0_12 c0_12 l0_12 A0_13 c0_13 l0_13 A0_14 c0_14 l0_14 false w7 HC0_12.out hc0_12 HC0_13.out hc0_13 HC0_14.out hc0_14 HC0_12.out hc0_12 HC0_13.out hc0_13 HC0_14.out hc0_14 Hbs.out)
    go_wp2_with fail
    refine HC.out.mono ?_
    rintro e w8 ⟨rfl, hbl⟩
    clear HC
    clear xc0 xc1 xc2 xc3 xc4 xc5 xc6 xc7 xc8 xc9 xc10 xc11 xc12 xc13 xc14
    clear xd0 xd1 xd2 xd3 xd4 xd5 xd6 xd7 xd8 xd9 xd10 xd11 xd12 xd13 xd14
    have HB' := Lib.hid (HB.out.trans (hbl.mono HB.out.size))
    clear HB
    have HB := HB'
    clear HB'
    have HA' := Lib.hid (blk_below HA.out hbl)
    clear HA
    have HA := HA'
    clear HA'
    have HC0_12' := Lib.hid (Kd.C_below HC0_12.out hbl)
    clear HC0_12
    have HC0_12 := HC0_12'
    clear HC0_12'
    have HC0_13' := Lib.hid (Kd.C_below HC0_13.out hbl)
    clear HC0_13
    have HC0_13 := HC0_13'
    clear HC0_13'
    have HC0_14' := Lib.hid (Kd.C_below HC0_14.out hbl)
    clear HC0_14
    have HC0_14 := HC0_14'
    clear HC0_14'
    have HP' := Lib.hid (blk_below HP.out hbl)
    clear HP
    have HP := HP'
    clear HP'
    have HX' := Lib.hid (Kd.R_below HX.out hbl)
    clear HX
    have HX := HX'
    clear HX'
    have HY' := Lib.hid (Kd.R_below HY.out hbl)
    clear HY
    have HY := HY'
    clear HY'
    clear hbl
    have HC := Lib.hid (vokref_Bytes.calls Ax cx _ Ay cy _ _ w8 (Kd.R_reads' HX.out).2.2 (Kd.R_reads' HX.out).2.1 (Kd.R_reads' HY.out).2.2 (Kd.R_reads' HY.out).2.1 (vbytes_eq _ _ (bytes_body ⟨a0_0, a0_1, a0_2, a0_3, a0_4, a0_5, a0_6, a0_7, a0_8, a0_9, a0_10, a0_11, l0_12, l0_13, l0_14⟩ HBt.out) (bytes_body ⟨a0_0, a0_1, a0_2, a0_3, a0_4, a0_5, a0_6, a0_7, a0_8, a0_9, a0_10, (a0_11 + 1) % 140737488355328, l0_12, l0_13, l0_14⟩ HBt.out)))
    rw [decide_eq_false (fun h => Hne.out (body_inj Hm.out Hn.out h))] at HC
    go_wp2_with fail
    refine HC.out.mono ?_
    rintro e wz ⟨rfl, hD⟩
    have hbl := hD.below
    have HBz := Lib.hid (HB.out.trans (hbl.mono HB.out.size))
    clear hD hbl HC
    go_wp2
    go_ret
    exact ⟨rfl, HBz.out⟩
  · as_aux_lemma =>
    have Hn := Lib.hid hn
    clear hn
    have xc0 := blk_cell HP.out 0
    have xc1 := blk_cell HP.out 1
    have xc2 := blk_cell HP.out 2
    have xc3 := blk_cell HP.out 3
    have xc4 := blk_cell HP.out 4
    have xc5 := blk_cell HP.out 5
    have xc6 := blk_cell HP.out 6
    have xc7 := blk_cell HP.out 7
    have xc8 := blk_cell HP.out 8
    have xc9 := blk_cell HP.out 9
    have xc10 := blk_cell HP.out 10
    have xc11 := blk_cell HP.out 11
    have xc12 := blk_cell HP.out 12
    have xc13 := blk_cell HP.out 13
    have xc14 := blk_cell HP.out 14
    simp only [List.getElem?_toArray, List.getElem?_cons_succ, List.getElem?_cons_zero] at xc0 xc1 xc2 xc3 xc4 xc5 xc6 xc7 xc8 xc9 xc10 xc11 xc12 xc13 xc14
    have HC := Lib.hid (wire_Encode.calls 1000 a0_0 a0_1 a0_2 a0_3 a0_4 a0_5 a0_6 a0_7 a0_8 a0_9 a0_10 ((a0_11 + 1) % 140737488355328) A0_12 c0_12 l0_12 A0_13 c0_13 l0_13 A0_14 c0_14 l0_14 _ _ w5 HC0_12.out hc0_12 HC0_13.out hc0_13 HC0_14.out hc0_14 (no1000 ⟨a0_0, a0_1, a0_2, a0_3, a0_4, a0_5, a0_6, a0_7, a0_8, a0_9, a0_10, (a0_11 + 1) % 140737488355328, l0_12, l0_13, l0_14⟩ Hn.out (by show l0_12.length ≤ 300; omega) (by show l0_13.length ≤ 300; omega) (by show (l0_14).length ≤ 20000; omega)))
    go_wp2_with fail
    refine HC.out.mono ?_
    rintro e w6 ⟨vy, rfl, hY, hbl⟩
    clear HC
    clear xc0 xc1 xc2 xc3 xc4 xc5 xc6 xc7 xc8 xc9 xc10 xc11 xc12 xc13 xc14
    have HB' := Lib.hid (HB.out.trans (hbl.mono HB.out.size))
    clear HB
    have HB := HB'
    clear HB'
    have HA' := Lib.hid (blk_below HA.out hbl)
    clear HA
    have HA := HA'
    clear HA'
    have HC0_12' := Lib.hid (Kd.C_below HC0_12.out hbl)
    clear HC0_12
    have HC0_12 := HC0_12'
    clear HC0_12'
    have HC0_13' := Lib.hid (Kd.C_below HC0_13.out hbl)
    clear HC0_13
    have HC0_13 := HC0_13'
    clear HC0_13'
    have HC0_14' := Lib.hid (Kd.C_below HC0_14.out hbl)
    clear HC0_14
    have HC0_14 := HC0_14'
    clear HC0_14'
    have HP' := Lib.hid (blk_below HP.out hbl)
    clear HP
    have HP := HP'
    clear HP'
    have HX' := Lib.hid (Kd.R_below HX.out hbl)
    clear HX
    have HX := HX'
    clear HX'
    obtain ⟨Ay, cy, rfl⟩ := Kd.R_slice hY
    have HY := Lib.hid hY
    clear hY hbl
    have HC := Lib.hid (voklaw19_first.calls 1000 true w6 (first_eq 1000 (by omega) (by omega)))
    go_wp2_with fail
    refine HC.out.mono ?_
    rintro e w7 ⟨rfl, hbl⟩
    clear HC
    have HB' := Lib.hid (HB.out.trans (hbl.mono HB.out.size))
    clear HB
    have HB := HB'
    clear HB'
    have HA' := Lib.hid (blk_below HA.out hbl)
    clear HA
    have HA := HA'
    clear HA'
    have HC0_12' := Lib.hid (Kd.C_below HC0_12.out hbl)
    clear HC0_12
    have HC0_12 := HC0_12'
    clear HC0_12'
    have HC0_13' := Lib.hid (Kd.C_below HC0_13.out hbl)
    clear HC0_13
    have HC0_13 := HC0_13'
    clear HC0_13'
    have HC0_14' := Lib.hid (Kd.C_below HC0_14.out hbl)
    clear HC0_14
    have HC0_14 := HC0_14'
    clear HC0_14'
    have HP' := Lib.hid (blk_below HP.out hbl)
    clear HP
    have HP := HP'
    clear HP'
    have HX' := Lib.hid (Kd.R_below HX.out hbl)
    clear HX
    have HX := HX'
    clear HX'
    have HY' := Lib.hid (Kd.R_below HY.out hbl)
    clear HY
    have HY := HY'
    clear HY'
    clear hbl
    obtain ⟨bs, hbs, hbi⟩ := same_eq 1000 ⟨a0_0, a0_1, a0_2, a0_3, a0_4, a0_5, a0_6, a0_7, a0_8, a0_9, a0_10, a0_11, l0_12, l0_13, l0_14⟩ ⟨a0_0, a0_1, a0_2, a0_3, a0_4, a0_5, a0_6, a0_7, a0_8, a0_9, a0_10, (a0_11 + 1) % 140737488355328, l0_12, l0_13, l0_14⟩ (by show l0_12.length ≤ 1099511627776; omega) (by show l0_13.length ≤ 1099511627776; omega) (by show l0_12.length + 1 < 1000; omega) (by show l0_13.length + 1 < 1000; omega) HBt.out HBt.out
    have hbf : bs = false := by
      cases bs with
      | false => rfl
      | true => exact absurd (hbi.1 rfl) Hne.out
    subst hbf
    simp only at hbs
    have Hbs := Lib.hid hbs
    clear hbi hbs
    have xc0 := blk_cell HA.out 0
    have xc1 := blk_cell HA.out 1
    have xc2 := blk_cell HA.out 2
    have xc3 := blk_cell HA.out 3
    have xc4 := blk_cell HA.out 4
    have xc5 := blk_cell HA.out 5
    have xc6 := blk_cell HA.out 6
    have xc7 := blk_cell HA.out 7
    have xc8 := blk_cell HA.out 8
    have xc9 := blk_cell HA.out 9
    have xc10 := blk_cell HA.out 10
    have xc11 := blk_cell HA.out 11
    have xc12 := blk_cell HA.out 12
    have xc13 := blk_cell HA.out 13
    have xc14 := blk_cell HA.out 14
    simp only [List.getElem?_toArray, List.getElem?_cons_succ, List.getElem?_cons_zero] at xc0 xc1 xc2 xc3 xc4 xc5 xc6 xc7 xc8 xc9 xc10 xc11 xc12 xc13 xc14
    have xd0 := blk_cell HP.out 0
    have xd1 := blk_cell HP.out 1
    have xd2 := blk_cell HP.out 2
    have xd3 := blk_cell HP.out 3
    have xd4 := blk_cell HP.out 4
    have xd5 := blk_cell HP.out 5
    have xd6 := blk_cell HP.out 6
    have xd7 := blk_cell HP.out 7
    have xd8 := blk_cell HP.out 8
    have xd9 := blk_cell HP.out 9
    have xd10 := blk_cell HP.out 10
    have xd11 := blk_cell HP.out 11
    have xd12 := blk_cell HP.out 12
    have xd13 := blk_cell HP.out 13
    have xd14 := blk_cell HP.out 14
    simp only [List.getElem?_toArray, List.getElem?_cons_succ, List.getElem?_cons_zero] at xd0 xd1 xd2 xd3 xd4 xd5 xd6 xd7 xd8 xd9 xd10 xd11 xd12 xd13 xd14
    have HC := Lib.hid (wire_Same.calls 1000 a0_0 a0_1 a0_2 a0_3 a0_4 a0_5 a0_6 a0_7 a0_8 a0_9 a0_10 a0_11 A0_12 c0_12 l0_12 A0_13 c0_13 l0_13 A0_14 c0_14 l0_14 a0_0 a0_1 a0_2 a0_3 a0_4 a0_5 a0_6 a0_7 a0_8 a0_9 a0_10 ((a0_11 + 1) % 140737488355328) A0_12 c0_12 l0_12 A0_13 c0_13 l0_13 A0_14 c0_14 l0_14 false w7 HC0_12.out hc0_12 HC0_13.out hc0_13 HC0_14.out hc0_14 HC0_12.out hc0_12 HC0_13.out hc0_13 HC0_14.out hc0_14 Hbs.out)
    go_wp2_with fail
    refine HC.out.mono ?_
    rintro e w8 ⟨rfl, hbl⟩
    clear HC
    clear xc0 xc1 xc2 xc3 xc4 xc5 xc6 xc7 xc8 xc9 xc10 xc11 xc12 xc13 xc14
    clear xd0 xd1 xd2 xd3 xd4 xd5 xd6 xd7 xd8 xd9 xd10 xd11 xd12 xd13 xd14
    have HB' := Lib.hid (HB.out.trans (hbl.mono HB.out.size))
    clear HB
    have HB := HB'
    clear HB'
    have HA' := Lib.hid (blk_below HA.out hbl)
    clear HA
    have HA := HA'
    clear HA'
    have HC0_12' := Lib.hid (Kd.C_below HC0_12.out hbl)
    clear HC0_12
    have HC0_12 := HC0_12'
    clear HC0_12'
    have HC0_13' := Lib.hid (Kd.C_below HC0_13.out hbl)
    clear HC0_13
    have HC0_13 := HC0_13'
    clear HC0_13'
    have HC0_14' := Lib.hid (Kd.C_below HC0_14.out hbl)
    clear HC0_14
    have HC0_14 := HC0_14'
    clear HC0_14'
    have HP' := Lib.hid (blk_below HP.out hbl)
    clear HP
    have HP := HP'
    clear HP'
    have HX' := Lib.hid (Kd.R_below HX.out hbl)
    clear HX
    have HX := HX'
    clear HX'
    have HY' := Lib.hid (Kd.R_below HY.out hbl)
    clear HY
    have HY := HY'
    clear HY'
    clear hbl
    go_wp2
    go_ret
    exact ⟨rfl, HB.out⟩
end Go.Proofs.Ytleljfmhefobeaa.WalkWireUnlike
