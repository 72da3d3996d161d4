/- WireCodes: the walk. -/
import Derived.Test.YtleljfmhefobeaaGKLast
import Derived.WalkKit
import Derived.WalkSpells
import Derived.Lib.Hide
set_option linter.unusedVariables false
set_option linter.unusedSimpArgs false
namespace Go.Proofs.Ytleljfmhefobeaa.WalkWireCodes
open Go.RowKit Go.Proofs.YtleljfmhefobeaaW.PrintWords Go.Proofs.YtleljfmhefobeaaW.PrintLast Go.Proofs.YtleljfmhefobeaaW.PrintMore Go.Proofs.Ytleljfmhefobeaa.GK Go.Proofs.Ytleljfmhefobeaa.GKPa Go.Proofs.Ytleljfmhefobeaa.GKPe Go.Proofs.Ytleljfmhefobeaa.GKPw Go.Proofs.Ytleljfmhefobeaa.GKB Go.Proofs.Ytleljfmhefobeaa.GKTail Go.Proofs.Ytleljfmhefobeaa.GKSrc Go.Proofs.Ytleljfmhefobeaa.GKDec Go.Proofs.Ytleljfmhefobeaa.GKRr Go.Proofs.Ytleljfmhefobeaa.GKVd Go.Proofs.Ytleljfmhefobeaa.GKAux Go.Proofs.Ytleljfmhefobeaa.GKLast

set_option maxRecDepth 100000 in
set_option maxHeartbeats 40000000 in
theorem walk (a0_0 : Int) (a0_1 : Int) (a0_2 : Int) (a0_3 : Int) (a0_4 : Int) (a0_5 : Int) (a0_6 : Int) (a0_7 : Int) (a0_8 : Int) (a0_9 : Bool) (a0_10 : Int) (a0_11 : Int) (A0_12 : Option Addr) (c0_12 : Nat) (l0_12 : List Int) (A0_13 : Option Addr) (c0_13 : Nat) (l0_13 : List Int) (A0_14 : Option Addr) (c0_14 : Nat) (l0_14 : List Int) (a1_0 : Int) (a1_1 : Int) (a1_2 : Int) (a1_3 : Int) (a1_4 : Int) (a1_5 : Int) (a1_6 : Int) (a1_7 : Int) (a1_8 : Int) (a1_9 : Bool) (a1_10 : Int) (a1_11 : Int) (A1_12 : Option Addr) (c1_12 : Nat) (l1_12 : List Int) (A1_13 : Option Addr) (c1_13 : Nat) (l1_13 : List Int) (A1_14 : Option Addr) (c1_14 : Nat) (l1_14 : List Int) (A2 : Option Addr) (c2 : Nat) (l2 : List Int) (w : World) (hr0_12 : Kd.C (Kd.int .i64) w A0_12 l0_12.length l0_12) (hc0_12 : l0_12.length ≤ c0_12) (hr0_13 : Kd.C (Kd.int .i64) w A0_13 l0_13.length l0_13) (hc0_13 : l0_13.length ≤ c0_13) (hr0_14 : Kd.C (Kd.int .u8) w A0_14 l0_14.length l0_14) (hc0_14 : l0_14.length ≤ c0_14) (hr1_12 : Kd.C (Kd.int .i64) w A1_12 l1_12.length l1_12) (hc1_12 : l1_12.length ≤ c1_12) (hr1_13 : Kd.C (Kd.int .i64) w A1_13 l1_13.length l1_13) (hc1_13 : l1_13.length ≤ c1_13) (hr1_14 : Kd.C (Kd.int .u8) w A1_14 l1_14.length l1_14) (hc1_14 : l1_14.length ≤ c1_14) (hr2 : Kd.C (Kd.int .u8) w A2 l2.length l2) (hc2 : l2.length ≤ c2)
    (hb0 : bytesL l0_14) (hb1 : bytesL l1_14) (hb2 : bytesL l2) :
    Calls Try.prog 8 #[.agg #[.int .i64 a0_0, .int .i64 a0_1, .int .i64 a0_2, .int .i64 a0_3, .int .i64 a0_4, .int .i64 a0_5, .int .i64 a0_6, .int .i64 a0_7, .int .i64 a0_8, .bool a0_9, .int .i64 a0_10, .int .i64 a0_11, .slice A0_12 l0_12.length c0_12, .slice A0_13 l0_13.length c0_13, .slice A0_14 l0_14.length c0_14], .agg #[.int .i64 a1_0, .int .i64 a1_1, .int .i64 a1_2, .int .i64 a1_3, .int .i64 a1_4, .int .i64 a1_5, .int .i64 a1_6, .int .i64 a1_7, .int .i64 a1_8, .bool a1_9, .int .i64 a1_10, .int .i64 a1_11, .slice A1_12 l1_12.length c1_12, .slice A1_13 l1_13.length c1_13, .slice A1_14 l1_14.length c1_14], .slice A2 l2.length c2] w fun e w' => e = .returned (.bool true) ∧ Below w.heap.size w w' := by
  have hurec := Try.underlying27
  have huref := Try.underlying43
  have HBy := Lib.hid hb2
  have HB0 := Lib.hid hb0
  have HB1 := Lib.hid hb1
  have hbl := ((Below.refl w.heap.size w).alloc (Nat.le_refl _) (.cells #[.int .i64 a0_0, .int .i64 a0_1, .int .i64 a0_2, .int .i64 a0_3, .int .i64 a0_4, .int .i64 a0_5, .int .i64 a0_6, .int .i64 a0_7, .int .i64 a0_8, .bool a0_9, .int .i64 a0_10, .int .i64 a0_11, .slice A0_12 l0_12.length c0_12, .slice A0_13 l0_13.length c0_13, .slice A0_14 l0_14.length c0_14] 27)).alloc (by simp) (.cells #[.int .i64 a1_0, .int .i64 a1_1, .int .i64 a1_2, .int .i64 a1_3, .int .i64 a1_4, .int .i64 a1_5, .int .i64 a1_6, .int .i64 a1_7, .int .i64 a1_8, .bool a1_9, .int .i64 a1_10, .int .i64 a1_11, .slice A1_12 l1_12.length c1_12, .slice A1_13 l1_13.length c1_13, .slice A1_14 l1_14.length c1_14] 27)
  have HB := Lib.hid hbl
  have HA := Lib.hid (blk_alloc (blk_new w (.cells #[.int .i64 a0_0, .int .i64 a0_1, .int .i64 a0_2, .int .i64 a0_3, .int .i64 a0_4, .int .i64 a0_5, .int .i64 a0_6, .int .i64 a0_7, .int .i64 a0_8, .bool a0_9, .int .i64 a0_10, .int .i64 a0_11, .slice A0_12 l0_12.length c0_12, .slice A0_13 l0_13.length c0_13, .slice A0_14 l0_14.length c0_14] 27)) (.cells #[.int .i64 a1_0, .int .i64 a1_1, .int .i64 a1_2, .int .i64 a1_3, .int .i64 a1_4, .int .i64 a1_5, .int .i64 a1_6, .int .i64 a1_7, .int .i64 a1_8, .bool a1_9, .int .i64 a1_10, .int .i64 a1_11, .slice A1_12 l1_12.length c1_12, .slice A1_13 l1_13.length c1_13, .slice A1_14 l1_14.length c1_14] 27))
  have HQ := Lib.hid (blk_new (w.alloc (.cells #[.int .i64 a0_0, .int .i64 a0_1, .int .i64 a0_2, .int .i64 a0_3, .int .i64 a0_4, .int .i64 a0_5, .int .i64 a0_6, .int .i64 a0_7, .int .i64 a0_8, .bool a0_9, .int .i64 a0_10, .int .i64 a0_11, .slice A0_12 l0_12.length c0_12, .slice A0_13 l0_13.length c0_13, .slice A0_14 l0_14.length c0_14] 27)) (.cells #[.int .i64 a1_0, .int .i64 a1_1, .int .i64 a1_2, .int .i64 a1_3, .int .i64 a1_4, .int .i64 a1_5, .int .i64 a1_6, .int .i64 a1_7, .int .i64 a1_8, .bool a1_9, .int .i64 a1_10, .int .i64 a1_11, .slice A1_12 l1_12.length c1_12, .slice A1_13 l1_13.length c1_13, .slice A1_14 l1_14.length c1_14] 27))
  rw [show (w.alloc (.cells #[.int .i64 a0_0, .int .i64 a0_1, .int .i64 a0_2, .int .i64 a0_3, .int .i64 a0_4, .int .i64 a0_5, .int .i64 a0_6, .int .i64 a0_7, .int .i64 a0_8, .bool a0_9, .int .i64 a0_10, .int .i64 a0_11, .slice A0_12 l0_12.length c0_12, .slice A0_13 l0_13.length c0_13, .slice A0_14 l0_14.length c0_14] 27)).heap.size = w.heap.size + 1 by simp] at HQ
  have HC0_12 := Lib.hid (Kd.C_below hr0_12 hbl)
  have HC0_13 := Lib.hid (Kd.C_below hr0_13 hbl)
  have HC0_14 := Lib.hid (Kd.C_below hr0_14 hbl)
  have HC1_12 := Lib.hid (Kd.C_below hr1_12 hbl)
  have HC1_13 := Lib.hid (Kd.C_below hr1_13 hbl)
  have HC1_14 := Lib.hid (Kd.C_below hr1_14 hbl)
  have HCb := Lib.hid (Kd.C_below hr2 hbl)
  clear hbl hb0 hb1 hb2 hr2 hr0_12 hr0_13 hr0_14 hr1_12 hr1_13 hr1_14
  have hfe := Lib.hid (few_eq ⟨a0_0, a0_1, a0_2, a0_3, a0_4, a0_5, a0_6, a0_7, a0_8, a0_9, a0_10, a0_11, l0_12, l0_13, l0_14⟩)
  have hfq := Lib.hid (few_eq ⟨a1_0, a1_1, a1_2, a1_3, a1_4, a1_5, a1_6, a1_7, a1_8, a1_9, a1_10, a1_11, l1_12, l1_13, l1_14⟩)
  go_enter Try.func8, Try.ntmps8
  go_wp2_with fail
  generalize hW0 : (w.alloc (.cells #[.int .i64 a0_0, .int .i64 a0_1, .int .i64 a0_2, .int .i64 a0_3, .int .i64 a0_4, .int .i64 a0_5, .int .i64 a0_6, .int .i64 a0_7, .int .i64 a0_8, .bool a0_9, .int .i64 a0_10, .int .i64 a0_11, .slice A0_12 l0_12.length c0_12, .slice A0_13 l0_13.length c0_13, .slice A0_14 l0_14.length c0_14] 27)).alloc (.cells #[.int .i64 a1_0, .int .i64 a1_1, .int .i64 a1_2, .int .i64 a1_3, .int .i64 a1_4, .int .i64 a1_5, .int .i64 a1_6, .int .i64 a1_7, .int .i64 a1_8, .bool a1_9, .int .i64 a1_10, .int .i64 a1_11, .slice A1_12 l1_12.length c1_12, .slice A1_13 l1_13.length c1_13, .slice A1_14 l1_14.length c1_14] 27) = W0 at *
  clear hW0
  have HC := Lib.hid (voklaw19_first.calls 1000 true W0 (first_eq 1000 (by omega) (by omega)))
  go_wp2_with fail
  refine HC.out.mono ?_
  rintro e w1 ⟨rfl, hbl⟩
  clear HC
  have HB' := Lib.hid (HB.out.trans (hbl.mono HB.out.size))
  clear HB
  have HB := HB'
  clear HB'
  have HA' := Lib.hid (blk_below HA.out hbl)
  clear HA
  have HA := HA'
  clear HA'
  have HQ' := Lib.hid (blk_below HQ.out hbl)
  clear HQ
  have HQ := HQ'
  clear HQ'
  have HCb' := Lib.hid (Kd.C_below HCb.out hbl)
  clear HCb
  have HCb := HCb'
  clear HCb'
  have HC0_12' := Lib.hid (Kd.C_below HC0_12.out hbl)
  clear HC0_12
  have HC0_12 := HC0_12'
  clear HC0_12'
  have HC0_13' := Lib.hid (Kd.C_below HC0_13.out hbl)
  clear HC0_13
  have HC0_13 := HC0_13'
  clear HC0_13'
  have HC0_14' := Lib.hid (Kd.C_below HC0_14.out hbl)
  clear HC0_14
  have HC0_14 := HC0_14'
  clear HC0_14'
  have HC1_12' := Lib.hid (Kd.C_below HC1_12.out hbl)
  clear HC1_12
  have HC1_12 := HC1_12'
  clear HC1_12'
  have HC1_13' := Lib.hid (Kd.C_below HC1_13.out hbl)
  clear HC1_13
  have HC1_13 := HC1_13'
  clear HC1_13'
  have HC1_14' := Lib.hid (Kd.C_below HC1_14.out hbl)
  clear HC1_14
  have HC1_14 := HC1_14'
  clear HC1_14'
  clear hbl
  by_cases hfew : l0_12.length ≤ 300 ∧ l0_13.length ≤ 300 ∧ l0_14.length ≤ 20000
  · obtain ⟨hfu, hfn, hft⟩ := hfew
    have xc0 := blk_cell HA.out 0
    have xc1 := blk_cell HA.out 1
    have xc2 := blk_cell HA.out 2
    have xc3 := blk_cell HA.out 3
    have xc4 := blk_cell HA.out 4
    have xc5 := blk_cell HA.out 5
    have xc6 := blk_cell HA.out 6
    have xc7 := blk_cell HA.out 7
    have xc8 := blk_cell HA.out 8
    have xc9 := blk_cell HA.out 9
    have xc10 := blk_cell HA.out 10
    have xc11 := blk_cell HA.out 11
    have xc12 := blk_cell HA.out 12
    have xc13 := blk_cell HA.out 13
    have xc14 := blk_cell HA.out 14
    simp only [List.getElem?_toArray, List.getElem?_cons_succ, List.getElem?_cons_zero] at xc0 xc1 xc2 xc3 xc4 xc5 xc6 xc7 xc8 xc9 xc10 xc11 xc12 xc13 xc14
    have HC := Lib.hid (voklaw19_Few.calls a0_0 a0_1 a0_2 a0_3 a0_4 a0_5 a0_6 a0_7 a0_8 a0_9 a0_10 a0_11 A0_12 c0_12 l0_12 A0_13 c0_13 l0_13 A0_14 c0_14 l0_14 true w1 HC0_12.out hc0_12 HC0_13.out hc0_13 HC0_14.out hc0_14 (hfe.out.trans (congrArg some (decide_eq_true (show l0_12.length ≤ 300 ∧ l0_13.length ≤ 300 ∧ l0_14.length ≤ 20000 from ⟨hfu, hfn, hft⟩)))))
    go_wp2_with fail
    refine HC.out.mono ?_
    rintro e w2 ⟨rfl, hbl⟩
    clear HC
    clear xc0 xc1 xc2 xc3 xc4 xc5 xc6 xc7 xc8 xc9 xc10 xc11 xc12 xc13 xc14
    have HB' := Lib.hid (HB.out.trans (hbl.mono HB.out.size))
    clear HB
    have HB := HB'
    clear HB'
    have HA' := Lib.hid (blk_below HA.out hbl)
    clear HA
    have HA := HA'
    clear HA'
    have HQ' := Lib.hid (blk_below HQ.out hbl)
    clear HQ
    have HQ := HQ'
    clear HQ'
    have HCb' := Lib.hid (Kd.C_below HCb.out hbl)
    clear HCb
    have HCb := HCb'
    clear HCb'
    have HC0_12' := Lib.hid (Kd.C_below HC0_12.out hbl)
    clear HC0_12
    have HC0_12 := HC0_12'
    clear HC0_12'
    have HC0_13' := Lib.hid (Kd.C_below HC0_13.out hbl)
    clear HC0_13
    have HC0_13 := HC0_13'
    clear HC0_13'
    have HC0_14' := Lib.hid (Kd.C_below HC0_14.out hbl)
    clear HC0_14
    have HC0_14 := HC0_14'
    clear HC0_14'
    have HC1_12' := Lib.hid (Kd.C_below HC1_12.out hbl)
    clear HC1_12
    have HC1_12 := HC1_12'
    clear HC1_12'
    have HC1_13' := Lib.hid (Kd.C_below HC1_13.out hbl)
    clear HC1_13
    have HC1_13 := HC1_13'
    clear HC1_13'
    have HC1_14' := Lib.hid (Kd.C_below HC1_14.out hbl)
    clear HC1_14
    have HC1_14 := HC1_14'
    clear HC1_14'
    clear hbl
    by_cases hfeq : l1_12.length ≤ 300 ∧ l1_13.length ≤ 300 ∧ l1_14.length ≤ 20000
    · obtain ⟨hqu, hqn, hqt⟩ := hfeq
      have xq0 := blk_cell HQ.out 0
      have xq1 := blk_cell HQ.out 1
      have xq2 := blk_cell HQ.out 2
      have xq3 := blk_cell HQ.out 3
      have xq4 := blk_cell HQ.out 4
      have xq5 := blk_cell HQ.out 5
      have xq6 := blk_cell HQ.out 6
      have xq7 := blk_cell HQ.out 7
      have xq8 := blk_cell HQ.out 8
      have xq9 := blk_cell HQ.out 9
      have xq10 := blk_cell HQ.out 10
      have xq11 := blk_cell HQ.out 11
      have xq12 := blk_cell HQ.out 12
      have xq13 := blk_cell HQ.out 13
      have xq14 := blk_cell HQ.out 14
      simp only [List.getElem?_toArray, List.getElem?_cons_succ, List.getElem?_cons_zero] at xq0 xq1 xq2 xq3 xq4 xq5 xq6 xq7 xq8 xq9 xq10 xq11 xq12 xq13 xq14
      have HC := Lib.hid (voklaw19_Few.calls a1_0 a1_1 a1_2 a1_3 a1_4 a1_5 a1_6 a1_7 a1_8 a1_9 a1_10 a1_11 A1_12 c1_12 l1_12 A1_13 c1_13 l1_13 A1_14 c1_14 l1_14 true w2 HC1_12.out hc1_12 HC1_13.out hc1_13 HC1_14.out hc1_14 (hfq.out.trans (congrArg some (decide_eq_true (show l1_12.length ≤ 300 ∧ l1_13.length ≤ 300 ∧ l1_14.length ≤ 20000 from ⟨hqu, hqn, hqt⟩)))))
      go_wp2_with fail
      refine HC.out.mono ?_
      rintro e w3 ⟨rfl, hbl⟩
      clear HC
      clear xq0 xq1 xq2 xq3 xq4 xq5 xq6 xq7 xq8 xq9 xq10 xq11 xq12 xq13 xq14
      have HB' := Lib.hid (HB.out.trans (hbl.mono HB.out.size))
      clear HB
      have HB := HB'
      clear HB'
      have HA' := Lib.hid (blk_below HA.out hbl)
      clear HA
      have HA := HA'
      clear HA'
      have HQ' := Lib.hid (blk_below HQ.out hbl)
      clear HQ
      have HQ := HQ'
      clear HQ'
      have HCb' := Lib.hid (Kd.C_below HCb.out hbl)
      clear HCb
      have HCb := HCb'
      clear HCb'
      have HC0_12' := Lib.hid (Kd.C_below HC0_12.out hbl)
      clear HC0_12
      have HC0_12 := HC0_12'
      clear HC0_12'
      have HC0_13' := Lib.hid (Kd.C_below HC0_13.out hbl)
      clear HC0_13
      have HC0_13 := HC0_13'
      clear HC0_13'
      have HC0_14' := Lib.hid (Kd.C_below HC0_14.out hbl)
      clear HC0_14
      have HC0_14 := HC0_14'
      clear HC0_14'
      have HC1_12' := Lib.hid (Kd.C_below HC1_12.out hbl)
      clear HC1_12
      have HC1_12 := HC1_12'
      clear HC1_12'
      have HC1_13' := Lib.hid (Kd.C_below HC1_13.out hbl)
      clear HC1_13
      have HC1_13 := HC1_13'
      clear HC1_13'
      have HC1_14' := Lib.hid (Kd.C_below HC1_14.out hbl)
      clear HC1_14
      have HC1_14 := HC1_14'
      clear HC1_14'
      clear hbl
      by_cases hlb : l2.length ≤ 20000
      · have hgt : decide (20000 < l2.length) = false := decide_eq_false (by omega)
        have hgt2 : decide ((20000 : Int) < (l2.length : Int)) = false := decide_eq_false (by omega)
        as_aux_lemma =>
          have HC := Lib.hid (vokref_CopyBytes.calls A2 c2 l2 _ w3 HCb.out hc2 (copy_eq l2 (by omega)))
          go_wp2_with fail
          refine HC.out.mono ?_
          rintro e w4 ⟨vin, rfl, hIN, hbl⟩
          clear HC
          have HB' := Lib.hid (HB.out.trans (hbl.mono HB.out.size))
          clear HB
          have HB := HB'
          clear HB'
          have HA' := Lib.hid (blk_below HA.out hbl)
          clear HA
          have HA := HA'
          clear HA'
          have HQ' := Lib.hid (blk_below HQ.out hbl)
          clear HQ
          have HQ := HQ'
          clear HQ'
          have HCb' := Lib.hid (Kd.C_below HCb.out hbl)
          clear HCb
          have HCb := HCb'
          clear HCb'
          have HC0_12' := Lib.hid (Kd.C_below HC0_12.out hbl)
          clear HC0_12
          have HC0_12 := HC0_12'
          clear HC0_12'
          have HC0_13' := Lib.hid (Kd.C_below HC0_13.out hbl)
          clear HC0_13
          have HC0_13 := HC0_13'
          clear HC0_13'
          have HC0_14' := Lib.hid (Kd.C_below HC0_14.out hbl)
          clear HC0_14
          have HC0_14 := HC0_14'
          clear HC0_14'
          have HC1_12' := Lib.hid (Kd.C_below HC1_12.out hbl)
          clear HC1_12
          have HC1_12 := HC1_12'
          clear HC1_12'
          have HC1_13' := Lib.hid (Kd.C_below HC1_13.out hbl)
          clear HC1_13
          have HC1_13 := HC1_13'
          clear HC1_13'
          have HC1_14' := Lib.hid (Kd.C_below HC1_14.out hbl)
          clear HC1_14
          have HC1_14 := HC1_14'
          clear HC1_14'
          obtain ⟨Ain, cin, rfl⟩ := Kd.R_slice hIN
          have HIN := Lib.hid hIN
          clear hIN hbl
          obtain ⟨x, ec, hen, hven, hxb⟩ := enc_both ⟨a0_0, a0_1, a0_2, a0_3, a0_4, a0_5, a0_6, a0_7, a0_8, a0_9, a0_10, a0_11, l0_12, l0_13, l0_14⟩ hfu hfn hft HB0.out
          have Hen := Lib.hid hen
          have Hven := Lib.hid hven
          have Hxb := Lib.hid hxb
          clear hen hven hxb
          have xc0 := blk_cell HA.out 0
          have xc1 := blk_cell HA.out 1
          have xc2 := blk_cell HA.out 2
          have xc3 := blk_cell HA.out 3
          have xc4 := blk_cell HA.out 4
          have xc5 := blk_cell HA.out 5
          have xc6 := blk_cell HA.out 6
          have xc7 := blk_cell HA.out 7
          have xc8 := blk_cell HA.out 8
          have xc9 := blk_cell HA.out 9
          have xc10 := blk_cell HA.out 10
          have xc11 := blk_cell HA.out 11
          have xc12 := blk_cell HA.out 12
          have xc13 := blk_cell HA.out 13
          have xc14 := blk_cell HA.out 14
          simp only [List.getElem?_toArray, List.getElem?_cons_succ, List.getElem?_cons_zero] at xc0 xc1 xc2 xc3 xc4 xc5 xc6 xc7 xc8 xc9 xc10 xc11 xc12 xc13 xc14
          have HC := Lib.hid (wire_Encode.calls 1000 a0_0 a0_1 a0_2 a0_3 a0_4 a0_5 a0_6 a0_7 a0_8 a0_9 a0_10 a0_11 A0_12 c0_12 l0_12 A0_13 c0_13 l0_13 A0_14 c0_14 l0_14 x ec w4 HC0_12.out hc0_12 HC0_13.out hc0_13 HC0_14.out hc0_14 Hen.out)
          go_wp2_with fail
          refine HC.out.mono ?_
          rintro e w5 ⟨vx, rfl, hX, hbl⟩
          clear HC
          clear xc0 xc1 xc2 xc3 xc4 xc5 xc6 xc7 xc8 xc9 xc10 xc11 xc12 xc13 xc14
          have HB' := Lib.hid (HB.out.trans (hbl.mono HB.out.size))
          clear HB
          have HB := HB'
          clear HB'
          have HA' := Lib.hid (blk_below HA.out hbl)
          clear HA
          have HA := HA'
          clear HA'
          have HQ' := Lib.hid (blk_below HQ.out hbl)
          clear HQ
          have HQ := HQ'
          clear HQ'
          have HCb' := Lib.hid (Kd.C_below HCb.out hbl)
          clear HCb
          have HCb := HCb'
          clear HCb'
          have HC0_12' := Lib.hid (Kd.C_below HC0_12.out hbl)
          clear HC0_12
          have HC0_12 := HC0_12'
          clear HC0_12'
          have HC0_13' := Lib.hid (Kd.C_below HC0_13.out hbl)
          clear HC0_13
          have HC0_13 := HC0_13'
          clear HC0_13'
          have HC0_14' := Lib.hid (Kd.C_below HC0_14.out hbl)
          clear HC0_14
          have HC0_14 := HC0_14'
          clear HC0_14'
          have HC1_12' := Lib.hid (Kd.C_below HC1_12.out hbl)
          clear HC1_12
          have HC1_12 := HC1_12'
          clear HC1_12'
          have HC1_13' := Lib.hid (Kd.C_below HC1_13.out hbl)
          clear HC1_13
          have HC1_13 := HC1_13'
          clear HC1_13'
          have HC1_14' := Lib.hid (Kd.C_below HC1_14.out hbl)
          clear HC1_14
          have HC1_14 := HC1_14'
          clear HC1_14'
          have HIN' := Lib.hid (Kd.R_below HIN.out hbl)
          clear HIN
          have HIN := HIN'
          clear HIN'
          obtain ⟨Ax, cx, rfl⟩ := Kd.R_slice hX
          have HX := Lib.hid hX
          clear hX hbl Hen
          have xc0 := blk_cell HA.out 0
          have xc1 := blk_cell HA.out 1
          have xc2 := blk_cell HA.out 2
          have xc3 := blk_cell HA.out 3
          have xc4 := blk_cell HA.out 4
          have xc5 := blk_cell HA.out 5
          have xc6 := blk_cell HA.out 6
          have xc7 := blk_cell HA.out 7
          have xc8 := blk_cell HA.out 8
          have xc9 := blk_cell HA.out 9
          have xc10 := blk_cell HA.out 10
          have xc11 := blk_cell HA.out 11
          have xc12 := blk_cell HA.out 12
          have xc13 := blk_cell HA.out 13
          have xc14 := blk_cell HA.out 14
          simp only [List.getElem?_toArray, List.getElem?_cons_succ, List.getElem?_cons_zero] at xc0 xc1 xc2 xc3 xc4 xc5 xc6 xc7 xc8 xc9 xc10 xc11 xc12 xc13 xc14
          have HC := Lib.hid (plain_any a0_0 a0_1 a0_2 a0_3 a0_4 a0_5 a0_6 a0_7 a0_8 a0_9 a0_10 a0_11 A0_12 A0_13 A0_14 l0_12.length c0_12 l0_13.length c0_13 l0_14.length c0_14 w5)
          go_wp2_with fail
          refine HC.out.mono ?_
          rintro e w6 ⟨rfl, hbl⟩
          clear HC
          clear xc0 xc1 xc2 xc3 xc4 xc5 xc6 xc7 xc8 xc9 xc10 xc11 xc12 xc13 xc14
          have HB' := Lib.hid (HB.out.trans (hbl.mono HB.out.size))
          clear HB
          have HB := HB'
          clear HB'
          have HA' := Lib.hid (blk_below HA.out hbl)
          clear HA
          have HA := HA'
          clear HA'
          have HQ' := Lib.hid (blk_below HQ.out hbl)
          clear HQ
          have HQ := HQ'
          clear HQ'
          have HCb' := Lib.hid (Kd.C_below HCb.out hbl)
          clear HCb
          have HCb := HCb'
          clear HCb'
          have HC0_12' := Lib.hid (Kd.C_below HC0_12.out hbl)
          clear HC0_12
          have HC0_12 := HC0_12'
          clear HC0_12'
          have HC0_13' := Lib.hid (Kd.C_below HC0_13.out hbl)
          clear HC0_13
          have HC0_13 := HC0_13'
          clear HC0_13'
          have HC0_14' := Lib.hid (Kd.C_below HC0_14.out hbl)
          clear HC0_14
          have HC0_14 := HC0_14'
          clear HC0_14'
          have HC1_12' := Lib.hid (Kd.C_below HC1_12.out hbl)
          clear HC1_12
          have HC1_12 := HC1_12'
          clear HC1_12'
          have HC1_13' := Lib.hid (Kd.C_below HC1_13.out hbl)
          clear HC1_13
          have HC1_13 := HC1_13'
          clear HC1_13'
          have HC1_14' := Lib.hid (Kd.C_below HC1_14.out hbl)
          clear HC1_14
          have HC1_14 := HC1_14'
          clear HC1_14'
          have HIN' := Lib.hid (Kd.R_below HIN.out hbl)
          clear HIN
          have HIN := HIN'
          clear HIN'
          have HX' := Lib.hid (Kd.R_below HX.out hbl)
          clear HX
          have HX := HX'
          clear HX'
          clear hbl
          have HC := Lib.hid (vokref17_Msg_Encode.calls 1200 a0_0 a0_1 a0_2 a0_3 a0_4 a0_5 a0_6 a0_7 a0_8 a0_9 a0_10 a0_11 A0_12 c0_12 l0_12 A0_13 c0_13 l0_13 A0_14 c0_14 l0_14 x ec w6 HC0_12.out hc0_12 HC0_13.out hc0_13 HC0_14.out hc0_14 Hven.out)
          go_wp2_with fail
          refine HC.out.mono ?_
          rintro e w7 ⟨vy, rfl, hY, hbl⟩
          clear HC
          have HB' := Lib.hid (HB.out.trans (hbl.mono HB.out.size))
          clear HB
          have HB := HB'
          clear HB'
          have HA' := Lib.hid (blk_below HA.out hbl)
          clear HA
          have HA := HA'
          clear HA'
          have HQ' := Lib.hid (blk_below HQ.out hbl)
          clear HQ
          have HQ := HQ'
          clear HQ'
          have HCb' := Lib.hid (Kd.C_below HCb.out hbl)
          clear HCb
          have HCb := HCb'
          clear HCb'
          have HC0_12' := Lib.hid (Kd.C_below HC0_12.out hbl)
          clear HC0_12
          have HC0_12 := HC0_12'
          clear HC0_12'
          have HC0_13' := Lib.hid (Kd.C_below HC0_13.out hbl)
          clear HC0_13
          have HC0_13 := HC0_13'
          clear HC0_13'
          have HC0_14' := Lib.hid (Kd.C_below HC0_14.out hbl)
          clear HC0_14
          have HC0_14 := HC0_14'
          clear HC0_14'
          have HC1_12' := Lib.hid (Kd.C_below HC1_12.out hbl)
          clear HC1_12
          have HC1_12 := HC1_12'
          clear HC1_12'
          have HC1_13' := Lib.hid (Kd.C_below HC1_13.out hbl)
          clear HC1_13
          have HC1_13 := HC1_13'
          clear HC1_13'
          have HC1_14' := Lib.hid (Kd.C_below HC1_14.out hbl)
          clear HC1_14
          have HC1_14 := HC1_14'
          clear HC1_14'
          have HIN' := Lib.hid (Kd.R_below HIN.out hbl)
          clear HIN
          have HIN := HIN'
          clear HIN'
          have HX' := Lib.hid (Kd.R_below HX.out hbl)
          clear HX
          have HX := HX'
          clear HX'
          obtain ⟨Ay, cy, rfl⟩ := Kd.R_slice hY
          have HY := Lib.hid hY
          clear hY hbl Hven
          obtain ⟨hdu, hdn, hdb⟩ := dec_parts l2 HBy.out hlb
          have HC := Lib.hid (decode_any l2 Ain cin w7 HBy.out hlb (Kd.R_reads' HIN.out).2.1 (Kd.R_reads' HIN.out).2.2)
          have HV := Lib.hid (fun w1 (h : Kd.C (Kd.int .u8) w1 A2 l2.length l2) => vdecode_any l2 A2 c2 w1 HBy.out hlb hc2 h)
          generalize dec l2 = dd at *
          obtain ⟨⟨p0, p1, p2, p3, p4, p5, p6, p7, p8, p9, p10, p11, lp12, lp13, lp14⟩, g⟩ := dd
          simp only at hdu hdn hdb
          have Hdb := Lib.hid hdb
          clear hdb
          go_wp2_with fail
          refine HC.out.mono ?_
          rintro e w8 ⟨vu, vn, vt, rfl, hU, hN, hT, hbl⟩
          clear HC
          (try simp only at hU hN hT)
          have HB' := Lib.hid (HB.out.trans (hbl.mono HB.out.size))
          clear HB
          have HB := HB'
          clear HB'
          have HA' := Lib.hid (blk_below HA.out hbl)
          clear HA
          have HA := HA'
          clear HA'
          have HQ' := Lib.hid (blk_below HQ.out hbl)
          clear HQ
          have HQ := HQ'
          clear HQ'
          have HCb' := Lib.hid (Kd.C_below HCb.out hbl)
          clear HCb
          have HCb := HCb'
          clear HCb'
          have HC0_12' := Lib.hid (Kd.C_below HC0_12.out hbl)
          clear HC0_12
          have HC0_12 := HC0_12'
          clear HC0_12'
          have HC0_13' := Lib.hid (Kd.C_below HC0_13.out hbl)
          clear HC0_13
          have HC0_13 := HC0_13'
          clear HC0_13'
          have HC0_14' := Lib.hid (Kd.C_below HC0_14.out hbl)
          clear HC0_14
          have HC0_14 := HC0_14'
          clear HC0_14'
          have HC1_12' := Lib.hid (Kd.C_below HC1_12.out hbl)
          clear HC1_12
          have HC1_12 := HC1_12'
          clear HC1_12'
          have HC1_13' := Lib.hid (Kd.C_below HC1_13.out hbl)
          clear HC1_13
          have HC1_13 := HC1_13'
          clear HC1_13'
          have HC1_14' := Lib.hid (Kd.C_below HC1_14.out hbl)
          clear HC1_14
          have HC1_14 := HC1_14'
          clear HC1_14'
          have HIN' := Lib.hid (Kd.R_below HIN.out hbl)
          clear HIN
          have HIN := HIN'
          clear HIN'
          have HX' := Lib.hid (Kd.R_below HX.out hbl)
          clear HX
          have HX := HX'
          clear HX'
          have HY' := Lib.hid (Kd.R_below HY.out hbl)
          clear HY
          have HY := HY'
          clear HY'
          obtain ⟨Ap12, cp12, rfl⟩ := Kd.R_slice hU
          have HRp12 := Lib.hid hU
          obtain ⟨Ap13, cp13, rfl⟩ := Kd.R_slice hN
          have HRp13 := Lib.hid hN
          obtain ⟨Ap14, cp14, rfl⟩ := Kd.R_slice hT
          have HRp14 := Lib.hid hT
          clear hU hN hT hbl
          have hbl := (Below.refl w8.heap.size w8).alloc (Nat.le_refl _) (.cells #[.int .i64 p0, .int .i64 p1, .int .i64 p2, .int .i64 p3, .int .i64 p4, .int .i64 p5, .int .i64 p6, .int .i64 p7, .int .i64 p8, .bool p9, .int .i64 p10, .int .i64 p11, .slice Ap12 lp12.length cp12, .slice Ap13 lp13.length cp13, .slice Ap14 lp14.length cp14] 27)
          have hnew := blk_new w8 (.cells #[.int .i64 p0, .int .i64 p1, .int .i64 p2, .int .i64 p3, .int .i64 p4, .int .i64 p5, .int .i64 p6, .int .i64 p7, .int .i64 p8, .bool p9, .int .i64 p10, .int .i64 p11, .slice Ap12 lp12.length cp12, .slice Ap13 lp13.length cp13, .slice Ap14 lp14.length cp14] 27)
          have HB' := Lib.hid (HB.out.trans (hbl.mono HB.out.size))
          clear HB
          have HB := HB'
          clear HB'
          have HA' := Lib.hid (blk_below HA.out hbl)
          clear HA
          have HA := HA'
          clear HA'
          have HQ' := Lib.hid (blk_below HQ.out hbl)
          clear HQ
          have HQ := HQ'
          clear HQ'
          have HCb' := Lib.hid (Kd.C_below HCb.out hbl)
          clear HCb
          have HCb := HCb'
          clear HCb'
          have HC0_12' := Lib.hid (Kd.C_below HC0_12.out hbl)
          clear HC0_12
          have HC0_12 := HC0_12'
          clear HC0_12'
          have HC0_13' := Lib.hid (Kd.C_below HC0_13.out hbl)
          clear HC0_13
          have HC0_13 := HC0_13'
          clear HC0_13'
          have HC0_14' := Lib.hid (Kd.C_below HC0_14.out hbl)
          clear HC0_14
          have HC0_14 := HC0_14'
          clear HC0_14'
          have HC1_12' := Lib.hid (Kd.C_below HC1_12.out hbl)
          clear HC1_12
          have HC1_12 := HC1_12'
          clear HC1_12'
          have HC1_13' := Lib.hid (Kd.C_below HC1_13.out hbl)
          clear HC1_13
          have HC1_13 := HC1_13'
          clear HC1_13'
          have HC1_14' := Lib.hid (Kd.C_below HC1_14.out hbl)
          clear HC1_14
          have HC1_14 := HC1_14'
          clear HC1_14'
          have HIN' := Lib.hid (Kd.R_below HIN.out hbl)
          clear HIN
          have HIN := HIN'
          clear HIN'
          have HX' := Lib.hid (Kd.R_below HX.out hbl)
          clear HX
          have HX := HX'
          clear HX'
          have HY' := Lib.hid (Kd.R_below HY.out hbl)
          clear HY
          have HY := HY'
          clear HY'
          have HRp12' := Lib.hid (Kd.R_below HRp12.out hbl)
          clear HRp12
          have HRp12 := HRp12'
          clear HRp12'
          have HRp13' := Lib.hid (Kd.R_below HRp13.out hbl)
          clear HRp13
          have HRp13 := HRp13'
          clear HRp13'
          have HRp14' := Lib.hid (Kd.R_below HRp14.out hbl)
          clear HRp14
          have HRp14 := HRp14'
          clear HRp14'
          have HPp := Lib.hid hnew
          clear hnew hbl
          go_wp2_with fail
          generalize hal : w8.alloc (.cells #[.int .i64 p0, .int .i64 p1, .int .i64 p2, .int .i64 p3, .int .i64 p4, .int .i64 p5, .int .i64 p6, .int .i64 p7, .int .i64 p8, .bool p9, .int .i64 p10, .int .i64 p11, .slice Ap12 lp12.length cp12, .slice Ap13 lp13.length cp13, .slice Ap14 lp14.length cp14] 27) = w9 at *
          clear hal
          generalize w8.heap.size = gp at *
          have HC := Lib.hid (HV.out w9 HCb.out)
          refine HC.out.mono ?_
          rintro e w10 ⟨vu, vn, vt, rfl, hU, hN, hT, hbl⟩
          clear HC
          (try simp only at hU hN hT)
          have HB' := Lib.hid (HB.out.trans (hbl.mono HB.out.size))
          clear HB
          have HB := HB'
          clear HB'
          have HA' := Lib.hid (blk_below HA.out hbl)
          clear HA
          have HA := HA'
          clear HA'
          have HQ' := Lib.hid (blk_below HQ.out hbl)
          clear HQ
          have HQ := HQ'
          clear HQ'
          have HCb' := Lib.hid (Kd.C_below HCb.out hbl)
          clear HCb
          have HCb := HCb'
          clear HCb'
          have HC0_12' := Lib.hid (Kd.C_below HC0_12.out hbl)
          clear HC0_12
          have HC0_12 := HC0_12'
          clear HC0_12'
          have HC0_13' := Lib.hid (Kd.C_below HC0_13.out hbl)
          clear HC0_13
          have HC0_13 := HC0_13'
          clear HC0_13'
          have HC0_14' := Lib.hid (Kd.C_below HC0_14.out hbl)
          clear HC0_14
          have HC0_14 := HC0_14'
          clear HC0_14'
          have HC1_12' := Lib.hid (Kd.C_below HC1_12.out hbl)
          clear HC1_12
          have HC1_12 := HC1_12'
          clear HC1_12'
          have HC1_13' := Lib.hid (Kd.C_below HC1_13.out hbl)
          clear HC1_13
          have HC1_13 := HC1_13'
          clear HC1_13'
          have HC1_14' := Lib.hid (Kd.C_below HC1_14.out hbl)
          clear HC1_14
          have HC1_14 := HC1_14'
          clear HC1_14'
          have HIN' := Lib.hid (Kd.R_below HIN.out hbl)
          clear HIN
          have HIN := HIN'
          clear HIN'
          have HX' := Lib.hid (Kd.R_below HX.out hbl)
          clear HX
          have HX := HX'
          clear HX'
          have HY' := Lib.hid (Kd.R_below HY.out hbl)
          clear HY
          have HY := HY'
          clear HY'
          have HRp12' := Lib.hid (Kd.R_below HRp12.out hbl)
          clear HRp12
          have HRp12 := HRp12'
          clear HRp12'
          have HRp13' := Lib.hid (Kd.R_below HRp13.out hbl)
          clear HRp13
          have HRp13 := HRp13'
          clear HRp13'
          have HRp14' := Lib.hid (Kd.R_below HRp14.out hbl)
          clear HRp14
          have HRp14 := HRp14'
          clear HRp14'
          have HPp' := Lib.hid (blk_below HPp.out hbl)
          clear HPp
          have HPp := HPp'
          clear HPp'
          obtain ⟨Ao12, co12, rfl⟩ := Kd.R_slice hU
          have HRo12 := Lib.hid hU
          obtain ⟨Ao13, co13, rfl⟩ := Kd.R_slice hN
          have HRo13 := Lib.hid hN
          obtain ⟨Ao14, co14, rfl⟩ := Kd.R_slice hT
          have HRo14 := Lib.hid hT
          clear hU hN hT hbl
          have hbl := (Below.refl w10.heap.size w10).alloc (Nat.le_refl _) (.cells #[.int .i64 p0, .int .i64 p1, .int .i64 p2, .int .i64 p3, .int .i64 p4, .int .i64 p5, .int .i64 p6, .int .i64 p7, .int .i64 p8, .bool p9, .int .i64 p10, .int .i64 p11, .slice Ao12 lp12.length co12, .slice Ao13 lp13.length co13, .slice Ao14 lp14.length co14] 43)
          have hnew := blk_new w10 (.cells #[.int .i64 p0, .int .i64 p1, .int .i64 p2, .int .i64 p3, .int .i64 p4, .int .i64 p5, .int .i64 p6, .int .i64 p7, .int .i64 p8, .bool p9, .int .i64 p10, .int .i64 p11, .slice Ao12 lp12.length co12, .slice Ao13 lp13.length co13, .slice Ao14 lp14.length co14] 43)
          have HB' := Lib.hid (HB.out.trans (hbl.mono HB.out.size))
          clear HB
          have HB := HB'
          clear HB'
          have HA' := Lib.hid (blk_below HA.out hbl)
          clear HA
          have HA := HA'
          clear HA'
          have HQ' := Lib.hid (blk_below HQ.out hbl)
          clear HQ
          have HQ := HQ'
          clear HQ'
          have HCb' := Lib.hid (Kd.C_below HCb.out hbl)
          clear HCb
          have HCb := HCb'
          clear HCb'
          have HC0_12' := Lib.hid (Kd.C_below HC0_12.out hbl)
          clear HC0_12
          have HC0_12 := HC0_12'
          clear HC0_12'
          have HC0_13' := Lib.hid (Kd.C_below HC0_13.out hbl)
          clear HC0_13
          have HC0_13 := HC0_13'
          clear HC0_13'
          have HC0_14' := Lib.hid (Kd.C_below HC0_14.out hbl)
          clear HC0_14
          have HC0_14 := HC0_14'
          clear HC0_14'
          have HC1_12' := Lib.hid (Kd.C_below HC1_12.out hbl)
          clear HC1_12
          have HC1_12 := HC1_12'
          clear HC1_12'
          have HC1_13' := Lib.hid (Kd.C_below HC1_13.out hbl)
          clear HC1_13
          have HC1_13 := HC1_13'
          clear HC1_13'
          have HC1_14' := Lib.hid (Kd.C_below HC1_14.out hbl)
          clear HC1_14
          have HC1_14 := HC1_14'
          clear HC1_14'
          have HIN' := Lib.hid (Kd.R_below HIN.out hbl)
          clear HIN
          have HIN := HIN'
          clear HIN'
          have HX' := Lib.hid (Kd.R_below HX.out hbl)
          clear HX
          have HX := HX'
          clear HX'
          have HY' := Lib.hid (Kd.R_below HY.out hbl)
          clear HY
          have HY := HY'
          clear HY'
          have HRp12' := Lib.hid (Kd.R_below HRp12.out hbl)
          clear HRp12
          have HRp12 := HRp12'
          clear HRp12'
          have HRp13' := Lib.hid (Kd.R_below HRp13.out hbl)
          clear HRp13
          have HRp13 := HRp13'
          clear HRp13'
          have HRp14' := Lib.hid (Kd.R_below HRp14.out hbl)
          clear HRp14
          have HRp14 := HRp14'
          clear HRp14'
          have HPp' := Lib.hid (blk_below HPp.out hbl)
          clear HPp
          have HPp := HPp'
          clear HPp'
          have HRo12' := Lib.hid (Kd.R_below HRo12.out hbl)
          clear HRo12
          have HRo12 := HRo12'
          clear HRo12'
          have HRo13' := Lib.hid (Kd.R_below HRo13.out hbl)
          clear HRo13
          have HRo13 := HRo13'
          clear HRo13'
          have HRo14' := Lib.hid (Kd.R_below HRo14.out hbl)
          clear HRo14
          have HRo14 := HRo14'
          clear HRo14'
          have HPo := Lib.hid hnew
          clear hnew hbl
          go_wp2_with fail
          generalize hal : w10.alloc (.cells #[.int .i64 p0, .int .i64 p1, .int .i64 p2, .int .i64 p3, .int .i64 p4, .int .i64 p5, .int .i64 p6, .int .i64 p7, .int .i64 p8, .bool p9, .int .i64 p10, .int .i64 p11, .slice Ao12 lp12.length co12, .slice Ao13 lp13.length co13, .slice Ao14 lp14.length co14] 43) = w11 at *
          clear hal
          generalize w10.heap.size = go at *
          clear HV
          as_aux_lemma =>
            obtain ⟨bs, hs1, hs2⟩ := same_both ⟨a0_0, a0_1, a0_2, a0_3, a0_4, a0_5, a0_6, a0_7, a0_8, a0_9, a0_10, a0_11, l0_12, l0_13, l0_14⟩ ⟨a1_0, a1_1, a1_2, a1_3, a1_4, a1_5, a1_6, a1_7, a1_8, a1_9, a1_10, a1_11, l1_12, l1_13, l1_14⟩ hfu hfn HB0.out HB1.out
            have Hs1 := Lib.hid hs1
            have Hs2 := Lib.hid hs2
            clear hs1 hs2
            have Hm1 := Lib.hid (may1000 ⟨a0_0, a0_1, a0_2, a0_3, a0_4, a0_5, a0_6, a0_7, a0_8, a0_9, a0_10, a0_11, l0_12, l0_13, l0_14⟩ hfu hfn)
            have Hm2 := Lib.hid (vmay1000 ⟨a0_0, a0_1, a0_2, a0_3, a0_4, a0_5, a0_6, a0_7, a0_8, a0_9, a0_10, a0_11, l0_12, l0_13, l0_14⟩ hfu hfn)
            generalize mayB ⟨a0_0, a0_1, a0_2, a0_3, a0_4, a0_5, a0_6, a0_7, a0_8, a0_9, a0_10, a0_11, l0_12, l0_13, l0_14⟩ = mb at *
            have Hps := Lib.hid (vsame_self ⟨p0, p1, p2, p3, p4, p5, p6, p7, p8, p9, p10, p11, lp12, lp13, lp14⟩ hdu hdn Hdb.out)
            have Hbx := Lib.hid ((vbytes_eq x x Hxb.out Hxb.out).trans (congrArg some (decide_eq_true rfl)))
            have Hbb := Lib.hid ((vbytes_eq l2 l2 HBy.out HBy.out).trans (congrArg some (decide_eq_true rfl)))
            have hS := Lib.hid (fun (w' : World) (z : Below w11.heap.size w11 w') => cells60 HA.out HQ.out HPp.out HPo.out z)
            have K0 := Lib.hid (lift_S (w0 := w11) (fun wk zk => voklaw19_first.calls 1000 true wk (first_eq 1000 (by omega) (by omega))))
            have K1 := Lib.hid (lift_D (w0 := w11) (fun wk zk => vokref_Bytes.calls Ax cx x Ay cy x _ wk (Kd.C_below (Kd.R_reads' HX.out).2.2 zk) (Kd.R_reads' HX.out).2.1 (Kd.C_below (Kd.R_reads' HY.out).2.2 zk) (Kd.R_reads' HY.out).2.1 Hbx.out))
            have K2 := Lib.hid (lift_S (w0 := w11) (fun wk zk => wire_May.calls 1000 a0_0 a0_1 a0_2 a0_3 a0_4 a0_5 a0_6 a0_7 a0_8 a0_9 a0_10 a0_11 A0_12 c0_12 l0_12 A0_13 c0_13 l0_13 A0_14 c0_14 l0_14 mb wk (Kd.C_below HC0_12.out zk) hc0_12 (Kd.C_below HC0_13.out zk) hc0_13 (Kd.C_below HC0_14.out zk) hc0_14 Hm1.out))
            have K3 := Lib.hid (lift_S (w0 := w11) (fun wk zk => plain_any a0_0 a0_1 a0_2 a0_3 a0_4 a0_5 a0_6 a0_7 a0_8 a0_9 a0_10 a0_11 A0_12 A0_13 A0_14 l0_12.length c0_12 l0_13.length c0_13 l0_14.length c0_14 wk))
            have K4 := Lib.hid (lift_S (w0 := w11) (fun wk zk => vokref17_Msg_May.calls 1000 a0_0 a0_1 a0_2 a0_3 a0_4 a0_5 a0_6 a0_7 a0_8 a0_9 a0_10 a0_11 A0_12 c0_12 l0_12 A0_13 c0_13 l0_13 A0_14 c0_14 l0_14 mb wk (Kd.C_below HC0_12.out zk) hc0_12 (Kd.C_below HC0_13.out zk) hc0_13 (Kd.C_below HC0_14.out zk) hc0_14 Hm2.out))
            have K5 := Lib.hid (lift_S (w0 := w11) (fun wk zk => plain_any p0 p1 p2 p3 p4 p5 p6 p7 p8 p9 p10 p11 Ap12 Ap13 Ap14 lp12.length cp12 lp13.length cp13 lp14.length cp14 wk))
            have K6 := Lib.hid (lift_S (w0 := w11) (fun wk zk => vokref17_Msg_Same.calls 30000 p0 p1 p2 p3 p4 p5 p6 p7 p8 p9 p10 p11 Ap12 cp12 lp12 Ap13 cp13 lp13 Ap14 cp14 lp14 p0 p1 p2 p3 p4 p5 p6 p7 p8 p9 p10 p11 Ao12 co12 lp12 Ao13 co13 lp13 Ao14 co14 lp14 true wk (Kd.C_below (Kd.R_reads' HRp12.out).2.2 zk) (Kd.R_reads' HRp12.out).2.1 (Kd.C_below (Kd.R_reads' HRp13.out).2.2 zk) (Kd.R_reads' HRp13.out).2.1 (Kd.C_below (Kd.R_reads' HRp14.out).2.2 zk) (Kd.R_reads' HRp14.out).2.1 (Kd.C_below (Kd.R_reads' HRo12.out).2.2 zk) (Kd.R_reads' HRo12.out).2.1 (Kd.C_below (Kd.R_reads' HRo13.out).2.2 zk) (Kd.R_reads' HRo13.out).2.1 (Kd.C_below (Kd.R_reads' HRo14.out).2.2 zk) (Kd.R_reads' HRo14.out).2.1 Hps.out))
            have K7 := Lib.hid (lift_S (w0 := w11) (fun wk zk => wire_Same.calls 1000 a0_0 a0_1 a0_2 a0_3 a0_4 a0_5 a0_6 a0_7 a0_8 a0_9 a0_10 a0_11 A0_12 c0_12 l0_12 A0_13 c0_13 l0_13 A0_14 c0_14 l0_14 a1_0 a1_1 a1_2 a1_3 a1_4 a1_5 a1_6 a1_7 a1_8 a1_9 a1_10 a1_11 A1_12 c1_12 l1_12 A1_13 c1_13 l1_13 A1_14 c1_14 l1_14 bs wk (Kd.C_below HC0_12.out zk) hc0_12 (Kd.C_below HC0_13.out zk) hc0_13 (Kd.C_below HC0_14.out zk) hc0_14 (Kd.C_below HC1_12.out zk) hc1_12 (Kd.C_below HC1_13.out zk) hc1_13 (Kd.C_below HC1_14.out zk) hc1_14 Hs1.out))
            have K8 := Lib.hid (lift_S (w0 := w11) (fun wk zk => plain_any a0_0 a0_1 a0_2 a0_3 a0_4 a0_5 a0_6 a0_7 a0_8 a0_9 a0_10 a0_11 A0_12 A0_13 A0_14 l0_12.length c0_12 l0_13.length c0_13 l0_14.length c0_14 wk))
            have K9 := Lib.hid (lift_S (w0 := w11) (fun wk zk => plain_any a1_0 a1_1 a1_2 a1_3 a1_4 a1_5 a1_6 a1_7 a1_8 a1_9 a1_10 a1_11 A1_12 A1_13 A1_14 l1_12.length c1_12 l1_13.length c1_13 l1_14.length c1_14 wk))
            have K10 := Lib.hid (lift_S (w0 := w11) (fun wk zk => vokref17_Msg_Same.calls 1000 a0_0 a0_1 a0_2 a0_3 a0_4 a0_5 a0_6 a0_7 a0_8 a0_9 a0_10 a0_11 A0_12 c0_12 l0_12 A0_13 c0_13 l0_13 A0_14 c0_14 l0_14 a1_0 a1_1 a1_2 a1_3 a1_4 a1_5 a1_6 a1_7 a1_8 a1_9 a1_10 a1_11 A1_12 c1_12 l1_12 A1_13 c1_13 l1_13 A1_14 c1_14 l1_14 bs wk (Kd.C_below HC0_12.out zk) hc0_12 (Kd.C_below HC0_13.out zk) hc0_13 (Kd.C_below HC0_14.out zk) hc0_14 (Kd.C_below HC1_12.out zk) hc1_12 (Kd.C_below HC1_13.out zk) hc1_13 (Kd.C_below HC1_14.out zk) hc1_14 Hs2.out))
            have K11 := Lib.hid (lift_D (w0 := w11) (fun wk zk => vokref_Bytes.calls Ain cin l2 A2 c2 l2 _ wk (Kd.C_below (Kd.R_reads' HIN.out).2.2 zk) (Kd.R_reads' HIN.out).2.1 (Kd.C_below HCb.out zk) hc2 Hbb.out))
            have HBf := Lib.hid HB.out
            clear HB
            clear Hs1 Hs2 Hm1 Hm2 Hps Hbx Hbb HA HC0_12 HC0_13 HC0_14 HC1_12 HC1_13 HC1_14 HCb HIN HPo HPp HQ HRo12 HRo13 HRo14 HRp12 HRp13 HRp14 HX HY HBy HB0 HB1 Hxb Hdb hfu hfn hft hqu hqn hqt hlb hdu hdn hfe hfq hc0_12 hc0_13 hc0_14 hc1_12 hc1_13 hc1_14 hc2
            refine last_any _ _ _ _ _ _ _ _ _ _ _ _ _ _ _ _ _ _ _ _ _ _ _ _ _ _ _ _ _ _ _ _ _ _ _ _ _ _ _ _ _ _ _ _ _ _ _ _ _ _ _ _ _ _ _ _ _ _ _ _ _ _ _ _ _ _ _ _ _ _ _ _ _ _ _ _ _ _ _ _ _ _ _ _ _ _ _ _ _ _ _ _ _ _ _ _ _ _ _ _ _ _ _ _ _ _ _ _ _ _ _ _ _ _ _ _ _ _ _ _ _ _ _ _ _ _ _ _ _ _ _ _ _ _ _ hS.out K0.out K1.out K2.out K3.out K4.out K5.out K6.out K7.out K8.out K9.out K10.out K11.out _ (fun _ _ d _ _ h => (by cases d <;> exact h)) (fun f0 f1 f2 f3 f4 f5 f7 f8 f9 f10 f11 f12 f13 f14 f15 f16 f17 f18 f19 f20 f21 f22 f23 f24 f25 f26 f27 f28 f29 f30 f31 f32 f33 f34 f35 f36 f37 f38 f39 f40 f41 f42 f43 f44 f45 f46 f47 f48 f49 f50 f51 f52 f53 f54 f55 f56 f57 f58 f59 f60 f61 f62 f63 f64 f65 f66 f67 f68 f69 f70 f71 f72 f73 f74 f75 f76 f77 f78 f79 f80 f81 f82 f83 f84 f85 f86 f87 f88 f89 f90 f91 f92 f93 f94 f95 f96 f97 f98 f99 f100 w' hz => ?_)
            go_wp2
            go_ret
            exact ⟨rfl, HBf.out.trans (hz.mono HBf.out.size)⟩
      · have hgt : decide (20000 < l2.length) = true := decide_eq_true (by omega)
        have hgt2 : decide ((20000 : Int) < (l2.length : Int)) = true := decide_eq_true (by omega)
        have HC := Lib.hid (voklaw19_first.calls 1000 true w3 (first_eq 1000 (by omega) (by omega)))
        go_wp2_with fail
        refine HC.out.mono ?_
        rintro e w4 ⟨rfl, hbl⟩
        clear HC
        have HB' := Lib.hid (HB.out.trans (hbl.mono HB.out.size))
        clear HB
        have HB := HB'
        clear HB'
        have HA' := Lib.hid (blk_below HA.out hbl)
        clear HA
        have HA := HA'
        clear HA'
        have HQ' := Lib.hid (blk_below HQ.out hbl)
        clear HQ
        have HQ := HQ'
        clear HQ'
        have HCb' := Lib.hid (Kd.C_below HCb.out hbl)
        clear HCb
        have HCb := HCb'
        clear HCb'
        have HC0_12' := Lib.hid (Kd.C_below HC0_12.out hbl)
        clear HC0_12
        have HC0_12 := HC0_12'
        clear HC0_12'
        have HC0_13' := Lib.hid (Kd.C_below HC0_13.out hbl)
        clear HC0_13
        have HC0_13 := HC0_13'
        clear HC0_13'
        have HC0_14' := Lib.hid (Kd.C_below HC0_14.out hbl)
        clear HC0_14
        have HC0_14 := HC0_14'
        clear HC0_14'
        have HC1_12' := Lib.hid (Kd.C_below HC1_12.out hbl)
        clear HC1_12
        have HC1_12 := HC1_12'
        clear HC1_12'
        have HC1_13' := Lib.hid (Kd.C_below HC1_13.out hbl)
        clear HC1_13
        have HC1_13 := HC1_13'
        clear HC1_13'
        have HC1_14' := Lib.hid (Kd.C_below HC1_14.out hbl)
        clear HC1_14
        have HC1_14 := HC1_14'
        clear HC1_14'
        clear hbl
        go_wp2
        go_ret
        exact ⟨rfl, HB.out⟩
    · have hfeqd := Lib.hid (hfq.out.trans (congrArg some (decide_eq_false hfeq)))
      have xq0 := blk_cell HQ.out 0
      have xq1 := blk_cell HQ.out 1
      have xq2 := blk_cell HQ.out 2
      have xq3 := blk_cell HQ.out 3
      have xq4 := blk_cell HQ.out 4
      have xq5 := blk_cell HQ.out 5
      have xq6 := blk_cell HQ.out 6
      have xq7 := blk_cell HQ.out 7
      have xq8 := blk_cell HQ.out 8
      have xq9 := blk_cell HQ.out 9
      have xq10 := blk_cell HQ.out 10
      have xq11 := blk_cell HQ.out 11
      have xq12 := blk_cell HQ.out 12
      have xq13 := blk_cell HQ.out 13
      have xq14 := blk_cell HQ.out 14
      simp only [List.getElem?_toArray, List.getElem?_cons_succ, List.getElem?_cons_zero] at xq0 xq1 xq2 xq3 xq4 xq5 xq6 xq7 xq8 xq9 xq10 xq11 xq12 xq13 xq14
      have HC := Lib.hid (voklaw19_Few.calls a1_0 a1_1 a1_2 a1_3 a1_4 a1_5 a1_6 a1_7 a1_8 a1_9 a1_10 a1_11 A1_12 c1_12 l1_12 A1_13 c1_13 l1_13 A1_14 c1_14 l1_14 false w2 HC1_12.out hc1_12 HC1_13.out hc1_13 HC1_14.out hc1_14 hfeqd.out)
      go_wp2_with fail
      refine HC.out.mono ?_
      rintro e w3 ⟨rfl, hbl⟩
      clear HC
      clear xq0 xq1 xq2 xq3 xq4 xq5 xq6 xq7 xq8 xq9 xq10 xq11 xq12 xq13 xq14
      have HB' := Lib.hid (HB.out.trans (hbl.mono HB.out.size))
      clear HB
      have HB := HB'
      clear HB'
      have HA' := Lib.hid (blk_below HA.out hbl)
      clear HA
      have HA := HA'
      clear HA'
      have HQ' := Lib.hid (blk_below HQ.out hbl)
      clear HQ
      have HQ := HQ'
      clear HQ'
      have HCb' := Lib.hid (Kd.C_below HCb.out hbl)
      clear HCb
      have HCb := HCb'
      clear HCb'
      have HC0_12' := Lib.hid (Kd.C_below HC0_12.out hbl)
      clear HC0_12
      have HC0_12 := HC0_12'
      clear HC0_12'
      have HC0_13' := Lib.hid (Kd.C_below HC0_13.out hbl)
      clear HC0_13
      have HC0_13 := HC0_13'
      clear HC0_13'
      have HC0_14' := Lib.hid (Kd.C_below HC0_14.out hbl)
      clear HC0_14
      have HC0_14 := HC0_14'
      clear HC0_14'
      have HC1_12' := Lib.hid (Kd.C_below HC1_12.out hbl)
      clear HC1_12
      have HC1_12 := HC1_12'
      clear HC1_12'
      have HC1_13' := Lib.hid (Kd.C_below HC1_13.out hbl)
      clear HC1_13
      have HC1_13 := HC1_13'
      clear HC1_13'
      have HC1_14' := Lib.hid (Kd.C_below HC1_14.out hbl)
      clear HC1_14
      have HC1_14 := HC1_14'
      clear HC1_14'
      clear hbl
      have HC := Lib.hid (voklaw19_first.calls 1000 true w3 (first_eq 1000 (by omega) (by omega)))
      go_wp2_with fail
      refine HC.out.mono ?_
      rintro e w4 ⟨rfl, hbl⟩
      clear HC
      have HB' := Lib.hid (HB.out.trans (hbl.mono HB.out.size))
      clear HB
      have HB := HB'
      clear HB'
      have HA' := Lib.hid (blk_below HA.out hbl)
      clear HA
      have HA := HA'
      clear HA'
      have HQ' := Lib.hid (blk_below HQ.out hbl)
      clear HQ
      have HQ := HQ'
      clear HQ'
      have HCb' := Lib.hid (Kd.C_below HCb.out hbl)
      clear HCb
      have HCb := HCb'
      clear HCb'
      have HC0_12' := Lib.hid (Kd.C_below HC0_12.out hbl)
      clear HC0_12
      have HC0_12 := HC0_12'
      clear HC0_12'
      have HC0_13' := Lib.hid (Kd.C_below HC0_13.out hbl)
      clear HC0_13
      have HC0_13 := HC0_13'
      clear HC0_13'
      have HC0_14' := Lib.hid (Kd.C_below HC0_14.out hbl)
      clear HC0_14
      have HC0_14 := HC0_14'
      clear HC0_14'
      have HC1_12' := Lib.hid (Kd.C_below HC1_12.out hbl)
      clear HC1_12
      have HC1_12 := HC1_12'
      clear HC1_12'
      have HC1_13' := Lib.hid (Kd.C_below HC1_13.out hbl)
      clear HC1_13
      have HC1_13 := HC1_13'
      clear HC1_13'
      have HC1_14' := Lib.hid (Kd.C_below HC1_14.out hbl)
      clear HC1_14
      have HC1_14 := HC1_14'
      clear HC1_14'
      clear hbl
      go_wp2
      go_ret
      exact ⟨rfl, HB.out⟩
  · have hfed := Lib.hid (hfe.out.trans (congrArg some (decide_eq_false hfew)))
    have xc0 := blk_cell HA.out 0
    have xc1 := blk_cell HA.out 1
    have xc2 := blk_cell HA.out 2
    have xc3 := blk_cell HA.out 3
    have xc4 := blk_cell HA.out 4
    have xc5 := blk_cell HA.out 5
    have xc6 := blk_cell HA.out 6
    have xc7 := blk_cell HA.out 7
    have xc8 := blk_cell HA.out 8
    have xc9 := blk_cell HA.out 9
    have xc10 := blk_cell HA.out 10
    have xc11 := blk_cell HA.out 11
    have xc12 := blk_cell HA.out 12
    have xc13 := blk_cell HA.out 13
    have xc14 := blk_cell HA.out 14
    simp only [List.getElem?_toArray, List.getElem?_cons_succ, List.getElem?_cons_zero] at xc0 xc1 xc2 xc3 xc4 xc5 xc6 xc7 xc8 xc9 xc10 xc11 xc12 xc13 xc14
    have HC := Lib.hid (voklaw19_Few.calls a0_0 a0_1 a0_2 a0_3 a0_4 a0_5 a0_6 a0_7 a0_8 a0_9 a0_10 a0_11 A0_12 c0_12 l0_12 A0_13 c0_13 l0_13 A0_14 c0_14 l0_14 false w1 HC0_12.out hc0_12 HC0_13.out hc0_13 HC0_14.out hc0_14 hfed.out)
    go_wp2_with fail
    refine HC.out.mono ?_
    rintro e w2 ⟨rfl, hbl⟩
    clear HC
    clear xc0 xc1 xc2 xc3 xc4 xc5 xc6 xc7 xc8 xc9 xc10 xc11 xc12 xc13 xc14
    have HB' := Lib.hid (HB.out.trans (hbl.mono HB.out.size))
    clear HB
    have HB := HB'
    clear HB'
    have HA' := Lib.hid (blk_below HA.out hbl)
    clear HA
    have HA := HA'
    clear HA'
    have HQ' := Lib.hid (blk_below HQ.out hbl)
    clear HQ
    have HQ := HQ'
    clear HQ'
    have HCb' := Lib.hid (Kd.C_below HCb.out hbl)
    clear HCb
    have HCb := HCb'
    clear HCb'
    have HC0_12' := Lib.hid (Kd.C_below HC0_12.out hbl)
    clear HC0_12
    have HC0_12 := HC0_12'
    clear HC0_12'
    have HC0_13' := Lib.hid (Kd.C_below HC0_13.out hbl)
    clear HC0_13
    have HC0_13 := HC0_13'
    clear HC0_13'
    have HC0_14' := Lib.hid (Kd.C_below HC0_14.out hbl)
    clear HC0_14
    have HC0_14 := HC0_14'
    clear HC0_14'
    have HC1_12' := Lib.hid (Kd.C_below HC1_12.out hbl)
    clear HC1_12
    have HC1_12 := HC1_12'
    clear HC1_12'
    have HC1_13' := Lib.hid (Kd.C_below HC1_13.out hbl)
    clear HC1_13
    have HC1_13 := HC1_13'
    clear HC1_13'
    have HC1_14' := Lib.hid (Kd.C_below HC1_14.out hbl)
    clear HC1_14
    have HC1_14 := HC1_14'
    clear HC1_14'
    clear hbl
    have HC := Lib.hid (voklaw19_first.calls 1000 true w2 (first_eq 1000 (by omega) (by omega)))
    go_wp2_with fail
    refine HC.out.mono ?_
    rintro e w3 ⟨rfl, hbl⟩
    clear HC
    have HB' := Lib.hid (HB.out.trans (hbl.mono HB.out.size))
    clear HB
    have HB := HB'
    clear HB'
    have HA' := Lib.hid (blk_below HA.out hbl)
    clear HA
    have HA := HA'
    clear HA'
    have HQ' := Lib.hid (blk_below HQ.out hbl)
    clear HQ
    have HQ := HQ'
    clear HQ'
    have HCb' := Lib.hid (Kd.C_below HCb.out hbl)
    clear HCb
    have HCb := HCb'
    clear HCb'
    have HC0_12' := Lib.hid (Kd.C_below HC0_12.out hbl)
    clear HC0_12
    have HC0_12 := HC0_12'
    clear HC0_12'
    have HC0_13' := Lib.hid (Kd.C_below HC0_13.out hbl)
    clear HC0_13
    have HC0_13 := HC0_13'
    clear HC0_13'
    have HC0_14' := Lib.hid (Kd.C_below HC0_14.out hbl)
    clear HC0_14
    have HC0_14 := HC0_14'
    clear HC0_14'
    have HC1_12' := Lib.hid (Kd.C_below HC1_12.out hbl)
    clear HC1_12
    have HC1_12 := HC1_12'
    clear HC1_12'
    have HC1_13' := Lib.hid (Kd.C_below HC1_13.out hbl)
    clear HC1_13
    have HC1_13 := HC1_13'
    clear HC1_13'
    have HC1_14' := Lib.hid (Kd.C_below HC1_14.out hbl)
    clear HC1_14
    have HC1_14 := HC1_14'
    clear HC1_14'
    clear hbl
    go_wp2
    go_ret
    exact ⟨rfl, HB.out⟩
end Go.Proofs.Ytleljfmhefobeaa.WalkWireCodes
