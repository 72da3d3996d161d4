/- RecCodes: the walk. -/
import Derived.Test.YtleljfmhefobeaaGJAux
import Derived.WalkKit
import Derived.WalkSpells
import Derived.Lib.Hide
set_option linter.unusedVariables false
set_option linter.unusedSimpArgs false
namespace Go.Proofs.Ytleljfmhefobeaa.WalkRecCodes
open Go.RowKit Go.Proofs.YtleljfmhefobeaaW.PrintWords Go.Proofs.YtleljfmhefobeaaW.PrintLast Go.Proofs.YtleljfmhefobeaaW.PrintMore Go.Proofs.Ytleljfmhefobeaa.GJ Go.Proofs.Ytleljfmhefobeaa.GJPa Go.Proofs.Ytleljfmhefobeaa.GJPe Go.Proofs.Ytleljfmhefobeaa.GJPr Go.Proofs.Ytleljfmhefobeaa.GJTail Go.Proofs.Ytleljfmhefobeaa.GJSrc Go.Proofs.Ytleljfmhefobeaa.GJDec Go.Proofs.Ytleljfmhefobeaa.GJRr Go.Proofs.Ytleljfmhefobeaa.GJVd Go.Proofs.Ytleljfmhefobeaa.GJAux

set_option maxRecDepth 100000 in
set_option maxHeartbeats 4000000 in
theorem walk (a0_0 : Int) (a0_1 : Int) (a0_2 : Int) (a0_3 : Int) (a0_4 : Int) (a0_5 : Bool) (A0_6 : Option Addr) (c0_6 : Nat) (l0_6 : List Int) (A0_7 : Option Addr) (c0_7 : Nat) (l0_7 : List Int) (A0_8 : Option Addr) (c0_8 : Nat) (l0_8 : List Int) (a1_0 : Int) (a1_1 : Int) (a1_2 : Int) (a1_3 : Int) (a1_4 : Int) (a1_5 : Bool) (A1_6 : Option Addr) (c1_6 : Nat) (l1_6 : List Int) (A1_7 : Option Addr) (c1_7 : Nat) (l1_7 : List Int) (A1_8 : Option Addr) (c1_8 : Nat) (l1_8 : List Int) (A2 : Option Addr) (c2 : Nat) (l2 : List Int) (w : World) (hr0_6 : Kd.C (Kd.int .i64) w A0_6 l0_6.length l0_6) (hc0_6 : l0_6.length ≤ c0_6) (hr0_7 : Kd.C (Kd.int .i64) w A0_7 l0_7.length l0_7) (hc0_7 : l0_7.length ≤ c0_7) (hr0_8 : Kd.C (Kd.int .u8) w A0_8 l0_8.length l0_8) (hc0_8 : l0_8.length ≤ c0_8) (hr1_6 : Kd.C (Kd.int .i64) w A1_6 l1_6.length l1_6) (hc1_6 : l1_6.length ≤ c1_6) (hr1_7 : Kd.C (Kd.int .i64) w A1_7 l1_7.length l1_7) (hc1_7 : l1_7.length ≤ c1_7) (hr1_8 : Kd.C (Kd.int .u8) w A1_8 l1_8.length l1_8) (hc1_8 : l1_8.length ≤ c1_8) (hr2 : Kd.C (Kd.int .u8) w A2 l2.length l2) (hc2 : l2.length ≤ c2)
    (hb0 : bytesL l0_8) (hb1 : bytesL l1_8) (hb2 : bytesL l2) :
    Calls Try.prog 11 #[.agg #[.int .i64 a0_0, .int .i64 a0_1, .int .i64 a0_2, .int .i64 a0_3, .int .i64 a0_4, .bool a0_5, .slice A0_6 l0_6.length c0_6, .slice A0_7 l0_7.length c0_7, .slice A0_8 l0_8.length c0_8], .agg #[.int .i64 a1_0, .int .i64 a1_1, .int .i64 a1_2, .int .i64 a1_3, .int .i64 a1_4, .bool a1_5, .slice A1_6 l1_6.length c1_6, .slice A1_7 l1_7.length c1_7, .slice A1_8 l1_8.length c1_8], .slice A2 l2.length c2] w fun e w' => e = .returned (.bool true) ∧ Below w.heap.size w w' := by
  have hurec := Try.underlying34
  have huref := Try.underlying53
  have HBy := Lib.hid hb2
  have HB0 := Lib.hid hb0
  have HB1 := Lib.hid hb1
  have hbl := ((Below.refl w.heap.size w).alloc (Nat.le_refl _) (.cells #[.int .i64 a0_0, .int .i64 a0_1, .int .i64 a0_2, .int .i64 a0_3, .int .i64 a0_4, .bool a0_5, .slice A0_6 l0_6.length c0_6, .slice A0_7 l0_7.length c0_7, .slice A0_8 l0_8.length c0_8] 34)).alloc (by simp) (.cells #[.int .i64 a1_0, .int .i64 a1_1, .int .i64 a1_2, .int .i64 a1_3, .int .i64 a1_4, .bool a1_5, .slice A1_6 l1_6.length c1_6, .slice A1_7 l1_7.length c1_7, .slice A1_8 l1_8.length c1_8] 34)
  have HB := Lib.hid hbl
  have HA := Lib.hid (blk_alloc (blk_new w (.cells #[.int .i64 a0_0, .int .i64 a0_1, .int .i64 a0_2, .int .i64 a0_3, .int .i64 a0_4, .bool a0_5, .slice A0_6 l0_6.length c0_6, .slice A0_7 l0_7.length c0_7, .slice A0_8 l0_8.length c0_8] 34)) (.cells #[.int .i64 a1_0, .int .i64 a1_1, .int .i64 a1_2, .int .i64 a1_3, .int .i64 a1_4, .bool a1_5, .slice A1_6 l1_6.length c1_6, .slice A1_7 l1_7.length c1_7, .slice A1_8 l1_8.length c1_8] 34))
  have HQ := Lib.hid (blk_new (w.alloc (.cells #[.int .i64 a0_0, .int .i64 a0_1, .int .i64 a0_2, .int .i64 a0_3, .int .i64 a0_4, .bool a0_5, .slice A0_6 l0_6.length c0_6, .slice A0_7 l0_7.length c0_7, .slice A0_8 l0_8.length c0_8] 34)) (.cells #[.int .i64 a1_0, .int .i64 a1_1, .int .i64 a1_2, .int .i64 a1_3, .int .i64 a1_4, .bool a1_5, .slice A1_6 l1_6.length c1_6, .slice A1_7 l1_7.length c1_7, .slice A1_8 l1_8.length c1_8] 34))
  rw [show (w.alloc (.cells #[.int .i64 a0_0, .int .i64 a0_1, .int .i64 a0_2, .int .i64 a0_3, .int .i64 a0_4, .bool a0_5, .slice A0_6 l0_6.length c0_6, .slice A0_7 l0_7.length c0_7, .slice A0_8 l0_8.length c0_8] 34)).heap.size = w.heap.size + 1 by simp] at HQ
  have HC0_6 := Lib.hid (Kd.C_below hr0_6 hbl)
  have HC0_7 := Lib.hid (Kd.C_below hr0_7 hbl)
  have HC0_8 := Lib.hid (Kd.C_below hr0_8 hbl)
  have HC1_6 := Lib.hid (Kd.C_below hr1_6 hbl)
  have HC1_7 := Lib.hid (Kd.C_below hr1_7 hbl)
  have HC1_8 := Lib.hid (Kd.C_below hr1_8 hbl)
  have HCb := Lib.hid (Kd.C_below hr2 hbl)
  clear hbl hb0 hb1 hb2 hr2 hr0_6 hr0_7 hr0_8 hr1_6 hr1_7 hr1_8
  have hfe := Lib.hid (few_eq ⟨a0_0, a0_1, a0_2, a0_3, a0_4, a0_5, l0_6, l0_7, l0_8⟩)
  have hfq := Lib.hid (few_eq ⟨a1_0, a1_1, a1_2, a1_3, a1_4, a1_5, l1_6, l1_7, l1_8⟩)
  go_enter Try.func11, Try.ntmps11
  go_wp2_with fail
  generalize hW0 : (w.alloc (.cells #[.int .i64 a0_0, .int .i64 a0_1, .int .i64 a0_2, .int .i64 a0_3, .int .i64 a0_4, .bool a0_5, .slice A0_6 l0_6.length c0_6, .slice A0_7 l0_7.length c0_7, .slice A0_8 l0_8.length c0_8] 34)).alloc (.cells #[.int .i64 a1_0, .int .i64 a1_1, .int .i64 a1_2, .int .i64 a1_3, .int .i64 a1_4, .bool a1_5, .slice A1_6 l1_6.length c1_6, .slice A1_7 l1_7.length c1_7, .slice A1_8 l1_8.length c1_8] 34) = W0 at *
  clear hW0
  have HC := Lib.hid (voklaw16_first.calls 1000 true W0 (first_eq 1000 (by omega) (by omega)))
  go_wp2_with fail
  refine HC.out.mono ?_
  rintro e w1 ⟨rfl, hbl⟩
  clear HC
  have HB' := Lib.hid (HB.out.trans (hbl.mono HB.out.size))
  clear HB
  have HB := HB'
  clear HB'
  have HA' := Lib.hid (blk_below HA.out hbl)
  clear HA
  have HA := HA'
  clear HA'
  have HQ' := Lib.hid (blk_below HQ.out hbl)
  clear HQ
  have HQ := HQ'
  clear HQ'
  have HCb' := Lib.hid (Kd.C_below HCb.out hbl)
  clear HCb
  have HCb := HCb'
  clear HCb'
  have HC0_6' := Lib.hid (Kd.C_below HC0_6.out hbl)
  clear HC0_6
  have HC0_6 := HC0_6'
  clear HC0_6'
  have HC0_7' := Lib.hid (Kd.C_below HC0_7.out hbl)
  clear HC0_7
  have HC0_7 := HC0_7'
  clear HC0_7'
  have HC0_8' := Lib.hid (Kd.C_below HC0_8.out hbl)
  clear HC0_8
  have HC0_8 := HC0_8'
  clear HC0_8'
  have HC1_6' := Lib.hid (Kd.C_below HC1_6.out hbl)
  clear HC1_6
  have HC1_6 := HC1_6'
  clear HC1_6'
  have HC1_7' := Lib.hid (Kd.C_below HC1_7.out hbl)
  clear HC1_7
  have HC1_7 := HC1_7'
  clear HC1_7'
  have HC1_8' := Lib.hid (Kd.C_below HC1_8.out hbl)
  clear HC1_8
  have HC1_8 := HC1_8'
  clear HC1_8'
  clear hbl
  by_cases hfew : l0_6.length ≤ 300 ∧ l0_7.length ≤ 300 ∧ l0_8.length ≤ 20000
  · obtain ⟨hfu, hfn, hft⟩ := hfew
    have xc0 := blk_cell HA.out 0
    have xc1 := blk_cell HA.out 1
    have xc2 := blk_cell HA.out 2
    have xc3 := blk_cell HA.out 3
    have xc4 := blk_cell HA.out 4
    have xc5 := blk_cell HA.out 5
    have xc6 := blk_cell HA.out 6
    have xc7 := blk_cell HA.out 7
    have xc8 := blk_cell HA.out 8
    simp only [List.getElem?_toArray, List.getElem?_cons_succ, List.getElem?_cons_zero] at xc0 xc1 xc2 xc3 xc4 xc5 xc6 xc7 xc8
    have HC := Lib.hid (voklaw16_Few.calls a0_0 a0_1 a0_2 a0_3 a0_4 a0_5 A0_6 c0_6 l0_6 A0_7 c0_7 l0_7 A0_8 c0_8 l0_8 true w1 HC0_6.out hc0_6 HC0_7.out hc0_7 HC0_8.out hc0_8 (hfe.out.trans (congrArg some (decide_eq_true (show l0_6.length ≤ 300 ∧ l0_7.length ≤ 300 ∧ l0_8.length ≤ 20000 from ⟨hfu, hfn, hft⟩)))))
    go_wp2_with fail
    refine HC.out.mono ?_
    rintro e w2 ⟨rfl, hbl⟩
    clear HC
    clear xc0 xc1 xc2 xc3 xc4 xc5 xc6 xc7 xc8
    have HB' := Lib.hid (HB.out.trans (hbl.mono HB.out.size))
    clear HB
    have HB := HB'
    clear HB'
    have HA' := Lib.hid (blk_below HA.out hbl)
    clear HA
    have HA := HA'
    clear HA'
    have HQ' := Lib.hid (blk_below HQ.out hbl)
    clear HQ
    have HQ := HQ'
    clear HQ'
    have HCb' := Lib.hid (Kd.C_below HCb.out hbl)
    clear HCb
    have HCb := HCb'
    clear HCb'
    have HC0_6' := Lib.hid (Kd.C_below HC0_6.out hbl)
    clear HC0_6
    have HC0_6 := HC0_6'
    clear HC0_6'
    have HC0_7' := Lib.hid (Kd.C_below HC0_7.out hbl)
    clear HC0_7
    have HC0_7 := HC0_7'
    clear HC0_7'
    have HC0_8' := Lib.hid (Kd.C_below HC0_8.out hbl)
    clear HC0_8
    have HC0_8 := HC0_8'
    clear HC0_8'
    have HC1_6' := Lib.hid (Kd.C_below HC1_6.out hbl)
    clear HC1_6
    have HC1_6 := HC1_6'
    clear HC1_6'
    have HC1_7' := Lib.hid (Kd.C_below HC1_7.out hbl)
    clear HC1_7
    have HC1_7 := HC1_7'
    clear HC1_7'
    have HC1_8' := Lib.hid (Kd.C_below HC1_8.out hbl)
    clear HC1_8
    have HC1_8 := HC1_8'
    clear HC1_8'
    clear hbl
    by_cases hfeq : l1_6.length ≤ 300 ∧ l1_7.length ≤ 300 ∧ l1_8.length ≤ 20000
    · obtain ⟨hqu, hqn, hqt⟩ := hfeq
      have xq0 := blk_cell HQ.out 0
      have xq1 := blk_cell HQ.out 1
      have xq2 := blk_cell HQ.out 2
      have xq3 := blk_cell HQ.out 3
      have xq4 := blk_cell HQ.out 4
      have xq5 := blk_cell HQ.out 5
      have xq6 := blk_cell HQ.out 6
      have xq7 := blk_cell HQ.out 7
      have xq8 := blk_cell HQ.out 8
      simp only [List.getElem?_toArray, List.getElem?_cons_succ, List.getElem?_cons_zero] at xq0 xq1 xq2 xq3 xq4 xq5 xq6 xq7 xq8
      have HC := Lib.hid (voklaw16_Few.calls a1_0 a1_1 a1_2 a1_3 a1_4 a1_5 A1_6 c1_6 l1_6 A1_7 c1_7 l1_7 A1_8 c1_8 l1_8 true w2 HC1_6.out hc1_6 HC1_7.out hc1_7 HC1_8.out hc1_8 (hfq.out.trans (congrArg some (decide_eq_true (show l1_6.length ≤ 300 ∧ l1_7.length ≤ 300 ∧ l1_8.length ≤ 20000 from ⟨hqu, hqn, hqt⟩)))))
      go_wp2_with fail
      refine HC.out.mono ?_
      rintro e w3 ⟨rfl, hbl⟩
      clear HC
      clear xq0 xq1 xq2 xq3 xq4 xq5 xq6 xq7 xq8
      have HB' := Lib.hid (HB.out.trans (hbl.mono HB.out.size))
      clear HB
      have HB := HB'
      clear HB'
      have HA' := Lib.hid (blk_below HA.out hbl)
      clear HA
      have HA := HA'
      clear HA'
      have HQ' := Lib.hid (blk_below HQ.out hbl)
      clear HQ
      have HQ := HQ'
      clear HQ'
      have HCb' := Lib.hid (Kd.C_below HCb.out hbl)
      clear HCb
      have HCb := HCb'
      clear HCb'
      have HC0_6' := Lib.hid (Kd.C_below HC0_6.out hbl)
      clear HC0_6
      have HC0_6 := HC0_6'
      clear HC0_6'
      have HC0_7' := Lib.hid (Kd.C_below HC0_7.out hbl)
      clear HC0_7
      have HC0_7 := HC0_7'
      clear HC0_7'
      have HC0_8' := Lib.hid (Kd.C_below HC0_8.out hbl)
      clear HC0_8
      have HC0_8 := HC0_8'
      clear HC0_8'
      have HC1_6' := Lib.hid (Kd.C_below HC1_6.out hbl)
      clear HC1_6
      have HC1_6 := HC1_6'
      clear HC1_6'
      have HC1_7' := Lib.hid (Kd.C_below HC1_7.out hbl)
      clear HC1_7
      have HC1_7 := HC1_7'
      clear HC1_7'
      have HC1_8' := Lib.hid (Kd.C_below HC1_8.out hbl)
      clear HC1_8
      have HC1_8 := HC1_8'
      clear HC1_8'
      clear hbl
      by_cases hlb : l2.length ≤ 20000
      · have hgt : decide (20000 < l2.length) = false := decide_eq_false (by omega)
        have hgt2 : decide ((20000 : Int) < (l2.length : Int)) = false := decide_eq_false (by omega)
        have HC := Lib.hid (vokref_CopyBytes.calls A2 c2 l2 _ w3 HCb.out hc2 (copy_eq l2 (by omega)))
        go_wp2_with fail
        refine HC.out.mono ?_
        rintro e w4 ⟨vin, rfl, hIN, hbl⟩
        clear HC
        have HB' := Lib.hid (HB.out.trans (hbl.mono HB.out.size))
        clear HB
        have HB := HB'
        clear HB'
        have HA' := Lib.hid (blk_below HA.out hbl)
        clear HA
        have HA := HA'
        clear HA'
        have HQ' := Lib.hid (blk_below HQ.out hbl)
        clear HQ
        have HQ := HQ'
        clear HQ'
        have HCb' := Lib.hid (Kd.C_below HCb.out hbl)
        clear HCb
        have HCb := HCb'
        clear HCb'
        have HC0_6' := Lib.hid (Kd.C_below HC0_6.out hbl)
        clear HC0_6
        have HC0_6 := HC0_6'
        clear HC0_6'
        have HC0_7' := Lib.hid (Kd.C_below HC0_7.out hbl)
        clear HC0_7
        have HC0_7 := HC0_7'
        clear HC0_7'
        have HC0_8' := Lib.hid (Kd.C_below HC0_8.out hbl)
        clear HC0_8
        have HC0_8 := HC0_8'
        clear HC0_8'
        have HC1_6' := Lib.hid (Kd.C_below HC1_6.out hbl)
        clear HC1_6
        have HC1_6 := HC1_6'
        clear HC1_6'
        have HC1_7' := Lib.hid (Kd.C_below HC1_7.out hbl)
        clear HC1_7
        have HC1_7 := HC1_7'
        clear HC1_7'
        have HC1_8' := Lib.hid (Kd.C_below HC1_8.out hbl)
        clear HC1_8
        have HC1_8 := HC1_8'
        clear HC1_8'
        obtain ⟨Ain, cin, rfl⟩ := Kd.R_slice hIN
        have HIN := Lib.hid hIN
        clear hIN hbl
        obtain ⟨x, ec, hen, hven, hxb⟩ := enc_both ⟨a0_0, a0_1, a0_2, a0_3, a0_4, a0_5, l0_6, l0_7, l0_8⟩ hfu hfn hft HB0.out
        have Hen := Lib.hid hen
        have Hven := Lib.hid hven
        have Hxb := Lib.hid hxb
        clear hen hven hxb
        have xc0 := blk_cell HA.out 0
        have xc1 := blk_cell HA.out 1
        have xc2 := blk_cell HA.out 2
        have xc3 := blk_cell HA.out 3
        have xc4 := blk_cell HA.out 4
        have xc5 := blk_cell HA.out 5
        have xc6 := blk_cell HA.out 6
        have xc7 := blk_cell HA.out 7
        have xc8 := blk_cell HA.out 8
        simp only [List.getElem?_toArray, List.getElem?_cons_succ, List.getElem?_cons_zero] at xc0 xc1 xc2 xc3 xc4 xc5 xc6 xc7 xc8
        have HC := Lib.hid (rec_Encode.calls 1000 a0_0 a0_1 a0_2 a0_3 a0_4 a0_5 A0_6 c0_6 l0_6 A0_7 c0_7 l0_7 A0_8 c0_8 l0_8 x ec w4 HC0_6.out hc0_6 HC0_7.out hc0_7 HC0_8.out hc0_8 Hen.out)
        go_wp2_with fail
        refine HC.out.mono ?_
        rintro e w5 ⟨vx, rfl, hX, hbl⟩
        clear HC
        clear xc0 xc1 xc2 xc3 xc4 xc5 xc6 xc7 xc8
        have HB' := Lib.hid (HB.out.trans (hbl.mono HB.out.size))
        clear HB
        have HB := HB'
        clear HB'
        have HA' := Lib.hid (blk_below HA.out hbl)
        clear HA
        have HA := HA'
        clear HA'
        have HQ' := Lib.hid (blk_below HQ.out hbl)
        clear HQ
        have HQ := HQ'
        clear HQ'
        have HCb' := Lib.hid (Kd.C_below HCb.out hbl)
        clear HCb
        have HCb := HCb'
        clear HCb'
        have HC0_6' := Lib.hid (Kd.C_below HC0_6.out hbl)
        clear HC0_6
        have HC0_6 := HC0_6'
        clear HC0_6'
        have HC0_7' := Lib.hid (Kd.C_below HC0_7.out hbl)
        clear HC0_7
        have HC0_7 := HC0_7'
        clear HC0_7'
        have HC0_8' := Lib.hid (Kd.C_below HC0_8.out hbl)
        clear HC0_8
        have HC0_8 := HC0_8'
        clear HC0_8'
        have HC1_6' := Lib.hid (Kd.C_below HC1_6.out hbl)
        clear HC1_6
        have HC1_6 := HC1_6'
        clear HC1_6'
        have HC1_7' := Lib.hid (Kd.C_below HC1_7.out hbl)
        clear HC1_7
        have HC1_7 := HC1_7'
        clear HC1_7'
        have HC1_8' := Lib.hid (Kd.C_below HC1_8.out hbl)
        clear HC1_8
        have HC1_8 := HC1_8'
        clear HC1_8'
        have HIN' := Lib.hid (Kd.R_below HIN.out hbl)
        clear HIN
        have HIN := HIN'
        clear HIN'
        obtain ⟨Ax, cx, rfl⟩ := Kd.R_slice hX
        have HX := Lib.hid hX
        clear hX hbl Hen
        have xc0 := blk_cell HA.out 0
        have xc1 := blk_cell HA.out 1
        have xc2 := blk_cell HA.out 2
        have xc3 := blk_cell HA.out 3
        have xc4 := blk_cell HA.out 4
        have xc5 := blk_cell HA.out 5
        have xc6 := blk_cell HA.out 6
        have xc7 := blk_cell HA.out 7
        have xc8 := blk_cell HA.out 8
        simp only [List.getElem?_toArray, List.getElem?_cons_succ, List.getElem?_cons_zero] at xc0 xc1 xc2 xc3 xc4 xc5 xc6 xc7 xc8
        have HC := Lib.hid (plain_any a0_0 a0_1 a0_2 a0_3 a0_4 a0_5 A0_6 A0_7 A0_8 l0_6.length c0_6 l0_7.length c0_7 l0_8.length c0_8 w5)
        go_wp2_with fail
        refine HC.out.mono ?_
        rintro e w6 ⟨rfl, hbl⟩
        clear HC
        clear xc0 xc1 xc2 xc3 xc4 xc5 xc6 xc7 xc8
        have HB' := Lib.hid (HB.out.trans (hbl.mono HB.out.size))
        clear HB
        have HB := HB'
        clear HB'
        have HA' := Lib.hid (blk_below HA.out hbl)
        clear HA
        have HA := HA'
        clear HA'
        have HQ' := Lib.hid (blk_below HQ.out hbl)
        clear HQ
        have HQ := HQ'
        clear HQ'
        have HCb' := Lib.hid (Kd.C_below HCb.out hbl)
        clear HCb
        have HCb := HCb'
        clear HCb'
        have HC0_6' := Lib.hid (Kd.C_below HC0_6.out hbl)
        clear HC0_6
        have HC0_6 := HC0_6'
        clear HC0_6'
        have HC0_7' := Lib.hid (Kd.C_below HC0_7.out hbl)
        clear HC0_7
        have HC0_7 := HC0_7'
        clear HC0_7'
        have HC0_8' := Lib.hid (Kd.C_below HC0_8.out hbl)
        clear HC0_8
        have HC0_8 := HC0_8'
        clear HC0_8'
        have HC1_6' := Lib.hid (Kd.C_below HC1_6.out hbl)
        clear HC1_6
        have HC1_6 := HC1_6'
        clear HC1_6'
        have HC1_7' := Lib.hid (Kd.C_below HC1_7.out hbl)
        clear HC1_7
        have HC1_7 := HC1_7'
        clear HC1_7'
        have HC1_8' := Lib.hid (Kd.C_below HC1_8.out hbl)
        clear HC1_8
        have HC1_8 := HC1_8'
        clear HC1_8'
        have HIN' := Lib.hid (Kd.R_below HIN.out hbl)
        clear HIN
        have HIN := HIN'
        clear HIN'
        have HX' := Lib.hid (Kd.R_below HX.out hbl)
        clear HX
        have HX := HX'
        clear HX'
        clear hbl
        have HC := Lib.hid (vokref10_Rec_Encode.calls 1000 a0_0 a0_1 a0_2 a0_3 a0_4 a0_5 A0_6 c0_6 l0_6 A0_7 c0_7 l0_7 A0_8 c0_8 l0_8 x ec w6 HC0_6.out hc0_6 HC0_7.out hc0_7 HC0_8.out hc0_8 Hven.out)
        go_wp2_with fail
        refine HC.out.mono ?_
        rintro e w7 ⟨vy, rfl, hY, hbl⟩
        clear HC
        have HB' := Lib.hid (HB.out.trans (hbl.mono HB.out.size))
        clear HB
        have HB := HB'
        clear HB'
        have HA' := Lib.hid (blk_below HA.out hbl)
        clear HA
        have HA := HA'
        clear HA'
        have HQ' := Lib.hid (blk_below HQ.out hbl)
        clear HQ
        have HQ := HQ'
        clear HQ'
        have HCb' := Lib.hid (Kd.C_below HCb.out hbl)
        clear HCb
        have HCb := HCb'
        clear HCb'
        have HC0_6' := Lib.hid (Kd.C_below HC0_6.out hbl)
        clear HC0_6
        have HC0_6 := HC0_6'
        clear HC0_6'
        have HC0_7' := Lib.hid (Kd.C_below HC0_7.out hbl)
        clear HC0_7
        have HC0_7 := HC0_7'
        clear HC0_7'
        have HC0_8' := Lib.hid (Kd.C_below HC0_8.out hbl)
        clear HC0_8
        have HC0_8 := HC0_8'
        clear HC0_8'
        have HC1_6' := Lib.hid (Kd.C_below HC1_6.out hbl)
        clear HC1_6
        have HC1_6 := HC1_6'
        clear HC1_6'
        have HC1_7' := Lib.hid (Kd.C_below HC1_7.out hbl)
        clear HC1_7
        have HC1_7 := HC1_7'
        clear HC1_7'
        have HC1_8' := Lib.hid (Kd.C_below HC1_8.out hbl)
        clear HC1_8
        have HC1_8 := HC1_8'
        clear HC1_8'
        have HIN' := Lib.hid (Kd.R_below HIN.out hbl)
        clear HIN
        have HIN := HIN'
        clear HIN'
        have HX' := Lib.hid (Kd.R_below HX.out hbl)
        clear HX
        have HX := HX'
        clear HX'
        obtain ⟨Ay, cy, rfl⟩ := Kd.R_slice hY
        have HY := Lib.hid hY
        clear hY hbl Hven
        obtain ⟨hdu, hdn, hdb⟩ := dec_parts l2 HBy.out hlb
        have HC := Lib.hid (decode_any l2 Ain cin w7 HBy.out hlb (Kd.R_reads' HIN.out).2.1 (Kd.R_reads' HIN.out).2.2)
        have HV := Lib.hid (fun w1 (h : Kd.C (Kd.int .u8) w1 A2 l2.length l2) => vdecode_any l2 A2 c2 w1 HBy.out hlb hc2 h)
        generalize dec l2 = dd at *
        obtain ⟨⟨p0, p1, p2, p3, p4, p5, lp6, lp7, lp8⟩, g⟩ := dd
        simp only at hdu hdn hdb
        have Hdb := Lib.hid hdb
        clear hdb
        go_wp2_with fail
        refine HC.out.mono ?_
        rintro e w8 ⟨vu, vn, vt, rfl, hU, hN, hT, hbl⟩
        clear HC
        (try simp only at hU hN hT)
        have HB' := Lib.hid (HB.out.trans (hbl.mono HB.out.size))
        clear HB
        have HB := HB'
        clear HB'
        have HA' := Lib.hid (blk_below HA.out hbl)
        clear HA
        have HA := HA'
        clear HA'
        have HQ' := Lib.hid (blk_below HQ.out hbl)
        clear HQ
        have HQ := HQ'
        clear HQ'
        have HCb' := Lib.hid (Kd.C_below HCb.out hbl)
        clear HCb
        have HCb := HCb'
        clear HCb'
        have HC0_6' := Lib.hid (Kd.C_below HC0_6.out hbl)
        clear HC0_6
        have HC0_6 := HC0_6'
        clear HC0_6'
        have HC0_7' := Lib.hid (Kd.C_below HC0_7.out hbl)
        clear HC0_7
        have HC0_7 := HC0_7'
        clear HC0_7'
        have HC0_8' := Lib.hid (Kd.C_below HC0_8.out hbl)
        clear HC0_8
        have HC0_8 := HC0_8'
        clear HC0_8'
        have HC1_6' := Lib.hid (Kd.C_below HC1_6.out hbl)
        clear HC1_6
        have HC1_6 := HC1_6'
        clear HC1_6'
        have HC1_7' := Lib.hid (Kd.C_below HC1_7.out hbl)
        clear HC1_7
        have HC1_7 := HC1_7'
        clear HC1_7'
        have HC1_8' := Lib.hid (Kd.C_below HC1_8.out hbl)
        clear HC1_8
        have HC1_8 := HC1_8'
        clear HC1_8'
        have HIN' := Lib.hid (Kd.R_below HIN.out hbl)
        clear HIN
        have HIN := HIN'
        clear HIN'
        have HX' := Lib.hid (Kd.R_below HX.out hbl)
        clear HX
        have HX := HX'
        clear HX'
        have HY' := Lib.hid (Kd.R_below HY.out hbl)
        clear HY
        have HY := HY'
        clear HY'
        obtain ⟨Ap6, cp6, rfl⟩ := Kd.R_slice hU
        have HRp6 := Lib.hid hU
        obtain ⟨Ap7, cp7, rfl⟩ := Kd.R_slice hN
        have HRp7 := Lib.hid hN
        obtain ⟨Ap8, cp8, rfl⟩ := Kd.R_slice hT
        have HRp8 := Lib.hid hT
        clear hU hN hT hbl
        have hbl := (Below.refl w8.heap.size w8).alloc (Nat.le_refl _) (.cells #[.int .i64 p0, .int .i64 p1, .int .i64 p2, .int .i64 p3, .int .i64 p4, .bool p5, .slice Ap6 lp6.length cp6, .slice Ap7 lp7.length cp7, .slice Ap8 lp8.length cp8] 34)
        have hnew := blk_new w8 (.cells #[.int .i64 p0, .int .i64 p1, .int .i64 p2, .int .i64 p3, .int .i64 p4, .bool p5, .slice Ap6 lp6.length cp6, .slice Ap7 lp7.length cp7, .slice Ap8 lp8.length cp8] 34)
        have HB' := Lib.hid (HB.out.trans (hbl.mono HB.out.size))
        clear HB
        have HB := HB'
        clear HB'
        have HA' := Lib.hid (blk_below HA.out hbl)
        clear HA
        have HA := HA'
        clear HA'
        have HQ' := Lib.hid (blk_below HQ.out hbl)
        clear HQ
        have HQ := HQ'
        clear HQ'
        have HCb' := Lib.hid (Kd.C_below HCb.out hbl)
        clear HCb
        have HCb := HCb'
        clear HCb'
        have HC0_6' := Lib.hid (Kd.C_below HC0_6.out hbl)
        clear HC0_6
        have HC0_6 := HC0_6'
        clear HC0_6'
        have HC0_7' := Lib.hid (Kd.C_below HC0_7.out hbl)
        clear HC0_7
        have HC0_7 := HC0_7'
        clear HC0_7'
        have HC0_8' := Lib.hid (Kd.C_below HC0_8.out hbl)
        clear HC0_8
        have HC0_8 := HC0_8'
        clear HC0_8'
        have HC1_6' := Lib.hid (Kd.C_below HC1_6.out hbl)
        clear HC1_6
        have HC1_6 := HC1_6'
        clear HC1_6'
        have HC1_7' := Lib.hid (Kd.C_below HC1_7.out hbl)
        clear HC1_7
        have HC1_7 := HC1_7'
        clear HC1_7'
        have HC1_8' := Lib.hid (Kd.C_below HC1_8.out hbl)
        clear HC1_8
        have HC1_8 := HC1_8'
        clear HC1_8'
        have HIN' := Lib.hid (Kd.R_below HIN.out hbl)
        clear HIN
        have HIN := HIN'
        clear HIN'
        have HX' := Lib.hid (Kd.R_below HX.out hbl)
        clear HX
        have HX := HX'
        clear HX'
        have HY' := Lib.hid (Kd.R_below HY.out hbl)
        clear HY
        have HY := HY'
        clear HY'
        have HRp6' := Lib.hid (Kd.R_below HRp6.out hbl)
        clear HRp6
        have HRp6 := HRp6'
        clear HRp6'
        have HRp7' := Lib.hid (Kd.R_below HRp7.out hbl)
        clear HRp7
        have HRp7 := HRp7'
        clear HRp7'
        have HRp8' := Lib.hid (Kd.R_below HRp8.out hbl)
        clear HRp8
        have HRp8 := HRp8'
        clear HRp8'
        have HPp := Lib.hid hnew
        clear hnew hbl
        go_wp2_with fail
        generalize hal : w8.alloc (.cells #[.int .i64 p0, .int .i64 p1, .int .i64 p2, .int .i64 p3, .int .i64 p4, .bool p5, .slice Ap6 lp6.length cp6, .slice Ap7 lp7.length cp7, .slice Ap8 lp8.length cp8] 34) = w9 at *
        clear hal
        generalize w8.heap.size = gp at *
        have HC := Lib.hid (HV.out w9 HCb.out)
        refine HC.out.mono ?_
        rintro e w10 ⟨vu, vn, vt, rfl, hU, hN, hT, hbl⟩
        clear HC
        (try simp only at hU hN hT)
        have HB' := Lib.hid (HB.out.trans (hbl.mono HB.out.size))
        clear HB
        have HB := HB'
        clear HB'
        have HA' := Lib.hid (blk_below HA.out hbl)
        clear HA
        have HA := HA'
        clear HA'
        have HQ' := Lib.hid (blk_below HQ.out hbl)
        clear HQ
        have HQ := HQ'
        clear HQ'
        have HCb' := Lib.hid (Kd.C_below HCb.out hbl)
        clear HCb
        have HCb := HCb'
        clear HCb'
        have HC0_6' := Lib.hid (Kd.C_below HC0_6.out hbl)
        clear HC0_6
        have HC0_6 := HC0_6'
        clear HC0_6'
        have HC0_7' := Lib.hid (Kd.C_below HC0_7.out hbl)
        clear HC0_7
        have HC0_7 := HC0_7'
        clear HC0_7'
        have HC0_8' := Lib.hid (Kd.C_below HC0_8.out hbl)
        clear HC0_8
        have HC0_8 := HC0_8'
        clear HC0_8'
        have HC1_6' := Lib.hid (Kd.C_below HC1_6.out hbl)
        clear HC1_6
        have HC1_6 := HC1_6'
        clear HC1_6'
        have HC1_7' := Lib.hid (Kd.C_below HC1_7.out hbl)
        clear HC1_7
        have HC1_7 := HC1_7'
        clear HC1_7'
        have HC1_8' := Lib.hid (Kd.C_below HC1_8.out hbl)
        clear HC1_8
        have HC1_8 := HC1_8'
        clear HC1_8'
        have HIN' := Lib.hid (Kd.R_below HIN.out hbl)
        clear HIN
        have HIN := HIN'
        clear HIN'
        have HX' := Lib.hid (Kd.R_below HX.out hbl)
        clear HX
        have HX := HX'
        clear HX'
        have HY' := Lib.hid (Kd.R_below HY.out hbl)
        clear HY
        have HY := HY'
        clear HY'
        have HRp6' := Lib.hid (Kd.R_below HRp6.out hbl)
        clear HRp6
        have HRp6 := HRp6'
        clear HRp6'
        have HRp7' := Lib.hid (Kd.R_below HRp7.out hbl)
        clear HRp7
        have HRp7 := HRp7'
        clear HRp7'
        have HRp8' := Lib.hid (Kd.R_below HRp8.out hbl)
        clear HRp8
        have HRp8 := HRp8'
        clear HRp8'
        have HPp' := Lib.hid (blk_below HPp.out hbl)
        clear HPp
        have HPp := HPp'
        clear HPp'
        obtain ⟨Ao6, co6, rfl⟩ := Kd.R_slice hU
        have HRo6 := Lib.hid hU
        obtain ⟨Ao7, co7, rfl⟩ := Kd.R_slice hN
        have HRo7 := Lib.hid hN
        obtain ⟨Ao8, co8, rfl⟩ := Kd.R_slice hT
        have HRo8 := Lib.hid hT
        clear hU hN hT hbl
        have hbl := (Below.refl w10.heap.size w10).alloc (Nat.le_refl _) (.cells #[.int .i64 p0, .int .i64 p1, .int .i64 p2, .int .i64 p3, .int .i64 p4, .bool p5, .slice Ao6 lp6.length co6, .slice Ao7 lp7.length co7, .slice Ao8 lp8.length co8] 53)
        have hnew := blk_new w10 (.cells #[.int .i64 p0, .int .i64 p1, .int .i64 p2, .int .i64 p3, .int .i64 p4, .bool p5, .slice Ao6 lp6.length co6, .slice Ao7 lp7.length co7, .slice Ao8 lp8.length co8] 53)
        have HB' := Lib.hid (HB.out.trans (hbl.mono HB.out.size))
        clear HB
        have HB := HB'
        clear HB'
        have HA' := Lib.hid (blk_below HA.out hbl)
        clear HA
        have HA := HA'
        clear HA'
        have HQ' := Lib.hid (blk_below HQ.out hbl)
        clear HQ
        have HQ := HQ'
        clear HQ'
        have HCb' := Lib.hid (Kd.C_below HCb.out hbl)
        clear HCb
        have HCb := HCb'
        clear HCb'
        have HC0_6' := Lib.hid (Kd.C_below HC0_6.out hbl)
        clear HC0_6
        have HC0_6 := HC0_6'
        clear HC0_6'
        have HC0_7' := Lib.hid (Kd.C_below HC0_7.out hbl)
        clear HC0_7
        have HC0_7 := HC0_7'
        clear HC0_7'
        have HC0_8' := Lib.hid (Kd.C_below HC0_8.out hbl)
        clear HC0_8
        have HC0_8 := HC0_8'
        clear HC0_8'
        have HC1_6' := Lib.hid (Kd.C_below HC1_6.out hbl)
        clear HC1_6
        have HC1_6 := HC1_6'
        clear HC1_6'
        have HC1_7' := Lib.hid (Kd.C_below HC1_7.out hbl)
        clear HC1_7
        have HC1_7 := HC1_7'
        clear HC1_7'
        have HC1_8' := Lib.hid (Kd.C_below HC1_8.out hbl)
        clear HC1_8
        have HC1_8 := HC1_8'
        clear HC1_8'
        have HIN' := Lib.hid (Kd.R_below HIN.out hbl)
        clear HIN
        have HIN := HIN'
        clear HIN'
        have HX' := Lib.hid (Kd.R_below HX.out hbl)
        clear HX
        have HX := HX'
        clear HX'
        have HY' := Lib.hid (Kd.R_below HY.out hbl)
        clear HY
        have HY := HY'
        clear HY'
        have HRp6' := Lib.hid (Kd.R_below HRp6.out hbl)
        clear HRp6
        have HRp6 := HRp6'
        clear HRp6'
        have HRp7' := Lib.hid (Kd.R_below HRp7.out hbl)
        clear HRp7
        have HRp7 := HRp7'
        clear HRp7'
        have HRp8' := Lib.hid (Kd.R_below HRp8.out hbl)
        clear HRp8
        have HRp8 := HRp8'
        clear HRp8'
        have HPp' := Lib.hid (blk_below HPp.out hbl)
        clear HPp
        have HPp := HPp'
        clear HPp'
        have HRo6' := Lib.hid (Kd.R_below HRo6.out hbl)
        clear HRo6
        have HRo6 := HRo6'
        clear HRo6'
        have HRo7' := Lib.hid (Kd.R_below HRo7.out hbl)
        clear HRo7
        have HRo7 := HRo7'
        clear HRo7'
        have HRo8' := Lib.hid (Kd.R_below HRo8.out hbl)
        clear HRo8
        have HRo8 := HRo8'
        clear HRo8'
        have HPo := Lib.hid hnew
        clear hnew hbl
        go_wp2_with fail
        generalize hal : w10.alloc (.cells #[.int .i64 p0, .int .i64 p1, .int .i64 p2, .int .i64 p3, .int .i64 p4, .bool p5, .slice Ao6 lp6.length co6, .slice Ao7 lp7.length co7, .slice Ao8 lp8.length co8] 53) = w11 at *
        clear hal
        generalize w10.heap.size = go at *
        clear HV
        obtain ⟨bs, hs1, hs2⟩ := same_both ⟨a0_0, a0_1, a0_2, a0_3, a0_4, a0_5, l0_6, l0_7, l0_8⟩ ⟨a1_0, a1_1, a1_2, a1_3, a1_4, a1_5, l1_6, l1_7, l1_8⟩ hfu hfn HB0.out HB1.out
        have Hs1 := Lib.hid hs1
        have Hs2 := Lib.hid hs2
        clear hs1 hs2
        have Hm1 := Lib.hid (may_eq' 1000 ⟨a0_0, a0_1, a0_2, a0_3, a0_4, a0_5, l0_6, l0_7, l0_8⟩ (by show l0_6.length + 2 < 1000; omega) (by show l0_7.length + 2 < 1000; omega) (by omega) (by show l0_8.length ≤ 1099511627776; omega))
        have Hm2 := Lib.hid (vmay_eq' 1000 ⟨a0_0, a0_1, a0_2, a0_3, a0_4, a0_5, l0_6, l0_7, l0_8⟩ hfu hfn (by show l0_8.length ≤ 1099511627776; omega) (by omega) (by omega))
        generalize mayB ⟨a0_0, a0_1, a0_2, a0_3, a0_4, a0_5, l0_6, l0_7, l0_8⟩ = mb at *
        have Hps := Lib.hid (vsame_self ⟨p0, p1, p2, p3, p4, p5, lp6, lp7, lp8⟩ hdu hdn Hdb.out)
        have Hbx := Lib.hid ((vbytes_eq x x Hxb.out Hxb.out).trans (congrArg some (decide_eq_true rfl)))
        have Hbb := Lib.hid ((vbytes_eq l2 l2 HBy.out HBy.out).trans (congrArg some (decide_eq_true rfl)))
        have hz0 : Below w11.heap.size w11 w11.drew := (Below.refl _ _).drew
        have HZ0 := Lib.hid hz0
        have hS0 : w11.drew.cell? ⟨w.heap.size, 0, none⟩ = some (.int .i64 a0_0) ∧ w11.drew.cell? ⟨w.heap.size, 1, none⟩ = some (.int .i64 a0_1) ∧ w11.drew.cell? ⟨w.heap.size, 2, none⟩ = some (.int .i64 a0_2) ∧ w11.drew.cell? ⟨w.heap.size, 3, none⟩ = some (.int .i64 a0_3) ∧ w11.drew.cell? ⟨w.heap.size, 4, none⟩ = some (.int .i64 a0_4) ∧ w11.drew.cell? ⟨w.heap.size, 5, none⟩ = some (.bool a0_5) ∧ w11.drew.cell? ⟨w.heap.size, 6, none⟩ = some (.slice A0_6 l0_6.length c0_6) ∧ w11.drew.cell? ⟨w.heap.size, 7, none⟩ = some (.slice A0_7 l0_7.length c0_7) ∧ w11.drew.cell? ⟨w.heap.size, 8, none⟩ = some (.slice A0_8 l0_8.length c0_8) ∧ w11.drew.cell? ⟨w.heap.size + 1, 0, none⟩ = some (.int .i64 a1_0) ∧ w11.drew.cell? ⟨w.heap.size + 1, 1, none⟩ = some (.int .i64 a1_1) ∧ w11.drew.cell? ⟨w.heap.size + 1, 2, none⟩ = some (.int .i64 a1_2) ∧ w11.drew.cell? ⟨w.heap.size + 1, 3, none⟩ = some (.int .i64 a1_3) ∧ w11.drew.cell? ⟨w.heap.size + 1, 4, none⟩ = some (.int .i64 a1_4) ∧ w11.drew.cell? ⟨w.heap.size + 1, 5, none⟩ = some (.bool a1_5) ∧ w11.drew.cell? ⟨w.heap.size + 1, 6, none⟩ = some (.slice A1_6 l1_6.length c1_6) ∧ w11.drew.cell? ⟨w.heap.size + 1, 7, none⟩ = some (.slice A1_7 l1_7.length c1_7) ∧ w11.drew.cell? ⟨w.heap.size + 1, 8, none⟩ = some (.slice A1_8 l1_8.length c1_8) ∧ w11.drew.cell? ⟨gp, 0, none⟩ = some (.int .i64 p0) ∧ w11.drew.cell? ⟨gp, 1, none⟩ = some (.int .i64 p1) ∧ w11.drew.cell? ⟨gp, 2, none⟩ = some (.int .i64 p2) ∧ w11.drew.cell? ⟨gp, 3, none⟩ = some (.int .i64 p3) ∧ w11.drew.cell? ⟨gp, 4, none⟩ = some (.int .i64 p4) ∧ w11.drew.cell? ⟨gp, 5, none⟩ = some (.bool p5) ∧ w11.drew.cell? ⟨gp, 6, none⟩ = some (.slice Ap6 lp6.length cp6) ∧ w11.drew.cell? ⟨gp, 7, none⟩ = some (.slice Ap7 lp7.length cp7) ∧ w11.drew.cell? ⟨gp, 8, none⟩ = some (.slice Ap8 lp8.length cp8) ∧ w11.drew.cell? ⟨go, 0, none⟩ = some (.int .i64 p0) ∧ w11.drew.cell? ⟨go, 1, none⟩ = some (.int .i64 p1) ∧ w11.drew.cell? ⟨go, 2, none⟩ = some (.int .i64 p2) ∧ w11.drew.cell? ⟨go, 3, none⟩ = some (.int .i64 p3) ∧ w11.drew.cell? ⟨go, 4, none⟩ = some (.int .i64 p4) ∧ w11.drew.cell? ⟨go, 5, none⟩ = some (.bool p5) ∧ w11.drew.cell? ⟨go, 6, none⟩ = some (.slice Ao6 lp6.length co6) ∧ w11.drew.cell? ⟨go, 7, none⟩ = some (.slice Ao7 lp7.length co7) ∧ w11.drew.cell? ⟨go, 8, none⟩ = some (.slice Ao8 lp8.length co8) := ⟨(blk_cell (blk_below HA.out hz0) 0).trans rfl, (blk_cell (blk_below HA.out hz0) 1).trans rfl, (blk_cell (blk_below HA.out hz0) 2).trans rfl, (blk_cell (blk_below HA.out hz0) 3).trans rfl, (blk_cell (blk_below HA.out hz0) 4).trans rfl, (blk_cell (blk_below HA.out hz0) 5).trans rfl, (blk_cell (blk_below HA.out hz0) 6).trans rfl, (blk_cell (blk_below HA.out hz0) 7).trans rfl, (blk_cell (blk_below HA.out hz0) 8).trans rfl, (blk_cell (blk_below HQ.out hz0) 0).trans rfl, (blk_cell (blk_below HQ.out hz0) 1).trans rfl, (blk_cell (blk_below HQ.out hz0) 2).trans rfl, (blk_cell (blk_below HQ.out hz0) 3).trans rfl, (blk_cell (blk_below HQ.out hz0) 4).trans rfl, (blk_cell (blk_below HQ.out hz0) 5).trans rfl, (blk_cell (blk_below HQ.out hz0) 6).trans rfl, (blk_cell (blk_below HQ.out hz0) 7).trans rfl, (blk_cell (blk_below HQ.out hz0) 8).trans rfl, (blk_cell (blk_below HPp.out hz0) 0).trans rfl, (blk_cell (blk_below HPp.out hz0) 1).trans rfl, (blk_cell (blk_below HPp.out hz0) 2).trans rfl, (blk_cell (blk_below HPp.out hz0) 3).trans rfl, (blk_cell (blk_below HPp.out hz0) 4).trans rfl, (blk_cell (blk_below HPp.out hz0) 5).trans rfl, (blk_cell (blk_below HPp.out hz0) 6).trans rfl, (blk_cell (blk_below HPp.out hz0) 7).trans rfl, (blk_cell (blk_below HPp.out hz0) 8).trans rfl, (blk_cell (blk_below HPo.out hz0) 0).trans rfl, (blk_cell (blk_below HPo.out hz0) 1).trans rfl, (blk_cell (blk_below HPo.out hz0) 2).trans rfl, (blk_cell (blk_below HPo.out hz0) 3).trans rfl, (blk_cell (blk_below HPo.out hz0) 4).trans rfl, (blk_cell (blk_below HPo.out hz0) 5).trans rfl, (blk_cell (blk_below HPo.out hz0) 6).trans rfl, (blk_cell (blk_below HPo.out hz0) 7).trans rfl, (blk_cell (blk_below HPo.out hz0) 8).trans rfl⟩
        clear hz0
        go_region_held3 (fun w' => w'.cell? ⟨w.heap.size, 0, none⟩ = some (.int .i64 a0_0) ∧ w'.cell? ⟨w.heap.size, 1, none⟩ = some (.int .i64 a0_1) ∧ w'.cell? ⟨w.heap.size, 2, none⟩ = some (.int .i64 a0_2) ∧ w'.cell? ⟨w.heap.size, 3, none⟩ = some (.int .i64 a0_3) ∧ w'.cell? ⟨w.heap.size, 4, none⟩ = some (.int .i64 a0_4) ∧ w'.cell? ⟨w.heap.size, 5, none⟩ = some (.bool a0_5) ∧ w'.cell? ⟨w.heap.size, 6, none⟩ = some (.slice A0_6 l0_6.length c0_6) ∧ w'.cell? ⟨w.heap.size, 7, none⟩ = some (.slice A0_7 l0_7.length c0_7) ∧ w'.cell? ⟨w.heap.size, 8, none⟩ = some (.slice A0_8 l0_8.length c0_8) ∧ w'.cell? ⟨w.heap.size + 1, 0, none⟩ = some (.int .i64 a1_0) ∧ w'.cell? ⟨w.heap.size + 1, 1, none⟩ = some (.int .i64 a1_1) ∧ w'.cell? ⟨w.heap.size + 1, 2, none⟩ = some (.int .i64 a1_2) ∧ w'.cell? ⟨w.heap.size + 1, 3, none⟩ = some (.int .i64 a1_3) ∧ w'.cell? ⟨w.heap.size + 1, 4, none⟩ = some (.int .i64 a1_4) ∧ w'.cell? ⟨w.heap.size + 1, 5, none⟩ = some (.bool a1_5) ∧ w'.cell? ⟨w.heap.size + 1, 6, none⟩ = some (.slice A1_6 l1_6.length c1_6) ∧ w'.cell? ⟨w.heap.size + 1, 7, none⟩ = some (.slice A1_7 l1_7.length c1_7) ∧ w'.cell? ⟨w.heap.size + 1, 8, none⟩ = some (.slice A1_8 l1_8.length c1_8) ∧ w'.cell? ⟨gp, 0, none⟩ = some (.int .i64 p0) ∧ w'.cell? ⟨gp, 1, none⟩ = some (.int .i64 p1) ∧ w'.cell? ⟨gp, 2, none⟩ = some (.int .i64 p2) ∧ w'.cell? ⟨gp, 3, none⟩ = some (.int .i64 p3) ∧ w'.cell? ⟨gp, 4, none⟩ = some (.int .i64 p4) ∧ w'.cell? ⟨gp, 5, none⟩ = some (.bool p5) ∧ w'.cell? ⟨gp, 6, none⟩ = some (.slice Ap6 lp6.length cp6) ∧ w'.cell? ⟨gp, 7, none⟩ = some (.slice Ap7 lp7.length cp7) ∧ w'.cell? ⟨gp, 8, none⟩ = some (.slice Ap8 lp8.length cp8) ∧ w'.cell? ⟨go, 0, none⟩ = some (.int .i64 p0) ∧ w'.cell? ⟨go, 1, none⟩ = some (.int .i64 p1) ∧ w'.cell? ⟨go, 2, none⟩ = some (.int .i64 p2) ∧ w'.cell? ⟨go, 3, none⟩ = some (.int .i64 p3) ∧ w'.cell? ⟨go, 4, none⟩ = some (.int .i64 p4) ∧ w'.cell? ⟨go, 5, none⟩ = some (.bool p5) ∧ w'.cell? ⟨go, 6, none⟩ = some (.slice Ao6 lp6.length co6) ∧ w'.cell? ⟨go, 7, none⟩ = some (.slice Ao7 lp7.length co7) ∧ w'.cell? ⟨go, 8, none⟩ = some (.slice Ao8 lp8.length co8)) (first | exact hS0 | exact hS1 | exact hS2 | exact hS3 | exact hS4 | exact hS5 | exact hS6 | exact hS7 | exact hS8 | exact hS9 | exact hS10 | exact hS11 | exact hS12 | go_keep) (first | (go_at_call 16; clear hS0; refine (voklaw16_first.calls 1000 true w11.drew (first_eq 1000 (by omega) (by omega))).mono ?_; rintro e y1 ⟨rfl, hbl⟩; (have hz : Below w11.heap.size w11 y1 := HZ0.out.trans (hbl.mono HZ0.out.size)); (have hS1 : y1.cell? ⟨w.heap.size, 0, none⟩ = some (.int .i64 a0_0) ∧ y1.cell? ⟨w.heap.size, 1, none⟩ = some (.int .i64 a0_1) ∧ y1.cell? ⟨w.heap.size, 2, none⟩ = some (.int .i64 a0_2) ∧ y1.cell? ⟨w.heap.size, 3, none⟩ = some (.int .i64 a0_3) ∧ y1.cell? ⟨w.heap.size, 4, none⟩ = some (.int .i64 a0_4) ∧ y1.cell? ⟨w.heap.size, 5, none⟩ = some (.bool a0_5) ∧ y1.cell? ⟨w.heap.size, 6, none⟩ = some (.slice A0_6 l0_6.length c0_6) ∧ y1.cell? ⟨w.heap.size, 7, none⟩ = some (.slice A0_7 l0_7.length c0_7) ∧ y1.cell? ⟨w.heap.size, 8, none⟩ = some (.slice A0_8 l0_8.length c0_8) ∧ y1.cell? ⟨w.heap.size + 1, 0, none⟩ = some (.int .i64 a1_0) ∧ y1.cell? ⟨w.heap.size + 1, 1, none⟩ = some (.int .i64 a1_1) ∧ y1.cell? ⟨w.heap.size + 1, 2, none⟩ = some (.int .i64 a1_2) ∧ y1.cell? ⟨w.heap.size + 1, 3, none⟩ = some (.int .i64 a1_3) ∧ y1.cell? ⟨w.heap.size + 1, 4, none⟩ = some (.int .i64 a1_4) ∧ y1.cell? ⟨w.heap.size + 1, 5, none⟩ = some (.bool a1_5) ∧ y1.cell? ⟨w.heap.size + 1, 6, none⟩ = some (.slice A1_6 l1_6.length c1_6) ∧ y1.cell? ⟨w.heap.size + 1, 7, none⟩ = some (.slice A1_7 l1_7.length c1_7) ∧ y1.cell? ⟨w.heap.size + 1, 8, none⟩ = some (.slice A1_8 l1_8.length c1_8) ∧ y1.cell? ⟨gp, 0, none⟩ = some (.int .i64 p0) ∧ y1.cell? ⟨gp, 1, none⟩ = some (.int .i64 p1) ∧ y1.cell? ⟨gp, 2, none⟩ = some (.int .i64 p2) ∧ y1.cell? ⟨gp, 3, none⟩ = some (.int .i64 p3) ∧ y1.cell? ⟨gp, 4, none⟩ = some (.int .i64 p4) ∧ y1.cell? ⟨gp, 5, none⟩ = some (.bool p5) ∧ y1.cell? ⟨gp, 6, none⟩ = some (.slice Ap6 lp6.length cp6) ∧ y1.cell? ⟨gp, 7, none⟩ = some (.slice Ap7 lp7.length cp7) ∧ y1.cell? ⟨gp, 8, none⟩ = some (.slice Ap8 lp8.length cp8) ∧ y1.cell? ⟨go, 0, none⟩ = some (.int .i64 p0) ∧ y1.cell? ⟨go, 1, none⟩ = some (.int .i64 p1) ∧ y1.cell? ⟨go, 2, none⟩ = some (.int .i64 p2) ∧ y1.cell? ⟨go, 3, none⟩ = some (.int .i64 p3) ∧ y1.cell? ⟨go, 4, none⟩ = some (.int .i64 p4) ∧ y1.cell? ⟨go, 5, none⟩ = some (.bool p5) ∧ y1.cell? ⟨go, 6, none⟩ = some (.slice Ao6 lp6.length co6) ∧ y1.cell? ⟨go, 7, none⟩ = some (.slice Ao7 lp7.length co7) ∧ y1.cell? ⟨go, 8, none⟩ = some (.slice Ao8 lp8.length co8) := ⟨(blk_cell (blk_below HA.out hz) 0).trans rfl, (blk_cell (blk_below HA.out hz) 1).trans rfl, (blk_cell (blk_below HA.out hz) 2).trans rfl, (blk_cell (blk_below HA.out hz) 3).trans rfl, (blk_cell (blk_below HA.out hz) 4).trans rfl, (blk_cell (blk_below HA.out hz) 5).trans rfl, (blk_cell (blk_below HA.out hz) 6).trans rfl, (blk_cell (blk_below HA.out hz) 7).trans rfl, (blk_cell (blk_below HA.out hz) 8).trans rfl, (blk_cell (blk_below HQ.out hz) 0).trans rfl, (blk_cell (blk_below HQ.out hz) 1).trans rfl, (blk_cell (blk_below HQ.out hz) 2).trans rfl, (blk_cell (blk_below HQ.out hz) 3).trans rfl, (blk_cell (blk_below HQ.out hz) 4).trans rfl, (blk_cell (blk_below HQ.out hz) 5).trans rfl, (blk_cell (blk_below HQ.out hz) 6).trans rfl, (blk_cell (blk_below HQ.out hz) 7).trans rfl, (blk_cell (blk_below HQ.out hz) 8).trans rfl, (blk_cell (blk_below HPp.out hz) 0).trans rfl, (blk_cell (blk_below HPp.out hz) 1).trans rfl, (blk_cell (blk_below HPp.out hz) 2).trans rfl, (blk_cell (blk_below HPp.out hz) 3).trans rfl, (blk_cell (blk_below HPp.out hz) 4).trans rfl, (blk_cell (blk_below HPp.out hz) 5).trans rfl, (blk_cell (blk_below HPp.out hz) 6).trans rfl, (blk_cell (blk_below HPp.out hz) 7).trans rfl, (blk_cell (blk_below HPp.out hz) 8).trans rfl, (blk_cell (blk_below HPo.out hz) 0).trans rfl, (blk_cell (blk_below HPo.out hz) 1).trans rfl, (blk_cell (blk_below HPo.out hz) 2).trans rfl, (blk_cell (blk_below HPo.out hz) 3).trans rfl, (blk_cell (blk_below HPo.out hz) 4).trans rfl, (blk_cell (blk_below HPo.out hz) 5).trans rfl, (blk_cell (blk_below HPo.out hz) 6).trans rfl, (blk_cell (blk_below HPo.out hz) 7).trans rfl, (blk_cell (blk_below HPo.out hz) 8).trans rfl⟩); (have HZ1 := Lib.hid hz); clear hbl hz HZ0) | (go_at_call 23; clear hS1; refine (vokref_Bytes.calls Ax cx x Ay cy x _ y1 (Kd.C_below (Kd.R_reads' HX.out).2.2 HZ1.out) (Kd.R_reads' HX.out).2.1 (Kd.C_below (Kd.R_reads' HY.out).2.2 HZ1.out) (Kd.R_reads' HY.out).2.1 Hbx.out).mono ?_; rintro e y2 ⟨rfl, hD⟩; (have hbl := hD.below); clear hD; (have hz : Below w11.heap.size w11 y2 := HZ1.out.trans (hbl.mono HZ1.out.size)); (have hS2 : y2.cell? ⟨w.heap.size, 0, none⟩ = some (.int .i64 a0_0) ∧ y2.cell? ⟨w.heap.size, 1, none⟩ = some (.int .i64 a0_1) ∧ y2.cell? ⟨w.heap.size, 2, none⟩ = some (.int .i64 a0_2) ∧ y2.cell? ⟨w.heap.size, 3, none⟩ = some (.int .i64 a0_3) ∧ y2.cell? ⟨w.heap.size, 4, none⟩ = some (.int .i64 a0_4) ∧ y2.cell? ⟨w.heap.size, 5, none⟩ = some (.bool a0_5) ∧ y2.cell? ⟨w.heap.size, 6, none⟩ = some (.slice A0_6 l0_6.length c0_6) ∧ y2.cell? ⟨w.heap.size, 7, none⟩ = some (.slice A0_7 l0_7.length c0_7) ∧ y2.cell? ⟨w.heap.size, 8, none⟩ = some (.slice A0_8 l0_8.length c0_8) ∧ y2.cell? ⟨w.heap.size + 1, 0, none⟩ = some (.int .i64 a1_0) ∧ y2.cell? ⟨w.heap.size + 1, 1, none⟩ = some (.int .i64 a1_1) ∧ y2.cell? ⟨w.heap.size + 1, 2, none⟩ = some (.int .i64 a1_2) ∧ y2.cell? ⟨w.heap.size + 1, 3, none⟩ = some (.int .i64 a1_3) ∧ y2.cell? ⟨w.heap.size + 1, 4, none⟩ = some (.int .i64 a1_4) ∧ y2.cell? ⟨w.heap.size + 1, 5, none⟩ = some (.bool a1_5) ∧ y2.cell? ⟨w.heap.size + 1, 6, none⟩ = some (.slice A1_6 l1_6.length c1_6) ∧ y2.cell? ⟨w.heap.size + 1, 7, none⟩ = some (.slice A1_7 l1_7.length c1_7) ∧ y2.cell? ⟨w.heap.size + 1, 8, none⟩ = some (.slice A1_8 l1_8.length c1_8) ∧ y2.cell? ⟨gp, 0, none⟩ = some (.int .i64 p0) ∧ y2.cell? ⟨gp, 1, none⟩ = some (.int .i64 p1) ∧ y2.cell? ⟨gp, 2, none⟩ = some (.int .i64 p2) ∧ y2.cell? ⟨gp, 3, none⟩ = some (.int .i64 p3) ∧ y2.cell? ⟨gp, 4, none⟩ = some (.int .i64 p4) ∧ y2.cell? ⟨gp, 5, none⟩ = some (.bool p5) ∧ y2.cell? ⟨gp, 6, none⟩ = some (.slice Ap6 lp6.length cp6) ∧ y2.cell? ⟨gp, 7, none⟩ = some (.slice Ap7 lp7.length cp7) ∧ y2.cell? ⟨gp, 8, none⟩ = some (.slice Ap8 lp8.length cp8) ∧ y2.cell? ⟨go, 0, none⟩ = some (.int .i64 p0) ∧ y2.cell? ⟨go, 1, none⟩ = some (.int .i64 p1) ∧ y2.cell? ⟨go, 2, none⟩ = some (.int .i64 p2) ∧ y2.cell? ⟨go, 3, none⟩ = some (.int .i64 p3) ∧ y2.cell? ⟨go, 4, none⟩ = some (.int .i64 p4) ∧ y2.cell? ⟨go, 5, none⟩ = some (.bool p5) ∧ y2.cell? ⟨go, 6, none⟩ = some (.slice Ao6 lp6.length co6) ∧ y2.cell? ⟨go, 7, none⟩ = some (.slice Ao7 lp7.length co7) ∧ y2.cell? ⟨go, 8, none⟩ = some (.slice Ao8 lp8.length co8) := ⟨(blk_cell (blk_below HA.out hz) 0).trans rfl, (blk_cell (blk_below HA.out hz) 1).trans rfl, (blk_cell (blk_below HA.out hz) 2).trans rfl, (blk_cell (blk_below HA.out hz) 3).trans rfl, (blk_cell (blk_below HA.out hz) 4).trans rfl, (blk_cell (blk_below HA.out hz) 5).trans rfl, (blk_cell (blk_below HA.out hz) 6).trans rfl, (blk_cell (blk_below HA.out hz) 7).trans rfl, (blk_cell (blk_below HA.out hz) 8).trans rfl, (blk_cell (blk_below HQ.out hz) 0).trans rfl, (blk_cell (blk_below HQ.out hz) 1).trans rfl, (blk_cell (blk_below HQ.out hz) 2).trans rfl, (blk_cell (blk_below HQ.out hz) 3).trans rfl, (blk_cell (blk_below HQ.out hz) 4).trans rfl, (blk_cell (blk_below HQ.out hz) 5).trans rfl, (blk_cell (blk_below HQ.out hz) 6).trans rfl, (blk_cell (blk_below HQ.out hz) 7).trans rfl, (blk_cell (blk_below HQ.out hz) 8).trans rfl, (blk_cell (blk_below HPp.out hz) 0).trans rfl, (blk_cell (blk_below HPp.out hz) 1).trans rfl, (blk_cell (blk_below HPp.out hz) 2).trans rfl, (blk_cell (blk_below HPp.out hz) 3).trans rfl, (blk_cell (blk_below HPp.out hz) 4).trans rfl, (blk_cell (blk_below HPp.out hz) 5).trans rfl, (blk_cell (blk_below HPp.out hz) 6).trans rfl, (blk_cell (blk_below HPp.out hz) 7).trans rfl, (blk_cell (blk_below HPp.out hz) 8).trans rfl, (blk_cell (blk_below HPo.out hz) 0).trans rfl, (blk_cell (blk_below HPo.out hz) 1).trans rfl, (blk_cell (blk_below HPo.out hz) 2).trans rfl, (blk_cell (blk_below HPo.out hz) 3).trans rfl, (blk_cell (blk_below HPo.out hz) 4).trans rfl, (blk_cell (blk_below HPo.out hz) 5).trans rfl, (blk_cell (blk_below HPo.out hz) 6).trans rfl, (blk_cell (blk_below HPo.out hz) 7).trans rfl, (blk_cell (blk_below HPo.out hz) 8).trans rfl⟩); (have HZ2 := Lib.hid hz); clear hbl hz HZ1) | (go_at_call 18; clear hS2; refine (rec_May.calls 1000 a0_0 a0_1 a0_2 a0_3 a0_4 a0_5 A0_6 c0_6 l0_6 A0_7 c0_7 l0_7 A0_8 c0_8 l0_8 mb y2 (Kd.C_below HC0_6.out HZ2.out) hc0_6 (Kd.C_below HC0_7.out HZ2.out) hc0_7 (Kd.C_below HC0_8.out HZ2.out) hc0_8 Hm1.out).mono ?_; rintro e y3 ⟨rfl, hbl⟩; (have hz : Below w11.heap.size w11 y3 := HZ2.out.trans (hbl.mono HZ2.out.size)); (have hS3 : y3.cell? ⟨w.heap.size, 0, none⟩ = some (.int .i64 a0_0) ∧ y3.cell? ⟨w.heap.size, 1, none⟩ = some (.int .i64 a0_1) ∧ y3.cell? ⟨w.heap.size, 2, none⟩ = some (.int .i64 a0_2) ∧ y3.cell? ⟨w.heap.size, 3, none⟩ = some (.int .i64 a0_3) ∧ y3.cell? ⟨w.heap.size, 4, none⟩ = some (.int .i64 a0_4) ∧ y3.cell? ⟨w.heap.size, 5, none⟩ = some (.bool a0_5) ∧ y3.cell? ⟨w.heap.size, 6, none⟩ = some (.slice A0_6 l0_6.length c0_6) ∧ y3.cell? ⟨w.heap.size, 7, none⟩ = some (.slice A0_7 l0_7.length c0_7) ∧ y3.cell? ⟨w.heap.size, 8, none⟩ = some (.slice A0_8 l0_8.length c0_8) ∧ y3.cell? ⟨w.heap.size + 1, 0, none⟩ = some (.int .i64 a1_0) ∧ y3.cell? ⟨w.heap.size + 1, 1, none⟩ = some (.int .i64 a1_1) ∧ y3.cell? ⟨w.heap.size + 1, 2, none⟩ = some (.int .i64 a1_2) ∧ y3.cell? ⟨w.heap.size + 1, 3, none⟩ = some (.int .i64 a1_3) ∧ y3.cell? ⟨w.heap.size + 1, 4, none⟩ = some (.int .i64 a1_4) ∧ y3.cell? ⟨w.heap.size + 1, 5, none⟩ = some (.bool a1_5) ∧ y3.cell? ⟨w.heap.size + 1, 6, none⟩ = some (.slice A1_6 l1_6.length c1_6) ∧ y3.cell? ⟨w.heap.size + 1, 7, none⟩ = some (.slice A1_7 l1_7.length c1_7) ∧ y3.cell? ⟨w.heap.size + 1, 8, none⟩ = some (.slice A1_8 l1_8.length c1_8) ∧ y3.cell? ⟨gp, 0, none⟩ = some (.int .i64 p0) ∧ y3.cell? ⟨gp, 1, none⟩ = some (.int .i64 p1) ∧ y3.cell? ⟨gp, 2, none⟩ = some (.int .i64 p2) ∧ y3.cell? ⟨gp, 3, none⟩ = some (.int .i64 p3) ∧ y3.cell? ⟨gp, 4, none⟩ = some (.int .i64 p4) ∧ y3.cell? ⟨gp, 5, none⟩ = some (.bool p5) ∧ y3.cell? ⟨gp, 6, none⟩ = some (.slice Ap6 lp6.length cp6) ∧ y3.cell? ⟨gp, 7, none⟩ = some (.slice Ap7 lp7.length cp7) ∧ y3.cell? ⟨gp, 8, none⟩ = some (.slice Ap8 lp8.length cp8) ∧ y3.cell? ⟨go, 0, none⟩ = some (.int .i64 p0) ∧ y3.cell? ⟨go, 1, none⟩ = some (.int .i64 p1) ∧ y3.cell? ⟨go, 2, none⟩ = some (.int .i64 p2) ∧ y3.cell? ⟨go, 3, none⟩ = some (.int .i64 p3) ∧ y3.cell? ⟨go, 4, none⟩ = some (.int .i64 p4) ∧ y3.cell? ⟨go, 5, none⟩ = some (.bool p5) ∧ y3.cell? ⟨go, 6, none⟩ = some (.slice Ao6 lp6.length co6) ∧ y3.cell? ⟨go, 7, none⟩ = some (.slice Ao7 lp7.length co7) ∧ y3.cell? ⟨go, 8, none⟩ = some (.slice Ao8 lp8.length co8) := ⟨(blk_cell (blk_below HA.out hz) 0).trans rfl, (blk_cell (blk_below HA.out hz) 1).trans rfl, (blk_cell (blk_below HA.out hz) 2).trans rfl, (blk_cell (blk_below HA.out hz) 3).trans rfl, (blk_cell (blk_below HA.out hz) 4).trans rfl, (blk_cell (blk_below HA.out hz) 5).trans rfl, (blk_cell (blk_below HA.out hz) 6).trans rfl, (blk_cell (blk_below HA.out hz) 7).trans rfl, (blk_cell (blk_below HA.out hz) 8).trans rfl, (blk_cell (blk_below HQ.out hz) 0).trans rfl, (blk_cell (blk_below HQ.out hz) 1).trans rfl, (blk_cell (blk_below HQ.out hz) 2).trans rfl, (blk_cell (blk_below HQ.out hz) 3).trans rfl, (blk_cell (blk_below HQ.out hz) 4).trans rfl, (blk_cell (blk_below HQ.out hz) 5).trans rfl, (blk_cell (blk_below HQ.out hz) 6).trans rfl, (blk_cell (blk_below HQ.out hz) 7).trans rfl, (blk_cell (blk_below HQ.out hz) 8).trans rfl, (blk_cell (blk_below HPp.out hz) 0).trans rfl, (blk_cell (blk_below HPp.out hz) 1).trans rfl, (blk_cell (blk_below HPp.out hz) 2).trans rfl, (blk_cell (blk_below HPp.out hz) 3).trans rfl, (blk_cell (blk_below HPp.out hz) 4).trans rfl, (blk_cell (blk_below HPp.out hz) 5).trans rfl, (blk_cell (blk_below HPp.out hz) 6).trans rfl, (blk_cell (blk_below HPp.out hz) 7).trans rfl, (blk_cell (blk_below HPp.out hz) 8).trans rfl, (blk_cell (blk_below HPo.out hz) 0).trans rfl, (blk_cell (blk_below HPo.out hz) 1).trans rfl, (blk_cell (blk_below HPo.out hz) 2).trans rfl, (blk_cell (blk_below HPo.out hz) 3).trans rfl, (blk_cell (blk_below HPo.out hz) 4).trans rfl, (blk_cell (blk_below HPo.out hz) 5).trans rfl, (blk_cell (blk_below HPo.out hz) 6).trans rfl, (blk_cell (blk_below HPo.out hz) 7).trans rfl, (blk_cell (blk_below HPo.out hz) 8).trans rfl⟩); (have HZ3 := Lib.hid hz); clear hbl hz HZ2) | (go_at_call 31; clear hS3; refine (plain_any a0_0 a0_1 a0_2 a0_3 a0_4 a0_5 A0_6 A0_7 A0_8 l0_6.length c0_6 l0_7.length c0_7 l0_8.length c0_8 y3).mono ?_; rintro e y4 ⟨rfl, hbl⟩; (have hz : Below w11.heap.size w11 y4 := HZ3.out.trans (hbl.mono HZ3.out.size)); (have hS4 : y4.cell? ⟨w.heap.size, 0, none⟩ = some (.int .i64 a0_0) ∧ y4.cell? ⟨w.heap.size, 1, none⟩ = some (.int .i64 a0_1) ∧ y4.cell? ⟨w.heap.size, 2, none⟩ = some (.int .i64 a0_2) ∧ y4.cell? ⟨w.heap.size, 3, none⟩ = some (.int .i64 a0_3) ∧ y4.cell? ⟨w.heap.size, 4, none⟩ = some (.int .i64 a0_4) ∧ y4.cell? ⟨w.heap.size, 5, none⟩ = some (.bool a0_5) ∧ y4.cell? ⟨w.heap.size, 6, none⟩ = some (.slice A0_6 l0_6.length c0_6) ∧ y4.cell? ⟨w.heap.size, 7, none⟩ = some (.slice A0_7 l0_7.length c0_7) ∧ y4.cell? ⟨w.heap.size, 8, none⟩ = some (.slice A0_8 l0_8.length c0_8) ∧ y4.cell? ⟨w.heap.size + 1, 0, none⟩ = some (.int .i64 a1_0) ∧ y4.cell? ⟨w.heap.size + 1, 1, none⟩ = some (.int .i64 a1_1) ∧ y4.cell? ⟨w.heap.size + 1, 2, none⟩ = some (.int .i64 a1_2) ∧ y4.cell? ⟨w.heap.size + 1, 3, none⟩ = some (.int .i64 a1_3) ∧ y4.cell? ⟨w.heap.size + 1, 4, none⟩ = some (.int .i64 a1_4) ∧ y4.cell? ⟨w.heap.size + 1, 5, none⟩ = some (.bool a1_5) ∧ y4.cell? ⟨w.heap.size + 1, 6, none⟩ = some (.slice A1_6 l1_6.length c1_6) ∧ y4.cell? ⟨w.heap.size + 1, 7, none⟩ = some (.slice A1_7 l1_7.length c1_7) ∧ y4.cell? ⟨w.heap.size + 1, 8, none⟩ = some (.slice A1_8 l1_8.length c1_8) ∧ y4.cell? ⟨gp, 0, none⟩ = some (.int .i64 p0) ∧ y4.cell? ⟨gp, 1, none⟩ = some (.int .i64 p1) ∧ y4.cell? ⟨gp, 2, none⟩ = some (.int .i64 p2) ∧ y4.cell? ⟨gp, 3, none⟩ = some (.int .i64 p3) ∧ y4.cell? ⟨gp, 4, none⟩ = some (.int .i64 p4) ∧ y4.cell? ⟨gp, 5, none⟩ = some (.bool p5) ∧ y4.cell? ⟨gp, 6, none⟩ = some (.slice Ap6 lp6.length cp6) ∧ y4.cell? ⟨gp, 7, none⟩ = some (.slice Ap7 lp7.length cp7) ∧ y4.cell? ⟨gp, 8, none⟩ = some (.slice Ap8 lp8.length cp8) ∧ y4.cell? ⟨go, 0, none⟩ = some (.int .i64 p0) ∧ y4.cell? ⟨go, 1, none⟩ = some (.int .i64 p1) ∧ y4.cell? ⟨go, 2, none⟩ = some (.int .i64 p2) ∧ y4.cell? ⟨go, 3, none⟩ = some (.int .i64 p3) ∧ y4.cell? ⟨go, 4, none⟩ = some (.int .i64 p4) ∧ y4.cell? ⟨go, 5, none⟩ = some (.bool p5) ∧ y4.cell? ⟨go, 6, none⟩ = some (.slice Ao6 lp6.length co6) ∧ y4.cell? ⟨go, 7, none⟩ = some (.slice Ao7 lp7.length co7) ∧ y4.cell? ⟨go, 8, none⟩ = some (.slice Ao8 lp8.length co8) := ⟨(blk_cell (blk_below HA.out hz) 0).trans rfl, (blk_cell (blk_below HA.out hz) 1).trans rfl, (blk_cell (blk_below HA.out hz) 2).trans rfl, (blk_cell (blk_below HA.out hz) 3).trans rfl, (blk_cell (blk_below HA.out hz) 4).trans rfl, (blk_cell (blk_below HA.out hz) 5).trans rfl, (blk_cell (blk_below HA.out hz) 6).trans rfl, (blk_cell (blk_below HA.out hz) 7).trans rfl, (blk_cell (blk_below HA.out hz) 8).trans rfl, (blk_cell (blk_below HQ.out hz) 0).trans rfl, (blk_cell (blk_below HQ.out hz) 1).trans rfl, (blk_cell (blk_below HQ.out hz) 2).trans rfl, (blk_cell (blk_below HQ.out hz) 3).trans rfl, (blk_cell (blk_below HQ.out hz) 4).trans rfl, (blk_cell (blk_below HQ.out hz) 5).trans rfl, (blk_cell (blk_below HQ.out hz) 6).trans rfl, (blk_cell (blk_below HQ.out hz) 7).trans rfl, (blk_cell (blk_below HQ.out hz) 8).trans rfl, (blk_cell (blk_below HPp.out hz) 0).trans rfl, (blk_cell (blk_below HPp.out hz) 1).trans rfl, (blk_cell (blk_below HPp.out hz) 2).trans rfl, (blk_cell (blk_below HPp.out hz) 3).trans rfl, (blk_cell (blk_below HPp.out hz) 4).trans rfl, (blk_cell (blk_below HPp.out hz) 5).trans rfl, (blk_cell (blk_below HPp.out hz) 6).trans rfl, (blk_cell (blk_below HPp.out hz) 7).trans rfl, (blk_cell (blk_below HPp.out hz) 8).trans rfl, (blk_cell (blk_below HPo.out hz) 0).trans rfl, (blk_cell (blk_below HPo.out hz) 1).trans rfl, (blk_cell (blk_below HPo.out hz) 2).trans rfl, (blk_cell (blk_below HPo.out hz) 3).trans rfl, (blk_cell (blk_below HPo.out hz) 4).trans rfl, (blk_cell (blk_below HPo.out hz) 5).trans rfl, (blk_cell (blk_below HPo.out hz) 6).trans rfl, (blk_cell (blk_below HPo.out hz) 7).trans rfl, (blk_cell (blk_below HPo.out hz) 8).trans rfl⟩); (have HZ4 := Lib.hid hz); clear hbl hz HZ3) | (go_at_call 35; clear hS4; refine (vokref10_Rec_May.calls 1000 a0_0 a0_1 a0_2 a0_3 a0_4 a0_5 A0_6 c0_6 l0_6 A0_7 c0_7 l0_7 A0_8 c0_8 l0_8 mb y4 (Kd.C_below HC0_6.out HZ4.out) hc0_6 (Kd.C_below HC0_7.out HZ4.out) hc0_7 (Kd.C_below HC0_8.out HZ4.out) hc0_8 Hm2.out).mono ?_; rintro e y5 ⟨rfl, hbl⟩; (have hz : Below w11.heap.size w11 y5 := HZ4.out.trans (hbl.mono HZ4.out.size)); (have hS5 : y5.cell? ⟨w.heap.size, 0, none⟩ = some (.int .i64 a0_0) ∧ y5.cell? ⟨w.heap.size, 1, none⟩ = some (.int .i64 a0_1) ∧ y5.cell? ⟨w.heap.size, 2, none⟩ = some (.int .i64 a0_2) ∧ y5.cell? ⟨w.heap.size, 3, none⟩ = some (.int .i64 a0_3) ∧ y5.cell? ⟨w.heap.size, 4, none⟩ = some (.int .i64 a0_4) ∧ y5.cell? ⟨w.heap.size, 5, none⟩ = some (.bool a0_5) ∧ y5.cell? ⟨w.heap.size, 6, none⟩ = some (.slice A0_6 l0_6.length c0_6) ∧ y5.cell? ⟨w.heap.size, 7, none⟩ = some (.slice A0_7 l0_7.length c0_7) ∧ y5.cell? ⟨w.heap.size, 8, none⟩ = some (.slice A0_8 l0_8.length c0_8) ∧ y5.cell? ⟨w.heap.size + 1, 0, none⟩ = some (.int .i64 a1_0) ∧ y5.cell? ⟨w.heap.size + 1, 1, none⟩ = some (.int .i64 a1_1) ∧ y5.cell? ⟨w.heap.size + 1, 2, none⟩ = some (.int .i64 a1_2) ∧ y5.cell? ⟨w.heap.size + 1, 3, none⟩ = some (.int .i64 a1_3) ∧ y5.cell? ⟨w.heap.size + 1, 4, none⟩ = some (.int .i64 a1_4) ∧ y5.cell? ⟨w.heap.size + 1, 5, none⟩ = some (.bool a1_5) ∧ y5.cell? ⟨w.heap.size + 1, 6, none⟩ = some (.slice A1_6 l1_6.length c1_6) ∧ y5.cell? ⟨w.heap.size + 1, 7, none⟩ = some (.slice A1_7 l1_7.length c1_7) ∧ y5.cell? ⟨w.heap.size + 1, 8, none⟩ = some (.slice A1_8 l1_8.length c1_8) ∧ y5.cell? ⟨gp, 0, none⟩ = some (.int .i64 p0) ∧ y5.cell? ⟨gp, 1, none⟩ = some (.int .i64 p1) ∧ y5.cell? ⟨gp, 2, none⟩ = some (.int .i64 p2) ∧ y5.cell? ⟨gp, 3, none⟩ = some (.int .i64 p3) ∧ y5.cell? ⟨gp, 4, none⟩ = some (.int .i64 p4) ∧ y5.cell? ⟨gp, 5, none⟩ = some (.bool p5) ∧ y5.cell? ⟨gp, 6, none⟩ = some (.slice Ap6 lp6.length cp6) ∧ y5.cell? ⟨gp, 7, none⟩ = some (.slice Ap7 lp7.length cp7) ∧ y5.cell? ⟨gp, 8, none⟩ = some (.slice Ap8 lp8.length cp8) ∧ y5.cell? ⟨go, 0, none⟩ = some (.int .i64 p0) ∧ y5.cell? ⟨go, 1, none⟩ = some (.int .i64 p1) ∧ y5.cell? ⟨go, 2, none⟩ = some (.int .i64 p2) ∧ y5.cell? ⟨go, 3, none⟩ = some (.int .i64 p3) ∧ y5.cell? ⟨go, 4, none⟩ = some (.int .i64 p4) ∧ y5.cell? ⟨go, 5, none⟩ = some (.bool p5) ∧ y5.cell? ⟨go, 6, none⟩ = some (.slice Ao6 lp6.length co6) ∧ y5.cell? ⟨go, 7, none⟩ = some (.slice Ao7 lp7.length co7) ∧ y5.cell? ⟨go, 8, none⟩ = some (.slice Ao8 lp8.length co8) := ⟨(blk_cell (blk_below HA.out hz) 0).trans rfl, (blk_cell (blk_below HA.out hz) 1).trans rfl, (blk_cell (blk_below HA.out hz) 2).trans rfl, (blk_cell (blk_below HA.out hz) 3).trans rfl, (blk_cell (blk_below HA.out hz) 4).trans rfl, (blk_cell (blk_below HA.out hz) 5).trans rfl, (blk_cell (blk_below HA.out hz) 6).trans rfl, (blk_cell (blk_below HA.out hz) 7).trans rfl, (blk_cell (blk_below HA.out hz) 8).trans rfl, (blk_cell (blk_below HQ.out hz) 0).trans rfl, (blk_cell (blk_below HQ.out hz) 1).trans rfl, (blk_cell (blk_below HQ.out hz) 2).trans rfl, (blk_cell (blk_below HQ.out hz) 3).trans rfl, (blk_cell (blk_below HQ.out hz) 4).trans rfl, (blk_cell (blk_below HQ.out hz) 5).trans rfl, (blk_cell (blk_below HQ.out hz) 6).trans rfl, (blk_cell (blk_below HQ.out hz) 7).trans rfl, (blk_cell (blk_below HQ.out hz) 8).trans rfl, (blk_cell (blk_below HPp.out hz) 0).trans rfl, (blk_cell (blk_below HPp.out hz) 1).trans rfl, (blk_cell (blk_below HPp.out hz) 2).trans rfl, (blk_cell (blk_below HPp.out hz) 3).trans rfl, (blk_cell (blk_below HPp.out hz) 4).trans rfl, (blk_cell (blk_below HPp.out hz) 5).trans rfl, (blk_cell (blk_below HPp.out hz) 6).trans rfl, (blk_cell (blk_below HPp.out hz) 7).trans rfl, (blk_cell (blk_below HPp.out hz) 8).trans rfl, (blk_cell (blk_below HPo.out hz) 0).trans rfl, (blk_cell (blk_below HPo.out hz) 1).trans rfl, (blk_cell (blk_below HPo.out hz) 2).trans rfl, (blk_cell (blk_below HPo.out hz) 3).trans rfl, (blk_cell (blk_below HPo.out hz) 4).trans rfl, (blk_cell (blk_below HPo.out hz) 5).trans rfl, (blk_cell (blk_below HPo.out hz) 6).trans rfl, (blk_cell (blk_below HPo.out hz) 7).trans rfl, (blk_cell (blk_below HPo.out hz) 8).trans rfl⟩); (have HZ5 := Lib.hid hz); clear hbl hz HZ4) | (go_at_call 31; clear hS5; refine (plain_any p0 p1 p2 p3 p4 p5 Ap6 Ap7 Ap8 lp6.length cp6 lp7.length cp7 lp8.length cp8 y5).mono ?_; rintro e y6 ⟨rfl, hbl⟩; (have hz : Below w11.heap.size w11 y6 := HZ5.out.trans (hbl.mono HZ5.out.size)); (have hS6 : y6.cell? ⟨w.heap.size, 0, none⟩ = some (.int .i64 a0_0) ∧ y6.cell? ⟨w.heap.size, 1, none⟩ = some (.int .i64 a0_1) ∧ y6.cell? ⟨w.heap.size, 2, none⟩ = some (.int .i64 a0_2) ∧ y6.cell? ⟨w.heap.size, 3, none⟩ = some (.int .i64 a0_3) ∧ y6.cell? ⟨w.heap.size, 4, none⟩ = some (.int .i64 a0_4) ∧ y6.cell? ⟨w.heap.size, 5, none⟩ = some (.bool a0_5) ∧ y6.cell? ⟨w.heap.size, 6, none⟩ = some (.slice A0_6 l0_6.length c0_6) ∧ y6.cell? ⟨w.heap.size, 7, none⟩ = some (.slice A0_7 l0_7.length c0_7) ∧ y6.cell? ⟨w.heap.size, 8, none⟩ = some (.slice A0_8 l0_8.length c0_8) ∧ y6.cell? ⟨w.heap.size + 1, 0, none⟩ = some (.int .i64 a1_0) ∧ y6.cell? ⟨w.heap.size + 1, 1, none⟩ = some (.int .i64 a1_1) ∧ y6.cell? ⟨w.heap.size + 1, 2, none⟩ = some (.int .i64 a1_2) ∧ y6.cell? ⟨w.heap.size + 1, 3, none⟩ = some (.int .i64 a1_3) ∧ y6.cell? ⟨w.heap.size + 1, 4, none⟩ = some (.int .i64 a1_4) ∧ y6.cell? ⟨w.heap.size + 1, 5, none⟩ = some (.bool a1_5) ∧ y6.cell? ⟨w.heap.size + 1, 6, none⟩ = some (.slice A1_6 l1_6.length c1_6) ∧ y6.cell? ⟨w.heap.size + 1, 7, none⟩ = some (.slice A1_7 l1_7.length c1_7) ∧ y6.cell? ⟨w.heap.size + 1, 8, none⟩ = some (.slice A1_8 l1_8.length c1_8) ∧ y6.cell? ⟨gp, 0, none⟩ = some (.int .i64 p0) ∧ y6.cell? ⟨gp, 1, none⟩ = some (.int .i64 p1) ∧ y6.cell? ⟨gp, 2, none⟩ = some (.int .i64 p2) ∧ y6.cell? ⟨gp, 3, none⟩ = some (.int .i64 p3) ∧ y6.cell? ⟨gp, 4, none⟩ = some (.int .i64 p4) ∧ y6.cell? ⟨gp, 5, none⟩ = some (.bool p5) ∧ y6.cell? ⟨gp, 6, none⟩ = some (.slice Ap6 lp6.length cp6) ∧ y6.cell? ⟨gp, 7, none⟩ = some (.slice Ap7 lp7.length cp7) ∧ y6.cell? ⟨gp, 8, none⟩ = some (.slice Ap8 lp8.length cp8) ∧ y6.cell? ⟨go, 0, none⟩ = some (.int .i64 p0) ∧ y6.cell? ⟨go, 1, none⟩ = some (.int .i64 p1) ∧ y6.cell? ⟨go, 2, none⟩ = some (.int .i64 p2) ∧ y6.cell? ⟨go, 3, none⟩ = some (.int .i64 p3) ∧ y6.cell? ⟨go, 4, none⟩ = some (.int .i64 p4) ∧ y6.cell? ⟨go, 5, none⟩ = some (.bool p5) ∧ y6.cell? ⟨go, 6, none⟩ = some (.slice Ao6 lp6.length co6) ∧ y6.cell? ⟨go, 7, none⟩ = some (.slice Ao7 lp7.length co7) ∧ y6.cell? ⟨go, 8, none⟩ = some (.slice Ao8 lp8.length co8) := ⟨(blk_cell (blk_below HA.out hz) 0).trans rfl, (blk_cell (blk_below HA.out hz) 1).trans rfl, (blk_cell (blk_below HA.out hz) 2).trans rfl, (blk_cell (blk_below HA.out hz) 3).trans rfl, (blk_cell (blk_below HA.out hz) 4).trans rfl, (blk_cell (blk_below HA.out hz) 5).trans rfl, (blk_cell (blk_below HA.out hz) 6).trans rfl, (blk_cell (blk_below HA.out hz) 7).trans rfl, (blk_cell (blk_below HA.out hz) 8).trans rfl, (blk_cell (blk_below HQ.out hz) 0).trans rfl, (blk_cell (blk_below HQ.out hz) 1).trans rfl, (blk_cell (blk_below HQ.out hz) 2).trans rfl, (blk_cell (blk_below HQ.out hz) 3).trans rfl, (blk_cell (blk_below HQ.out hz) 4).trans rfl, (blk_cell (blk_below HQ.out hz) 5).trans rfl, (blk_cell (blk_below HQ.out hz) 6).trans rfl, (blk_cell (blk_below HQ.out hz) 7).trans rfl, (blk_cell (blk_below HQ.out hz) 8).trans rfl, (blk_cell (blk_below HPp.out hz) 0).trans rfl, (blk_cell (blk_below HPp.out hz) 1).trans rfl, (blk_cell (blk_below HPp.out hz) 2).trans rfl, (blk_cell (blk_below HPp.out hz) 3).trans rfl, (blk_cell (blk_below HPp.out hz) 4).trans rfl, (blk_cell (blk_below HPp.out hz) 5).trans rfl, (blk_cell (blk_below HPp.out hz) 6).trans rfl, (blk_cell (blk_below HPp.out hz) 7).trans rfl, (blk_cell (blk_below HPp.out hz) 8).trans rfl, (blk_cell (blk_below HPo.out hz) 0).trans rfl, (blk_cell (blk_below HPo.out hz) 1).trans rfl, (blk_cell (blk_below HPo.out hz) 2).trans rfl, (blk_cell (blk_below HPo.out hz) 3).trans rfl, (blk_cell (blk_below HPo.out hz) 4).trans rfl, (blk_cell (blk_below HPo.out hz) 5).trans rfl, (blk_cell (blk_below HPo.out hz) 6).trans rfl, (blk_cell (blk_below HPo.out hz) 7).trans rfl, (blk_cell (blk_below HPo.out hz) 8).trans rfl⟩); (have HZ6 := Lib.hid hz); clear hbl hz HZ5) | (go_at_call 36; clear hS6; refine (vokref10_Rec_Same.calls 30000 p0 p1 p2 p3 p4 p5 Ap6 cp6 lp6 Ap7 cp7 lp7 Ap8 cp8 lp8 p0 p1 p2 p3 p4 p5 Ao6 co6 lp6 Ao7 co7 lp7 Ao8 co8 lp8 true y6 (Kd.C_below (Kd.R_reads' HRp6.out).2.2 HZ6.out) (Kd.R_reads' HRp6.out).2.1 (Kd.C_below (Kd.R_reads' HRp7.out).2.2 HZ6.out) (Kd.R_reads' HRp7.out).2.1 (Kd.C_below (Kd.R_reads' HRp8.out).2.2 HZ6.out) (Kd.R_reads' HRp8.out).2.1 (Kd.C_below (Kd.R_reads' HRo6.out).2.2 HZ6.out) (Kd.R_reads' HRo6.out).2.1 (Kd.C_below (Kd.R_reads' HRo7.out).2.2 HZ6.out) (Kd.R_reads' HRo7.out).2.1 (Kd.C_below (Kd.R_reads' HRo8.out).2.2 HZ6.out) (Kd.R_reads' HRo8.out).2.1 Hps.out).mono ?_; rintro e y7 ⟨rfl, hbl⟩; (have hz : Below w11.heap.size w11 y7 := HZ6.out.trans (hbl.mono HZ6.out.size)); (have hS7 : y7.cell? ⟨w.heap.size, 0, none⟩ = some (.int .i64 a0_0) ∧ y7.cell? ⟨w.heap.size, 1, none⟩ = some (.int .i64 a0_1) ∧ y7.cell? ⟨w.heap.size, 2, none⟩ = some (.int .i64 a0_2) ∧ y7.cell? ⟨w.heap.size, 3, none⟩ = some (.int .i64 a0_3) ∧ y7.cell? ⟨w.heap.size, 4, none⟩ = some (.int .i64 a0_4) ∧ y7.cell? ⟨w.heap.size, 5, none⟩ = some (.bool a0_5) ∧ y7.cell? ⟨w.heap.size, 6, none⟩ = some (.slice A0_6 l0_6.length c0_6) ∧ y7.cell? ⟨w.heap.size, 7, none⟩ = some (.slice A0_7 l0_7.length c0_7) ∧ y7.cell? ⟨w.heap.size, 8, none⟩ = some (.slice A0_8 l0_8.length c0_8) ∧ y7.cell? ⟨w.heap.size + 1, 0, none⟩ = some (.int .i64 a1_0) ∧ y7.cell? ⟨w.heap.size + 1, 1, none⟩ = some (.int .i64 a1_1) ∧ y7.cell? ⟨w.heap.size + 1, 2, none⟩ = some (.int .i64 a1_2) ∧ y7.cell? ⟨w.heap.size + 1, 3, none⟩ = some (.int .i64 a1_3) ∧ y7.cell? ⟨w.heap.size + 1, 4, none⟩ = some (.int .i64 a1_4) ∧ y7.cell? ⟨w.heap.size + 1, 5, none⟩ = some (.bool a1_5) ∧ y7.cell? ⟨w.heap.size + 1, 6, none⟩ = some (.slice A1_6 l1_6.length c1_6) ∧ y7.cell? ⟨w.heap.size + 1, 7, none⟩ = some (.slice A1_7 l1_7.length c1_7) ∧ y7.cell? ⟨w.heap.size + 1, 8, none⟩ = some (.slice A1_8 l1_8.length c1_8) ∧ y7.cell? ⟨gp, 0, none⟩ = some (.int .i64 p0) ∧ y7.cell? ⟨gp, 1, none⟩ = some (.int .i64 p1) ∧ y7.cell? ⟨gp, 2, none⟩ = some (.int .i64 p2) ∧ y7.cell? ⟨gp, 3, none⟩ = some (.int .i64 p3) ∧ y7.cell? ⟨gp, 4, none⟩ = some (.int .i64 p4) ∧ y7.cell? ⟨gp, 5, none⟩ = some (.bool p5) ∧ y7.cell? ⟨gp, 6, none⟩ = some (.slice Ap6 lp6.length cp6) ∧ y7.cell? ⟨gp, 7, none⟩ = some (.slice Ap7 lp7.length cp7) ∧ y7.cell? ⟨gp, 8, none⟩ = some (.slice Ap8 lp8.length cp8) ∧ y7.cell? ⟨go, 0, none⟩ = some (.int .i64 p0) ∧ y7.cell? ⟨go, 1, none⟩ = some (.int .i64 p1) ∧ y7.cell? ⟨go, 2, none⟩ = some (.int .i64 p2) ∧ y7.cell? ⟨go, 3, none⟩ = some (.int .i64 p3) ∧ y7.cell? ⟨go, 4, none⟩ = some (.int .i64 p4) ∧ y7.cell? ⟨go, 5, none⟩ = some (.bool p5) ∧ y7.cell? ⟨go, 6, none⟩ = some (.slice Ao6 lp6.length co6) ∧ y7.cell? ⟨go, 7, none⟩ = some (.slice Ao7 lp7.length co7) ∧ y7.cell? ⟨go, 8, none⟩ = some (.slice Ao8 lp8.length co8) := ⟨(blk_cell (blk_below HA.out hz) 0).trans rfl, (blk_cell (blk_below HA.out hz) 1).trans rfl, (blk_cell (blk_below HA.out hz) 2).trans rfl, (blk_cell (blk_below HA.out hz) 3).trans rfl, (blk_cell (blk_below HA.out hz) 4).trans rfl, (blk_cell (blk_below HA.out hz) 5).trans rfl, (blk_cell (blk_below HA.out hz) 6).trans rfl, (blk_cell (blk_below HA.out hz) 7).trans rfl, (blk_cell (blk_below HA.out hz) 8).trans rfl, (blk_cell (blk_below HQ.out hz) 0).trans rfl, (blk_cell (blk_below HQ.out hz) 1).trans rfl, (blk_cell (blk_below HQ.out hz) 2).trans rfl, (blk_cell (blk_below HQ.out hz) 3).trans rfl, (blk_cell (blk_below HQ.out hz) 4).trans rfl, (blk_cell (blk_below HQ.out hz) 5).trans rfl, (blk_cell (blk_below HQ.out hz) 6).trans rfl, (blk_cell (blk_below HQ.out hz) 7).trans rfl, (blk_cell (blk_below HQ.out hz) 8).trans rfl, (blk_cell (blk_below HPp.out hz) 0).trans rfl, (blk_cell (blk_below HPp.out hz) 1).trans rfl, (blk_cell (blk_below HPp.out hz) 2).trans rfl, (blk_cell (blk_below HPp.out hz) 3).trans rfl, (blk_cell (blk_below HPp.out hz) 4).trans rfl, (blk_cell (blk_below HPp.out hz) 5).trans rfl, (blk_cell (blk_below HPp.out hz) 6).trans rfl, (blk_cell (blk_below HPp.out hz) 7).trans rfl, (blk_cell (blk_below HPp.out hz) 8).trans rfl, (blk_cell (blk_below HPo.out hz) 0).trans rfl, (blk_cell (blk_below HPo.out hz) 1).trans rfl, (blk_cell (blk_below HPo.out hz) 2).trans rfl, (blk_cell (blk_below HPo.out hz) 3).trans rfl, (blk_cell (blk_below HPo.out hz) 4).trans rfl, (blk_cell (blk_below HPo.out hz) 5).trans rfl, (blk_cell (blk_below HPo.out hz) 6).trans rfl, (blk_cell (blk_below HPo.out hz) 7).trans rfl, (blk_cell (blk_below HPo.out hz) 8).trans rfl⟩); (have HZ7 := Lib.hid hz); clear hbl hz HZ6) | (go_at_call 24; clear hS7; refine (rec_Same.calls 1000 a0_0 a0_1 a0_2 a0_3 a0_4 a0_5 A0_6 c0_6 l0_6 A0_7 c0_7 l0_7 A0_8 c0_8 l0_8 a1_0 a1_1 a1_2 a1_3 a1_4 a1_5 A1_6 c1_6 l1_6 A1_7 c1_7 l1_7 A1_8 c1_8 l1_8 bs y7 (Kd.C_below HC0_6.out HZ7.out) hc0_6 (Kd.C_below HC0_7.out HZ7.out) hc0_7 (Kd.C_below HC0_8.out HZ7.out) hc0_8 (Kd.C_below HC1_6.out HZ7.out) hc1_6 (Kd.C_below HC1_7.out HZ7.out) hc1_7 (Kd.C_below HC1_8.out HZ7.out) hc1_8 Hs1.out).mono ?_; rintro e y8 ⟨rfl, hbl⟩; (have hz : Below w11.heap.size w11 y8 := HZ7.out.trans (hbl.mono HZ7.out.size)); (have hS8 : y8.cell? ⟨w.heap.size, 0, none⟩ = some (.int .i64 a0_0) ∧ y8.cell? ⟨w.heap.size, 1, none⟩ = some (.int .i64 a0_1) ∧ y8.cell? ⟨w.heap.size, 2, none⟩ = some (.int .i64 a0_2) ∧ y8.cell? ⟨w.heap.size, 3, none⟩ = some (.int .i64 a0_3) ∧ y8.cell? ⟨w.heap.size, 4, none⟩ = some (.int .i64 a0_4) ∧ y8.cell? ⟨w.heap.size, 5, none⟩ = some (.bool a0_5) ∧ y8.cell? ⟨w.heap.size, 6, none⟩ = some (.slice A0_6 l0_6.length c0_6) ∧ y8.cell? ⟨w.heap.size, 7, none⟩ = some (.slice A0_7 l0_7.length c0_7) ∧ y8.cell? ⟨w.heap.size, 8, none⟩ = some (.slice A0_8 l0_8.length c0_8) ∧ y8.cell? ⟨w.heap.size + 1, 0, none⟩ = some (.int .i64 a1_0) ∧ y8.cell? ⟨w.heap.size + 1, 1, none⟩ = some (.int .i64 a1_1) ∧ y8.cell? ⟨w.heap.size + 1, 2, none⟩ = some (.int .i64 a1_2) ∧ y8.cell? ⟨w.heap.size + 1, 3, none⟩ = some (.int .i64 a1_3) ∧ y8.cell? ⟨w.heap.size + 1, 4, none⟩ = some (.int .i64 a1_4) ∧ y8.cell? ⟨w.heap.size + 1, 5, none⟩ = some (.bool a1_5) ∧ y8.cell? ⟨w.heap.size + 1, 6, none⟩ = some (.slice A1_6 l1_6.length c1_6) ∧ y8.cell? ⟨w.heap.size + 1, 7, none⟩ = some (.slice A1_7 l1_7.length c1_7) ∧ y8.cell? ⟨w.heap.size + 1, 8, none⟩ = some (.slice A1_8 l1_8.length c1_8) ∧ y8.cell? ⟨gp, 0, none⟩ = some (.int .i64 p0) ∧ y8.cell? ⟨gp, 1, none⟩ = some (.int .i64 p1) ∧ y8.cell? ⟨gp, 2, none⟩ = some (.int .i64 p2) ∧ y8.cell? ⟨gp, 3, none⟩ = some (.int .i64 p3) ∧ y8.cell? ⟨gp, 4, none⟩ = some (.int .i64 p4) ∧ y8.cell? ⟨gp, 5, none⟩ = some (.bool p5) ∧ y8.cell? ⟨gp, 6, none⟩ = some (.slice Ap6 lp6.length cp6) ∧ y8.cell? ⟨gp, 7, none⟩ = some (.slice Ap7 lp7.length cp7) ∧ y8.cell? ⟨gp, 8, none⟩ = some (.slice Ap8 lp8.length cp8) ∧ y8.cell? ⟨go, 0, none⟩ = some (.int .i64 p0) ∧ y8.cell? ⟨go, 1, none⟩ = some (.int .i64 p1) ∧ y8.cell? ⟨go, 2, none⟩ = some (.int .i64 p2) ∧ y8.cell? ⟨go, 3, none⟩ = some (.int .i64 p3) ∧ y8.cell? ⟨go, 4, none⟩ = some (.int .i64 p4) ∧ y8.cell? ⟨go, 5, none⟩ = some (.bool p5) ∧ y8.cell? ⟨go, 6, none⟩ = some (.slice Ao6 lp6.length co6) ∧ y8.cell? ⟨go, 7, none⟩ = some (.slice Ao7 lp7.length co7) ∧ y8.cell? ⟨go, 8, none⟩ = some (.slice Ao8 lp8.length co8) := ⟨(blk_cell (blk_below HA.out hz) 0).trans rfl, (blk_cell (blk_below HA.out hz) 1).trans rfl, (blk_cell (blk_below HA.out hz) 2).trans rfl, (blk_cell (blk_below HA.out hz) 3).trans rfl, (blk_cell (blk_below HA.out hz) 4).trans rfl, (blk_cell (blk_below HA.out hz) 5).trans rfl, (blk_cell (blk_below HA.out hz) 6).trans rfl, (blk_cell (blk_below HA.out hz) 7).trans rfl, (blk_cell (blk_below HA.out hz) 8).trans rfl, (blk_cell (blk_below HQ.out hz) 0).trans rfl, (blk_cell (blk_below HQ.out hz) 1).trans rfl, (blk_cell (blk_below HQ.out hz) 2).trans rfl, (blk_cell (blk_below HQ.out hz) 3).trans rfl, (blk_cell (blk_below HQ.out hz) 4).trans rfl, (blk_cell (blk_below HQ.out hz) 5).trans rfl, (blk_cell (blk_below HQ.out hz) 6).trans rfl, (blk_cell (blk_below HQ.out hz) 7).trans rfl, (blk_cell (blk_below HQ.out hz) 8).trans rfl, (blk_cell (blk_below HPp.out hz) 0).trans rfl, (blk_cell (blk_below HPp.out hz) 1).trans rfl, (blk_cell (blk_below HPp.out hz) 2).trans rfl, (blk_cell (blk_below HPp.out hz) 3).trans rfl, (blk_cell (blk_below HPp.out hz) 4).trans rfl, (blk_cell (blk_below HPp.out hz) 5).trans rfl, (blk_cell (blk_below HPp.out hz) 6).trans rfl, (blk_cell (blk_below HPp.out hz) 7).trans rfl, (blk_cell (blk_below HPp.out hz) 8).trans rfl, (blk_cell (blk_below HPo.out hz) 0).trans rfl, (blk_cell (blk_below HPo.out hz) 1).trans rfl, (blk_cell (blk_below HPo.out hz) 2).trans rfl, (blk_cell (blk_below HPo.out hz) 3).trans rfl, (blk_cell (blk_below HPo.out hz) 4).trans rfl, (blk_cell (blk_below HPo.out hz) 5).trans rfl, (blk_cell (blk_below HPo.out hz) 6).trans rfl, (blk_cell (blk_below HPo.out hz) 7).trans rfl, (blk_cell (blk_below HPo.out hz) 8).trans rfl⟩); (have HZ8 := Lib.hid hz); clear hbl hz HZ7) | (go_at_call 31; clear hS8; refine (plain_any a0_0 a0_1 a0_2 a0_3 a0_4 a0_5 A0_6 A0_7 A0_8 l0_6.length c0_6 l0_7.length c0_7 l0_8.length c0_8 y8).mono ?_; rintro e y9 ⟨rfl, hbl⟩; (have hz : Below w11.heap.size w11 y9 := HZ8.out.trans (hbl.mono HZ8.out.size)); (have hS9 : y9.cell? ⟨w.heap.size, 0, none⟩ = some (.int .i64 a0_0) ∧ y9.cell? ⟨w.heap.size, 1, none⟩ = some (.int .i64 a0_1) ∧ y9.cell? ⟨w.heap.size, 2, none⟩ = some (.int .i64 a0_2) ∧ y9.cell? ⟨w.heap.size, 3, none⟩ = some (.int .i64 a0_3) ∧ y9.cell? ⟨w.heap.size, 4, none⟩ = some (.int .i64 a0_4) ∧ y9.cell? ⟨w.heap.size, 5, none⟩ = some (.bool a0_5) ∧ y9.cell? ⟨w.heap.size, 6, none⟩ = some (.slice A0_6 l0_6.length c0_6) ∧ y9.cell? ⟨w.heap.size, 7, none⟩ = some (.slice A0_7 l0_7.length c0_7) ∧ y9.cell? ⟨w.heap.size, 8, none⟩ = some (.slice A0_8 l0_8.length c0_8) ∧ y9.cell? ⟨w.heap.size + 1, 0, none⟩ = some (.int .i64 a1_0) ∧ y9.cell? ⟨w.heap.size + 1, 1, none⟩ = some (.int .i64 a1_1) ∧ y9.cell? ⟨w.heap.size + 1, 2, none⟩ = some (.int .i64 a1_2) ∧ y9.cell? ⟨w.heap.size + 1, 3, none⟩ = some (.int .i64 a1_3) ∧ y9.cell? ⟨w.heap.size + 1, 4, none⟩ = some (.int .i64 a1_4) ∧ y9.cell? ⟨w.heap.size + 1, 5, none⟩ = some (.bool a1_5) ∧ y9.cell? ⟨w.heap.size + 1, 6, none⟩ = some (.slice A1_6 l1_6.length c1_6) ∧ y9.cell? ⟨w.heap.size + 1, 7, none⟩ = some (.slice A1_7 l1_7.length c1_7) ∧ y9.cell? ⟨w.heap.size + 1, 8, none⟩ = some (.slice A1_8 l1_8.length c1_8) ∧ y9.cell? ⟨gp, 0, none⟩ = some (.int .i64 p0) ∧ y9.cell? ⟨gp, 1, none⟩ = some (.int .i64 p1) ∧ y9.cell? ⟨gp, 2, none⟩ = some (.int .i64 p2) ∧ y9.cell? ⟨gp, 3, none⟩ = some (.int .i64 p3) ∧ y9.cell? ⟨gp, 4, none⟩ = some (.int .i64 p4) ∧ y9.cell? ⟨gp, 5, none⟩ = some (.bool p5) ∧ y9.cell? ⟨gp, 6, none⟩ = some (.slice Ap6 lp6.length cp6) ∧ y9.cell? ⟨gp, 7, none⟩ = some (.slice Ap7 lp7.length cp7) ∧ y9.cell? ⟨gp, 8, none⟩ = some (.slice Ap8 lp8.length cp8) ∧ y9.cell? ⟨go, 0, none⟩ = some (.int .i64 p0) ∧ y9.cell? ⟨go, 1, none⟩ = some (.int .i64 p1) ∧ y9.cell? ⟨go, 2, none⟩ = some (.int .i64 p2) ∧ y9.cell? ⟨go, 3, none⟩ = some (.int .i64 p3) ∧ y9.cell? ⟨go, 4, none⟩ = some (.int .i64 p4) ∧ y9.cell? ⟨go, 5, none⟩ = some (.bool p5) ∧ y9.cell? ⟨go, 6, none⟩ = some (.slice Ao6 lp6.length co6) ∧ y9.cell? ⟨go, 7, none⟩ = some (.slice Ao7 lp7.length co7) ∧ y9.cell? ⟨go, 8, none⟩ = some (.slice Ao8 lp8.length co8) := ⟨(blk_cell (blk_below HA.out hz) 0).trans rfl, (blk_cell (blk_below HA.out hz) 1).trans rfl, (blk_cell (blk_below HA.out hz) 2).trans rfl, (blk_cell (blk_below HA.out hz) 3).trans rfl, (blk_cell (blk_below HA.out hz) 4).trans rfl, (blk_cell (blk_below HA.out hz) 5).trans rfl, (blk_cell (blk_below HA.out hz) 6).trans rfl, (blk_cell (blk_below HA.out hz) 7).trans rfl, (blk_cell (blk_below HA.out hz) 8).trans rfl, (blk_cell (blk_below HQ.out hz) 0).trans rfl, (blk_cell (blk_below HQ.out hz) 1).trans rfl, (blk_cell (blk_below HQ.out hz) 2).trans rfl, (blk_cell (blk_below HQ.out hz) 3).trans rfl, (blk_cell (blk_below HQ.out hz) 4).trans rfl, (blk_cell (blk_below HQ.out hz) 5).trans rfl, (blk_cell (blk_below HQ.out hz) 6).trans rfl, (blk_cell (blk_below HQ.out hz) 7).trans rfl, (blk_cell (blk_below HQ.out hz) 8).trans rfl, (blk_cell (blk_below HPp.out hz) 0).trans rfl, (blk_cell (blk_below HPp.out hz) 1).trans rfl, (blk_cell (blk_below HPp.out hz) 2).trans rfl, (blk_cell (blk_below HPp.out hz) 3).trans rfl, (blk_cell (blk_below HPp.out hz) 4).trans rfl, (blk_cell (blk_below HPp.out hz) 5).trans rfl, (blk_cell (blk_below HPp.out hz) 6).trans rfl, (blk_cell (blk_below HPp.out hz) 7).trans rfl, (blk_cell (blk_below HPp.out hz) 8).trans rfl, (blk_cell (blk_below HPo.out hz) 0).trans rfl, (blk_cell (blk_below HPo.out hz) 1).trans rfl, (blk_cell (blk_below HPo.out hz) 2).trans rfl, (blk_cell (blk_below HPo.out hz) 3).trans rfl, (blk_cell (blk_below HPo.out hz) 4).trans rfl, (blk_cell (blk_below HPo.out hz) 5).trans rfl, (blk_cell (blk_below HPo.out hz) 6).trans rfl, (blk_cell (blk_below HPo.out hz) 7).trans rfl, (blk_cell (blk_below HPo.out hz) 8).trans rfl⟩); (have HZ9 := Lib.hid hz); clear hbl hz HZ8) | (go_at_call 31; clear hS9; refine (plain_any a1_0 a1_1 a1_2 a1_3 a1_4 a1_5 A1_6 A1_7 A1_8 l1_6.length c1_6 l1_7.length c1_7 l1_8.length c1_8 y9).mono ?_; rintro e y10 ⟨rfl, hbl⟩; (have hz : Below w11.heap.size w11 y10 := HZ9.out.trans (hbl.mono HZ9.out.size)); (have hS10 : y10.cell? ⟨w.heap.size, 0, none⟩ = some (.int .i64 a0_0) ∧ y10.cell? ⟨w.heap.size, 1, none⟩ = some (.int .i64 a0_1) ∧ y10.cell? ⟨w.heap.size, 2, none⟩ = some (.int .i64 a0_2) ∧ y10.cell? ⟨w.heap.size, 3, none⟩ = some (.int .i64 a0_3) ∧ y10.cell? ⟨w.heap.size, 4, none⟩ = some (.int .i64 a0_4) ∧ y10.cell? ⟨w.heap.size, 5, none⟩ = some (.bool a0_5) ∧ y10.cell? ⟨w.heap.size, 6, none⟩ = some (.slice A0_6 l0_6.length c0_6) ∧ y10.cell? ⟨w.heap.size, 7, none⟩ = some (.slice A0_7 l0_7.length c0_7) ∧ y10.cell? ⟨w.heap.size, 8, none⟩ = some (.slice A0_8 l0_8.length c0_8) ∧ y10.cell? ⟨w.heap.size + 1, 0, none⟩ = some (.int .i64 a1_0) ∧ y10.cell? ⟨w.heap.size + 1, 1, none⟩ = some (.int .i64 a1_1) ∧ y10.cell? ⟨w.heap.size + 1, 2, none⟩ = some (.int .i64 a1_2) ∧ y10.cell? ⟨w.heap.size + 1, 3, none⟩ = some (.int .i64 a1_3) ∧ y10.cell? ⟨w.heap.size + 1, 4, none⟩ = some (.int .i64 a1_4) ∧ y10.cell? ⟨w.heap.size + 1, 5, none⟩ = some (.bool a1_5) ∧ y10.cell? ⟨w.heap.size + 1, 6, none⟩ = some (.slice A1_6 l1_6.length c1_6) ∧ y10.cell? ⟨w.heap.size + 1, 7, none⟩ = some (.slice A1_7 l1_7.length c1_7) ∧ y10.cell? ⟨w.heap.size + 1, 8, none⟩ = some (.slice A1_8 l1_8.length c1_8) ∧ y10.cell? ⟨gp, 0, none⟩ = some (.int .i64 p0) ∧ y10.cell? ⟨gp, 1, none⟩ = some (.int .i64 p1) ∧ y10.cell? ⟨gp, 2, none⟩ = some (.int .i64 p2) ∧ y10.cell? ⟨gp, 3, none⟩ = some (.int .i64 p3) ∧ y10.cell? ⟨gp, 4, none⟩ = some (.int .i64 p4) ∧ y10.cell? ⟨gp, 5, none⟩ = some (.bool p5) ∧ y10.cell? ⟨gp, 6, none⟩ = some (.slice Ap6 lp6.length cp6) ∧ y10.cell? ⟨gp, 7, none⟩ = some (.slice Ap7 lp7.length cp7) ∧ y10.cell? ⟨gp, 8, none⟩ = some (.slice Ap8 lp8.length cp8) ∧ y10.cell? ⟨go, 0, none⟩ = some (.int .i64 p0) ∧ y10.cell? ⟨go, 1, none⟩ = some (.int .i64 p1) ∧ y10.cell? ⟨go, 2, none⟩ = some (.int .i64 p2) ∧ y10.cell? ⟨go, 3, none⟩ = some (.int .i64 p3) ∧ y10.cell? ⟨go, 4, none⟩ = some (.int .i64 p4) ∧ y10.cell? ⟨go, 5, none⟩ = some (.bool p5) ∧ y10.cell? ⟨go, 6, none⟩ = some (.slice Ao6 lp6.length co6) ∧ y10.cell? ⟨go, 7, none⟩ = some (.slice Ao7 lp7.length co7) ∧ y10.cell? ⟨go, 8, none⟩ = some (.slice Ao8 lp8.length co8) := ⟨(blk_cell (blk_below HA.out hz) 0).trans rfl, (blk_cell (blk_below HA.out hz) 1).trans rfl, (blk_cell (blk_below HA.out hz) 2).trans rfl, (blk_cell (blk_below HA.out hz) 3).trans rfl, (blk_cell (blk_below HA.out hz) 4).trans rfl, (blk_cell (blk_below HA.out hz) 5).trans rfl, (blk_cell (blk_below HA.out hz) 6).trans rfl, (blk_cell (blk_below HA.out hz) 7).trans rfl, (blk_cell (blk_below HA.out hz) 8).trans rfl, (blk_cell (blk_below HQ.out hz) 0).trans rfl, (blk_cell (blk_below HQ.out hz) 1).trans rfl, (blk_cell (blk_below HQ.out hz) 2).trans rfl, (blk_cell (blk_below HQ.out hz) 3).trans rfl, (blk_cell (blk_below HQ.out hz) 4).trans rfl, (blk_cell (blk_below HQ.out hz) 5).trans rfl, (blk_cell (blk_below HQ.out hz) 6).trans rfl, (blk_cell (blk_below HQ.out hz) 7).trans rfl, (blk_cell (blk_below HQ.out hz) 8).trans rfl, (blk_cell (blk_below HPp.out hz) 0).trans rfl, (blk_cell (blk_below HPp.out hz) 1).trans rfl, (blk_cell (blk_below HPp.out hz) 2).trans rfl, (blk_cell (blk_below HPp.out hz) 3).trans rfl, (blk_cell (blk_below HPp.out hz) 4).trans rfl, (blk_cell (blk_below HPp.out hz) 5).trans rfl, (blk_cell (blk_below HPp.out hz) 6).trans rfl, (blk_cell (blk_below HPp.out hz) 7).trans rfl, (blk_cell (blk_below HPp.out hz) 8).trans rfl, (blk_cell (blk_below HPo.out hz) 0).trans rfl, (blk_cell (blk_below HPo.out hz) 1).trans rfl, (blk_cell (blk_below HPo.out hz) 2).trans rfl, (blk_cell (blk_below HPo.out hz) 3).trans rfl, (blk_cell (blk_below HPo.out hz) 4).trans rfl, (blk_cell (blk_below HPo.out hz) 5).trans rfl, (blk_cell (blk_below HPo.out hz) 6).trans rfl, (blk_cell (blk_below HPo.out hz) 7).trans rfl, (blk_cell (blk_below HPo.out hz) 8).trans rfl⟩); (have HZ10 := Lib.hid hz); clear hbl hz HZ9) | (go_at_call 36; clear hS10; refine (vokref10_Rec_Same.calls 1000 a0_0 a0_1 a0_2 a0_3 a0_4 a0_5 A0_6 c0_6 l0_6 A0_7 c0_7 l0_7 A0_8 c0_8 l0_8 a1_0 a1_1 a1_2 a1_3 a1_4 a1_5 A1_6 c1_6 l1_6 A1_7 c1_7 l1_7 A1_8 c1_8 l1_8 bs y10 (Kd.C_below HC0_6.out HZ10.out) hc0_6 (Kd.C_below HC0_7.out HZ10.out) hc0_7 (Kd.C_below HC0_8.out HZ10.out) hc0_8 (Kd.C_below HC1_6.out HZ10.out) hc1_6 (Kd.C_below HC1_7.out HZ10.out) hc1_7 (Kd.C_below HC1_8.out HZ10.out) hc1_8 Hs2.out).mono ?_; rintro e y11 ⟨rfl, hbl⟩; (have hz : Below w11.heap.size w11 y11 := HZ10.out.trans (hbl.mono HZ10.out.size)); (have hS11 : y11.cell? ⟨w.heap.size, 0, none⟩ = some (.int .i64 a0_0) ∧ y11.cell? ⟨w.heap.size, 1, none⟩ = some (.int .i64 a0_1) ∧ y11.cell? ⟨w.heap.size, 2, none⟩ = some (.int .i64 a0_2) ∧ y11.cell? ⟨w.heap.size, 3, none⟩ = some (.int .i64 a0_3) ∧ y11.cell? ⟨w.heap.size, 4, none⟩ = some (.int .i64 a0_4) ∧ y11.cell? ⟨w.heap.size, 5, none⟩ = some (.bool a0_5) ∧ y11.cell? ⟨w.heap.size, 6, none⟩ = some (.slice A0_6 l0_6.length c0_6) ∧ y11.cell? ⟨w.heap.size, 7, none⟩ = some (.slice A0_7 l0_7.length c0_7) ∧ y11.cell? ⟨w.heap.size, 8, none⟩ = some (.slice A0_8 l0_8.length c0_8) ∧ y11.cell? ⟨w.heap.size + 1, 0, none⟩ = some (.int .i64 a1_0) ∧ y11.cell? ⟨w.heap.size + 1, 1, none⟩ = some (.int .i64 a1_1) ∧ y11.cell? ⟨w.heap.size + 1, 2, none⟩ = some (.int .i64 a1_2) ∧ y11.cell? ⟨w.heap.size + 1, 3, none⟩ = some (.int .i64 a1_3) ∧ y11.cell? ⟨w.heap.size + 1, 4, none⟩ = some (.int .i64 a1_4) ∧ y11.cell? ⟨w.heap.size + 1, 5, none⟩ = some (.bool a1_5) ∧ y11.cell? ⟨w.heap.size + 1, 6, none⟩ = some (.slice A1_6 l1_6.length c1_6) ∧ y11.cell? ⟨w.heap.size + 1, 7, none⟩ = some (.slice A1_7 l1_7.length c1_7) ∧ y11.cell? ⟨w.heap.size + 1, 8, none⟩ = some (.slice A1_8 l1_8.length c1_8) ∧ y11.cell? ⟨gp, 0, none⟩ = some (.int .i64 p0) ∧ y11.cell? ⟨gp, 1, none⟩ = some (.int .i64 p1) ∧ y11.cell? ⟨gp, 2, none⟩ = some (.int .i64 p2) ∧ y11.cell? ⟨gp, 3, none⟩ = some (.int .i64 p3) ∧ y11.cell? ⟨gp, 4, none⟩ = some (.int .i64 p4) ∧ y11.cell? ⟨gp, 5, none⟩ = some (.bool p5) ∧ y11.cell? ⟨gp, 6, none⟩ = some (.slice Ap6 lp6.length cp6) ∧ y11.cell? ⟨gp, 7, none⟩ = some (.slice Ap7 lp7.length cp7) ∧ y11.cell? ⟨gp, 8, none⟩ = some (.slice Ap8 lp8.length cp8) ∧ y11.cell? ⟨go, 0, none⟩ = some (.int .i64 p0) ∧ y11.cell? ⟨go, 1, none⟩ = some (.int .i64 p1) ∧ y11.cell? ⟨go, 2, none⟩ = some (.int .i64 p2) ∧ y11.cell? ⟨go, 3, none⟩ = some (.int .i64 p3) ∧ y11.cell? ⟨go, 4, none⟩ = some (.int .i64 p4) ∧ y11.cell? ⟨go, 5, none⟩ = some (.bool p5) ∧ y11.cell? ⟨go, 6, none⟩ = some (.slice Ao6 lp6.length co6) ∧ y11.cell? ⟨go, 7, none⟩ = some (.slice Ao7 lp7.length co7) ∧ y11.cell? ⟨go, 8, none⟩ = some (.slice Ao8 lp8.length co8) := ⟨(blk_cell (blk_below HA.out hz) 0).trans rfl, (blk_cell (blk_below HA.out hz) 1).trans rfl, (blk_cell (blk_below HA.out hz) 2).trans rfl, (blk_cell (blk_below HA.out hz) 3).trans rfl, (blk_cell (blk_below HA.out hz) 4).trans rfl, (blk_cell (blk_below HA.out hz) 5).trans rfl, (blk_cell (blk_below HA.out hz) 6).trans rfl, (blk_cell (blk_below HA.out hz) 7).trans rfl, (blk_cell (blk_below HA.out hz) 8).trans rfl, (blk_cell (blk_below HQ.out hz) 0).trans rfl, (blk_cell (blk_below HQ.out hz) 1).trans rfl, (blk_cell (blk_below HQ.out hz) 2).trans rfl, (blk_cell (blk_below HQ.out hz) 3).trans rfl, (blk_cell (blk_below HQ.out hz) 4).trans rfl, (blk_cell (blk_below HQ.out hz) 5).trans rfl, (blk_cell (blk_below HQ.out hz) 6).trans rfl, (blk_cell (blk_below HQ.out hz) 7).trans rfl, (blk_cell (blk_below HQ.out hz) 8).trans rfl, (blk_cell (blk_below HPp.out hz) 0).trans rfl, (blk_cell (blk_below HPp.out hz) 1).trans rfl, (blk_cell (blk_below HPp.out hz) 2).trans rfl, (blk_cell (blk_below HPp.out hz) 3).trans rfl, (blk_cell (blk_below HPp.out hz) 4).trans rfl, (blk_cell (blk_below HPp.out hz) 5).trans rfl, (blk_cell (blk_below HPp.out hz) 6).trans rfl, (blk_cell (blk_below HPp.out hz) 7).trans rfl, (blk_cell (blk_below HPp.out hz) 8).trans rfl, (blk_cell (blk_below HPo.out hz) 0).trans rfl, (blk_cell (blk_below HPo.out hz) 1).trans rfl, (blk_cell (blk_below HPo.out hz) 2).trans rfl, (blk_cell (blk_below HPo.out hz) 3).trans rfl, (blk_cell (blk_below HPo.out hz) 4).trans rfl, (blk_cell (blk_below HPo.out hz) 5).trans rfl, (blk_cell (blk_below HPo.out hz) 6).trans rfl, (blk_cell (blk_below HPo.out hz) 7).trans rfl, (blk_cell (blk_below HPo.out hz) 8).trans rfl⟩); (have HZ11 := Lib.hid hz); clear hbl hz HZ10) | (go_at_call 23; clear hS11; refine (vokref_Bytes.calls Ain cin l2 A2 c2 l2 _ y11 (Kd.C_below (Kd.R_reads' HIN.out).2.2 HZ11.out) (Kd.R_reads' HIN.out).2.1 (Kd.C_below HCb.out HZ11.out) hc2 Hbb.out).mono ?_; rintro e y12 ⟨rfl, hD⟩; (have hbl := hD.below); clear hD; (have hz : Below w11.heap.size w11 y12 := HZ11.out.trans (hbl.mono HZ11.out.size)); (have hS12 : y12.cell? ⟨w.heap.size, 0, none⟩ = some (.int .i64 a0_0) ∧ y12.cell? ⟨w.heap.size, 1, none⟩ = some (.int .i64 a0_1) ∧ y12.cell? ⟨w.heap.size, 2, none⟩ = some (.int .i64 a0_2) ∧ y12.cell? ⟨w.heap.size, 3, none⟩ = some (.int .i64 a0_3) ∧ y12.cell? ⟨w.heap.size, 4, none⟩ = some (.int .i64 a0_4) ∧ y12.cell? ⟨w.heap.size, 5, none⟩ = some (.bool a0_5) ∧ y12.cell? ⟨w.heap.size, 6, none⟩ = some (.slice A0_6 l0_6.length c0_6) ∧ y12.cell? ⟨w.heap.size, 7, none⟩ = some (.slice A0_7 l0_7.length c0_7) ∧ y12.cell? ⟨w.heap.size, 8, none⟩ = some (.slice A0_8 l0_8.length c0_8) ∧ y12.cell? ⟨w.heap.size + 1, 0, none⟩ = some (.int .i64 a1_0) ∧ y12.cell? ⟨w.heap.size + 1, 1, none⟩ = some (.int .i64 a1_1) ∧ y12.cell? ⟨w.heap.size + 1, 2, none⟩ = some (.int .i64 a1_2) ∧ y12.cell? ⟨w.heap.size + 1, 3, none⟩ = some (.int .i64 a1_3) ∧ y12.cell? ⟨w.heap.size + 1, 4, none⟩ = some (.int .i64 a1_4) ∧ y12.cell? ⟨w.heap.size + 1, 5, none⟩ = some (.bool a1_5) ∧ y12.cell? ⟨w.heap.size + 1, 6, none⟩ = some (.slice A1_6 l1_6.length c1_6) ∧ y12.cell? ⟨w.heap.size + 1, 7, none⟩ = some (.slice A1_7 l1_7.length c1_7) ∧ y12.cell? ⟨w.heap.size + 1, 8, none⟩ = some (.slice A1_8 l1_8.length c1_8) ∧ y12.cell? ⟨gp, 0, none⟩ = some (.int .i64 p0) ∧ y12.cell? ⟨gp, 1, none⟩ = some (.int .i64 p1) ∧ y12.cell? ⟨gp, 2, none⟩ = some (.int .i64 p2) ∧ y12.cell? ⟨gp, 3, none⟩ = some (.int .i64 p3) ∧ y12.cell? ⟨gp, 4, none⟩ = some (.int .i64 p4) ∧ y12.cell? ⟨gp, 5, none⟩ = some (.bool p5) ∧ y12.cell? ⟨gp, 6, none⟩ = some (.slice Ap6 lp6.length cp6) ∧ y12.cell? ⟨gp, 7, none⟩ = some (.slice Ap7 lp7.length cp7) ∧ y12.cell? ⟨gp, 8, none⟩ = some (.slice Ap8 lp8.length cp8) ∧ y12.cell? ⟨go, 0, none⟩ = some (.int .i64 p0) ∧ y12.cell? ⟨go, 1, none⟩ = some (.int .i64 p1) ∧ y12.cell? ⟨go, 2, none⟩ = some (.int .i64 p2) ∧ y12.cell? ⟨go, 3, none⟩ = some (.int .i64 p3) ∧ y12.cell? ⟨go, 4, none⟩ = some (.int .i64 p4) ∧ y12.cell? ⟨go, 5, none⟩ = some (.bool p5) ∧ y12.cell? ⟨go, 6, none⟩ = some (.slice Ao6 lp6.length co6) ∧ y12.cell? ⟨go, 7, none⟩ = some (.slice Ao7 lp7.length co7) ∧ y12.cell? ⟨go, 8, none⟩ = some (.slice Ao8 lp8.length co8) := ⟨(blk_cell (blk_below HA.out hz) 0).trans rfl, (blk_cell (blk_below HA.out hz) 1).trans rfl, (blk_cell (blk_below HA.out hz) 2).trans rfl, (blk_cell (blk_below HA.out hz) 3).trans rfl, (blk_cell (blk_below HA.out hz) 4).trans rfl, (blk_cell (blk_below HA.out hz) 5).trans rfl, (blk_cell (blk_below HA.out hz) 6).trans rfl, (blk_cell (blk_below HA.out hz) 7).trans rfl, (blk_cell (blk_below HA.out hz) 8).trans rfl, (blk_cell (blk_below HQ.out hz) 0).trans rfl, (blk_cell (blk_below HQ.out hz) 1).trans rfl, (blk_cell (blk_below HQ.out hz) 2).trans rfl, (blk_cell (blk_below HQ.out hz) 3).trans rfl, (blk_cell (blk_below HQ.out hz) 4).trans rfl, (blk_cell (blk_below HQ.out hz) 5).trans rfl, (blk_cell (blk_below HQ.out hz) 6).trans rfl, (blk_cell (blk_below HQ.out hz) 7).trans rfl, (blk_cell (blk_below HQ.out hz) 8).trans rfl, (blk_cell (blk_below HPp.out hz) 0).trans rfl, (blk_cell (blk_below HPp.out hz) 1).trans rfl, (blk_cell (blk_below HPp.out hz) 2).trans rfl, (blk_cell (blk_below HPp.out hz) 3).trans rfl, (blk_cell (blk_below HPp.out hz) 4).trans rfl, (blk_cell (blk_below HPp.out hz) 5).trans rfl, (blk_cell (blk_below HPp.out hz) 6).trans rfl, (blk_cell (blk_below HPp.out hz) 7).trans rfl, (blk_cell (blk_below HPp.out hz) 8).trans rfl, (blk_cell (blk_below HPo.out hz) 0).trans rfl, (blk_cell (blk_below HPo.out hz) 1).trans rfl, (blk_cell (blk_below HPo.out hz) 2).trans rfl, (blk_cell (blk_below HPo.out hz) 3).trans rfl, (blk_cell (blk_below HPo.out hz) 4).trans rfl, (blk_cell (blk_below HPo.out hz) 5).trans rfl, (blk_cell (blk_below HPo.out hz) 6).trans rfl, (blk_cell (blk_below HPo.out hz) 7).trans rfl, (blk_cell (blk_below HPo.out hz) 8).trans rfl⟩); (have HZ12 := Lib.hid hz); clear hbl hz HZ11))
        go_wp2
        go_ret
        exact ⟨rfl, HB.out.trans (HZ12.out.mono HB.out.size)⟩
      · have hgt : decide (20000 < l2.length) = true := decide_eq_true (by omega)
        have hgt2 : decide ((20000 : Int) < (l2.length : Int)) = true := decide_eq_true (by omega)
        have HC := Lib.hid (voklaw16_first.calls 1000 true w3 (first_eq 1000 (by omega) (by omega)))
        go_wp2_with fail
        refine HC.out.mono ?_
        rintro e w4 ⟨rfl, hbl⟩
        clear HC
        have HB' := Lib.hid (HB.out.trans (hbl.mono HB.out.size))
        clear HB
        have HB := HB'
        clear HB'
        have HA' := Lib.hid (blk_below HA.out hbl)
        clear HA
        have HA := HA'
        clear HA'
        have HQ' := Lib.hid (blk_below HQ.out hbl)
        clear HQ
        have HQ := HQ'
        clear HQ'
        have HCb' := Lib.hid (Kd.C_below HCb.out hbl)
        clear HCb
        have HCb := HCb'
        clear HCb'
        have HC0_6' := Lib.hid (Kd.C_below HC0_6.out hbl)
        clear HC0_6
        have HC0_6 := HC0_6'
        clear HC0_6'
        have HC0_7' := Lib.hid (Kd.C_below HC0_7.out hbl)
        clear HC0_7
        have HC0_7 := HC0_7'
        clear HC0_7'
        have HC0_8' := Lib.hid (Kd.C_below HC0_8.out hbl)
        clear HC0_8
        have HC0_8 := HC0_8'
        clear HC0_8'
        have HC1_6' := Lib.hid (Kd.C_below HC1_6.out hbl)
        clear HC1_6
        have HC1_6 := HC1_6'
        clear HC1_6'
        have HC1_7' := Lib.hid (Kd.C_below HC1_7.out hbl)
        clear HC1_7
        have HC1_7 := HC1_7'
        clear HC1_7'
        have HC1_8' := Lib.hid (Kd.C_below HC1_8.out hbl)
        clear HC1_8
        have HC1_8 := HC1_8'
        clear HC1_8'
        clear hbl
        go_wp2
        go_ret
        exact ⟨rfl, HB.out⟩
    · have hfeqd := Lib.hid (hfq.out.trans (congrArg some (decide_eq_false hfeq)))
      have xq0 := blk_cell HQ.out 0
      have xq1 := blk_cell HQ.out 1
      have xq2 := blk_cell HQ.out 2
      have xq3 := blk_cell HQ.out 3
      have xq4 := blk_cell HQ.out 4
      have xq5 := blk_cell HQ.out 5
      have xq6 := blk_cell HQ.out 6
      have xq7 := blk_cell HQ.out 7
      have xq8 := blk_cell HQ.out 8
      simp only [List.getElem?_toArray, List.getElem?_cons_succ, List.getElem?_cons_zero] at xq0 xq1 xq2 xq3 xq4 xq5 xq6 xq7 xq8
      have HC := Lib.hid (voklaw16_Few.calls a1_0 a1_1 a1_2 a1_3 a1_4 a1_5 A1_6 c1_6 l1_6 A1_7 c1_7 l1_7 A1_8 c1_8 l1_8 false w2 HC1_6.out hc1_6 HC1_7.out hc1_7 HC1_8.out hc1_8 hfeqd.out)
      go_wp2_with fail
      refine HC.out.mono ?_
      rintro e w3 ⟨rfl, hbl⟩
      clear HC
      clear xq0 xq1 xq2 xq3 xq4 xq5 xq6 xq7 xq8
      have HB' := Lib.hid (HB.out.trans (hbl.mono HB.out.size))
      clear HB
      have HB := HB'
      clear HB'
      have HA' := Lib.hid (blk_below HA.out hbl)
      clear HA
      have HA := HA'
      clear HA'
      have HQ' := Lib.hid (blk_below HQ.out hbl)
      clear HQ
      have HQ := HQ'
      clear HQ'
      have HCb' := Lib.hid (Kd.C_below HCb.out hbl)
      clear HCb
      have HCb := HCb'
      clear HCb'
      have HC0_6' := Lib.hid (Kd.C_below HC0_6.out hbl)
      clear HC0_6
      have HC0_6 := HC0_6'
      clear HC0_6'
      have HC0_7' := Lib.hid (Kd.C_below HC0_7.out hbl)
      clear HC0_7
      have HC0_7 := HC0_7'
      clear HC0_7'
      have HC0_8' := Lib.hid (Kd.C_below HC0_8.out hbl)
      clear HC0_8
      have HC0_8 := HC0_8'
      clear HC0_8'
      have HC1_6' := Lib.hid (Kd.C_below HC1_6.out hbl)
      clear HC1_6
      have HC1_6 := HC1_6'
      clear HC1_6'
      have HC1_7' := Lib.hid (Kd.C_below HC1_7.out hbl)
      clear HC1_7
      have HC1_7 := HC1_7'
      clear HC1_7'
      have HC1_8' := Lib.hid (Kd.C_below HC1_8.out hbl)
      clear HC1_8
      have HC1_8 := HC1_8'
      clear HC1_8'
      clear hbl
      have HC := Lib.hid (voklaw16_first.calls 1000 true w3 (first_eq 1000 (by omega) (by omega)))
      go_wp2_with fail
      refine HC.out.mono ?_
      rintro e w4 ⟨rfl, hbl⟩
      clear HC
      have HB' := Lib.hid (HB.out.trans (hbl.mono HB.out.size))
      clear HB
      have HB := HB'
      clear HB'
      have HA' := Lib.hid (blk_below HA.out hbl)
      clear HA
      have HA := HA'
      clear HA'
      have HQ' := Lib.hid (blk_below HQ.out hbl)
      clear HQ
      have HQ := HQ'
      clear HQ'
      have HCb' := Lib.hid (Kd.C_below HCb.out hbl)
      clear HCb
      have HCb := HCb'
      clear HCb'
      have HC0_6' := Lib.hid (Kd.C_below HC0_6.out hbl)
      clear HC0_6
      have HC0_6 := HC0_6'
      clear HC0_6'
      have HC0_7' := Lib.hid (Kd.C_below HC0_7.out hbl)
      clear HC0_7
      have HC0_7 := HC0_7'
      clear HC0_7'
      have HC0_8' := Lib.hid (Kd.C_below HC0_8.out hbl)
      clear HC0_8
      have HC0_8 := HC0_8'
      clear HC0_8'
      have HC1_6' := Lib.hid (Kd.C_below HC1_6.out hbl)
      clear HC1_6
      have HC1_6 := HC1_6'
      clear HC1_6'
      have HC1_7' := Lib.hid (Kd.C_below HC1_7.out hbl)
      clear HC1_7
      have HC1_7 := HC1_7'
      clear HC1_7'
      have HC1_8' := Lib.hid (Kd.C_below HC1_8.out hbl)
      clear HC1_8
      have HC1_8 := HC1_8'
      clear HC1_8'
      clear hbl
      go_wp2
      go_ret
      exact ⟨rfl, HB.out⟩
  · have hfed := Lib.hid (hfe.out.trans (congrArg some (decide_eq_false hfew)))
    have xc0 := blk_cell HA.out 0
    have xc1 := blk_cell HA.out 1
    have xc2 := blk_cell HA.out 2
    have xc3 := blk_cell HA.out 3
    have xc4 := blk_cell HA.out 4
    have xc5 := blk_cell HA.out 5
    have xc6 := blk_cell HA.out 6
    have xc7 := blk_cell HA.out 7
    have xc8 := blk_cell HA.out 8
    simp only [List.getElem?_toArray, List.getElem?_cons_succ, List.getElem?_cons_zero] at xc0 xc1 xc2 xc3 xc4 xc5 xc6 xc7 xc8
    have HC := Lib.hid (voklaw16_Few.calls a0_0 a0_1 a0_2 a0_3 a0_4 a0_5 A0_6 c0_6 l0_6 A0_7 c0_7 l0_7 A0_8 c0_8 l0_8 false w1 HC0_6.out hc0_6 HC0_7.out hc0_7 HC0_8.out hc0_8 hfed.out)
    go_wp2_with fail
    refine HC.out.mono ?_
    rintro e w2 ⟨rfl, hbl⟩
    clear HC
    clear xc0 xc1 xc2 xc3 xc4 xc5 xc6 xc7 xc8
    have HB' := Lib.hid (HB.out.trans (hbl.mono HB.out.size))
    clear HB
    have HB := HB'
    clear HB'
    have HA' := Lib.hid (blk_below HA.out hbl)
    clear HA
    have HA := HA'
    clear HA'
    have HQ' := Lib.hid (blk_below HQ.out hbl)
    clear HQ
    have HQ := HQ'
    clear HQ'
    have HCb' := Lib.hid (Kd.C_below HCb.out hbl)
    clear HCb
    have HCb := HCb'
    clear HCb'
    have HC0_6' := Lib.hid (Kd.C_below HC0_6.out hbl)
    clear HC0_6
    have HC0_6 := HC0_6'
    clear HC0_6'
    have HC0_7' := Lib.hid (Kd.C_below HC0_7.out hbl)
    clear HC0_7
    have HC0_7 := HC0_7'
    clear HC0_7'
    have HC0_8' := Lib.hid (Kd.C_below HC0_8.out hbl)
    clear HC0_8
    have HC0_8 := HC0_8'
    clear HC0_8'
    have HC1_6' := Lib.hid (Kd.C_below HC1_6.out hbl)
    clear HC1_6
    have HC1_6 := HC1_6'
    clear HC1_6'
    have HC1_7' := Lib.hid (Kd.C_below HC1_7.out hbl)
    clear HC1_7
    have HC1_7 := HC1_7'
    clear HC1_7'
    have HC1_8' := Lib.hid (Kd.C_below HC1_8.out hbl)
    clear HC1_8
    have HC1_8 := HC1_8'
    clear HC1_8'
    clear hbl
    have HC := Lib.hid (voklaw16_first.calls 1000 true w2 (first_eq 1000 (by omega) (by omega)))
    go_wp2_with fail
    refine HC.out.mono ?_
    rintro e w3 ⟨rfl, hbl⟩
    clear HC
    have HB' := Lib.hid (HB.out.trans (hbl.mono HB.out.size))
    clear HB
    have HB := HB'
    clear HB'
    have HA' := Lib.hid (blk_below HA.out hbl)
    clear HA
    have HA := HA'
    clear HA'
    have HQ' := Lib.hid (blk_below HQ.out hbl)
    clear HQ
    have HQ := HQ'
    clear HQ'
    have HCb' := Lib.hid (Kd.C_below HCb.out hbl)
    clear HCb
    have HCb := HCb'
    clear HCb'
    have HC0_6' := Lib.hid (Kd.C_below HC0_6.out hbl)
    clear HC0_6
    have HC0_6 := HC0_6'
    clear HC0_6'
    have HC0_7' := Lib.hid (Kd.C_below HC0_7.out hbl)
    clear HC0_7
    have HC0_7 := HC0_7'
    clear HC0_7'
    have HC0_8' := Lib.hid (Kd.C_below HC0_8.out hbl)
    clear HC0_8
    have HC0_8 := HC0_8'
    clear HC0_8'
    have HC1_6' := Lib.hid (Kd.C_below HC1_6.out hbl)
    clear HC1_6
    have HC1_6 := HC1_6'
    clear HC1_6'
    have HC1_7' := Lib.hid (Kd.C_below HC1_7.out hbl)
    clear HC1_7
    have HC1_7 := HC1_7'
    clear HC1_7'
    have HC1_8' := Lib.hid (Kd.C_below HC1_8.out hbl)
    clear HC1_8
    have HC1_8 := HC1_8'
    clear HC1_8'
    clear hbl
    go_wp2
    go_ret
    exact ⟨rfl, HB.out⟩
end Go.Proofs.Ytleljfmhefobeaa.WalkRecCodes
