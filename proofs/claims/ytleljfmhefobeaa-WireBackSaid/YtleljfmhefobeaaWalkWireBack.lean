/- WireBack: the walk. -/
import Derived.Test.YtleljfmhefobeaaGWDR
import Derived.Test.YtleljfmhefobeaaGWAux
import Derived.WalkKit
import Derived.WalkSpells
import Derived.Lib.Hide
set_option linter.unusedVariables false
set_option linter.unusedSimpArgs false
namespace Go.Proofs.Ytleljfmhefobeaa.WalkWireBack
open Go.RowKit Go.Proofs.YtleljfmhefobeaaW.PrintWords Go.Proofs.YtleljfmhefobeaaW.PrintLast Go.Proofs.YtleljfmhefobeaaW.PrintMore Go.Proofs.Ytleljfmhefobeaa.GW Go.Proofs.Ytleljfmhefobeaa.GWPa Go.Proofs.Ytleljfmhefobeaa.GWPe Go.Proofs.Ytleljfmhefobeaa.GWPw Go.Proofs.Ytleljfmhefobeaa.GWB Go.Proofs.Ytleljfmhefobeaa.GWSrc Go.Proofs.Ytleljfmhefobeaa.GWDR Go.Proofs.Ytleljfmhefobeaa.GWDec Go.Proofs.Ytleljfmhefobeaa.GWAux

set_option maxRecDepth 100000 in
set_option maxHeartbeats 4000000 in
theorem walk (a0_0 : Int) (a0_1 : Int) (a0_2 : Int) (a0_3 : Int) (a0_4 : Int) (a0_5 : Int) (a0_6 : Int) (a0_7 : Int) (a0_8 : Int) (a0_9 : Bool) (a0_10 : Int) (a0_11 : Int) (A0_12 : Option Addr) (c0_12 : Nat) (l0_12 : List Int) (A0_13 : Option Addr) (c0_13 : Nat) (l0_13 : List Int) (A0_14 : Option Addr) (c0_14 : Nat) (l0_14 : List Int) (A1 : Option Addr) (c1 : Nat) (l1 : List Int) (cut more : Int) (w : World) (hr0_12 : Kd.C (Kd.int .i64) w A0_12 l0_12.length l0_12) (hc0_12 : l0_12.length ≤ c0_12) (hr0_13 : Kd.C (Kd.int .i64) w A0_13 l0_13.length l0_13) (hc0_13 : l0_13.length ≤ c0_13) (hr0_14 : Kd.C (Kd.int .u8) w A0_14 l0_14.length l0_14) (hc0_14 : l0_14.length ≤ c0_14) (hr1 : Kd.C (Kd.int .u8) w A1 l1.length l1) (hc1 : l1.length ≤ c1)
    (hbt : bytesL l0_14) (hb1 : bytesL l1) (hmore : 0 ≤ more ∧ more < 256) :
    Calls Try.prog 9 #[.agg #[.int .i64 a0_0, .int .i64 a0_1, .int .i64 a0_2, .int .i64 a0_3, .int .i64 a0_4, .int .i64 a0_5, .int .i64 a0_6, .int .i64 a0_7, .int .i64 a0_8, .bool a0_9, .int .i64 a0_10, .int .i64 a0_11, .slice A0_12 l0_12.length c0_12, .slice A0_13 l0_13.length c0_13, .slice A0_14 l0_14.length c0_14], .slice A1 l1.length c1, .int .i64 cut, .int .u8 more] w fun e w' => e = .returned (.bool true) ∧ Below w.heap.size w w' := by
  have hurec := Try.underlying27
  have HBy := Lib.hid hb1
  have HBt := Lib.hid hbt
  have Hmore := Lib.hid hmore
  have hbl := (Below.refl w.heap.size w).alloc (Nat.le_refl _) (.cells #[.int .i64 a0_0, .int .i64 a0_1, .int .i64 a0_2, .int .i64 a0_3, .int .i64 a0_4, .int .i64 a0_5, .int .i64 a0_6, .int .i64 a0_7, .int .i64 a0_8, .bool a0_9, .int .i64 a0_10, .int .i64 a0_11, .slice A0_12 l0_12.length c0_12, .slice A0_13 l0_13.length c0_13, .slice A0_14 l0_14.length c0_14] 27)
  have HB := Lib.hid hbl
  have HA := Lib.hid (blk_new w (.cells #[.int .i64 a0_0, .int .i64 a0_1, .int .i64 a0_2, .int .i64 a0_3, .int .i64 a0_4, .int .i64 a0_5, .int .i64 a0_6, .int .i64 a0_7, .int .i64 a0_8, .bool a0_9, .int .i64 a0_10, .int .i64 a0_11, .slice A0_12 l0_12.length c0_12, .slice A0_13 l0_13.length c0_13, .slice A0_14 l0_14.length c0_14] 27))
  have HC0_12 := Lib.hid (Kd.C_below hr0_12 hbl)
  have HC0_13 := Lib.hid (Kd.C_below hr0_13 hbl)
  have HC0_14 := Lib.hid (Kd.C_below hr0_14 hbl)
  have HCb := Lib.hid (Kd.C_below hr1 hbl)
  clear hbl hb1 hbt hmore hr1 hr0_12 hr0_13 hr0_14
  have hfe := Lib.hid (few_eq ⟨a0_0, a0_1, a0_2, a0_3, a0_4, a0_5, a0_6, a0_7, a0_8, a0_9, a0_10, a0_11, l0_12, l0_13, l0_14⟩)
  go_enter Try.func9, Try.ntmps9
  go_wp2_with fail
  generalize hW0 : w.alloc (.cells #[.int .i64 a0_0, .int .i64 a0_1, .int .i64 a0_2, .int .i64 a0_3, .int .i64 a0_4, .int .i64 a0_5, .int .i64 a0_6, .int .i64 a0_7, .int .i64 a0_8, .bool a0_9, .int .i64 a0_10, .int .i64 a0_11, .slice A0_12 l0_12.length c0_12, .slice A0_13 l0_13.length c0_13, .slice A0_14 l0_14.length c0_14] 27) = W0 at *
  clear hW0
  have HC := Lib.hid (voklaw19_first.calls 1000 true W0 (first_eq 1000 (by omega) (by omega)))
  go_wp2_with fail
  refine HC.out.mono ?_
  rintro e w1 ⟨rfl, hbl⟩
  clear HC
  have HB' := Lib.hid (HB.out.trans (hbl.mono HB.out.size))
  clear HB
  have HB := HB'
  clear HB'
  have HA' := Lib.hid (blk_below HA.out hbl)
  clear HA
  have HA := HA'
  clear HA'
  have HC0_12' := Lib.hid (Kd.C_below HC0_12.out hbl)
  clear HC0_12
  have HC0_12 := HC0_12'
  clear HC0_12'
  have HC0_13' := Lib.hid (Kd.C_below HC0_13.out hbl)
  clear HC0_13
  have HC0_13 := HC0_13'
  clear HC0_13'
  have HC0_14' := Lib.hid (Kd.C_below HC0_14.out hbl)
  clear HC0_14
  have HC0_14 := HC0_14'
  clear HC0_14'
  have HCb' := Lib.hid (Kd.C_below HCb.out hbl)
  clear HCb
  have HCb := HCb'
  clear HCb'
  clear hbl
  have xc0 := blk_cell HA.out 0
  have xc1 := blk_cell HA.out 1
  have xc2 := blk_cell HA.out 2
  have xc3 := blk_cell HA.out 3
  have xc4 := blk_cell HA.out 4
  have xc5 := blk_cell HA.out 5
  have xc6 := blk_cell HA.out 6
  have xc7 := blk_cell HA.out 7
  have xc8 := blk_cell HA.out 8
  have xc9 := blk_cell HA.out 9
  have xc10 := blk_cell HA.out 10
  have xc11 := blk_cell HA.out 11
  have xc12 := blk_cell HA.out 12
  have xc13 := blk_cell HA.out 13
  have xc14 := blk_cell HA.out 14
  simp only [List.getElem?_toArray, List.getElem?_cons_succ, List.getElem?_cons_zero] at xc0 xc1 xc2 xc3 xc4 xc5 xc6 xc7 xc8 xc9 xc10 xc11 xc12 xc13 xc14
  have HC := Lib.hid (voklaw19_Few.calls a0_0 a0_1 a0_2 a0_3 a0_4 a0_5 a0_6 a0_7 a0_8 a0_9 a0_10 a0_11 A0_12 c0_12 l0_12 A0_13 c0_13 l0_13 A0_14 c0_14 l0_14 _ w1 HC0_12.out hc0_12 HC0_13.out hc0_13 HC0_14.out hc0_14 hfe.out)
  by_cases hfew : l0_12.length ≤ 300 ∧ l0_13.length ≤ 300 ∧ l0_14.length ≤ 20000
  · rw [decide_eq_true hfew] at HC
    go_wp2_with fail
    refine HC.out.mono ?_
    rintro e w2 ⟨rfl, hbl⟩
    clear HC
    clear xc0 xc1 xc2 xc3 xc4 xc5 xc6 xc7 xc8 xc9 xc10 xc11 xc12 xc13 xc14
    have HB' := Lib.hid (HB.out.trans (hbl.mono HB.out.size))
    clear HB
    have HB := HB'
    clear HB'
    have HA' := Lib.hid (blk_below HA.out hbl)
    clear HA
    have HA := HA'
    clear HA'
    have HC0_12' := Lib.hid (Kd.C_below HC0_12.out hbl)
    clear HC0_12
    have HC0_12 := HC0_12'
    clear HC0_12'
    have HC0_13' := Lib.hid (Kd.C_below HC0_13.out hbl)
    clear HC0_13
    have HC0_13 := HC0_13'
    clear HC0_13'
    have HC0_14' := Lib.hid (Kd.C_below HC0_14.out hbl)
    clear HC0_14
    have HC0_14 := HC0_14'
    clear HC0_14'
    have HCb' := Lib.hid (Kd.C_below HCb.out hbl)
    clear HCb
    have HCb := HCb'
    clear HCb'
    clear hbl
    by_cases hlb : l1.length ≤ 20000
    · have hgt : decide (20000 < l1.length) = false := decide_eq_false (by omega)
      have hgt2 : decide ((20000 : Int) < (l1.length : Int)) = false := decide_eq_false (by omega)
      obtain ⟨hfu, hfn, hft⟩ := hfew
      by_cases hm : May ⟨a0_0, a0_1, a0_2, a0_3, a0_4, a0_5, a0_6, a0_7, a0_8, a0_9, a0_10, a0_11, l0_12, l0_13, l0_14⟩
      · as_aux_lemma =>
        have Hm := Lib.hid hm
        have hsh := short hm
        simp only at hsh
        clear hm
        have xc0 := blk_cell HA.out 0
        have xc1 := blk_cell HA.out 1
        have xc2 := blk_cell HA.out 2
        have xc3 := blk_cell HA.out 3
        have xc4 := blk_cell HA.out 4
        have xc5 := blk_cell HA.out 5
        have xc6 := blk_cell HA.out 6
        have xc7 := blk_cell HA.out 7
        have xc8 := blk_cell HA.out 8
        have xc9 := blk_cell HA.out 9
        have xc10 := blk_cell HA.out 10
        have xc11 := blk_cell HA.out 11
        have xc12 := blk_cell HA.out 12
        have xc13 := blk_cell HA.out 13
        have xc14 := blk_cell HA.out 14
        simp only [List.getElem?_toArray, List.getElem?_cons_succ, List.getElem?_cons_zero] at xc0 xc1 xc2 xc3 xc4 xc5 xc6 xc7 xc8 xc9 xc10 xc11 xc12 xc13 xc14
        have HC := Lib.hid (wire_Encode.calls 1000 a0_0 a0_1 a0_2 a0_3 a0_4 a0_5 a0_6 a0_7 a0_8 a0_9 a0_10 a0_11 A0_12 c0_12 l0_12 A0_13 c0_13 l0_13 A0_14 c0_14 l0_14 _ _ w2 HC0_12.out hc0_12 HC0_13.out hc0_13 HC0_14.out hc0_14 (Encode_yes 1000 ⟨a0_0, a0_1, a0_2, a0_3, a0_4, a0_5, a0_6, a0_7, a0_8, a0_9, a0_10, a0_11, l0_12, l0_13, l0_14⟩ Hm.out (by omega) (by omega)))
        have hbl0 := body_length ⟨a0_0, a0_1, a0_2, a0_3, a0_4, a0_5, a0_6, a0_7, a0_8, a0_9, a0_10, a0_11, l0_12, l0_13, l0_14⟩
        simp only at hbl0
        have Hbb := Lib.hid (bytes_body ⟨a0_0, a0_1, a0_2, a0_3, a0_4, a0_5, a0_6, a0_7, a0_8, a0_9, a0_10, a0_11, l0_12, l0_13, l0_14⟩ HBt.out)
        have Hdb := Lib.hid (dec_body ⟨a0_0, a0_1, a0_2, a0_3, a0_4, a0_5, a0_6, a0_7, a0_8, a0_9, a0_10, a0_11, l0_12, l0_13, l0_14⟩ Hm.out)
        have Hdm := Lib.hid (dec_more ⟨a0_0, a0_1, a0_2, a0_3, a0_4, a0_5, a0_6, a0_7, a0_8, a0_9, a0_10, a0_11, l0_12, l0_13, l0_14⟩ Hm.out more)
        have Hdc := Lib.hid (fun c => dec_cut ⟨a0_0, a0_1, a0_2, a0_3, a0_4, a0_5, a0_6, a0_7, a0_8, a0_9, a0_10, a0_11, l0_12, l0_13, l0_14⟩ Hm.out c)
        generalize hx : body ⟨a0_0, a0_1, a0_2, a0_3, a0_4, a0_5, a0_6, a0_7, a0_8, a0_9, a0_10, a0_11, l0_12, l0_13, l0_14⟩ = x at *
        clear hx
        have hxl : x.length ≤ 4300 := by omega
        clear hbl0
        go_wp2_with fail
        refine HC.out.mono ?_
        rintro e w3 ⟨vx, rfl, hX, hbl⟩
        clear HC
        clear xc0 xc1 xc2 xc3 xc4 xc5 xc6 xc7 xc8 xc9 xc10 xc11 xc12 xc13 xc14
        have HB' := Lib.hid (HB.out.trans (hbl.mono HB.out.size))
        clear HB
        have HB := HB'
        clear HB'
        have HA' := Lib.hid (blk_below HA.out hbl)
        clear HA
        have HA := HA'
        clear HA'
        have HC0_12' := Lib.hid (Kd.C_below HC0_12.out hbl)
        clear HC0_12
        have HC0_12 := HC0_12'
        clear HC0_12'
        have HC0_13' := Lib.hid (Kd.C_below HC0_13.out hbl)
        clear HC0_13
        have HC0_13 := HC0_13'
        clear HC0_13'
        have HC0_14' := Lib.hid (Kd.C_below HC0_14.out hbl)
        clear HC0_14
        have HC0_14 := HC0_14'
        clear HC0_14'
        have HCb' := Lib.hid (Kd.C_below HCb.out hbl)
        clear HCb
        have HCb := HCb'
        clear HCb'
        obtain ⟨Ax, cx, rfl⟩ := Kd.R_slice hX
        have HX := Lib.hid hX
        clear hX hbl
        have xc0 := blk_cell HA.out 0
        have xc1 := blk_cell HA.out 1
        have xc2 := blk_cell HA.out 2
        have xc3 := blk_cell HA.out 3
        have xc4 := blk_cell HA.out 4
        have xc5 := blk_cell HA.out 5
        have xc6 := blk_cell HA.out 6
        have xc7 := blk_cell HA.out 7
        have xc8 := blk_cell HA.out 8
        have xc9 := blk_cell HA.out 9
        have xc10 := blk_cell HA.out 10
        have xc11 := blk_cell HA.out 11
        have xc12 := blk_cell HA.out 12
        have xc13 := blk_cell HA.out 13
        have xc14 := blk_cell HA.out 14
        simp only [List.getElem?_toArray, List.getElem?_cons_succ, List.getElem?_cons_zero] at xc0 xc1 xc2 xc3 xc4 xc5 xc6 xc7 xc8 xc9 xc10 xc11 xc12 xc13 xc14
        have HC := Lib.hid (wire_May.calls 1000 a0_0 a0_1 a0_2 a0_3 a0_4 a0_5 a0_6 a0_7 a0_8 a0_9 a0_10 a0_11 A0_12 c0_12 l0_12 A0_13 c0_13 l0_13 A0_14 c0_14 l0_14 _ w3 HC0_12.out hc0_12 HC0_13.out hc0_13 HC0_14.out hc0_14 (may_eq1000 ⟨a0_0, a0_1, a0_2, a0_3, a0_4, a0_5, a0_6, a0_7, a0_8, a0_9, a0_10, a0_11, l0_12, l0_13, l0_14⟩ (by show l0_12.length ≤ 300; omega) (by show l0_13.length ≤ 300; omega) (by show l0_14.length ≤ 20000; omega)))
        rw [(mayB_iff _).2 Hm.out] at HC
        go_wp2_with fail
        refine HC.out.mono ?_
        rintro e w4 ⟨rfl, hbl⟩
        clear HC
        clear xc0 xc1 xc2 xc3 xc4 xc5 xc6 xc7 xc8 xc9 xc10 xc11 xc12 xc13 xc14
        have HB' := Lib.hid (HB.out.trans (hbl.mono HB.out.size))
        clear HB
        have HB := HB'
        clear HB'
        have HA' := Lib.hid (blk_below HA.out hbl)
        clear HA
        have HA := HA'
        clear HA'
        have HC0_12' := Lib.hid (Kd.C_below HC0_12.out hbl)
        clear HC0_12
        have HC0_12 := HC0_12'
        clear HC0_12'
        have HC0_13' := Lib.hid (Kd.C_below HC0_13.out hbl)
        clear HC0_13
        have HC0_13 := HC0_13'
        clear HC0_13'
        have HC0_14' := Lib.hid (Kd.C_below HC0_14.out hbl)
        clear HC0_14
        have HC0_14 := HC0_14'
        clear HC0_14'
        have HCb' := Lib.hid (Kd.C_below HCb.out hbl)
        clear HCb
        have HCb := HCb'
        clear HCb'
        have HX' := Lib.hid (Kd.R_below HX.out hbl)
        clear HX
        have HX := HX'
        clear HX'
        clear hbl
        have HC := Lib.hid (decode_any x Ax cx w4 Hbb.out (by omega) (Kd.R_reads' HX.out).2.1 (Kd.R_reads' HX.out).2.2)
        rw [Hdb.out] at HC
        go_wp2_with fail
        refine HC.out.mono ?_
        rintro e w5 ⟨vu, vn, vt, rfl, hU, hN, hT, hbl⟩
        clear HC
        have HB' := Lib.hid (HB.out.trans (hbl.mono HB.out.size))
        clear HB
        have HB := HB'
        clear HB'
        have HA' := Lib.hid (blk_below HA.out hbl)
        clear HA
        have HA := HA'
        clear HA'
        have HC0_12' := Lib.hid (Kd.C_below HC0_12.out hbl)
        clear HC0_12
        have HC0_12 := HC0_12'
        clear HC0_12'
        have HC0_13' := Lib.hid (Kd.C_below HC0_13.out hbl)
        clear HC0_13
        have HC0_13 := HC0_13'
        clear HC0_13'
        have HC0_14' := Lib.hid (Kd.C_below HC0_14.out hbl)
        clear HC0_14
        have HC0_14 := HC0_14'
        clear HC0_14'
        have HCb' := Lib.hid (Kd.C_below HCb.out hbl)
        clear HCb
        have HCb := HCb'
        clear HCb'
        have HX' := Lib.hid (Kd.R_below HX.out hbl)
        clear HX
        have HX := HX'
        clear HX'
        obtain ⟨Aup, cup, rfl⟩ := Kd.R_slice hU
        obtain ⟨Anp, cnp, rfl⟩ := Kd.R_slice hN
        obtain ⟨Atp, ctp, rfl⟩ := Kd.R_slice hT
        have HUp := Lib.hid hU
        have HNp := Lib.hid hN
        have HTp := Lib.hid hT
        clear hU hN hT hbl
        have hbl := (Below.refl w5.heap.size w5).alloc (Nat.le_refl _) (.cells #[.int .i64 a0_0, .int .i64 a0_1, .int .i64 a0_2, .int .i64 a0_3, .int .i64 a0_4, .int .i64 a0_5, .int .i64 a0_6, .int .i64 a0_7, .int .i64 a0_8, .bool a0_9, .int .i64 a0_10, .int .i64 a0_11, .slice Aup l0_12.length cup, .slice Anp l0_13.length cnp, .slice Atp l0_14.length ctp] 27)
        have hnew := blk_new w5 (.cells #[.int .i64 a0_0, .int .i64 a0_1, .int .i64 a0_2, .int .i64 a0_3, .int .i64 a0_4, .int .i64 a0_5, .int .i64 a0_6, .int .i64 a0_7, .int .i64 a0_8, .bool a0_9, .int .i64 a0_10, .int .i64 a0_11, .slice Aup l0_12.length cup, .slice Anp l0_13.length cnp, .slice Atp l0_14.length ctp] 27)
        have HB' := Lib.hid (HB.out.trans (hbl.mono HB.out.size))
        clear HB
        have HB := HB'
        clear HB'
        have HA' := Lib.hid (blk_below HA.out hbl)
        clear HA
        have HA := HA'
        clear HA'
        have HC0_12' := Lib.hid (Kd.C_below HC0_12.out hbl)
        clear HC0_12
        have HC0_12 := HC0_12'
        clear HC0_12'
        have HC0_13' := Lib.hid (Kd.C_below HC0_13.out hbl)
        clear HC0_13
        have HC0_13 := HC0_13'
        clear HC0_13'
        have HC0_14' := Lib.hid (Kd.C_below HC0_14.out hbl)
        clear HC0_14
        have HC0_14 := HC0_14'
        clear HC0_14'
        have HCb' := Lib.hid (Kd.C_below HCb.out hbl)
        clear HCb
        have HCb := HCb'
        clear HCb'
        have HX' := Lib.hid (Kd.R_below HX.out hbl)
        clear HX
        have HX := HX'
        clear HX'
        have HUp' := Lib.hid (Kd.R_below HUp.out hbl)
        clear HUp
        have HUp := HUp'
        clear HUp'
        have HNp' := Lib.hid (Kd.R_below HNp.out hbl)
        clear HNp
        have HNp := HNp'
        clear HNp'
        have HTp' := Lib.hid (Kd.R_below HTp.out hbl)
        clear HTp
        have HTp := HTp'
        clear HTp'
        have HPp := Lib.hid hnew
        clear hnew hbl
        go_wp2_with fail
        generalize hal : w5.alloc (.cells #[.int .i64 a0_0, .int .i64 a0_1, .int .i64 a0_2, .int .i64 a0_3, .int .i64 a0_4, .int .i64 a0_5, .int .i64 a0_6, .int .i64 a0_7, .int .i64 a0_8, .bool a0_9, .int .i64 a0_10, .int .i64 a0_11, .slice Aup l0_12.length cup, .slice Anp l0_13.length cnp, .slice Atp l0_14.length ctp] 27) = w6 at *
        clear hal
        have HC := Lib.hid (vokref_CopyBytes.calls Ax cx x _ w6 (Kd.R_reads' HX.out).2.2 (Kd.R_reads' HX.out).2.1 (copy_eq x (by omega)))
        refine HC.out.mono ?_
        rintro e w7 ⟨v9, rfl, hO, hbl9⟩
        clear HC
        have HO := Aside0.mk hO
        have HB9 := Aside0.mk hbl9
        clear hO hbl9
        have hxl2 := Lib.hid (show (x.length + 1) * 1 ≤ 140737488355328 by omega)
        obtain ⟨A9, c9, rfl⟩ := Kd.R_slice HO.out
        go_wp2_with (first | (at_builtin; refine Kd.R_append (Kd.int .u8) (w0 := w6) w6.heap.size rfl (.tmp 51) (.tmp 53) 25 5 (.int .u8 0) 1 rfl Try.underlying25 info_u8 rfl (by decide) (by omega) (.slice A9 x.length c9) x more [.int .u8 more] (fun _ => True) (fun _ => False) rfl rfl ?aP (fun _ hk => hk.elim) (fun _ _ => trivial) ?aO ?aB ?aS ?aL ?_; (case aP => exact rfl); (case aO => exact HO.out); (case aB => exact HB9.out); (case aS => exact HB9.out.size); (case aL => exact hxl2.out); intro v8 w8x ho hb hg hat; have HO2 := Lib.hid ho; have hbl := hb; clear ho hb hg hat HO HB9) | fail)
        have HB' := Lib.hid (HB.out.trans (hbl.mono HB.out.size))
        clear HB
        have HB := HB'
        clear HB'
        have HA' := Lib.hid (blk_below HA.out hbl)
        clear HA
        have HA := HA'
        clear HA'
        have HC0_12' := Lib.hid (Kd.C_below HC0_12.out hbl)
        clear HC0_12
        have HC0_12 := HC0_12'
        clear HC0_12'
        have HC0_13' := Lib.hid (Kd.C_below HC0_13.out hbl)
        clear HC0_13
        have HC0_13 := HC0_13'
        clear HC0_13'
        have HC0_14' := Lib.hid (Kd.C_below HC0_14.out hbl)
        clear HC0_14
        have HC0_14 := HC0_14'
        clear HC0_14'
        have HCb' := Lib.hid (Kd.C_below HCb.out hbl)
        clear HCb
        have HCb := HCb'
        clear HCb'
        have HX' := Lib.hid (Kd.R_below HX.out hbl)
        clear HX
        have HX := HX'
        clear HX'
        have HUp' := Lib.hid (Kd.R_below HUp.out hbl)
        clear HUp
        have HUp := HUp'
        clear HUp'
        have HNp' := Lib.hid (Kd.R_below HNp.out hbl)
        clear HNp
        have HNp := HNp'
        clear HNp'
        have HTp' := Lib.hid (Kd.R_below HTp.out hbl)
        clear HTp
        have HTp := HTp'
        clear HTp'
        have HPp' := Lib.hid (blk_below HPp.out hbl)
        clear HPp
        have HPp := HPp'
        clear HPp'
        clear hbl
        obtain ⟨A8, c8x, rfl⟩ := Kd.R_slice HO2.out
        have HC := Lib.hid (decode_any (x ++ [more]) A8 c8x w8x (bytesL_append Hbb.out (bytesL_cons Hmore.out bytesL_nil)) (by simp; omega) (Kd.R_reads' HO2.out).2.1 (Kd.R_reads' HO2.out).2.2)
        rw [Hdm.out] at HC
        go_wp2_with fail
        refine HC.out.mono ?_
        rintro e w8 ⟨vu, vn, vt, rfl, hU, hN, hT, hbl⟩
        clear HC
        have HB' := Lib.hid (HB.out.trans (hbl.mono HB.out.size))
        clear HB
        have HB := HB'
        clear HB'
        have HA' := Lib.hid (blk_below HA.out hbl)
        clear HA
        have HA := HA'
        clear HA'
        have HC0_12' := Lib.hid (Kd.C_below HC0_12.out hbl)
        clear HC0_12
        have HC0_12 := HC0_12'
        clear HC0_12'
        have HC0_13' := Lib.hid (Kd.C_below HC0_13.out hbl)
        clear HC0_13
        have HC0_13 := HC0_13'
        clear HC0_13'
        have HC0_14' := Lib.hid (Kd.C_below HC0_14.out hbl)
        clear HC0_14
        have HC0_14 := HC0_14'
        clear HC0_14'
        have HCb' := Lib.hid (Kd.C_below HCb.out hbl)
        clear HCb
        have HCb := HCb'
        clear HCb'
        have HX' := Lib.hid (Kd.R_below HX.out hbl)
        clear HX
        have HX := HX'
        clear HX'
        have HUp' := Lib.hid (Kd.R_below HUp.out hbl)
        clear HUp
        have HUp := HUp'
        clear HUp'
        have HNp' := Lib.hid (Kd.R_below HNp.out hbl)
        clear HNp
        have HNp := HNp'
        clear HNp'
        have HTp' := Lib.hid (Kd.R_below HTp.out hbl)
        clear HTp
        have HTp := HTp'
        clear HTp'
        have HPp' := Lib.hid (blk_below HPp.out hbl)
        clear HPp
        have HPp := HPp'
        clear HPp'
        have HO2' := Lib.hid (Kd.R_below HO2.out hbl)
        clear HO2
        have HO2 := HO2'
        clear HO2'
        obtain ⟨Aug, cug, rfl⟩ := Kd.R_slice hU
        obtain ⟨Ang, cng, rfl⟩ := Kd.R_slice hN
        obtain ⟨Atg, ctg, rfl⟩ := Kd.R_slice hT
        have HUg := Lib.hid hU
        have HNg := Lib.hid hN
        have HTg := Lib.hid hT
        clear hU hN hT hbl
        clear HUg HNg HTg
        have hbl := (Below.refl w8.heap.size w8).alloc (Nat.le_refl _) (.cells #[.int .i64 0, .int .i64 0, .int .i64 0, .int .i64 0, .int .i64 0, .int .i64 0, .int .i64 0, .int .i64 0, .int .i64 0, .bool false, .int .i64 0, .int .i64 0, .slice Aug 0 cug, .slice Ang 0 cng, .slice Atg 0 ctg] 27)
        have HB' := Lib.hid (HB.out.trans (hbl.mono HB.out.size))
        clear HB
        have HB := HB'
        clear HB'
        have HA' := Lib.hid (blk_below HA.out hbl)
        clear HA
        have HA := HA'
        clear HA'
        have HC0_12' := Lib.hid (Kd.C_below HC0_12.out hbl)
        clear HC0_12
        have HC0_12 := HC0_12'
        clear HC0_12'
        have HC0_13' := Lib.hid (Kd.C_below HC0_13.out hbl)
        clear HC0_13
        have HC0_13 := HC0_13'
        clear HC0_13'
        have HC0_14' := Lib.hid (Kd.C_below HC0_14.out hbl)
        clear HC0_14
        have HC0_14 := HC0_14'
        clear HC0_14'
        have HCb' := Lib.hid (Kd.C_below HCb.out hbl)
        clear HCb
        have HCb := HCb'
        clear HCb'
        have HX' := Lib.hid (Kd.R_below HX.out hbl)
        clear HX
        have HX := HX'
        clear HX'
        have HUp' := Lib.hid (Kd.R_below HUp.out hbl)
        clear HUp
        have HUp := HUp'
        clear HUp'
        have HNp' := Lib.hid (Kd.R_below HNp.out hbl)
        clear HNp
        have HNp := HNp'
        clear HNp'
        have HTp' := Lib.hid (Kd.R_below HTp.out hbl)
        clear HTp
        have HTp := HTp'
        clear HTp'
        have HPp' := Lib.hid (blk_below HPp.out hbl)
        clear HPp
        have HPp := HPp'
        clear HPp'
        have HO2' := Lib.hid (Kd.R_below HO2.out hbl)
        clear HO2
        have HO2 := HO2'
        clear HO2'
        clear hbl
        have xc0 := blk_cell HA.out 0
        have xc1 := blk_cell HA.out 1
        have xc2 := blk_cell HA.out 2
        have xc3 := blk_cell HA.out 3
        have xc4 := blk_cell HA.out 4
        have xc5 := blk_cell HA.out 5
        have xc6 := blk_cell HA.out 6
        have xc7 := blk_cell HA.out 7
        have xc8 := blk_cell HA.out 8
        have xc9 := blk_cell HA.out 9
        have xc10 := blk_cell HA.out 10
        have xc11 := blk_cell HA.out 11
        have xc12 := blk_cell HA.out 12
        have xc13 := blk_cell HA.out 13
        have xc14 := blk_cell HA.out 14
        simp only [List.getElem?_toArray, List.getElem?_cons_succ, List.getElem?_cons_zero] at xc0 xc1 xc2 xc3 xc4 xc5 xc6 xc7 xc8 xc9 xc10 xc11 xc12 xc13 xc14
        have xd0 := blk_cell HPp.out 0
        have xd1 := blk_cell HPp.out 1
        have xd2 := blk_cell HPp.out 2
        have xd3 := blk_cell HPp.out 3
        have xd4 := blk_cell HPp.out 4
        have xd5 := blk_cell HPp.out 5
        have xd6 := blk_cell HPp.out 6
        have xd7 := blk_cell HPp.out 7
        have xd8 := blk_cell HPp.out 8
        have xd9 := blk_cell HPp.out 9
        have xd10 := blk_cell HPp.out 10
        have xd11 := blk_cell HPp.out 11
        have xd12 := blk_cell HPp.out 12
        have xd13 := blk_cell HPp.out 13
        have xd14 := blk_cell HPp.out 14
        simp only [List.getElem?_toArray, List.getElem?_cons_succ, List.getElem?_cons_zero] at xd0 xd1 xd2 xd3 xd4 xd5 xd6 xd7 xd8 xd9 xd10 xd11 xd12 xd13 xd14
        obtain ⟨bs, hbs, hbi⟩ := same_eq 1000 ⟨a0_0, a0_1, a0_2, a0_3, a0_4, a0_5, a0_6, a0_7, a0_8, a0_9, a0_10, a0_11, l0_12, l0_13, l0_14⟩ ⟨a0_0, a0_1, a0_2, a0_3, a0_4, a0_5, a0_6, a0_7, a0_8, a0_9, a0_10, a0_11, l0_12, l0_13, l0_14⟩ (by show l0_12.length ≤ 1099511627776; omega) (by show l0_13.length ≤ 1099511627776; omega) (by show l0_12.length + 1 < 1000; omega) (by show l0_13.length + 1 < 1000; omega) HBt.out HBt.out
        obtain rfl := hbi.2 rfl
        simp only at hbs
        have Hbs := Lib.hid hbs
        clear hbs hbi
        have hxg : decide (8192 < x.length) = false := decide_eq_false (by omega)
        have hxg2 : decide ((8192 : Int) < (x.length : Int)) = false := decide_eq_false (by omega)
        have HC := fun (W : World) (h1 : Kd.C (Kd.int .i64) W Aup l0_12.length l0_12) (h2 : Kd.C (Kd.int .i64) W Anp l0_13.length l0_13) (h3 : Kd.C (Kd.int .u8) W Atp l0_14.length l0_14) (k1 : Kd.C (Kd.int .i64) W A0_12 l0_12.length l0_12) (k2 : Kd.C (Kd.int .i64) W A0_13 l0_13.length l0_13) (k3 : Kd.C (Kd.int .u8) W A0_14 l0_14.length l0_14) => wire_Same.calls 1000 a0_0 a0_1 a0_2 a0_3 a0_4 a0_5 a0_6 a0_7 a0_8 a0_9 a0_10 a0_11 Aup cup l0_12 Anp cnp l0_13 Atp ctp l0_14 a0_0 a0_1 a0_2 a0_3 a0_4 a0_5 a0_6 a0_7 a0_8 a0_9 a0_10 a0_11 A0_12 c0_12 l0_12 A0_13 c0_13 l0_13 A0_14 c0_14 l0_14 true W h1 (Kd.R_reads' HUp.out).2.1 h2 (Kd.R_reads' HNp.out).2.1 h3 (Kd.R_reads' HTp.out).2.1 k1 hc0_12 k2 hc0_13 k3 hc0_14 Hbs.out
        have HC := Lib.hid (HC _ (Kd.R_reads' HUp.out).2.2 (Kd.R_reads' HNp.out).2.2 (Kd.R_reads' HTp.out).2.2 HC0_12.out HC0_13.out HC0_14.out)
        go_wp2_with fail
        refine HC.out.mono ?_
        rintro e w9 ⟨rfl, hbl⟩
        clear HC
        clear xc0 xc1 xc2 xc3 xc4 xc5 xc6 xc7 xc8 xc9 xc10 xc11 xc12 xc13 xc14
        clear xd0 xd1 xd2 xd3 xd4 xd5 xd6 xd7 xd8 xd9 xd10 xd11 xd12 xd13 xd14
        have HB' := Lib.hid (HB.out.trans (hbl.mono HB.out.size))
        clear HB
        have HB := HB'
        clear HB'
        have HA' := Lib.hid (blk_below HA.out hbl)
        clear HA
        have HA := HA'
        clear HA'
        have HC0_12' := Lib.hid (Kd.C_below HC0_12.out hbl)
        clear HC0_12
        have HC0_12 := HC0_12'
        clear HC0_12'
        have HC0_13' := Lib.hid (Kd.C_below HC0_13.out hbl)
        clear HC0_13
        have HC0_13 := HC0_13'
        clear HC0_13'
        have HC0_14' := Lib.hid (Kd.C_below HC0_14.out hbl)
        clear HC0_14
        have HC0_14 := HC0_14'
        clear HC0_14'
        have HCb' := Lib.hid (Kd.C_below HCb.out hbl)
        clear HCb
        have HCb := HCb'
        clear HCb'
        have HX' := Lib.hid (Kd.R_below HX.out hbl)
        clear HX
        have HX := HX'
        clear HX'
        have HUp' := Lib.hid (Kd.R_below HUp.out hbl)
        clear HUp
        have HUp := HUp'
        clear HUp'
        have HNp' := Lib.hid (Kd.R_below HNp.out hbl)
        clear HNp
        have HNp := HNp'
        clear HNp'
        have HTp' := Lib.hid (Kd.R_below HTp.out hbl)
        clear HTp
        have HTp := HTp'
        clear HTp'
        have HPp' := Lib.hid (blk_below HPp.out hbl)
        clear HPp
        have HPp := HPp'
        clear HPp'
        have HO2' := Lib.hid (Kd.R_below HO2.out hbl)
        clear HO2
        have HO2 := HO2'
        clear HO2'
        clear hbl
        clear HPp HUp HNp HTp HO2
        by_cases hcut : 0 ≤ cut ∧ cut < x.length
        · as_aux_lemma =>
          obtain ⟨hq0, hq1⟩ := hcut
          obtain ⟨n, rfl⟩ := Int.eq_ofNat_of_zero_le hq0
          have hn1 : n < x.length := by omega
          have hq2 : decide (n < x.length) = true := decide_eq_true hn1
          have hq3 : decide ((n : Int) < (x.length : Int)) = true := decide_eq_true (by omega)
          have hq4 : decide ((0 : Int) ≤ (n : Int)) = true := decide_eq_true (by omega)
          obtain ⟨i, hi, hi0, hi1, hi2⟩ := info_parts info_u8
          have htk := (print_take_of (P := Try.prog) (Value.int .u8) 0 25 5 .i64 Try.underlying25 hi hi1 Ax cx x (n : Int) (by omega) (by omega) (Kd.R_reads' HX.out).2.1).1
          rw [Int.toNat_natCast] at htk
          have hdk := Hdc.out n hn1
          have Hdk := Lib.hid hdk
          clear hdk
          have HCt := Lib.hid (Kd.C_take (m := n) (Kd.R_reads' HX.out).2.2 (by omega))
          have hct : (x.take n).length ≤ cx := by have := (Kd.R_reads' HX.out).2.1; rw [List.length_take]; omega
          have HC := Lib.hid (decode_any (x.take n) Ax cx w9 (fun y hy => Hbb.out y (List.mem_of_mem_take hy)) (by rw [List.length_take]; omega) hct HCt.out)
          rw [Hdk.out] at HC
          simp only [List.length_take] at htk HC
          clear hi hi0 hi1 hi2
          go_wp2_with fail
          refine HC.out.mono ?_
          rintro e w10 ⟨vu, vn, vt, rfl, hU, hN, hT, hbl⟩
          clear HC htk
          have HB' := Lib.hid (HB.out.trans (hbl.mono HB.out.size))
          clear HB
          have HB := HB'
          clear HB'
          have HA' := Lib.hid (blk_below HA.out hbl)
          clear HA
          have HA := HA'
          clear HA'
          have HC0_12' := Lib.hid (Kd.C_below HC0_12.out hbl)
          clear HC0_12
          have HC0_12 := HC0_12'
          clear HC0_12'
          have HC0_13' := Lib.hid (Kd.C_below HC0_13.out hbl)
          clear HC0_13
          have HC0_13 := HC0_13'
          clear HC0_13'
          have HC0_14' := Lib.hid (Kd.C_below HC0_14.out hbl)
          clear HC0_14
          have HC0_14 := HC0_14'
          clear HC0_14'
          have HCb' := Lib.hid (Kd.C_below HCb.out hbl)
          clear HCb
          have HCb := HCb'
          clear HCb'
          have HX' := Lib.hid (Kd.R_below HX.out hbl)
          clear HX
          have HX := HX'
          clear HX'
          have HCt' := Lib.hid (Kd.C_below HCt.out hbl)
          clear HCt
          have HCt := HCt'
          clear HCt'
          obtain ⟨Auh, cuh, rfl⟩ := Kd.R_slice hU
          obtain ⟨Anh, cnh, rfl⟩ := Kd.R_slice hN
          obtain ⟨Ath, cth, rfl⟩ := Kd.R_slice hT
          clear hU hN hT hbl
          have hbl := (Below.refl w10.heap.size w10).alloc (Nat.le_refl _) (.cells #[.int .i64 0, .int .i64 0, .int .i64 0, .int .i64 0, .int .i64 0, .int .i64 0, .int .i64 0, .int .i64 0, .int .i64 0, .bool false, .int .i64 0, .int .i64 0, .slice Auh 0 cuh, .slice Anh 0 cnh, .slice Ath 0 cth] 27)
          have HB' := Lib.hid (HB.out.trans (hbl.mono HB.out.size))
          clear HB
          have HB := HB'
          clear HB'
          have HA' := Lib.hid (blk_below HA.out hbl)
          clear HA
          have HA := HA'
          clear HA'
          have HC0_12' := Lib.hid (Kd.C_below HC0_12.out hbl)
          clear HC0_12
          have HC0_12 := HC0_12'
          clear HC0_12'
          have HC0_13' := Lib.hid (Kd.C_below HC0_13.out hbl)
          clear HC0_13
          have HC0_13 := HC0_13'
          clear HC0_13'
          have HC0_14' := Lib.hid (Kd.C_below HC0_14.out hbl)
          clear HC0_14
          have HC0_14 := HC0_14'
          clear HC0_14'
          have HCb' := Lib.hid (Kd.C_below HCb.out hbl)
          clear HCb
          have HCb := HCb'
          clear HCb'
          have HX' := Lib.hid (Kd.R_below HX.out hbl)
          clear HX
          have HX := HX'
          clear HX'
          have HCt' := Lib.hid (Kd.C_below HCt.out hbl)
          clear HCt
          have HCt := HCt'
          clear HCt'
          clear hbl
          go_wp2_with fail
          generalize hal : w10.alloc (.cells #[.int .i64 0, .int .i64 0, .int .i64 0, .int .i64 0, .int .i64 0, .int .i64 0, .int .i64 0, .int .i64 0, .int .i64 0, .bool false, .int .i64 0, .int .i64 0, .slice Auh 0 cuh, .slice Anh 0 cnh, .slice Ath 0 cth] 27) = w11 at *
          clear hal
          clear HCt
          by_cases hz : (dec l1).2 = 0
          · as_aux_lemma =>
            have hzz := hz
            clear hz
            obtain ⟨hqm, hqb⟩ := dec_ok hzz
            have hde : dec l1 = ((dec l1).1, 0) := by rw [← hzz]
            have Hqb := Lib.hid hqb
            have Hqm := Lib.hid hqm
            have Hde := Lib.hid hde
            clear hqb hqm hde hzz
            have HC := Lib.hid (decode_any l1 A1 c1 w11 HBy.out hlb hc1 HCb.out)
            rw [Hde.out] at HC
            generalize hq : (dec l1).1 = q at *
            have Hq := Lib.hid hq
            clear hq
            obtain ⟨q0, q1, q2, q3, q4, q5, q6, q7, q8, q9, q10, q11, qu, qn, qt⟩ := q
            (try simp only at HC)
            go_wp2_with fail
            refine HC.out.mono ?_
            rintro e w12 ⟨vu, vn, vt, rfl, hU, hN, hT, hbl⟩
            clear HC
            have HB' := Lib.hid (HB.out.trans (hbl.mono HB.out.size))
            clear HB
            have HB := HB'
            clear HB'
            have HA' := Lib.hid (blk_below HA.out hbl)
            clear HA
            have HA := HA'
            clear HA'
            have HC0_12' := Lib.hid (Kd.C_below HC0_12.out hbl)
            clear HC0_12
            have HC0_12 := HC0_12'
            clear HC0_12'
            have HC0_13' := Lib.hid (Kd.C_below HC0_13.out hbl)
            clear HC0_13
            have HC0_13 := HC0_13'
            clear HC0_13'
            have HC0_14' := Lib.hid (Kd.C_below HC0_14.out hbl)
            clear HC0_14
            have HC0_14 := HC0_14'
            clear HC0_14'
            have HCb' := Lib.hid (Kd.C_below HCb.out hbl)
            clear HCb
            have HCb := HCb'
            clear HCb'
            have HX' := Lib.hid (Kd.R_below HX.out hbl)
            clear HX
            have HX := HX'
            clear HX'
            obtain ⟨Auq, cuq, rfl⟩ := Kd.R_slice hU
            obtain ⟨Anq, cnq, rfl⟩ := Kd.R_slice hN
            obtain ⟨Atq, ctq, rfl⟩ := Kd.R_slice hT
            have HUq := Lib.hid hU
            have HNq := Lib.hid hN
            have HTq := Lib.hid hT
            clear hU hN hT hbl
            have hbl := (Below.refl w12.heap.size w12).alloc (Nat.le_refl _) (.cells #[.int .i64 q0, .int .i64 q1, .int .i64 q2, .int .i64 q3, .int .i64 q4, .int .i64 q5, .int .i64 q6, .int .i64 q7, .int .i64 q8, .bool q9, .int .i64 q10, .int .i64 q11, .slice Auq qu.length cuq, .slice Anq qn.length cnq, .slice Atq qt.length ctq] 27)
            have hnew := blk_new w12 (.cells #[.int .i64 q0, .int .i64 q1, .int .i64 q2, .int .i64 q3, .int .i64 q4, .int .i64 q5, .int .i64 q6, .int .i64 q7, .int .i64 q8, .bool q9, .int .i64 q10, .int .i64 q11, .slice Auq qu.length cuq, .slice Anq qn.length cnq, .slice Atq qt.length ctq] 27)
            have HB' := Lib.hid (HB.out.trans (hbl.mono HB.out.size))
            clear HB
            have HB := HB'
            clear HB'
            have HA' := Lib.hid (blk_below HA.out hbl)
            clear HA
            have HA := HA'
            clear HA'
            have HC0_12' := Lib.hid (Kd.C_below HC0_12.out hbl)
            clear HC0_12
            have HC0_12 := HC0_12'
            clear HC0_12'
            have HC0_13' := Lib.hid (Kd.C_below HC0_13.out hbl)
            clear HC0_13
            have HC0_13 := HC0_13'
            clear HC0_13'
            have HC0_14' := Lib.hid (Kd.C_below HC0_14.out hbl)
            clear HC0_14
            have HC0_14 := HC0_14'
            clear HC0_14'
            have HCb' := Lib.hid (Kd.C_below HCb.out hbl)
            clear HCb
            have HCb := HCb'
            clear HCb'
            have HX' := Lib.hid (Kd.R_below HX.out hbl)
            clear HX
            have HX := HX'
            clear HX'
            have HUq' := Lib.hid (Kd.R_below HUq.out hbl)
            clear HUq
            have HUq := HUq'
            clear HUq'
            have HNq' := Lib.hid (Kd.R_below HNq.out hbl)
            clear HNq
            have HNq := HNq'
            clear HNq'
            have HTq' := Lib.hid (Kd.R_below HTq.out hbl)
            clear HTq
            have HTq := HTq'
            clear HTq'
            have HPq := Lib.hid hnew
            clear hnew hbl
            go_wp2_with fail
            generalize hal : w12.alloc (.cells #[.int .i64 q0, .int .i64 q1, .int .i64 q2, .int .i64 q3, .int .i64 q4, .int .i64 q5, .int .i64 q6, .int .i64 q7, .int .i64 q8, .bool q9, .int .i64 q10, .int .i64 q11, .slice Auq qu.length cuq, .slice Anq qn.length cnq, .slice Atq qt.length ctq] 27) = w13 at *
            clear hal
            have xc0 := blk_cell HPq.out 0
            have xc1 := blk_cell HPq.out 1
            have xc2 := blk_cell HPq.out 2
            have xc3 := blk_cell HPq.out 3
            have xc4 := blk_cell HPq.out 4
            have xc5 := blk_cell HPq.out 5
            have xc6 := blk_cell HPq.out 6
            have xc7 := blk_cell HPq.out 7
            have xc8 := blk_cell HPq.out 8
            have xc9 := blk_cell HPq.out 9
            have xc10 := blk_cell HPq.out 10
            have xc11 := blk_cell HPq.out 11
            have xc12 := blk_cell HPq.out 12
            have xc13 := blk_cell HPq.out 13
            have xc14 := blk_cell HPq.out 14
            simp only [List.getElem?_toArray, List.getElem?_cons_succ, List.getElem?_cons_zero] at xc0 xc1 xc2 xc3 xc4 xc5 xc6 xc7 xc8 xc9 xc10 xc11 xc12 xc13 xc14
            have HC := Lib.hid (wire_Encode.calls 1000 q0 q1 q2 q3 q4 q5 q6 q7 q8 q9 q10 q11 Auq cuq qu Anq cnq qn Atq ctq qt _ _ w13 (Kd.R_reads' HUq.out).2.2 (Kd.R_reads' HUq.out).2.1 (Kd.R_reads' HNq.out).2.2 (Kd.R_reads' HNq.out).2.1 (Kd.R_reads' HTq.out).2.2 (Kd.R_reads' HTq.out).2.1 (Encode_yes 1000 ⟨q0, q1, q2, q3, q4, q5, q6, q7, q8, q9, q10, q11, qu, qn, qt⟩ Hqm.out (by omega) (by omega)))
            rw [Hqb.out] at HC
            refine HC.out.mono ?_
            rintro e w14 ⟨vy, rfl, hY, hbl⟩
            clear HC
            clear xc0 xc1 xc2 xc3 xc4 xc5 xc6 xc7 xc8 xc9 xc10 xc11 xc12 xc13 xc14
            have HB' := Lib.hid (HB.out.trans (hbl.mono HB.out.size))
            clear HB
            have HB := HB'
            clear HB'
            have HA' := Lib.hid (blk_below HA.out hbl)
            clear HA
            have HA := HA'
            clear HA'
            have HC0_12' := Lib.hid (Kd.C_below HC0_12.out hbl)
            clear HC0_12
            have HC0_12 := HC0_12'
            clear HC0_12'
            have HC0_13' := Lib.hid (Kd.C_below HC0_13.out hbl)
            clear HC0_13
            have HC0_13 := HC0_13'
            clear HC0_13'
            have HC0_14' := Lib.hid (Kd.C_below HC0_14.out hbl)
            clear HC0_14
            have HC0_14 := HC0_14'
            clear HC0_14'
            have HCb' := Lib.hid (Kd.C_below HCb.out hbl)
            clear HCb
            have HCb := HCb'
            clear HCb'
            have HX' := Lib.hid (Kd.R_below HX.out hbl)
            clear HX
            have HX := HX'
            clear HX'
            have HUq' := Lib.hid (Kd.R_below HUq.out hbl)
            clear HUq
            have HUq := HUq'
            clear HUq'
            have HNq' := Lib.hid (Kd.R_below HNq.out hbl)
            clear HNq
            have HNq := HNq'
            clear HNq'
            have HTq' := Lib.hid (Kd.R_below HTq.out hbl)
            clear HTq
            have HTq := HTq'
            clear HTq'
            have HPq' := Lib.hid (blk_below HPq.out hbl)
            clear HPq
            have HPq := HPq'
            clear HPq'
            obtain ⟨Ay, cy, rfl⟩ := Kd.R_slice hY
            have HY := Lib.hid hY
            clear hY hbl
            have HC := Lib.hid (voklaw19_first.calls 1000 true w14 (first_eq 1000 (by omega) (by omega)))
            go_wp2_with fail
            refine HC.out.mono ?_
            rintro e w15 ⟨rfl, hbl⟩
            clear HC
            have HB' := Lib.hid (HB.out.trans (hbl.mono HB.out.size))
            clear HB
            have HB := HB'
            clear HB'
            have HA' := Lib.hid (blk_below HA.out hbl)
            clear HA
            have HA := HA'
            clear HA'
            have HC0_12' := Lib.hid (Kd.C_below HC0_12.out hbl)
            clear HC0_12
            have HC0_12 := HC0_12'
            clear HC0_12'
            have HC0_13' := Lib.hid (Kd.C_below HC0_13.out hbl)
            clear HC0_13
            have HC0_13 := HC0_13'
            clear HC0_13'
            have HC0_14' := Lib.hid (Kd.C_below HC0_14.out hbl)
            clear HC0_14
            have HC0_14 := HC0_14'
            clear HC0_14'
            have HCb' := Lib.hid (Kd.C_below HCb.out hbl)
            clear HCb
            have HCb := HCb'
            clear HCb'
            have HX' := Lib.hid (Kd.R_below HX.out hbl)
            clear HX
            have HX := HX'
            clear HX'
            have HUq' := Lib.hid (Kd.R_below HUq.out hbl)
            clear HUq
            have HUq := HUq'
            clear HUq'
            have HNq' := Lib.hid (Kd.R_below HNq.out hbl)
            clear HNq
            have HNq := HNq'
            clear HNq'
            have HTq' := Lib.hid (Kd.R_below HTq.out hbl)
            clear HTq
            have HTq := HTq'
            clear HTq'
            have HPq' := Lib.hid (blk_below HPq.out hbl)
            clear HPq
            have HPq := HPq'
            clear HPq'
            have HY' := Lib.hid (Kd.R_below HY.out hbl)
            clear HY
            have HY := HY'
            clear HY'
            clear hbl
            have HC := Lib.hid (vokref_Bytes.calls Ay cy l1 A1 c1 l1 _ w15 (Kd.R_reads' HY.out).2.2 (Kd.R_reads' HY.out).2.1 HCb.out hc1 (vbytes_eq l1 l1 HBy.out HBy.out))
            rw [decide_eq_true rfl] at HC
            go_wp2_with fail
            refine HC.out.mono ?_
            rintro e wz ⟨rfl, hD⟩
            have hbl := hD.below
            have HBz := Lib.hid (HB.out.trans (hbl.mono HB.out.size))
            clear hD hbl HC
            go_wp2
            go_ret
            exact ⟨rfl, HBz.out⟩
          · as_aux_lemma =>
            have hzz := hz
            clear hz
            generalize hdb : dec l1 = dd at *
            have HC := Lib.hid (decode_any l1 A1 c1 w11 HBy.out hlb hc1 HCb.out)
            rw [hdb] at HC
            clear hdb
            obtain ⟨⟨q0, q1, q2, q3, q4, q5, q6, q7, q8, q9, q10, q11, qu, qn, qt⟩, ec⟩ := dd
            (try simp only at HC)
            simp only at hzz
            have hec : (ec != 0) = true := by simpa using hzz
            clear hzz
            go_wp2_with fail
            refine HC.out.mono ?_
            rintro e w12 ⟨vu, vn, vt, rfl, hU, hN, hT, hbl⟩
            clear HC
            have HB' := Lib.hid (HB.out.trans (hbl.mono HB.out.size))
            clear HB
            have HB := HB'
            clear HB'
            have HA' := Lib.hid (blk_below HA.out hbl)
            clear HA
            have HA := HA'
            clear HA'
            have HC0_12' := Lib.hid (Kd.C_below HC0_12.out hbl)
            clear HC0_12
            have HC0_12 := HC0_12'
            clear HC0_12'
            have HC0_13' := Lib.hid (Kd.C_below HC0_13.out hbl)
            clear HC0_13
            have HC0_13 := HC0_13'
            clear HC0_13'
            have HC0_14' := Lib.hid (Kd.C_below HC0_14.out hbl)
            clear HC0_14
            have HC0_14 := HC0_14'
            clear HC0_14'
            have HCb' := Lib.hid (Kd.C_below HCb.out hbl)
            clear HCb
            have HCb := HCb'
            clear HCb'
            have HX' := Lib.hid (Kd.R_below HX.out hbl)
            clear HX
            have HX := HX'
            clear HX'
            obtain ⟨Auq, cuq, rfl⟩ := Kd.R_slice hU
            obtain ⟨Anq, cnq, rfl⟩ := Kd.R_slice hN
            obtain ⟨Atq, ctq, rfl⟩ := Kd.R_slice hT
            have HUq := Lib.hid hU
            have HNq := Lib.hid hN
            have HTq := Lib.hid hT
            clear hU hN hT hbl
            have hbl := (Below.refl w12.heap.size w12).alloc (Nat.le_refl _) (.cells #[.int .i64 q0, .int .i64 q1, .int .i64 q2, .int .i64 q3, .int .i64 q4, .int .i64 q5, .int .i64 q6, .int .i64 q7, .int .i64 q8, .bool q9, .int .i64 q10, .int .i64 q11, .slice Auq qu.length cuq, .slice Anq qn.length cnq, .slice Atq qt.length ctq] 27)
            have hnew := blk_new w12 (.cells #[.int .i64 q0, .int .i64 q1, .int .i64 q2, .int .i64 q3, .int .i64 q4, .int .i64 q5, .int .i64 q6, .int .i64 q7, .int .i64 q8, .bool q9, .int .i64 q10, .int .i64 q11, .slice Auq qu.length cuq, .slice Anq qn.length cnq, .slice Atq qt.length ctq] 27)
            have HB' := Lib.hid (HB.out.trans (hbl.mono HB.out.size))
            clear HB
            have HB := HB'
            clear HB'
            have HA' := Lib.hid (blk_below HA.out hbl)
            clear HA
            have HA := HA'
            clear HA'
            have HC0_12' := Lib.hid (Kd.C_below HC0_12.out hbl)
            clear HC0_12
            have HC0_12 := HC0_12'
            clear HC0_12'
            have HC0_13' := Lib.hid (Kd.C_below HC0_13.out hbl)
            clear HC0_13
            have HC0_13 := HC0_13'
            clear HC0_13'
            have HC0_14' := Lib.hid (Kd.C_below HC0_14.out hbl)
            clear HC0_14
            have HC0_14 := HC0_14'
            clear HC0_14'
            have HCb' := Lib.hid (Kd.C_below HCb.out hbl)
            clear HCb
            have HCb := HCb'
            clear HCb'
            have HX' := Lib.hid (Kd.R_below HX.out hbl)
            clear HX
            have HX := HX'
            clear HX'
            have HUq' := Lib.hid (Kd.R_below HUq.out hbl)
            clear HUq
            have HUq := HUq'
            clear HUq'
            have HNq' := Lib.hid (Kd.R_below HNq.out hbl)
            clear HNq
            have HNq := HNq'
            clear HNq'
            have HTq' := Lib.hid (Kd.R_below HTq.out hbl)
            clear HTq
            have HTq := HTq'
            clear HTq'
            have HPq := Lib.hid hnew
            clear hnew hbl
            go_wp2_with fail
            generalize hal : w12.alloc (.cells #[.int .i64 q0, .int .i64 q1, .int .i64 q2, .int .i64 q3, .int .i64 q4, .int .i64 q5, .int .i64 q6, .int .i64 q7, .int .i64 q8, .bool q9, .int .i64 q10, .int .i64 q11, .slice Auq qu.length cuq, .slice Anq qn.length cnq, .slice Atq qt.length ctq] 27) = w13 at *
            clear hal
            have HC := Lib.hid (voklaw19_first.calls 1000 true w13 (first_eq 1000 (by omega) (by omega)))
            refine HC.out.mono ?_
            rintro e wz ⟨rfl, hbl⟩
            have HBz := Lib.hid (HB.out.trans (hbl.mono HB.out.size))
            clear hbl HC
            go_wp2
            go_ret
            exact ⟨rfl, HBz.out⟩
        · by_cases hq0 : 0 ≤ cut
          · obtain ⟨n, rfl⟩ := Int.eq_ofNat_of_zero_le hq0
            have hq2 : decide (n < x.length) = false := decide_eq_false (by omega)
            have hq3 : decide ((n : Int) < (x.length : Int)) = false := decide_eq_false (by omega)
            have hq4 : decide ((0 : Int) ≤ (n : Int)) = true := decide_eq_true (by omega)
            clear hcut
            by_cases hz : (dec l1).2 = 0
            · as_aux_lemma =>
              have hzz := hz
              clear hz
              obtain ⟨hqm, hqb⟩ := dec_ok hzz
              have hde : dec l1 = ((dec l1).1, 0) := by rw [← hzz]
              have Hqb := Lib.hid hqb
              have Hqm := Lib.hid hqm
              have Hde := Lib.hid hde
              clear hqb hqm hde hzz
              have HC := Lib.hid (decode_any l1 A1 c1 w9 HBy.out hlb hc1 HCb.out)
              rw [Hde.out] at HC
              generalize hq : (dec l1).1 = q at *
              have Hq := Lib.hid hq
              clear hq
              obtain ⟨q0, q1, q2, q3, q4, q5, q6, q7, q8, q9, q10, q11, qu, qn, qt⟩ := q
              (try simp only at HC)
              go_wp2_with fail
              refine HC.out.mono ?_
              rintro e w10 ⟨vu, vn, vt, rfl, hU, hN, hT, hbl⟩
              clear HC
              have HB' := Lib.hid (HB.out.trans (hbl.mono HB.out.size))
              clear HB
              have HB := HB'
              clear HB'
              have HA' := Lib.hid (blk_below HA.out hbl)
              clear HA
              have HA := HA'
              clear HA'
              have HC0_12' := Lib.hid (Kd.C_below HC0_12.out hbl)
              clear HC0_12
              have HC0_12 := HC0_12'
              clear HC0_12'
              have HC0_13' := Lib.hid (Kd.C_below HC0_13.out hbl)
              clear HC0_13
              have HC0_13 := HC0_13'
              clear HC0_13'
              have HC0_14' := Lib.hid (Kd.C_below HC0_14.out hbl)
              clear HC0_14
              have HC0_14 := HC0_14'
              clear HC0_14'
              have HCb' := Lib.hid (Kd.C_below HCb.out hbl)
              clear HCb
              have HCb := HCb'
              clear HCb'
              have HX' := Lib.hid (Kd.R_below HX.out hbl)
              clear HX
              have HX := HX'
              clear HX'
              obtain ⟨Auq, cuq, rfl⟩ := Kd.R_slice hU
              obtain ⟨Anq, cnq, rfl⟩ := Kd.R_slice hN
              obtain ⟨Atq, ctq, rfl⟩ := Kd.R_slice hT
              have HUq := Lib.hid hU
              have HNq := Lib.hid hN
              have HTq := Lib.hid hT
              clear hU hN hT hbl
              have hbl := (Below.refl w10.heap.size w10).alloc (Nat.le_refl _) (.cells #[.int .i64 q0, .int .i64 q1, .int .i64 q2, .int .i64 q3, .int .i64 q4, .int .i64 q5, .int .i64 q6, .int .i64 q7, .int .i64 q8, .bool q9, .int .i64 q10, .int .i64 q11, .slice Auq qu.length cuq, .slice Anq qn.length cnq, .slice Atq qt.length ctq] 27)
              have hnew := blk_new w10 (.cells #[.int .i64 q0, .int .i64 q1, .int .i64 q2, .int .i64 q3, .int .i64 q4, .int .i64 q5, .int .i64 q6, .int .i64 q7, .int .i64 q8, .bool q9, .int .i64 q10, .int .i64 q11, .slice Auq qu.length cuq, .slice Anq qn.length cnq, .slice Atq qt.length ctq] 27)
              have HB' := Lib.hid (HB.out.trans (hbl.mono HB.out.size))
              clear HB
              have HB := HB'
              clear HB'
              have HA' := Lib.hid (blk_below HA.out hbl)
              clear HA
              have HA := HA'
              clear HA'
              have HC0_12' := Lib.hid (Kd.C_below HC0_12.out hbl)
              clear HC0_12
              have HC0_12 := HC0_12'
              clear HC0_12'
              have HC0_13' := Lib.hid (Kd.C_below HC0_13.out hbl)
              clear HC0_13
              have HC0_13 := HC0_13'
              clear HC0_13'
              have HC0_14' := Lib.hid (Kd.C_below HC0_14.out hbl)
              clear HC0_14
              have HC0_14 := HC0_14'
              clear HC0_14'
              have HCb' := Lib.hid (Kd.C_below HCb.out hbl)
              clear HCb
              have HCb := HCb'
              clear HCb'
              have HX' := Lib.hid (Kd.R_below HX.out hbl)
              clear HX
              have HX := HX'
              clear HX'
              have HUq' := Lib.hid (Kd.R_below HUq.out hbl)
              clear HUq
              have HUq := HUq'
              clear HUq'
              have HNq' := Lib.hid (Kd.R_below HNq.out hbl)
              clear HNq
              have HNq := HNq'
              clear HNq'
              have HTq' := Lib.hid (Kd.R_below HTq.out hbl)
              clear HTq
              have HTq := HTq'
              clear HTq'
              have HPq := Lib.hid hnew
              clear hnew hbl
              go_wp2_with fail
              generalize hal : w10.alloc (.cells #[.int .i64 q0, .int .i64 q1, .int .i64 q2, .int .i64 q3, .int .i64 q4, .int .i64 q5, .int .i64 q6, .int .i64 q7, .int .i64 q8, .bool q9, .int .i64 q10, .int .i64 q11, .slice Auq qu.length cuq, .slice Anq qn.length cnq, .slice Atq qt.length ctq] 27) = w11 at *
              clear hal
              have xc0 := blk_cell HPq.out 0
              have xc1 := blk_cell HPq.out 1
              have xc2 := blk_cell HPq.out 2
              have xc3 := blk_cell HPq.out 3
              have xc4 := blk_cell HPq.out 4
              have xc5 := blk_cell HPq.out 5
              have xc6 := blk_cell HPq.out 6
              have xc7 := blk_cell HPq.out 7
              have xc8 := blk_cell HPq.out 8
              have xc9 := blk_cell HPq.out 9
              have xc10 := blk_cell HPq.out 10
              have xc11 := blk_cell HPq.out 11
              have xc12 := blk_cell HPq.out 12
              have xc13 := blk_cell HPq.out 13
              have xc14 := blk_cell HPq.out 14
              simp only [List.getElem?_toArray, List.getElem?_cons_succ, List.getElem?_cons_zero] at xc0 xc1 xc2 xc3 xc4 xc5 xc6 xc7 xc8 xc9 xc10 xc11 xc12 xc13 xc14
              have HC := Lib.hid (wire_Encode.calls 1000 q0 q1 q2 q3 q4 q5 q6 q7 q8 q9 q10 q11 Auq cuq qu Anq cnq qn Atq ctq qt _ _ w11 (Kd.R_reads' HUq.out).2.2 (Kd.R_reads' HUq.out).2.1 (Kd.R_reads' HNq.out).2.2 (Kd.R_reads' HNq.out).2.1 (Kd.R_reads' HTq.out).2.2 (Kd.R_reads' HTq.out).2.1 (Encode_yes 1000 ⟨q0, q1, q2, q3, q4, q5, q6, q7, q8, q9, q10, q11, qu, qn, qt⟩ Hqm.out (by omega) (by omega)))
              rw [Hqb.out] at HC
              refine HC.out.mono ?_
              rintro e w12 ⟨vy, rfl, hY, hbl⟩
              clear HC
              clear xc0 xc1 xc2 xc3 xc4 xc5 xc6 xc7 xc8 xc9 xc10 xc11 xc12 xc13 xc14
              have HB' := Lib.hid (HB.out.trans (hbl.mono HB.out.size))
              clear HB
              have HB := HB'
              clear HB'
              have HA' := Lib.hid (blk_below HA.out hbl)
              clear HA
              have HA := HA'
              clear HA'
              have HC0_12' := Lib.hid (Kd.C_below HC0_12.out hbl)
              clear HC0_12
              have HC0_12 := HC0_12'
              clear HC0_12'
              have HC0_13' := Lib.hid (Kd.C_below HC0_13.out hbl)
              clear HC0_13
              have HC0_13 := HC0_13'
              clear HC0_13'
              have HC0_14' := Lib.hid (Kd.C_below HC0_14.out hbl)
              clear HC0_14
              have HC0_14 := HC0_14'
              clear HC0_14'
              have HCb' := Lib.hid (Kd.C_below HCb.out hbl)
              clear HCb
              have HCb := HCb'
              clear HCb'
              have HX' := Lib.hid (Kd.R_below HX.out hbl)
              clear HX
              have HX := HX'
              clear HX'
              have HUq' := Lib.hid (Kd.R_below HUq.out hbl)
              clear HUq
              have HUq := HUq'
              clear HUq'
              have HNq' := Lib.hid (Kd.R_below HNq.out hbl)
              clear HNq
              have HNq := HNq'
              clear HNq'
              have HTq' := Lib.hid (Kd.R_below HTq.out hbl)
              clear HTq
              have HTq := HTq'
              clear HTq'
              have HPq' := Lib.hid (blk_below HPq.out hbl)
              clear HPq
              have HPq := HPq'
              clear HPq'
              obtain ⟨Ay, cy, rfl⟩ := Kd.R_slice hY
              have HY := Lib.hid hY
              clear hY hbl
              have HC := Lib.hid (voklaw19_first.calls 1000 true w12 (first_eq 1000 (by omega) (by omega)))
              go_wp2_with fail
              refine HC.out.mono ?_
              rintro e w13 ⟨rfl, hbl⟩
              clear HC
              have HB' := Lib.hid (HB.out.trans (hbl.mono HB.out.size))
              clear HB
              have HB := HB'
              clear HB'
              have HA' := Lib.hid (blk_below HA.out hbl)
              clear HA
              have HA := HA'
              clear HA'
              have HC0_12' := Lib.hid (Kd.C_below HC0_12.out hbl)
              clear HC0_12
              have HC0_12 := HC0_12'
              clear HC0_12'
              have HC0_13' := Lib.hid (Kd.C_below HC0_13.out hbl)
              clear HC0_13
              have HC0_13 := HC0_13'
              clear HC0_13'
              have HC0_14' := Lib.hid (Kd.C_below HC0_14.out hbl)
              clear HC0_14
              have HC0_14 := HC0_14'
              clear HC0_14'
              have HCb' := Lib.hid (Kd.C_below HCb.out hbl)
              clear HCb
              have HCb := HCb'
              clear HCb'
              have HX' := Lib.hid (Kd.R_below HX.out hbl)
              clear HX
              have HX := HX'
              clear HX'
              have HUq' := Lib.hid (Kd.R_below HUq.out hbl)
              clear HUq
              have HUq := HUq'
              clear HUq'
              have HNq' := Lib.hid (Kd.R_below HNq.out hbl)
              clear HNq
              have HNq := HNq'
              clear HNq'
              have HTq' := Lib.hid (Kd.R_below HTq.out hbl)
              clear HTq
              have HTq := HTq'
              clear HTq'
              have HPq' := Lib.hid (blk_below HPq.out hbl)
              clear HPq
              have HPq := HPq'
              clear HPq'
              have HY' := Lib.hid (Kd.R_below HY.out hbl)
              clear HY
              have HY := HY'
              clear HY'
              clear hbl
              have HC := Lib.hid (vokref_Bytes.calls Ay cy l1 A1 c1 l1 _ w13 (Kd.R_reads' HY.out).2.2 (Kd.R_reads' HY.out).2.1 HCb.out hc1 (vbytes_eq l1 l1 HBy.out HBy.out))
              rw [decide_eq_true rfl] at HC
              go_wp2_with fail
              refine HC.out.mono ?_
              rintro e wz ⟨rfl, hD⟩
              have hbl := hD.below
              have HBz := Lib.hid (HB.out.trans (hbl.mono HB.out.size))
              clear hD hbl HC
              go_wp2
              go_ret
              exact ⟨rfl, HBz.out⟩
            · as_aux_lemma =>
              have hzz := hz
              clear hz
              generalize hdb : dec l1 = dd at *
              have HC := Lib.hid (decode_any l1 A1 c1 w9 HBy.out hlb hc1 HCb.out)
              rw [hdb] at HC
              clear hdb
              obtain ⟨⟨q0, q1, q2, q3, q4, q5, q6, q7, q8, q9, q10, q11, qu, qn, qt⟩, ec⟩ := dd
              (try simp only at HC)
              simp only at hzz
              have hec : (ec != 0) = true := by simpa using hzz
              clear hzz
              go_wp2_with fail
              refine HC.out.mono ?_
              rintro e w10 ⟨vu, vn, vt, rfl, hU, hN, hT, hbl⟩
              clear HC
              have HB' := Lib.hid (HB.out.trans (hbl.mono HB.out.size))
              clear HB
              have HB := HB'
              clear HB'
              have HA' := Lib.hid (blk_below HA.out hbl)
              clear HA
              have HA := HA'
              clear HA'
              have HC0_12' := Lib.hid (Kd.C_below HC0_12.out hbl)
              clear HC0_12
              have HC0_12 := HC0_12'
              clear HC0_12'
              have HC0_13' := Lib.hid (Kd.C_below HC0_13.out hbl)
              clear HC0_13
              have HC0_13 := HC0_13'
              clear HC0_13'
              have HC0_14' := Lib.hid (Kd.C_below HC0_14.out hbl)
              clear HC0_14
              have HC0_14 := HC0_14'
              clear HC0_14'
              have HCb' := Lib.hid (Kd.C_below HCb.out hbl)
              clear HCb
              have HCb := HCb'
              clear HCb'
              have HX' := Lib.hid (Kd.R_below HX.out hbl)
              clear HX
              have HX := HX'
              clear HX'
              obtain ⟨Auq, cuq, rfl⟩ := Kd.R_slice hU
              obtain ⟨Anq, cnq, rfl⟩ := Kd.R_slice hN
              obtain ⟨Atq, ctq, rfl⟩ := Kd.R_slice hT
              have HUq := Lib.hid hU
              have HNq := Lib.hid hN
              have HTq := Lib.hid hT
              clear hU hN hT hbl
              have hbl := (Below.refl w10.heap.size w10).alloc (Nat.le_refl _) (.cells #[.int .i64 q0, .int .i64 q1, .int .i64 q2, .int .i64 q3, .int .i64 q4, .int .i64 q5, .int .i64 q6, .int .i64 q7, .int .i64 q8, .bool q9, .int .i64 q10, .int .i64 q11, .slice Auq qu.length cuq, .slice Anq qn.length cnq, .slice Atq qt.length ctq] 27)
              have hnew := blk_new w10 (.cells #[.int .i64 q0, .int .i64 q1, .int .i64 q2, .int .i64 q3, .int .i64 q4, .int .i64 q5, .int .i64 q6, .int .i64 q7, .int .i64 q8, .bool q9, .int .i64 q10, .int .i64 q11, .slice Auq qu.length cuq, .slice Anq qn.length cnq, .slice Atq qt.length ctq] 27)
              have HB' := Lib.hid (HB.out.trans (hbl.mono HB.out.size))
              clear HB
              have HB := HB'
              clear HB'
              have HA' := Lib.hid (blk_below HA.out hbl)
              clear HA
              have HA := HA'
              clear HA'
              have HC0_12' := Lib.hid (Kd.C_below HC0_12.out hbl)
              clear HC0_12
              have HC0_12 := HC0_12'
              clear HC0_12'
              have HC0_13' := Lib.hid (Kd.C_below HC0_13.out hbl)
              clear HC0_13
              have HC0_13 := HC0_13'
              clear HC0_13'
              have HC0_14' := Lib.hid (Kd.C_below HC0_14.out hbl)
              clear HC0_14
              have HC0_14 := HC0_14'
              clear HC0_14'
              have HCb' := Lib.hid (Kd.C_below HCb.out hbl)
              clear HCb
              have HCb := HCb'
              clear HCb'
              have HX' := Lib.hid (Kd.R_below HX.out hbl)
              clear HX
              have HX := HX'
              clear HX'
              have HUq' := Lib.hid (Kd.R_below HUq.out hbl)
              clear HUq
              have HUq := HUq'
              clear HUq'
              have HNq' := Lib.hid (Kd.R_below HNq.out hbl)
              clear HNq
              have HNq := HNq'
              clear HNq'
              have HTq' := Lib.hid (Kd.R_below HTq.out hbl)
              clear HTq
              have HTq := HTq'
              clear HTq'
              have HPq := Lib.hid hnew
              clear hnew hbl
              go_wp2_with fail
              generalize hal : w10.alloc (.cells #[.int .i64 q0, .int .i64 q1, .int .i64 q2, .int .i64 q3, .int .i64 q4, .int .i64 q5, .int .i64 q6, .int .i64 q7, .int .i64 q8, .bool q9, .int .i64 q10, .int .i64 q11, .slice Auq qu.length cuq, .slice Anq qn.length cnq, .slice Atq qt.length ctq] 27) = w11 at *
              clear hal
              have HC := Lib.hid (voklaw19_first.calls 1000 true w11 (first_eq 1000 (by omega) (by omega)))
              refine HC.out.mono ?_
              rintro e wz ⟨rfl, hbl⟩
              have HBz := Lib.hid (HB.out.trans (hbl.mono HB.out.size))
              clear hbl HC
              go_wp2
              go_ret
              exact ⟨rfl, HBz.out⟩
          · have hq2 : decide (0 ≤ cut) = false := decide_eq_false hq0
            clear hcut
            by_cases hz : (dec l1).2 = 0
            · as_aux_lemma =>
              have hzz := hz
              clear hz
              obtain ⟨hqm, hqb⟩ := dec_ok hzz
              have hde : dec l1 = ((dec l1).1, 0) := by rw [← hzz]
              have Hqb := Lib.hid hqb
              have Hqm := Lib.hid hqm
              have Hde := Lib.hid hde
              clear hqb hqm hde hzz
              have HC := Lib.hid (decode_any l1 A1 c1 w9 HBy.out hlb hc1 HCb.out)
              rw [Hde.out] at HC
              generalize hq : (dec l1).1 = q at *
              have Hq := Lib.hid hq
              clear hq
              obtain ⟨q0, q1, q2, q3, q4, q5, q6, q7, q8, q9, q10, q11, qu, qn, qt⟩ := q
              (try simp only at HC)
              go_wp2_with fail
              refine HC.out.mono ?_
              rintro e w10 ⟨vu, vn, vt, rfl, hU, hN, hT, hbl⟩
              clear HC
              have HB' := Lib.hid (HB.out.trans (hbl.mono HB.out.size))
              clear HB
              have HB := HB'
              clear HB'
              have HA' := Lib.hid (blk_below HA.out hbl)
              clear HA
              have HA := HA'
              clear HA'
              have HC0_12' := Lib.hid (Kd.C_below HC0_12.out hbl)
              clear HC0_12
              have HC0_12 := HC0_12'
              clear HC0_12'
              have HC0_13' := Lib.hid (Kd.C_below HC0_13.out hbl)
              clear HC0_13
              have HC0_13 := HC0_13'
              clear HC0_13'
              have HC0_14' := Lib.hid (Kd.C_below HC0_14.out hbl)
              clear HC0_14
              have HC0_14 := HC0_14'
              clear HC0_14'
              have HCb' := Lib.hid (Kd.C_below HCb.out hbl)
              clear HCb
              have HCb := HCb'
              clear HCb'
              have HX' := Lib.hid (Kd.R_below HX.out hbl)
              clear HX
              have HX := HX'
              clear HX'
              obtain ⟨Auq, cuq, rfl⟩ := Kd.R_slice hU
              obtain ⟨Anq, cnq, rfl⟩ := Kd.R_slice hN
              obtain ⟨Atq, ctq, rfl⟩ := Kd.R_slice hT
              have HUq := Lib.hid hU
              have HNq := Lib.hid hN
              have HTq := Lib.hid hT
              clear hU hN hT hbl
              have hbl := (Below.refl w10.heap.size w10).alloc (Nat.le_refl _) (.cells #[.int .i64 q0, .int .i64 q1, .int .i64 q2, .int .i64 q3, .int .i64 q4, .int .i64 q5, .int .i64 q6, .int .i64 q7, .int .i64 q8, .bool q9, .int .i64 q10, .int .i64 q11, .slice Auq qu.length cuq, .slice Anq qn.length cnq, .slice Atq qt.length ctq] 27)
              have hnew := blk_new w10 (.cells #[.int .i64 q0, .int .i64 q1, .int .i64 q2, .int .i64 q3, .int .i64 q4, .int .i64 q5, .int .i64 q6, .int .i64 q7, .int .i64 q8, .bool q9, .int .i64 q10, .int .i64 q11, .slice Auq qu.length cuq, .slice Anq qn.length cnq, .slice Atq qt.length ctq] 27)
              have HB' := Lib.hid (HB.out.trans (hbl.mono HB.out.size))
              clear HB
              have HB := HB'
              clear HB'
              have HA' := Lib.hid (blk_below HA.out hbl)
              clear HA
              have HA := HA'
              clear HA'
              have HC0_12' := Lib.hid (Kd.C_below HC0_12.out hbl)
              clear HC0_12
              have HC0_12 := HC0_12'
              clear HC0_12'
              have HC0_13' := Lib.hid (Kd.C_below HC0_13.out hbl)
              clear HC0_13
              have HC0_13 := HC0_13'
              clear HC0_13'
              have HC0_14' := Lib.hid (Kd.C_below HC0_14.out hbl)
              clear HC0_14
              have HC0_14 := HC0_14'
              clear HC0_14'
              have HCb' := Lib.hid (Kd.C_below HCb.out hbl)
              clear HCb
              have HCb := HCb'
              clear HCb'
              have HX' := Lib.hid (Kd.R_below HX.out hbl)
              clear HX
              have HX := HX'
              clear HX'
              have HUq' := Lib.hid (Kd.R_below HUq.out hbl)
              clear HUq
              have HUq := HUq'
              clear HUq'
              have HNq' := Lib.hid (Kd.R_below HNq.out hbl)
              clear HNq
              have HNq := HNq'
              clear HNq'
              have HTq' := Lib.hid (Kd.R_below HTq.out hbl)
              clear HTq
              have HTq := HTq'
              clear HTq'
              have HPq := Lib.hid hnew
              clear hnew hbl
              go_wp2_with fail
              generalize hal : w10.alloc (.cells #[.int .i64 q0, .int .i64 q1, .int .i64 q2, .int .i64 q3, .int .i64 q4, .int .i64 q5, .int .i64 q6, .int .i64 q7, .int .i64 q8, .bool q9, .int .i64 q10, .int .i64 q11, .slice Auq qu.length cuq, .slice Anq qn.length cnq, .slice Atq qt.length ctq] 27) = w11 at *
              clear hal
              have xc0 := blk_cell HPq.out 0
              have xc1 := blk_cell HPq.out 1
              have xc2 := blk_cell HPq.out 2
              have xc3 := blk_cell HPq.out 3
              have xc4 := blk_cell HPq.out 4
              have xc5 := blk_cell HPq.out 5
              have xc6 := blk_cell HPq.out 6
              have xc7 := blk_cell HPq.out 7
              have xc8 := blk_cell HPq.out 8
              have xc9 := blk_cell HPq.out 9
              have xc10 := blk_cell HPq.out 10
              have xc11 := blk_cell HPq.out 11
              have xc12 := blk_cell HPq.out 12
              have xc13 := blk_cell HPq.out 13
              have xc14 := blk_cell HPq.out 14
              simp only [List.getElem?_toArray, List.getElem?_cons_succ, List.getElem?_cons_zero] at xc0 xc1 xc2 xc3 xc4 xc5 xc6 xc7 xc8 xc9 xc10 xc11 xc12 xc13 xc14
              have HC := Lib.hid (wire_Encode.calls 1000 q0 q1 q2 q3 q4 q5 q6 q7 q8 q9 q10 q11 Auq cuq qu Anq cnq qn Atq ctq qt _ _ w11 (Kd.R_reads' HUq.out).2.2 (Kd.R_reads' HUq.out).2.1 (Kd.R_reads' HNq.out).2.2 (Kd.R_reads' HNq.out).2.1 (Kd.R_reads' HTq.out).2.2 (Kd.R_reads' HTq.out).2.1 (Encode_yes 1000 ⟨q0, q1, q2, q3, q4, q5, q6, q7, q8, q9, q10, q11, qu, qn, qt⟩ Hqm.out (by omega) (by omega)))
              rw [Hqb.out] at HC
              refine HC.out.mono ?_
              rintro e w12 ⟨vy, rfl, hY, hbl⟩
              clear HC
              clear xc0 xc1 xc2 xc3 xc4 xc5 xc6 xc7 xc8 xc9 xc10 xc11 xc12 xc13 xc14
              have HB' := Lib.hid (HB.out.trans (hbl.mono HB.out.size))
              clear HB
              have HB := HB'
              clear HB'
              have HA' := Lib.hid (blk_below HA.out hbl)
              clear HA
              have HA := HA'
              clear HA'
              have HC0_12' := Lib.hid (Kd.C_below HC0_12.out hbl)
              clear HC0_12
              have HC0_12 := HC0_12'
              clear HC0_12'
              have HC0_13' := Lib.hid (Kd.C_below HC0_13.out hbl)
              clear HC0_13
              have HC0_13 := HC0_13'
              clear HC0_13'
              have HC0_14' := Lib.hid (Kd.C_below HC0_14.out hbl)
              clear HC0_14
              have HC0_14 := HC0_14'
              clear HC0_14'
              have HCb' := Lib.hid (Kd.C_below HCb.out hbl)
              clear HCb
              have HCb := HCb'
              clear HCb'
              have HX' := Lib.hid (Kd.R_below HX.out hbl)
              clear HX
              have HX := HX'
              clear HX'
              have HUq' := Lib.hid (Kd.R_below HUq.out hbl)
              clear HUq
              have HUq := HUq'
              clear HUq'
              have HNq' := Lib.hid (Kd.R_below HNq.out hbl)
              clear HNq
              have HNq := HNq'
              clear HNq'
              have HTq' := Lib.hid (Kd.R_below HTq.out hbl)
              clear HTq
              have HTq := HTq'
              clear HTq'
              have HPq' := Lib.hid (blk_below HPq.out hbl)
              clear HPq
              have HPq := HPq'
              clear HPq'
              obtain ⟨Ay, cy, rfl⟩ := Kd.R_slice hY
              have HY := Lib.hid hY
              clear hY hbl
              have HC := Lib.hid (voklaw19_first.calls 1000 true w12 (first_eq 1000 (by omega) (by omega)))
              go_wp2_with fail
              refine HC.out.mono ?_
              rintro e w13 ⟨rfl, hbl⟩
              clear HC
              have HB' := Lib.hid (HB.out.trans (hbl.mono HB.out.size))
              clear HB
              have HB := HB'
              clear HB'
              have HA' := Lib.hid (blk_below HA.out hbl)
              clear HA
              have HA := HA'
              clear HA'
              have HC0_12' := Lib.hid (Kd.C_below HC0_12.out hbl)
              clear HC0_12
              have HC0_12 := HC0_12'
              clear HC0_12'
              have HC0_13' := Lib.hid (Kd.C_below HC0_13.out hbl)
              clear HC0_13
              have HC0_13 := HC0_13'
              clear HC0_13'
              have HC0_14' := Lib.hid (Kd.C_below HC0_14.out hbl)
              clear HC0_14
              have HC0_14 := HC0_14'
              clear HC0_14'
              have HCb' := Lib.hid (Kd.C_below HCb.out hbl)
              clear HCb
              have HCb := HCb'
              clear HCb'
              have HX' := Lib.hid (Kd.R_below HX.out hbl)
              clear HX
              have HX := HX'
              clear HX'
              have HUq' := Lib.hid (Kd.R_below HUq.out hbl)
              clear HUq
              have HUq := HUq'
              clear HUq'
              have HNq' := Lib.hid (Kd.R_below HNq.out hbl)
              clear HNq
              have HNq := HNq'
              clear HNq'
              have HTq' := Lib.hid (Kd.R_below HTq.out hbl)
              clear HTq
              have HTq := HTq'
              clear HTq'
              have HPq' := Lib.hid (blk_below HPq.out hbl)
              clear HPq
              have HPq := HPq'
              clear HPq'
              have HY' := Lib.hid (Kd.R_below HY.out hbl)
              clear HY
              have HY := HY'
              clear HY'
              clear hbl
              have HC := Lib.hid (vokref_Bytes.calls Ay cy l1 A1 c1 l1 _ w13 (Kd.R_reads' HY.out).2.2 (Kd.R_reads' HY.out).2.1 HCb.out hc1 (vbytes_eq l1 l1 HBy.out HBy.out))
              rw [decide_eq_true rfl] at HC
              go_wp2_with fail
              refine HC.out.mono ?_
              rintro e wz ⟨rfl, hD⟩
              have hbl := hD.below
              have HBz := Lib.hid (HB.out.trans (hbl.mono HB.out.size))
              clear hD hbl HC
              go_wp2
              go_ret
              exact ⟨rfl, HBz.out⟩
            · as_aux_lemma =>
              have hzz := hz
              clear hz
              generalize hdb : dec l1 = dd at *
              have HC := Lib.hid (decode_any l1 A1 c1 w9 HBy.out hlb hc1 HCb.out)
              rw [hdb] at HC
              clear hdb
              obtain ⟨⟨q0, q1, q2, q3, q4, q5, q6, q7, q8, q9, q10, q11, qu, qn, qt⟩, ec⟩ := dd
              (try simp only at HC)
              simp only at hzz
              have hec : (ec != 0) = true := by simpa using hzz
              clear hzz
              go_wp2_with fail
              refine HC.out.mono ?_
              rintro e w10 ⟨vu, vn, vt, rfl, hU, hN, hT, hbl⟩
              clear HC
              have HB' := Lib.hid (HB.out.trans (hbl.mono HB.out.size))
              clear HB
              have HB := HB'
              clear HB'
              have HA' := Lib.hid (blk_below HA.out hbl)
              clear HA
              have HA := HA'
              clear HA'
              have HC0_12' := Lib.hid (Kd.C_below HC0_12.out hbl)
              clear HC0_12
              have HC0_12 := HC0_12'
              clear HC0_12'
              have HC0_13' := Lib.hid (Kd.C_below HC0_13.out hbl)
              clear HC0_13
              have HC0_13 := HC0_13'
              clear HC0_13'
              have HC0_14' := Lib.hid (Kd.C_below HC0_14.out hbl)
              clear HC0_14
              have HC0_14 := HC0_14'
              clear HC0_14'
              have HCb' := Lib.hid (Kd.C_below HCb.out hbl)
              clear HCb
              have HCb := HCb'
              clear HCb'
              have HX' := Lib.hid (Kd.R_below HX.out hbl)
              clear HX
              have HX := HX'
              clear HX'
              obtain ⟨Auq, cuq, rfl⟩ := Kd.R_slice hU
              obtain ⟨Anq, cnq, rfl⟩ := Kd.R_slice hN
              obtain ⟨Atq, ctq, rfl⟩ := Kd.R_slice hT
              have HUq := Lib.hid hU
              have HNq := Lib.hid hN
              have HTq := Lib.hid hT
              clear hU hN hT hbl
              have hbl := (Below.refl w10.heap.size w10).alloc (Nat.le_refl _) (.cells #[.int .i64 q0, .int .i64 q1, .int .i64 q2, .int .i64 q3, .int .i64 q4, .int .i64 q5, .int .i64 q6, .int .i64 q7, .int .i64 q8, .bool q9, .int .i64 q10, .int .i64 q11, .slice Auq qu.length cuq, .slice Anq qn.length cnq, .slice Atq qt.length ctq] 27)
              have hnew := blk_new w10 (.cells #[.int .i64 q0, .int .i64 q1, .int .i64 q2, .int .i64 q3, .int .i64 q4, .int .i64 q5, .int .i64 q6, .int .i64 q7, .int .i64 q8, .bool q9, .int .i64 q10, .int .i64 q11, .slice Auq qu.length cuq, .slice Anq qn.length cnq, .slice Atq qt.length ctq] 27)
              have HB' := Lib.hid (HB.out.trans (hbl.mono HB.out.size))
              clear HB
              have HB := HB'
              clear HB'
              have HA' := Lib.hid (blk_below HA.out hbl)
              clear HA
              have HA := HA'
              clear HA'
              have HC0_12' := Lib.hid (Kd.C_below HC0_12.out hbl)
              clear HC0_12
              have HC0_12 := HC0_12'
              clear HC0_12'
              have HC0_13' := Lib.hid (Kd.C_below HC0_13.out hbl)
              clear HC0_13
              have HC0_13 := HC0_13'
              clear HC0_13'
              have HC0_14' := Lib.hid (Kd.C_below HC0_14.out hbl)
              clear HC0_14
              have HC0_14 := HC0_14'
              clear HC0_14'
              have HCb' := Lib.hid (Kd.C_below HCb.out hbl)
              clear HCb
              have HCb := HCb'
              clear HCb'
              have HX' := Lib.hid (Kd.R_below HX.out hbl)
              clear HX
              have HX := HX'
              clear HX'
              have HUq' := Lib.hid (Kd.R_below HUq.out hbl)
              clear HUq
              have HUq := HUq'
              clear HUq'
              have HNq' := Lib.hid (Kd.R_below HNq.out hbl)
              clear HNq
              have HNq := HNq'
              clear HNq'
              have HTq' := Lib.hid (Kd.R_below HTq.out hbl)
              clear HTq
              have HTq := HTq'
              clear HTq'
              have HPq := Lib.hid hnew
              clear hnew hbl
              go_wp2_with fail
              generalize hal : w10.alloc (.cells #[.int .i64 q0, .int .i64 q1, .int .i64 q2, .int .i64 q3, .int .i64 q4, .int .i64 q5, .int .i64 q6, .int .i64 q7, .int .i64 q8, .bool q9, .int .i64 q10, .int .i64 q11, .slice Auq qu.length cuq, .slice Anq qn.length cnq, .slice Atq qt.length ctq] 27) = w11 at *
              clear hal
              have HC := Lib.hid (voklaw19_first.calls 1000 true w11 (first_eq 1000 (by omega) (by omega)))
              refine HC.out.mono ?_
              rintro e wz ⟨rfl, hbl⟩
              have HBz := Lib.hid (HB.out.trans (hbl.mono HB.out.size))
              clear hbl HC
              go_wp2
              go_ret
              exact ⟨rfl, HBz.out⟩
      · as_aux_lemma =>
        have Hm := Lib.hid hm
        clear hm
        have xc0 := blk_cell HA.out 0
        have xc1 := blk_cell HA.out 1
        have xc2 := blk_cell HA.out 2
        have xc3 := blk_cell HA.out 3
        have xc4 := blk_cell HA.out 4
        have xc5 := blk_cell HA.out 5
        have xc6 := blk_cell HA.out 6
        have xc7 := blk_cell HA.out 7
        have xc8 := blk_cell HA.out 8
        have xc9 := blk_cell HA.out 9
        have xc10 := blk_cell HA.out 10
        have xc11 := blk_cell HA.out 11
        have xc12 := blk_cell HA.out 12
        have xc13 := blk_cell HA.out 13
        have xc14 := blk_cell HA.out 14
        simp only [List.getElem?_toArray, List.getElem?_cons_succ, List.getElem?_cons_zero] at xc0 xc1 xc2 xc3 xc4 xc5 xc6 xc7 xc8 xc9 xc10 xc11 xc12 xc13 xc14
        have HC := Lib.hid (wire_Encode.calls 1000 a0_0 a0_1 a0_2 a0_3 a0_4 a0_5 a0_6 a0_7 a0_8 a0_9 a0_10 a0_11 A0_12 c0_12 l0_12 A0_13 c0_13 l0_13 A0_14 c0_14 l0_14 _ _ w2 HC0_12.out hc0_12 HC0_13.out hc0_13 HC0_14.out hc0_14 (no1000 ⟨a0_0, a0_1, a0_2, a0_3, a0_4, a0_5, a0_6, a0_7, a0_8, a0_9, a0_10, a0_11, l0_12, l0_13, l0_14⟩ Hm.out (by show l0_12.length ≤ 300; omega) (by show l0_13.length ≤ 300; omega) (by show l0_14.length ≤ 20000; omega)))
        go_wp2_with fail
        refine HC.out.mono ?_
        rintro e w3 ⟨vx, rfl, hX, hbl⟩
        clear HC hX
        clear xc0 xc1 xc2 xc3 xc4 xc5 xc6 xc7 xc8 xc9 xc10 xc11 xc12 xc13 xc14
        have HB' := Lib.hid (HB.out.trans (hbl.mono HB.out.size))
        clear HB
        have HB := HB'
        clear HB'
        have HA' := Lib.hid (blk_below HA.out hbl)
        clear HA
        have HA := HA'
        clear HA'
        have HC0_12' := Lib.hid (Kd.C_below HC0_12.out hbl)
        clear HC0_12
        have HC0_12 := HC0_12'
        clear HC0_12'
        have HC0_13' := Lib.hid (Kd.C_below HC0_13.out hbl)
        clear HC0_13
        have HC0_13 := HC0_13'
        clear HC0_13'
        have HC0_14' := Lib.hid (Kd.C_below HC0_14.out hbl)
        clear HC0_14
        have HC0_14 := HC0_14'
        clear HC0_14'
        have HCb' := Lib.hid (Kd.C_below HCb.out hbl)
        clear HCb
        have HCb := HCb'
        clear HCb'
        clear hbl
        have xc0 := blk_cell HA.out 0
        have xc1 := blk_cell HA.out 1
        have xc2 := blk_cell HA.out 2
        have xc3 := blk_cell HA.out 3
        have xc4 := blk_cell HA.out 4
        have xc5 := blk_cell HA.out 5
        have xc6 := blk_cell HA.out 6
        have xc7 := blk_cell HA.out 7
        have xc8 := blk_cell HA.out 8
        have xc9 := blk_cell HA.out 9
        have xc10 := blk_cell HA.out 10
        have xc11 := blk_cell HA.out 11
        have xc12 := blk_cell HA.out 12
        have xc13 := blk_cell HA.out 13
        have xc14 := blk_cell HA.out 14
        simp only [List.getElem?_toArray, List.getElem?_cons_succ, List.getElem?_cons_zero] at xc0 xc1 xc2 xc3 xc4 xc5 xc6 xc7 xc8 xc9 xc10 xc11 xc12 xc13 xc14
        have HC := Lib.hid (wire_May.calls 1000 a0_0 a0_1 a0_2 a0_3 a0_4 a0_5 a0_6 a0_7 a0_8 a0_9 a0_10 a0_11 A0_12 c0_12 l0_12 A0_13 c0_13 l0_13 A0_14 c0_14 l0_14 _ w3 HC0_12.out hc0_12 HC0_13.out hc0_13 HC0_14.out hc0_14 (may_eq1000 ⟨a0_0, a0_1, a0_2, a0_3, a0_4, a0_5, a0_6, a0_7, a0_8, a0_9, a0_10, a0_11, l0_12, l0_13, l0_14⟩ (by show l0_12.length ≤ 300; omega) (by show l0_13.length ≤ 300; omega) (by show l0_14.length ≤ 20000; omega)))
        rw [mayB_no Hm.out] at HC
        go_wp2_with fail
        refine HC.out.mono ?_
        rintro e w4 ⟨rfl, hbl⟩
        clear HC
        clear xc0 xc1 xc2 xc3 xc4 xc5 xc6 xc7 xc8 xc9 xc10 xc11 xc12 xc13 xc14
        have HB' := Lib.hid (HB.out.trans (hbl.mono HB.out.size))
        clear HB
        have HB := HB'
        clear HB'
        have HA' := Lib.hid (blk_below HA.out hbl)
        clear HA
        have HA := HA'
        clear HA'
        have HC0_12' := Lib.hid (Kd.C_below HC0_12.out hbl)
        clear HC0_12
        have HC0_12 := HC0_12'
        clear HC0_12'
        have HC0_13' := Lib.hid (Kd.C_below HC0_13.out hbl)
        clear HC0_13
        have HC0_13 := HC0_13'
        clear HC0_13'
        have HC0_14' := Lib.hid (Kd.C_below HC0_14.out hbl)
        clear HC0_14
        have HC0_14 := HC0_14'
        clear HC0_14'
        have HCb' := Lib.hid (Kd.C_below HCb.out hbl)
        clear HCb
        have HCb := HCb'
        clear HCb'
        clear hbl
        by_cases hz : (dec l1).2 = 0
        · as_aux_lemma =>
          have hzz := hz
          clear hz
          obtain ⟨hqm, hqb⟩ := dec_ok hzz
          have hde : dec l1 = ((dec l1).1, 0) := by rw [← hzz]
          have Hqb := Lib.hid hqb
          have Hqm := Lib.hid hqm
          have Hde := Lib.hid hde
          clear hqb hqm hde hzz
          have HC := Lib.hid (decode_any l1 A1 c1 w4 HBy.out hlb hc1 HCb.out)
          rw [Hde.out] at HC
          generalize hq : (dec l1).1 = q at *
          have Hq := Lib.hid hq
          clear hq
          obtain ⟨q0, q1, q2, q3, q4, q5, q6, q7, q8, q9, q10, q11, qu, qn, qt⟩ := q
          (try simp only at HC)
          go_wp2_with fail
          refine HC.out.mono ?_
          rintro e w5 ⟨vu, vn, vt, rfl, hU, hN, hT, hbl⟩
          clear HC
          have HB' := Lib.hid (HB.out.trans (hbl.mono HB.out.size))
          clear HB
          have HB := HB'
          clear HB'
          have HA' := Lib.hid (blk_below HA.out hbl)
          clear HA
          have HA := HA'
          clear HA'
          have HC0_12' := Lib.hid (Kd.C_below HC0_12.out hbl)
          clear HC0_12
          have HC0_12 := HC0_12'
          clear HC0_12'
          have HC0_13' := Lib.hid (Kd.C_below HC0_13.out hbl)
          clear HC0_13
          have HC0_13 := HC0_13'
          clear HC0_13'
          have HC0_14' := Lib.hid (Kd.C_below HC0_14.out hbl)
          clear HC0_14
          have HC0_14 := HC0_14'
          clear HC0_14'
          have HCb' := Lib.hid (Kd.C_below HCb.out hbl)
          clear HCb
          have HCb := HCb'
          clear HCb'
          obtain ⟨Auq, cuq, rfl⟩ := Kd.R_slice hU
          obtain ⟨Anq, cnq, rfl⟩ := Kd.R_slice hN
          obtain ⟨Atq, ctq, rfl⟩ := Kd.R_slice hT
          have HUq := Lib.hid hU
          have HNq := Lib.hid hN
          have HTq := Lib.hid hT
          clear hU hN hT hbl
          have hbl := (Below.refl w5.heap.size w5).alloc (Nat.le_refl _) (.cells #[.int .i64 q0, .int .i64 q1, .int .i64 q2, .int .i64 q3, .int .i64 q4, .int .i64 q5, .int .i64 q6, .int .i64 q7, .int .i64 q8, .bool q9, .int .i64 q10, .int .i64 q11, .slice Auq qu.length cuq, .slice Anq qn.length cnq, .slice Atq qt.length ctq] 27)
          have hnew := blk_new w5 (.cells #[.int .i64 q0, .int .i64 q1, .int .i64 q2, .int .i64 q3, .int .i64 q4, .int .i64 q5, .int .i64 q6, .int .i64 q7, .int .i64 q8, .bool q9, .int .i64 q10, .int .i64 q11, .slice Auq qu.length cuq, .slice Anq qn.length cnq, .slice Atq qt.length ctq] 27)
          have HB' := Lib.hid (HB.out.trans (hbl.mono HB.out.size))
          clear HB
          have HB := HB'
          clear HB'
          have HA' := Lib.hid (blk_below HA.out hbl)
          clear HA
          have HA := HA'
          clear HA'
          have HC0_12' := Lib.hid (Kd.C_below HC0_12.out hbl)
          clear HC0_12
          have HC0_12 := HC0_12'
          clear HC0_12'
          have HC0_13' := Lib.hid (Kd.C_below HC0_13.out hbl)
          clear HC0_13
          have HC0_13 := HC0_13'
          clear HC0_13'
          have HC0_14' := Lib.hid (Kd.C_below HC0_14.out hbl)
          clear HC0_14
          have HC0_14 := HC0_14'
          clear HC0_14'
          have HCb' := Lib.hid (Kd.C_below HCb.out hbl)
          clear HCb
          have HCb := HCb'
          clear HCb'
          have HUq' := Lib.hid (Kd.R_below HUq.out hbl)
          clear HUq
          have HUq := HUq'
          clear HUq'
          have HNq' := Lib.hid (Kd.R_below HNq.out hbl)
          clear HNq
          have HNq := HNq'
          clear HNq'
          have HTq' := Lib.hid (Kd.R_below HTq.out hbl)
          clear HTq
          have HTq := HTq'
          clear HTq'
          have HPq := Lib.hid hnew
          clear hnew hbl
          go_wp2_with fail
          generalize hal : w5.alloc (.cells #[.int .i64 q0, .int .i64 q1, .int .i64 q2, .int .i64 q3, .int .i64 q4, .int .i64 q5, .int .i64 q6, .int .i64 q7, .int .i64 q8, .bool q9, .int .i64 q10, .int .i64 q11, .slice Auq qu.length cuq, .slice Anq qn.length cnq, .slice Atq qt.length ctq] 27) = w6 at *
          clear hal
          have xc0 := blk_cell HPq.out 0
          have xc1 := blk_cell HPq.out 1
          have xc2 := blk_cell HPq.out 2
          have xc3 := blk_cell HPq.out 3
          have xc4 := blk_cell HPq.out 4
          have xc5 := blk_cell HPq.out 5
          have xc6 := blk_cell HPq.out 6
          have xc7 := blk_cell HPq.out 7
          have xc8 := blk_cell HPq.out 8
          have xc9 := blk_cell HPq.out 9
          have xc10 := blk_cell HPq.out 10
          have xc11 := blk_cell HPq.out 11
          have xc12 := blk_cell HPq.out 12
          have xc13 := blk_cell HPq.out 13
          have xc14 := blk_cell HPq.out 14
          simp only [List.getElem?_toArray, List.getElem?_cons_succ, List.getElem?_cons_zero] at xc0 xc1 xc2 xc3 xc4 xc5 xc6 xc7 xc8 xc9 xc10 xc11 xc12 xc13 xc14
          have HC := Lib.hid (wire_Encode.calls 1000 q0 q1 q2 q3 q4 q5 q6 q7 q8 q9 q10 q11 Auq cuq qu Anq cnq qn Atq ctq qt _ _ w6 (Kd.R_reads' HUq.out).2.2 (Kd.R_reads' HUq.out).2.1 (Kd.R_reads' HNq.out).2.2 (Kd.R_reads' HNq.out).2.1 (Kd.R_reads' HTq.out).2.2 (Kd.R_reads' HTq.out).2.1 (Encode_yes 1000 ⟨q0, q1, q2, q3, q4, q5, q6, q7, q8, q9, q10, q11, qu, qn, qt⟩ Hqm.out (by omega) (by omega)))
          rw [Hqb.out] at HC
          refine HC.out.mono ?_
          rintro e w7 ⟨vy, rfl, hY, hbl⟩
          clear HC
          clear xc0 xc1 xc2 xc3 xc4 xc5 xc6 xc7 xc8 xc9 xc10 xc11 xc12 xc13 xc14
          have HB' := Lib.hid (HB.out.trans (hbl.mono HB.out.size))
          clear HB
          have HB := HB'
          clear HB'
          have HA' := Lib.hid (blk_below HA.out hbl)
          clear HA
          have HA := HA'
          clear HA'
          have HC0_12' := Lib.hid (Kd.C_below HC0_12.out hbl)
          clear HC0_12
          have HC0_12 := HC0_12'
          clear HC0_12'
          have HC0_13' := Lib.hid (Kd.C_below HC0_13.out hbl)
          clear HC0_13
          have HC0_13 := HC0_13'
          clear HC0_13'
          have HC0_14' := Lib.hid (Kd.C_below HC0_14.out hbl)
          clear HC0_14
          have HC0_14 := HC0_14'
          clear HC0_14'
          have HCb' := Lib.hid (Kd.C_below HCb.out hbl)
          clear HCb
          have HCb := HCb'
          clear HCb'
          have HUq' := Lib.hid (Kd.R_below HUq.out hbl)
          clear HUq
          have HUq := HUq'
          clear HUq'
          have HNq' := Lib.hid (Kd.R_below HNq.out hbl)
          clear HNq
          have HNq := HNq'
          clear HNq'
          have HTq' := Lib.hid (Kd.R_below HTq.out hbl)
          clear HTq
          have HTq := HTq'
          clear HTq'
          have HPq' := Lib.hid (blk_below HPq.out hbl)
          clear HPq
          have HPq := HPq'
          clear HPq'
          obtain ⟨Ay, cy, rfl⟩ := Kd.R_slice hY
          have HY := Lib.hid hY
          clear hY hbl
          have HC := Lib.hid (voklaw19_first.calls 1000 true w7 (first_eq 1000 (by omega) (by omega)))
          go_wp2_with fail
          refine HC.out.mono ?_
          rintro e w8 ⟨rfl, hbl⟩
          clear HC
          have HB' := Lib.hid (HB.out.trans (hbl.mono HB.out.size))
          clear HB
          have HB := HB'
          clear HB'
          have HA' := Lib.hid (blk_below HA.out hbl)
          clear HA
          have HA := HA'
          clear HA'
          have HC0_12' := Lib.hid (Kd.C_below HC0_12.out hbl)
          clear HC0_12
          have HC0_12 := HC0_12'
          clear HC0_12'
          have HC0_13' := Lib.hid (Kd.C_below HC0_13.out hbl)
          clear HC0_13
          have HC0_13 := HC0_13'
          clear HC0_13'
          have HC0_14' := Lib.hid (Kd.C_below HC0_14.out hbl)
          clear HC0_14
          have HC0_14 := HC0_14'
          clear HC0_14'
          have HCb' := Lib.hid (Kd.C_below HCb.out hbl)
          clear HCb
          have HCb := HCb'
          clear HCb'
          have HUq' := Lib.hid (Kd.R_below HUq.out hbl)
          clear HUq
          have HUq := HUq'
          clear HUq'
          have HNq' := Lib.hid (Kd.R_below HNq.out hbl)
          clear HNq
          have HNq := HNq'
          clear HNq'
          have HTq' := Lib.hid (Kd.R_below HTq.out hbl)
          clear HTq
          have HTq := HTq'
          clear HTq'
          have HPq' := Lib.hid (blk_below HPq.out hbl)
          clear HPq
          have HPq := HPq'
          clear HPq'
          have HY' := Lib.hid (Kd.R_below HY.out hbl)
          clear HY
          have HY := HY'
          clear HY'
          clear hbl
          have HC := Lib.hid (vokref_Bytes.calls Ay cy l1 A1 c1 l1 _ w8 (Kd.R_reads' HY.out).2.2 (Kd.R_reads' HY.out).2.1 HCb.out hc1 (vbytes_eq l1 l1 HBy.out HBy.out))
          rw [decide_eq_true rfl] at HC
          go_wp2_with fail
          refine HC.out.mono ?_
          rintro e wz ⟨rfl, hD⟩
          have hbl := hD.below
          have HBz := Lib.hid (HB.out.trans (hbl.mono HB.out.size))
          clear hD hbl HC
          go_wp2
          go_ret
          exact ⟨rfl, HBz.out⟩
        · as_aux_lemma =>
          have hzz := hz
          clear hz
          generalize hdb : dec l1 = dd at *
          have HC := Lib.hid (decode_any l1 A1 c1 w4 HBy.out hlb hc1 HCb.out)
          rw [hdb] at HC
          clear hdb
          obtain ⟨⟨q0, q1, q2, q3, q4, q5, q6, q7, q8, q9, q10, q11, qu, qn, qt⟩, ec⟩ := dd
          (try simp only at HC)
          simp only at hzz
          have hec : (ec != 0) = true := by simpa using hzz
          clear hzz
          go_wp2_with fail
          refine HC.out.mono ?_
          rintro e w5 ⟨vu, vn, vt, rfl, hU, hN, hT, hbl⟩
          clear HC
          have HB' := Lib.hid (HB.out.trans (hbl.mono HB.out.size))
          clear HB
          have HB := HB'
          clear HB'
          have HA' := Lib.hid (blk_below HA.out hbl)
          clear HA
          have HA := HA'
          clear HA'
          have HC0_12' := Lib.hid (Kd.C_below HC0_12.out hbl)
          clear HC0_12
          have HC0_12 := HC0_12'
          clear HC0_12'
          have HC0_13' := Lib.hid (Kd.C_below HC0_13.out hbl)
          clear HC0_13
          have HC0_13 := HC0_13'
          clear HC0_13'
          have HC0_14' := Lib.hid (Kd.C_below HC0_14.out hbl)
          clear HC0_14
          have HC0_14 := HC0_14'
          clear HC0_14'
          have HCb' := Lib.hid (Kd.C_below HCb.out hbl)
          clear HCb
          have HCb := HCb'
          clear HCb'
          obtain ⟨Auq, cuq, rfl⟩ := Kd.R_slice hU
          obtain ⟨Anq, cnq, rfl⟩ := Kd.R_slice hN
          obtain ⟨Atq, ctq, rfl⟩ := Kd.R_slice hT
          have HUq := Lib.hid hU
          have HNq := Lib.hid hN
          have HTq := Lib.hid hT
          clear hU hN hT hbl
          have hbl := (Below.refl w5.heap.size w5).alloc (Nat.le_refl _) (.cells #[.int .i64 q0, .int .i64 q1, .int .i64 q2, .int .i64 q3, .int .i64 q4, .int .i64 q5, .int .i64 q6, .int .i64 q7, .int .i64 q8, .bool q9, .int .i64 q10, .int .i64 q11, .slice Auq qu.length cuq, .slice Anq qn.length cnq, .slice Atq qt.length ctq] 27)
          have hnew := blk_new w5 (.cells #[.int .i64 q0, .int .i64 q1, .int .i64 q2, .int .i64 q3, .int .i64 q4, .int .i64 q5, .int .i64 q6, .int .i64 q7, .int .i64 q8, .bool q9, .int .i64 q10, .int .i64 q11, .slice Auq qu.length cuq, .slice Anq qn.length cnq, .slice Atq qt.length ctq] 27)
          have HB' := Lib.hid (HB.out.trans (hbl.mono HB.out.size))
          clear HB
          have HB := HB'
          clear HB'
          have HA' := Lib.hid (blk_below HA.out hbl)
          clear HA
          have HA := HA'
          clear HA'
          have HC0_12' := Lib.hid (Kd.C_below HC0_12.out hbl)
          clear HC0_12
          have HC0_12 := HC0_12'
          clear HC0_12'
          have HC0_13' := Lib.hid (Kd.C_below HC0_13.out hbl)
          clear HC0_13
          have HC0_13 := HC0_13'
          clear HC0_13'
          have HC0_14' := Lib.hid (Kd.C_below HC0_14.out hbl)
          clear HC0_14
          have HC0_14 := HC0_14'
          clear HC0_14'
          have HCb' := Lib.hid (Kd.C_below HCb.out hbl)
          clear HCb
          have HCb := HCb'
          clear HCb'
          have HUq' := Lib.hid (Kd.R_below HUq.out hbl)
          clear HUq
          have HUq := HUq'
          clear HUq'
          have HNq' := Lib.hid (Kd.R_below HNq.out hbl)
          clear HNq
          have HNq := HNq'
          clear HNq'
          have HTq' := Lib.hid (Kd.R_below HTq.out hbl)
          clear HTq
          have HTq := HTq'
          clear HTq'
          have HPq := Lib.hid hnew
          clear hnew hbl
          go_wp2_with fail
          generalize hal : w5.alloc (.cells #[.int .i64 q0, .int .i64 q1, .int .i64 q2, .int .i64 q3, .int .i64 q4, .int .i64 q5, .int .i64 q6, .int .i64 q7, .int .i64 q8, .bool q9, .int .i64 q10, .int .i64 q11, .slice Auq qu.length cuq, .slice Anq qn.length cnq, .slice Atq qt.length ctq] 27) = w6 at *
          clear hal
          have HC := Lib.hid (voklaw19_first.calls 1000 true w6 (first_eq 1000 (by omega) (by omega)))
          refine HC.out.mono ?_
          rintro e wz ⟨rfl, hbl⟩
          have HBz := Lib.hid (HB.out.trans (hbl.mono HB.out.size))
          clear hbl HC
          go_wp2
          go_ret
          exact ⟨rfl, HBz.out⟩
    · have hgt : decide (20000 < l1.length) = true := decide_eq_true (by omega)
      have hgt2 : decide ((20000 : Int) < (l1.length : Int)) = true := decide_eq_true (by omega)
      have HC := Lib.hid (voklaw19_first.calls 1000 true w2 (first_eq 1000 (by omega) (by omega)))
      go_wp2_with fail
      refine HC.out.mono ?_
      rintro e w3 ⟨rfl, hbl⟩
      clear HC
      have HB' := Lib.hid (HB.out.trans (hbl.mono HB.out.size))
      clear HB
      have HB := HB'
      clear HB'
      have HA' := Lib.hid (blk_below HA.out hbl)
      clear HA
      have HA := HA'
      clear HA'
      have HC0_12' := Lib.hid (Kd.C_below HC0_12.out hbl)
      clear HC0_12
      have HC0_12 := HC0_12'
      clear HC0_12'
      have HC0_13' := Lib.hid (Kd.C_below HC0_13.out hbl)
      clear HC0_13
      have HC0_13 := HC0_13'
      clear HC0_13'
      have HC0_14' := Lib.hid (Kd.C_below HC0_14.out hbl)
      clear HC0_14
      have HC0_14 := HC0_14'
      clear HC0_14'
      have HCb' := Lib.hid (Kd.C_below HCb.out hbl)
      clear HCb
      have HCb := HCb'
      clear HCb'
      clear hbl
      go_wp2
      go_ret
      exact ⟨rfl, HB.out⟩
  · rw [decide_eq_false hfew] at HC
    go_wp2_with fail
    refine HC.out.mono ?_
    rintro e w2 ⟨rfl, hbl⟩
    clear HC
    clear xc0 xc1 xc2 xc3 xc4 xc5 xc6 xc7 xc8 xc9 xc10 xc11 xc12 xc13 xc14
    have HB' := Lib.hid (HB.out.trans (hbl.mono HB.out.size))
    clear HB
    have HB := HB'
    clear HB'
    have HA' := Lib.hid (blk_below HA.out hbl)
    clear HA
    have HA := HA'
    clear HA'
    have HC0_12' := Lib.hid (Kd.C_below HC0_12.out hbl)
    clear HC0_12
    have HC0_12 := HC0_12'
    clear HC0_12'
    have HC0_13' := Lib.hid (Kd.C_below HC0_13.out hbl)
    clear HC0_13
    have HC0_13 := HC0_13'
    clear HC0_13'
    have HC0_14' := Lib.hid (Kd.C_below HC0_14.out hbl)
    clear HC0_14
    have HC0_14 := HC0_14'
    clear HC0_14'
    have HCb' := Lib.hid (Kd.C_below HCb.out hbl)
    clear HCb
    have HCb := HCb'
    clear HCb'
    clear hbl
    have HC := Lib.hid (voklaw19_first.calls 1000 true w2 (first_eq 1000 (by omega) (by omega)))
    go_wp2_with fail
    refine HC.out.mono ?_
    rintro e w3 ⟨rfl, hbl⟩
    clear HC
    have HB' := Lib.hid (HB.out.trans (hbl.mono HB.out.size))
    clear HB
    have HB := HB'
    clear HB'
    have HA' := Lib.hid (blk_below HA.out hbl)
    clear HA
    have HA := HA'
    clear HA'
    have HC0_12' := Lib.hid (Kd.C_below HC0_12.out hbl)
    clear HC0_12
    have HC0_12 := HC0_12'
    clear HC0_12'
    have HC0_13' := Lib.hid (Kd.C_below HC0_13.out hbl)
    clear HC0_13
    have HC0_13 := HC0_13'
    clear HC0_13'
    have HC0_14' := Lib.hid (Kd.C_below HC0_14.out hbl)
    clear HC0_14
    have HC0_14 := HC0_14'
    clear HC0_14'
    have HCb' := Lib.hid (Kd.C_below HCb.out hbl)
    clear HCb
    have HCb := HCb'
    clear HCb'
    clear hbl
    go_wp2
    go_ret
    exact ⟨rfl, HB.out⟩
end Go.Proofs.Ytleljfmhefobeaa.WalkWireBack
