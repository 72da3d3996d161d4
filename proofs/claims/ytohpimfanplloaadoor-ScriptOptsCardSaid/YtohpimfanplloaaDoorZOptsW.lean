/- bag.New, cluster.May and ScriptOpts: the walks. -/
import Derived.Test.YtohpimfanplloaaDoorZGOFirst
import Derived.Test.YtohpimfanplloaaDoorZGOx2
import Derived.Test.YtohpimfanplloaaDoorZGOx4
import Derived.WalkKit
import Derived.WalkSpells
import Derived.Lib.Hide
set_option linter.unusedVariables false
set_option linter.unusedSimpArgs false
namespace Go.Proofs.YtohpimfanplloaaDoor.OptsW
open Go Go.RowKit Go.Proofs.YtohpimfanplloaaDoorW.PrintWords Go.Proofs.YtohpimfanplloaaDoorW.PrintLast Go.Proofs.YtohpimfanplloaaDoorW.PrintMore Go.Proofs.YtohpimfanplloaaDoor.GO Go.Proofs.YtohpimfanplloaaDoor.GOFirst
theorem bagnew_any (n : Int) (h1 : 1 ≤ n) (h2 : n ≤ 10000) (w : World) : Calls Tryd.prog 10 #[.int .i64 n] w fun e w' => (∃ p, e = .returned (.tuple #[.pointer p, .int .i64 0])) ∧ Below w.heap.size w w' := by
  have d1 : decide (n < 1) = false := decide_eq_false (by omega)
  have d2 : decide (10000 < n) = false := decide_eq_false (by omega)
  go_enter Tryd.func10, Tryd.ntmps10
  go_wp2
  go_ret2
  exact ⟨⟨_, rfl⟩, (Below.refl _ _).alloc (Nat.le_refl _) _⟩
def optZ : List S47 := [⟨0, [], [], 0⟩, ⟨3600, [], [⟨3, 5, 6, 3600, 7200⟩, ⟨10, 5, 6, 3600, 3600⟩], 2000⟩]
def byteAt (l : List Int) (i : Int) : Int := if i < (l.length : Int) then rd l i else 0
theorem byteAt_bd {l : List Int} (h : ∀ x ∈ l, 0 ≤ x ∧ x ≤ 255) (i : Int) (h0 : 0 ≤ i) : 0 ≤ byteAt l i ∧ byteAt l i ≤ 255 := by
  unfold byteAt
  split
  · rename_i hlt
    unfold rd
    have hn : i.toNat < l.length := by omega
    rw [List.getD_eq_getElem?_getD, List.getElem?_eq_getElem hn]
    exact h _ (List.getElem_mem hn)
  · omega
theorem at_f {l : List Int} (h : ∀ x ∈ l, 0 ≤ x ∧ x ≤ 255) (i : Int) (h0 : 0 ≤ i) : script_at.f l i = some (byteAt l i) := by
  have hb := byteAt_bd h i h0
  unfold script_at.f
  unfold byteAt at hb ⊢
  split
  · rename_i hlt
    rw [if_pos hlt] at hb
    first
      | (rw [if_pos h0]; congr 1; unfold wrap64; omega)
      | (congr 1; unfold wrap64; omega)
  · rfl
theorem begin_f : script_begin.f 60 = some 1767225600 := by kernel_rfl
theorem opts_f {l : List Int} (h : ∀ x ∈ l, 0 ≤ x ∧ x ≤ 255) : script_Opts.f 60 l = some (1 + byteAt l 0 % 3, 4, optZ, 1767225600, 1772409600, 2 + byteAt l 1 % 4, 2 + byteAt l 2 % 4, 2 + byteAt l 3 % 4, 4, 20000, 200) := by
  have b0 := byteAt_bd h 0 (by decide)
  have b1 := byteAt_bd h 1 (by decide)
  have b2 := byteAt_bd h 2 (by decide)
  have b3 := byteAt_bd h 3 (by decide)
  unfold script_Opts.f
  rw [at_f h 0 (by decide), at_f h 1 (by decide), at_f h 2 (by decide), at_f h 3 (by decide), begin_f]
  simp only [Option.bind_some]
  have e : ∀ x m : Int, 0 ≤ x → Int.tmod x m = x % m := fun x m hx => Int.tmod_eq_emod_of_nonneg hx
  rw [e _ _ b0.1, e _ _ b1.1, e _ _ b2.1, e _ _ b3.1]
  have w0 : wrap64 (1 + byteAt l 0 % 3) = 1 + byteAt l 0 % 3 := by unfold wrap64; omega
  have w1 : ∀ x : Int, wrap64 (2 + x % 4) = 2 + x % 4 := fun x => by unfold wrap64; omega
  have w2 : wrap64 (1767225600 + 5184000) = 1772409600 := by unfold wrap64; omega
  rw [w0, w1, w1, w1, w2]
  rfl
theorem may_f (n : Int) (h : n = 1 ∨ n = 2 ∨ n = 3) : cal_May.f 100 n 4 optZ 1767225600 1772409600 = some true := by
  rcases h with rfl | rfl | rfl <;> kernel_rfl
theorem coord_f (v q r : Int) (hv : 2 ≤ v ∧ v ≤ 5) (hq : 2 ≤ q ∧ q ≤ 5) (hr : 2 ≤ r ∧ r ≤ 5) : coord_May.f v q r 4 = some true := by
  have e : ∀ x m : Int, 1 ≤ x → x ≤ m → coord_within.f x m = some true := fun x m h1 h2 => by
    unfold coord_within.f
    rw [if_pos h1]
    simp [h2]
  unfold coord_May.f
  rw [e v 1000 (by omega) (by omega), e q 1000 (by omega) (by omega), e r 1000 (by omega) (by omega), e 4 100 (by decide) (by decide)]
  rfl
set_option maxRecDepth 100000 in
set_option maxHeartbeats 4000000 in
theorem cmay_any (n v q r : Int) (A : Option Addr) (c : Nat) (w : World) (hn : n = 1 ∨ n = 2 ∨ n = 3) (hv : 2 ≤ v ∧ v ≤ 5) (hq : 2 ≤ q ∧ q ≤ 5) (hr : 2 ≤ r ∧ r ≤ 5) (hz : Kd.C k47 w A optZ.length optZ) (hc : optZ.length ≤ c) :
    Calls Tryd.prog 6 #[.agg #[.int .i64 n, .int .i64 4, .slice A 2 c, .int .i64 1767225600, .int .i64 1772409600, .int .i64 v, .int .i64 q, .int .i64 r, .int .i64 4, .int .i64 20000, .int .i64 200]] w fun e w' => e = .returned (.bool true) ∧ Below w.heap.size w w' := by
  have hu := Tryd.underlying30
  have hu2 := Tryd.underlying26
  have hu3 := Tryd.underlying28
  have HM := Lib.hid (fun W (hb : Below w.heap.size w W) => cal_May.calls 100 n 4 A c optZ 1767225600 1772409600 true W (Kd.C_below hz hb) hc (may_f n hn))
  have HT := Lib.hid (fun W => coord_May.calls v q r 4 true W (coord_f v q r hv hq hr))
  have HB0 := Lib.hid ((Below.refl w.heap.size w).alloc (Nat.le_refl _) (.cells #[.int .i64 n, .int .i64 4, .slice A 2 c, .int .i64 1767225600, .int .i64 1772409600, .int .i64 v, .int .i64 q, .int .i64 r, .int .i64 4, .int .i64 20000, .int .i64 200] 30))
  have HA := Lib.hid (blk_new w (.cells #[.int .i64 n, .int .i64 4, .slice A 2 c, .int .i64 1767225600, .int .i64 1772409600, .int .i64 v, .int .i64 q, .int .i64 r, .int .i64 4, .int .i64 20000, .int .i64 200] 30))
  clear hz hn hv hq hr
  go_enter Tryd.func6, Tryd.ntmps6
  go_wp2_with fail
  refine (bagnew_any 200 (by decide) (by decide) _).mono ?_
  rintro e w1 ⟨⟨p, rfl⟩, hb⟩
  have HB1 := Lib.hid (HB0.out.trans (hb.mono HB0.out.size))
  have HA1 := Lib.hid (blk_below HA.out hb)
  have c0 := (blk_cell HA1.out 0).trans rfl
  have c1 := (blk_cell HA1.out 1).trans rfl
  have c2 := (blk_cell HA1.out 2).trans rfl
  have c3 := (blk_cell HA1.out 3).trans rfl
  have c4 := (blk_cell HA1.out 4).trans rfl
  clear hb HB0 HA
  go_wp2_with fail
  refine (HM.out _ HB1.out).mono ?_
  rintro e w2 ⟨rfl, hb⟩
  have HB2 := Lib.hid (HB1.out.trans (hb.mono HB1.out.size))
  have HA2 := Lib.hid (blk_below HA1.out hb)
  clear c0 c1 c2 c3 c4 hb HB1 HA1 HM
  have c5 := (blk_cell HA2.out 5).trans rfl
  have c6 := (blk_cell HA2.out 6).trans rfl
  have c7 := (blk_cell HA2.out 7).trans rfl
  have c8 := (blk_cell HA2.out 8).trans rfl
  go_wp2_with fail
  refine (HT.out _).mono ?_
  rintro e w3 ⟨rfl, hb⟩
  have HB3 := Lib.hid (HB2.out.trans (hb.mono HB2.out.size))
  have HA3 := Lib.hid (blk_below HA2.out hb)
  clear c5 c6 c7 c8 hb HB2 HA2 HT
  have c9 := (blk_cell HA3.out 9).trans rfl
  go_wp2
  go_ret
  exact ⟨rfl, HB3.out⟩
set_option maxRecDepth 100000 in
set_option maxHeartbeats 1500000 in
theorem walk (A : Option Addr) (c : Nat) (l : List Int) (w : World) (hr : Kd.C (Kd.int .u8) w A l.length l) (hc : l.length ≤ c) (hG : Glob w) (hby : ∀ x ∈ l, 0 ≤ x ∧ x ≤ 255) :
    Calls Tryd.prog 3 #[.slice A l.length c] w fun e w' => e = .returned (.bool true) ∧ Below w.heap.size w w' := by
  have hu := Tryd.underlying30
  have hu2 := Tryd.underlying26
  have hu3 := Tryd.underlying28
  have HG := Lib.hid hG
  have HR := Lib.hid hr
  have HBy := Lib.hid hby
  clear hG hr hby
  go_enter Tryd.func3, Tryd.ntmps3
  go_wp2_with fail
  refine (first_any _ HG.out).mono ?_
  rintro e w1 ⟨rfl, hb⟩
  have HB1 := Lib.hid hb
  clear hb
  by_cases hl : l.length ≤ 6000
  · have d1 : decide ((6000 : Int) < (l.length : Int)) = false := decide_eq_false (by omega)
    have HOp := Lib.hid (script_Opts.calls 60 A c l _ _ _ _ _ _ _ _ _ _ _ w1 (Kd.C_below HR.out HB1.out) hc (opts_f HBy.out))
    obtain ⟨b0, b0'⟩ := byteAt_bd HBy.out 0 (by decide)
    have b1 := byteAt_bd HBy.out 1 (by decide)
    have b2 := byteAt_bd HBy.out 2 (by decide)
    have b3 := byteAt_bd HBy.out 3 (by decide)
    have hv : 2 ≤ 2 + byteAt l 1 % 4 ∧ 2 + byteAt l 1 % 4 ≤ 5 := by omega
    have hq : 2 ≤ 2 + byteAt l 2 % 4 ∧ 2 + byteAt l 2 % 4 ≤ 5 := by omega
    have hr9 : 2 ≤ 2 + byteAt l 3 % 4 ∧ 2 + byteAt l 3 % 4 ≤ 5 := by omega
    have hx0 : 0 < l.length → rd l 0 = byteAt l 0 := fun h => by unfold byteAt; rw [if_pos (by omega)]
    have hx1 : l.length = 0 → byteAt l 0 = 0 := fun h => by unfold byteAt; rw [if_neg (by omega)]
    generalize 2 + byteAt l 1 % 4 = v at *
    generalize 2 + byteAt l 2 % 4 = q at *
    generalize 2 + byteAt l 3 % 4 = r at *
    generalize byteAt l 0 = x at *
    clear b1 b2 b3
    have e1 : decide (2 ≤ v) = true := decide_eq_true hv.1
    have e2 : decide (v ≤ 5) = true := decide_eq_true hv.2
    have e3 : decide (2 ≤ q) = true := decide_eq_true hq.1
    have e4 : decide (2 ≤ r) = true := decide_eq_true hr9.1
    have Hx0 := Lib.hid hx0
    have Hx1 := Lib.hid hx1
    clear hx0 hx1
    go_wp2_with fail
    refine HOp.out.mono ?_
    rintro e w2 ⟨v9, rfl, hN, hb2⟩
    obtain ⟨A2, c2, rfl, hc2, _⟩ := Kd.N_reads hN
    have HC2 := Lib.hid (Kd.N_reads' hN).2.2
    have hz2 : optZ.length = 2 := rfl
    rw [hz2]
    have HB2 := Lib.hid ((HB1.out.trans (hb2.mono HB1.out.size)).alloc (Nat.le_trans HB1.out.size hb2.size) (.cells #[.int .i64 (1 + x % 3), .int .i64 4, .slice A2 2 c2, .int .i64 1767225600, .int .i64 1772409600, .int .i64 v, .int .i64 q, .int .i64 r, .int .i64 4, .int .i64 20000, .int .i64 200] 30))
    have HA2 := Lib.hid (blk_new w2 (.cells #[.int .i64 (1 + x % 3), .int .i64 4, .slice A2 2 c2, .int .i64 1767225600, .int .i64 1772409600, .int .i64 v, .int .i64 q, .int .i64 r, .int .i64 4, .int .i64 20000, .int .i64 200] 30))
    have HC3 := Lib.hid (Kd.C_below HC2.out ((Below.refl _ w2).alloc (Nat.le_refl _) (.cells #[.int .i64 (1 + x % 3), .int .i64 4, .slice A2 2 c2, .int .i64 1767225600, .int .i64 1772409600, .int .i64 v, .int .i64 q, .int .i64 r, .int .i64 4, .int .i64 20000, .int .i64 200] 30)))
    clear hN hb2 HOp HB1 hz2
    by_cases h0 : l.length = 0
    · have hx := Hx1.out h0
      have e9 : ((1 + x % 3 : Int) == 1) = true := by rw [hx]; rfl
      have Hx := Lib.hid hx
      clear hx
      have d2 : decide (0 < l.length) = false := decide_eq_false (by omega)
      have d3 : decide ((0 : Int) < (l.length : Int)) = false := decide_eq_false (by omega)
      clear h0
      go_wp2_with fail
      refine (first_any _ (HG.out.below HB2.out)).mono ?_
      rintro e w5 ⟨rfl, hb5⟩
      have HB5 := Lib.hid (HB2.out.trans (hb5.mono HB2.out.size))
      have HA5 := Lib.hid (blk_below HA2.out hb5)
      have HM5 := Lib.hid (cmay_any (1 + x % 3) v q r A2 c2 w5 (by omega) (by omega) (by omega) (by omega) (Kd.C_below HC3.out hb5) hc2)
      clear hb5
      have c0 := (blk_cell HA5.out 0).trans rfl
      have c1 := (blk_cell HA5.out 1).trans rfl
      have c2 := (blk_cell HA5.out 2).trans rfl
      have c3 := (blk_cell HA5.out 3).trans rfl
      have c4 := (blk_cell HA5.out 4).trans rfl
      have c5 := (blk_cell HA5.out 5).trans rfl
      have c6 := (blk_cell HA5.out 6).trans rfl
      have c7 := (blk_cell HA5.out 7).trans rfl
      have c8 := (blk_cell HA5.out 8).trans rfl
      have c9 := (blk_cell HA5.out 9).trans rfl
      have c10 := (blk_cell HA5.out 10).trans rfl
      go_wp2_with fail
      refine HM5.out.mono ?_
      rintro e w6 ⟨rfl, hb6⟩
      have HB6 := Lib.hid (HB5.out.trans (hb6.mono HB5.out.size))
      have HA6 := Lib.hid (blk_below HA5.out hb6)
      clear hb6 HB5 HA5 HM5 c0 c1 c2 c3 c4 c5 c6 c7 c8 c9 c10
      have c0 := (blk_cell HA6.out 0).trans rfl
      have c1 := (blk_cell HA6.out 1).trans rfl
      have c2 := (blk_cell HA6.out 2).trans rfl
      have c3 := (blk_cell HA6.out 3).trans rfl
      have c4 := (blk_cell HA6.out 4).trans rfl
      have c5 := (blk_cell HA6.out 5).trans rfl
      have c6 := (blk_cell HA6.out 6).trans rfl
      have c7 := (blk_cell HA6.out 7).trans rfl
      have c8 := (blk_cell HA6.out 8).trans rfl
      have c9 := (blk_cell HA6.out 9).trans rfl
      have c10 := (blk_cell HA6.out 10).trans rfl
      go_wp2
      go_ret
      exact ⟨rfl, HB6.out⟩
    · have hx := Hx0.out (by omega)
      obtain ⟨ad, rfl, hcell⟩ := Kd.at_int (Kd.C_below HR.out HB2.out) (0 : Int) (by omega) (by omega)
      rw [hx] at hcell
      have hcell2 := hcell
      rw [show (0 : Int).toNat = 0 from rfl, show ad.add 0 = ad from rfl] at hcell2
      have d2 : decide (0 < l.length) = true := decide_eq_true (by omega)
      have d3 : decide ((0 : Int) < (l.length : Int)) = true := decide_eq_true (by omega)
      have hpos : 0 < l.length := by omega
      have hposi : (0 : Int) < (l.length : Int) := by omega
      clear hx h0
      go_wp2_with fail
      refine (first_any _ (HG.out.below HB2.out)).mono ?_
      rintro e w5 ⟨rfl, hb5⟩
      have HB5 := Lib.hid (HB2.out.trans (hb5.mono HB2.out.size))
      have HA5 := Lib.hid (blk_below HA2.out hb5)
      have HM5 := Lib.hid (cmay_any (1 + x % 3) v q r A2 c2 w5 (by omega) (by omega) (by omega) (by omega) (Kd.C_below HC3.out hb5) hc2)
      clear hb5
      have c0 := (blk_cell HA5.out 0).trans rfl
      have c1 := (blk_cell HA5.out 1).trans rfl
      have c2 := (blk_cell HA5.out 2).trans rfl
      have c3 := (blk_cell HA5.out 3).trans rfl
      have c4 := (blk_cell HA5.out 4).trans rfl
      have c5 := (blk_cell HA5.out 5).trans rfl
      have c6 := (blk_cell HA5.out 6).trans rfl
      have c7 := (blk_cell HA5.out 7).trans rfl
      have c8 := (blk_cell HA5.out 8).trans rfl
      have c9 := (blk_cell HA5.out 9).trans rfl
      have c10 := (blk_cell HA5.out 10).trans rfl
      go_wp2_with fail
      refine HM5.out.mono ?_
      rintro e w6 ⟨rfl, hb6⟩
      have HB6 := Lib.hid (HB5.out.trans (hb6.mono HB5.out.size))
      have HA6 := Lib.hid (blk_below HA5.out hb6)
      clear hb6 HB5 HA5 HM5 c0 c1 c2 c3 c4 c5 c6 c7 c8 c9 c10
      have c0 := (blk_cell HA6.out 0).trans rfl
      have c1 := (blk_cell HA6.out 1).trans rfl
      have c2 := (blk_cell HA6.out 2).trans rfl
      have c3 := (blk_cell HA6.out 3).trans rfl
      have c4 := (blk_cell HA6.out 4).trans rfl
      have c5 := (blk_cell HA6.out 5).trans rfl
      have c6 := (blk_cell HA6.out 6).trans rfl
      have c7 := (blk_cell HA6.out 7).trans rfl
      have c8 := (blk_cell HA6.out 8).trans rfl
      have c9 := (blk_cell HA6.out 9).trans rfl
      have c10 := (blk_cell HA6.out 10).trans rfl
      go_wp2
      go_ret
      exact ⟨rfl, HB6.out⟩
  · have d1 : decide ((6000 : Int) < (l.length : Int)) = true := decide_eq_true (by omega)
    go_wp2_with fail
    refine (first_any _ (HG.out.below HB1.out)).mono ?_
    rintro e w2 ⟨rfl, hb⟩
    have HB2 := Lib.hid (HB1.out.trans (hb.mono HB1.out.size))
    clear hb
    go_wp2
    go_ret
    exact ⟨rfl, HB2.out⟩
end Go.Proofs.YtohpimfanplloaaDoor.OptsW
