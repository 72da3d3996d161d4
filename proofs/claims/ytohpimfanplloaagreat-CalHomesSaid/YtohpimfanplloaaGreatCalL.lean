/- CalHomes: it answers true. -/
import Derived.Test.YtohpimfanplloaaGreatCalK
import Derived.Test.YtohpimfanplloaaGreatCalP
import Derived.Test.YtohpimfanplloaaGreatWKept
import Derived.WalkKit
import Derived.WalkSpells
import Derived.Lib.Hide
import Derived.Deep.RegionHeld3
import Derived.Deep.RegionWith
import Derived.Deep.DeepCutAuto
set_option linter.unusedVariables false
set_option linter.unusedSimpArgs false
namespace Go.Proofs.YtohpimfanplloaaGreat.CalL
open Go.RowKit Go.Proofs.YtohpimfanplloaaGreatW.PrintWords Go.Proofs.YtohpimfanplloaaGreatW.PrintLast Go.Proofs.YtohpimfanplloaaGreatW.PrintMore Go.Proofs.YtohpimfanplloaaGreat.PureI1 Go.Proofs.YtohpimfanplloaaGreat.PureI2 Go.Proofs.YtohpimfanplloaaGreat.IvA Go.Proofs.YtohpimfanplloaaGreat.IvC Go.Proofs.YtohpimfanplloaaGreat.IvG Go.Proofs.YtohpimfanplloaaGreat.CalB Go.Proofs.YtohpimfanplloaaGreat.CalC Go.Proofs.YtohpimfanplloaaGreat.CalD Go.Proofs.YtohpimfanplloaaGreat.CalF Go.Proofs.YtohpimfanplloaaGreat.CalG Go.Proofs.YtohpimfanplloaaGreat.CalH Go.Proofs.YtohpimfanplloaaGreat.CalI Go.Proofs.YtohpimfanplloaaGreat.CalJ Go.Proofs.YtohpimfanplloaaGreat.CalK Go.Proofs.YtohpimfanplloaaGreat.CalP Go.Proofs.YtohpimfanplloaaGreat.GI
theorem home_in {n m i : Int} (hn : 1 ≤ n) (h0 : 0 ≤ i) (h1 : i < m) : 0 ≤ homeF n m i ∧ homeF n m i < n := by
  unfold homeF
  rw [if_neg (by omega), if_neg (by omega), if_neg (by omega)]
  exact ⟨Int.emod_nonneg _ (by omega), Int.emod_lt_of_pos _ (by omega)⟩
theorem home_out {n m i : Int} (h : i < 0 ∨ m ≤ i) : homeF n m i = -1 := by
  unfold homeF
  by_cases h0 : i < 0
  · rw [if_pos h0]
  · rw [if_neg h0, if_pos (by omega)]
theorem of_all (n node u : Int) (m : Nat) (hm : m ≤ 64) : ofU (newAll n node m) u = if 0 ≤ u ∧ u < m ∧ homeF n m u = node then some ([], []) else none := by
  unfold ofU newAll
  by_cases h0 : u < 0
  · rw [if_pos h0, if_neg (by omega)]
  · rw [if_neg h0]
    by_cases h1 : u.toNat < m
    · rw [newK_get _ _ _ _ _ _ h1, if_pos h1]
      have hu : ((u.toNat : Nat) : Int) = u := by omega
      show newP n m node u.toNat = _
      unfold newP
      rw [hu]
      by_cases h2 : homeF n m u = node
      · rw [if_pos h2, if_pos ⟨by omega, by omega, h2⟩]
      · rw [if_neg h2, if_neg (fun h => h2 h.2.2)]
    · have hl : (newK n m node m m).length = m := newK_len _ _ _ _ _
      rw [List.getElem?_eq_none (by omega), if_neg (by omega)]
      rfl
theorem small_all (n node : Int) (m : Nat) : Small (newAll n node m) 0 := fun p hp => by
  obtain ⟨i, hi⟩ := List.getElem?_of_mem hp
  have hl : i < m := by have := (List.getElem?_eq_some_iff.1 hi).1; rwa [show (newAll n node m).length = m from newK_len _ _ _ _ _] at this
  rw [show (newAll n node m)[i]? = _ from newK_get _ _ _ _ _ _ hl, if_pos hl] at hi
  unfold newP at hi
  split at hi
  · simp at hi; subst hi; simp
  · simp at hi
theorem cut_nil (lo hi : Int) : cut [] lo hi = [] := by simp [cut, norm, inc, merged]
set_option maxHeartbeats 4000000 in
set_option maxRecDepth 100000 in
theorem walk (n m lo hi u : Int) (A : Option Addr) (c : Nat) (l : List S75) (w : World) (hr : Kd.C k75 w A l.length l) (hc : l.length ≤ c) :
    Calls Tryz.prog 3 #[.agg #[.int .i64 n, .int .i64 m, .slice A l.length c, .int .i64 lo, .int .i64 hi], .int .i64 u] w (fun e w' => e = .returned (.bool true) ∧ Below w.heap.size w w') := by
  have HR := Lib.hid hr
  clear hr
  obtain ⟨few, hfew, hz⟩ := few_tot l
  go_enter Tryz.func3, Tryz.ntmps3
  go_wp2_with fail
  refine (first_any _).mono ?_
  rintro e w1 ⟨rfl, hb⟩
  have hbx : w1.heap[w.heap.size]? = some (.cells #[.int .i64 n, .int .i64 m, .slice A l.length c, .int .i64 lo, .int .i64 hi] 24 (0, 0)) := (hb.block _ (by simp)).trans (newAt w _ _ rfl)
  have HB := Lib.hid (((Below.refl w.heap.size w).alloc (Nat.le_refl _) (.cells #[.int .i64 n, .int .i64 m, .slice A l.length c, .int .i64 lo, .int .i64 hi] 24)).trans (hb.mono (by simp)))
  have c0 : w1.cell? ⟨w.heap.size, 0, none⟩ = some (.int .i64 n) := blk_cell hbx 0
  have c1 : w1.cell? ⟨w.heap.size, 1, none⟩ = some (.int .i64 m) := blk_cell hbx 1
  have c2 : w1.cell? ⟨w.heap.size, 2, none⟩ = some (.slice A l.length c) := blk_cell hbx 2
  have c3 : w1.cell? ⟨w.heap.size, 3, none⟩ = some (.int .i64 lo) := blk_cell hbx 3
  have c4 : w1.cell? ⟨w.heap.size, 4, none⟩ = some (.int .i64 hi) := blk_cell hbx 4
  have HBx := Lib.hid hbx
  clear hb hbx
  go_wp2_with fail
  refine (voklaw9_FewZones.calls 62 A c l few _ (Kd.C_below HR.out HB.out) hc hfew).mono ?_
  rintro e w2 ⟨rfl, hb2⟩
  have HB2 := Lib.hid (HB.out.trans (hb2.mono HB.out.size))
  have HBx2 := Lib.hid (blk_below HBx.out hb2)
  have d0 : w2.cell? ⟨w.heap.size, 0, none⟩ = some (.int .i64 n) := blk_cell HBx2.out 0
  have d1 : w2.cell? ⟨w.heap.size, 1, none⟩ = some (.int .i64 m) := blk_cell HBx2.out 1
  have d2 : w2.cell? ⟨w.heap.size, 2, none⟩ = some (.slice A l.length c) := blk_cell HBx2.out 2
  have d3 : w2.cell? ⟨w.heap.size, 3, none⟩ = some (.int .i64 lo) := blk_cell HBx2.out 3
  have d4 : w2.cell? ⟨w.heap.size, 4, none⟩ = some (.int .i64 hi) := blk_cell HBx2.out 4
  clear c0 c1 c2 c3 c4 hb2 HB HBx
  cases few with
  | false =>
    clear hz hfew
    go_wp2_with fail
    refine (first_any _).mono ?_
    rintro e w3 ⟨rfl, hb3⟩
    have HB3 := Lib.hid (HB2.out.trans (hb3.mono HB2.out.size))
    clear hb3
    go_wp2
    go_ret
    exact ⟨rfl, HB3.out⟩
  | true =>
    obtain ⟨hl30, hz⟩ := hz rfl
    obtain ⟨mb, hmb⟩ := may_tot n m l lo hi hl30 (fun z hm => (hz z hm).1)
    have HM := Lib.hid hmb
    have HZ := Lib.hid hz
    clear hmb hz hfew
    go_wp2_with fail
    refine (cal_May.calls _ n m A c l lo hi mb _ (Kd.C_below HR.out HB2.out) hc HM.out).mono ?_
    rintro e w3 ⟨rfl, hb3⟩
    have HB3 := Lib.hid (HB2.out.trans (hb3.mono HB2.out.size))
    have HBx3 := Lib.hid (blk_below HBx2.out hb3)
    have c0 : w3.cell? ⟨w.heap.size, 0, none⟩ = some (.int .i64 n) := blk_cell HBx3.out 0
    have c1 : w3.cell? ⟨w.heap.size, 1, none⟩ = some (.int .i64 m) := blk_cell HBx3.out 1
    have c2 : w3.cell? ⟨w.heap.size, 2, none⟩ = some (.slice A l.length c) := blk_cell HBx3.out 2
    have c3 : w3.cell? ⟨w.heap.size, 3, none⟩ = some (.int .i64 lo) := blk_cell HBx3.out 3
    have c4 : w3.cell? ⟨w.heap.size, 4, none⟩ = some (.int .i64 hi) := blk_cell HBx3.out 4
    clear d0 d1 d2 d3 d4 hb3 HB2 HBx2
    cases mb with
    | false =>
      clear HM HZ
      go_wp2_with fail
      refine (first_any _).mono ?_
      rintro e w4 ⟨rfl, hb4⟩
      have HB4 := Lib.hid (HB3.out.trans (hb4.mono HB3.out.size))
      clear hb4
      go_wp2
      go_ret
      exact ⟨rfl, HB4.out⟩
    | true =>
      obtain ⟨b1, b2, b3, b4, b5, b6⟩ := may_bounds HM.out
      obtain ⟨M, rfl⟩ : ∃ M : Nat, m = M := ⟨m.toNat, by omega⟩
      have HHo := Lib.hid (fun W => home_any n M u A l.length c lo hi W (by omega) (by omega))
      go_wp2_with fail
      refine (HHo.out _).mono ?_
      rintro e w4 ⟨rfl, hb4⟩
      have HB4 := Lib.hid (HB3.out.trans (hb4.mono HB3.out.size))
      have HBx4 := Lib.hid (blk_below HBx3.out hb4)
      have d0 : w4.cell? ⟨w.heap.size, 0, none⟩ = some (.int .i64 n) := blk_cell HBx4.out 0
      have d1 : w4.cell? ⟨w.heap.size, 1, none⟩ = some (.int .i64 (M : Nat)) := blk_cell HBx4.out 1
      have d2 : w4.cell? ⟨w.heap.size, 2, none⟩ = some (.slice A l.length c) := blk_cell HBx4.out 2
      have d3 : w4.cell? ⟨w.heap.size, 3, none⟩ = some (.int .i64 lo) := blk_cell HBx4.out 3
      have d4 : w4.cell? ⟨w.heap.size, 4, none⟩ = some (.int .i64 hi) := blk_cell HBx4.out 4
      clear c0 c1 c2 c3 c4 hb4 HB3 HBx3 HHo
      have HQ : Hid (∀ k : Nat, (0 : Int) ≤ k → (k : Int) = homeF n M u → 0 ≤ u ∧ u < M ∧ homeF n M u = k) := Lib.hid (fun k h0 hk => by
        by_cases h1 : u < 0 ∨ (M : Int) ≤ u
        · rw [home_out h1] at hk; omega
        · exact ⟨by omega, by omega, hk.symm⟩)
      by_cases hu0 : 0 ≤ u
      · have x1 : decide (0 ≤ u) = true := decide_eq_true hu0
        by_cases hu1 : u < (M : Int)
        · have x2 : decide (u < (M : Int)) = true := decide_eq_true hu1
          obtain ⟨g1, g2⟩ := home_in (m := M) b1 hu0 hu1
          obtain ⟨h, hh⟩ : ∃ h, h = homeF n M u := ⟨_, rfl⟩
          rw [← hh] at g1 g2 HQ ⊢
          replace hh := hh.symm
          have x3 : decide (0 ≤ h) = true := decide_eq_true g1
          have x4 : decide (n ≤ h) = false := decide_eq_false (by omega)
          go_wp2_with fail
          clear d0 d1 d2 d3 d4
          go_loopw [7] (fun i wr => ∃ k : Nat, i = .int .i64 k ∧ (k : Int) ≤ n ∧ Hid (Below w4.heap.size w4 wr)) (fun i _ => n.toNat - (intOf i).toNat)
          case atStart => exact ⟨0, by go_num, by omega, Lib.hid (Below.refl _ _)⟩
          case round =>
            obtain ⟨k, rfl, hk, HA⟩ := hrel
            have hbx := blk_below HBx4.out HA.out
            have c0 : wr.cell? ⟨w.heap.size, 0, none⟩ = some (.int .i64 n) := blk_cell hbx 0
            have c1 : wr.cell? ⟨w.heap.size, 1, none⟩ = some (.int .i64 (M : Nat)) := blk_cell hbx 1
            have c2 : wr.cell? ⟨w.heap.size, 2, none⟩ = some (.slice A l.length c) := blk_cell hbx 2
            have c3 : wr.cell? ⟨w.heap.size, 3, none⟩ = some (.int .i64 lo) := blk_cell hbx 3
            have c4 : wr.cell? ⟨w.heap.size, 4, none⟩ = some (.int .i64 hi) := blk_cell hbx 4
            clear hbx
            by_cases hlt : (k : Int) < n
            · have HN := Lib.hid (new_yes _ n M A c l lo hi k wr (Kd.C_below HR.out (HB4.out.trans (HA.out.mono HB4.out.size))) hc (by omega) (fun z hm => ⟨by have := (HZ.out z hm).1; omega, by have := (HZ.out z hm).2; omega⟩) HM.out (by omega) hlt)
              go_wp2_with fail
              refine HN.out.mono ?_
              rintro e w5 ⟨own, cb, ub, cells, rfl, hC, hown, hb5⟩
              have HC := Lib.hid hC
              have HA5 := Lib.hid (HA.out.trans (hb5.mono HA.out.size))
              clear hC hown hb5 HN c0 c1 c2 c3 c4
              go_wp2_with fail
              refine (busy_any own cb ub cells (newAll n k M) 0 u 0 1099511627776 w5 HC.out (small_all _ _ _) (by omega)).mono ?_
              rintro e w6 ⟨v, he, hrow, hb6⟩
              have HA6 := Lib.hid (HA5.out.trans (hb6.mono HA5.out.size))
              rw [of_all n k u M (by omega)] at he hrow
              by_cases hq : 0 ≤ u ∧ u < M ∧ homeF n M u = k
              · rw [if_pos hq] at he hrow
                simp only [cut_nil] at hrow
                have y1 : ((k : Int) == h) = true := by rw [← hh]; simp [hq.2.2]
                have y2 : ((k : Int) == h) = true := y1
                obtain ⟨A6, c6, rfl, _, _⟩ := row_readsS hrow (by simp)
                simp only [Option.isSome_some, if_true, List.length_nil] at he
                subst he
                clear hrow hb6 HC HA5 hq
                go_wp2_with fail
                go_roundw
                case measure => simp [intOf]; omega
                case rel => exact ⟨k + 1, by go_num, by omega, HA6⟩
              · rw [if_neg hq] at he hrow
                have y1 : ((k : Int) == h) = false := beq_eq_false_iff_ne.2 (fun hkh => hq (by have h9 := HQ.out k (by omega) hkh; exact ⟨h9.1, h9.2.1, by rw [hh]; exact h9.2.2⟩))
                obtain ⟨A6, c6, rfl, _, _⟩ := row_readsS hrow (by simp)
                simp only [Option.isSome_none, List.length_nil] at he
                rw [if_neg (by decide)] at he
                subst he
                clear hrow hb6 HC HA5 hq
                go_wp2_with fail
                go_roundw
                case measure => simp [intOf]; omega
                case rel => exact ⟨k + 1, by go_num, by omega, HA6⟩
            · go_wp2_with fail
              refine (first_any _).mono ?_
              rintro e w5 ⟨rfl, hb5⟩
              have HF := Lib.hid (HB4.out.trans ((HA.out.trans (hb5.mono HA.out.size)).mono HB4.out.size))
              clear hb5
              go_wp2
              go_ret
              exact ⟨rfl, HF.out⟩
        · have x2 : decide (u < (M : Int)) = false := decide_eq_false hu1
          have g1 : homeF n M u = -1 := home_out (.inr (by omega))
          obtain ⟨h, hh⟩ : ∃ h, h = homeF n M u := ⟨_, rfl⟩
          rw [← hh] at g1 HQ ⊢
          replace hh := hh.symm
          have x3 : decide (0 ≤ h) = false := decide_eq_false (by omega)
          have x4 : decide (n ≤ h) = false := decide_eq_false (by omega)
          go_wp2_with fail
          clear d0 d1 d2 d3 d4
          go_loopw [7] (fun i wr => ∃ k : Nat, i = .int .i64 k ∧ (k : Int) ≤ n ∧ Hid (Below w4.heap.size w4 wr)) (fun i _ => n.toNat - (intOf i).toNat)
          case atStart => exact ⟨0, by go_num, by omega, Lib.hid (Below.refl _ _)⟩
          case round =>
            obtain ⟨k, rfl, hk, HA⟩ := hrel
            have hbx := blk_below HBx4.out HA.out
            have c0 : wr.cell? ⟨w.heap.size, 0, none⟩ = some (.int .i64 n) := blk_cell hbx 0
            have c1 : wr.cell? ⟨w.heap.size, 1, none⟩ = some (.int .i64 (M : Nat)) := blk_cell hbx 1
            have c2 : wr.cell? ⟨w.heap.size, 2, none⟩ = some (.slice A l.length c) := blk_cell hbx 2
            have c3 : wr.cell? ⟨w.heap.size, 3, none⟩ = some (.int .i64 lo) := blk_cell hbx 3
            have c4 : wr.cell? ⟨w.heap.size, 4, none⟩ = some (.int .i64 hi) := blk_cell hbx 4
            clear hbx
            by_cases hlt : (k : Int) < n
            · have HN := Lib.hid (new_yes _ n M A c l lo hi k wr (Kd.C_below HR.out (HB4.out.trans (HA.out.mono HB4.out.size))) hc (by omega) (fun z hm => ⟨by have := (HZ.out z hm).1; omega, by have := (HZ.out z hm).2; omega⟩) HM.out (by omega) hlt)
              go_wp2_with fail
              refine HN.out.mono ?_
              rintro e w5 ⟨own, cb, ub, cells, rfl, hC, hown, hb5⟩
              have HC := Lib.hid hC
              have HA5 := Lib.hid (HA.out.trans (hb5.mono HA.out.size))
              clear hC hown hb5 HN c0 c1 c2 c3 c4
              go_wp2_with fail
              refine (busy_any own cb ub cells (newAll n k M) 0 u 0 1099511627776 w5 HC.out (small_all _ _ _) (by omega)).mono ?_
              rintro e w6 ⟨v, he, hrow, hb6⟩
              have HA6 := Lib.hid (HA5.out.trans (hb6.mono HA5.out.size))
              rw [of_all n k u M (by omega)] at he hrow
              by_cases hq : 0 ≤ u ∧ u < M ∧ homeF n M u = k
              · exact absurd hq.2.2 (by rw [hh]; omega)
              · rw [if_neg hq] at he hrow
                have y1 : ((k : Int) == h) = false := beq_eq_false_iff_ne.2 (fun hkh => hq (by have h9 := HQ.out k (by omega) hkh; exact ⟨h9.1, h9.2.1, by rw [hh]; exact h9.2.2⟩))
                obtain ⟨A6, c6, rfl, _, _⟩ := row_readsS hrow (by simp)
                simp only [Option.isSome_none, List.length_nil] at he
                rw [if_neg (by decide)] at he
                subst he
                clear hrow hb6 HC HA5 hq
                go_wp2_with fail
                go_roundw
                case measure => simp [intOf]; omega
                case rel => exact ⟨k + 1, by go_num, by omega, HA6⟩
            · go_wp2_with fail
              refine (first_any _).mono ?_
              rintro e w5 ⟨rfl, hb5⟩
              have HF := Lib.hid (HB4.out.trans ((HA.out.trans (hb5.mono HA.out.size)).mono HB4.out.size))
              clear hb5
              go_wp2
              go_ret
              exact ⟨rfl, HF.out⟩
      · have x1 : decide (0 ≤ u) = false := decide_eq_false hu0
        have g1 : homeF n M u = -1 := home_out (.inl (by omega))
        obtain ⟨h, hh⟩ : ∃ h, h = homeF n M u := ⟨_, rfl⟩
        rw [← hh] at g1 HQ ⊢
        replace hh := hh.symm
        have x3 : decide (0 ≤ h) = false := decide_eq_false (by omega)
        have x4 : decide (n ≤ h) = false := decide_eq_false (by omega)
        go_wp2_with fail
        clear d0 d1 d2 d3 d4
        go_loopw [7] (fun i wr => ∃ k : Nat, i = .int .i64 k ∧ (k : Int) ≤ n ∧ Hid (Below w4.heap.size w4 wr)) (fun i _ => n.toNat - (intOf i).toNat)
        case atStart => exact ⟨0, by go_num, by omega, Lib.hid (Below.refl _ _)⟩
        case round =>
          obtain ⟨k, rfl, hk, HA⟩ := hrel
          have hbx := blk_below HBx4.out HA.out
          have c0 : wr.cell? ⟨w.heap.size, 0, none⟩ = some (.int .i64 n) := blk_cell hbx 0
          have c1 : wr.cell? ⟨w.heap.size, 1, none⟩ = some (.int .i64 (M : Nat)) := blk_cell hbx 1
          have c2 : wr.cell? ⟨w.heap.size, 2, none⟩ = some (.slice A l.length c) := blk_cell hbx 2
          have c3 : wr.cell? ⟨w.heap.size, 3, none⟩ = some (.int .i64 lo) := blk_cell hbx 3
          have c4 : wr.cell? ⟨w.heap.size, 4, none⟩ = some (.int .i64 hi) := blk_cell hbx 4
          clear hbx
          by_cases hlt : (k : Int) < n
          · have HN := Lib.hid (new_yes _ n M A c l lo hi k wr (Kd.C_below HR.out (HB4.out.trans (HA.out.mono HB4.out.size))) hc (by omega) (fun z hm => ⟨by have := (HZ.out z hm).1; omega, by have := (HZ.out z hm).2; omega⟩) HM.out (by omega) hlt)
            go_wp2_with fail
            refine HN.out.mono ?_
            rintro e w5 ⟨own, cb, ub, cells, rfl, hC, hown, hb5⟩
            have HC := Lib.hid hC
            have HA5 := Lib.hid (HA.out.trans (hb5.mono HA.out.size))
            clear hC hown hb5 HN c0 c1 c2 c3 c4
            go_wp2_with fail
            refine (busy_any own cb ub cells (newAll n k M) 0 u 0 1099511627776 w5 HC.out (small_all _ _ _) (by omega)).mono ?_
            rintro e w6 ⟨v, he, hrow, hb6⟩
            have HA6 := Lib.hid (HA5.out.trans (hb6.mono HA5.out.size))
            rw [of_all n k u M (by omega)] at he hrow
            by_cases hq : 0 ≤ u ∧ u < M ∧ homeF n M u = k
            · exact absurd hq.2.2 (by rw [hh]; omega)
            · rw [if_neg hq] at he hrow
              have y1 : ((k : Int) == h) = false := beq_eq_false_iff_ne.2 (fun hkh => hq (by have h9 := HQ.out k (by omega) hkh; exact ⟨h9.1, h9.2.1, by rw [hh]; exact h9.2.2⟩))
              obtain ⟨A6, c6, rfl, _, _⟩ := row_readsS hrow (by simp)
              simp only [Option.isSome_none, List.length_nil] at he
              rw [if_neg (by decide)] at he
              subst he
              clear hrow hb6 HC HA5 hq
              go_wp2_with fail
              go_roundw
              case measure => simp [intOf]; omega
              case rel => exact ⟨k + 1, by go_num, by omega, HA6⟩
          · go_wp2_with fail
            refine (first_any _).mono ?_
            rintro e w5 ⟨rfl, hb5⟩
            have HF := Lib.hid (HB4.out.trans ((HA.out.trans (hb5.mono HA.out.size)).mono HB4.out.size))
            clear hb5
            go_wp2
            go_ret
            exact ⟨rfl, HF.out⟩
end Go.Proofs.YtohpimfanplloaaGreat.CalL
