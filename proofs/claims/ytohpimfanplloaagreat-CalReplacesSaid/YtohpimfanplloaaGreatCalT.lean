/- CalReplaces' walk: what a transaction replaces does not stand in its way. -/
import Derived.Test.YtohpimfanplloaaGreatCalO
import Derived.Says
import Derived.Outline
import Derived.WalkKit
import Derived.WalkSpells
import Derived.Lib.Hide
import Derived.Deep.QuietTactic
import Derived.BigQuiet
set_option linter.unusedVariables false
set_option linter.unusedSimpArgs false
namespace Go.Proofs.YtohpimfanplloaaGreat.CalT
open Go.RowKit Go.Proofs.YtohpimfanplloaaGreatW.PrintWords Go.Proofs.YtohpimfanplloaaGreatW.PrintLast Go.Proofs.YtohpimfanplloaaGreatW.PrintMore Go.Proofs.YtohpimfanplloaaGreat.GI Go.Proofs.YtohpimfanplloaaGreat.PureI1 Go.Proofs.YtohpimfanplloaaGreat.PureI2 Go.Proofs.YtohpimfanplloaaGreat.PureJ Go.Proofs.YtohpimfanplloaaGreat.PureK Go.Proofs.YtohpimfanplloaaGreat.IvA Go.Proofs.YtohpimfanplloaaGreat.IvB Go.Proofs.YtohpimfanplloaaGreat.IvC Go.Proofs.YtohpimfanplloaaGreat.IvG Go.Proofs.YtohpimfanplloaaGreat.CalA Go.Proofs.YtohpimfanplloaaGreat.CalB Go.Proofs.YtohpimfanplloaaGreat.CalC Go.Proofs.YtohpimfanplloaaGreat.CalD Go.Proofs.YtohpimfanplloaaGreat.CalE Go.Proofs.YtohpimfanplloaaGreat.CalF Go.Proofs.YtohpimfanplloaaGreat.CalG Go.Proofs.YtohpimfanplloaaGreat.CalH Go.Proofs.YtohpimfanplloaaGreat.CalI Go.Proofs.YtohpimfanplloaaGreat.CalJ Go.Proofs.YtohpimfanplloaaGreat.CalK Go.Proofs.YtohpimfanplloaaGreat.CalM Go.Proofs.YtohpimfanplloaaGreat.CalQ Go.Proofs.YtohpimfanplloaaGreat.CalO
def to42 (l : List Sp) : List S42 := l.map fun p => (⟨p.1, p.2⟩ : S42)
theorem spans_l0 (xs : List S42) (hx : xs.length ≤ 1000000) : ∀ (m i : Nat), i + m = xs.length → vokref_Spans.l0 (m + 1) xs xs i = some true := by
  intro m
  induction m with
  | zero =>
    intro i hi
    unfold vokref_Spans.l0
    rw [if_neg (by omega)]
  | succ m ih =>
    intro i hi
    unfold vokref_Spans.l0
    rw [if_pos (by omega), if_pos (by omega), if_pos (by omega), if_pos rfl, if_pos rfl]
    have hw : wrap64 ((i : Int) + 1) = ((i + 1 : Nat) : Int) := by unfold wrap64; omega
    rw [hw]
    exact ih (i + 1) (by omega)
theorem spans_same (xs : List S42) (hx : xs.length ≤ 1000000) : vokref_Spans.f (xs.length + 1) xs xs = some true := by
  unfold vokref_Spans.f
  rw [if_pos rfl]
  exact spans_l0 xs hx xs.length 0 (by omega)
theorem own_len (b a : List Sp) : (ownersF (u3 a b).1).length = min (norm b).length 1 := by
  have h := (u3_is a b).1
  rw [owners_same _ 2 (fun t ht => (mem_tag.1 (h.mem_iff.1 ht)).2), h.length_eq]
  unfold tag
  rw [List.length_map]
set_option maxHeartbeats 4000000 in
set_option maxRecDepth 100000 in
theorem walk (A1 : Option Addr) (c1 : Nat) (a : List Sp) (A2 : Option Addr) (c2 : Nat) (b : List Sp) (user : Int) (w : World) (hr1 : Kd.C kSp w A1 a.length a) (hc1 : a.length ≤ c1) (hr2 : Kd.C kSp w A2 b.length b) (hc2 : b.length ≤ c2) :
    Calls Tryz.prog 5 #[.slice A1 a.length c1, .slice A2 b.length c2, .int .i64 user] w (fun e w' => e = .returned (.bool true) ∧ Below w.heap.size w w') := by
  have HR1 := Lib.hid hr1
  have HR2 := Lib.hid hr2
  clear hr1 hr2
  go_enter Tryz.func5, Tryz.ntmps5
  go_wp2_with fail
  refine (first_any _).mono ?_
  rintro e w1 ⟨rfl, hb⟩
  have HB1 := Lib.hid hb
  clear hb
  go_wp2_with fail
  refine (one_any _).mono ?_
  rintro e w2 ⟨A, c, rfl, hc, hr, hb⟩
  have HN := Lib.hid (new_yes 100 1 2 A c oneZ 1767225600 1772409600 0 w2 hr hc (by decide) (by decide) one_may (by decide) (by decide))
  have HB2 := Lib.hid (HB1.out.trans (hb.mono HB1.out.size))
  clear hr hb
  go_wp2_with fail
  refine HN.out.mono ?_
  rintro e w3 ⟨own, cb, ub, cells, rfl, hC, hown, hb3⟩
  rw [new_z0] at hC
  have HCF : Hid (CF w z0 cb ub cells w3) := Lib.hid ⟨own, hC, fun q hq => Nat.le_trans HB2.out.size (hown q hq), HB2.out.trans (hb3.mono HB2.out.size)⟩
  clear HN HB1 HB2 hC hown hb3
  by_cases hok : a.length ≤ 100 ∧ b.length ≤ 100 ∧ 0 ≤ user ∧ user ≤ 1
  · obtain ⟨ha, hb, hu0, hu1⟩ := hok
    obtain ⟨u, hu⟩ : ∃ u : Bool, user = uid u := by
      by_cases h : user = 0
      · exact ⟨false, h⟩
      · exact ⟨true, by show user = 1; omega⟩
    have Hu := Lib.hid hu
    clear hu
    have ha2 : decide ((100 : Int) < (a.length : Int)) = false := decide_eq_false (by omega)
    have hb2 : decide ((100 : Int) < (b.length : Int)) = false := decide_eq_false (by omega)
    have hu2 : decide (user < 0) = false := decide_eq_false (by omega)
    have hu3 : decide (1 < user) = false := decide_eq_false (by omega)
    clear hu0 hu1
    go_wp2_with fail
    refine (res_arg w w3 _ z0 cb ub cells 0 1 [user] A1 c1 a 0 w3.heap.size HCF.out small_z0 (below_alloc (Below.refl _ _) _) (by simp) (by omega) (by omega) (Nat.le_refl _) (by simp)
      (fun W' he => C_int1 (blk_cell (blk_eq he (newAt w3 _ _ rfl)) 0)) HR1.out hc1).mono ?_
    rintro e w4 ⟨he, hCF⟩
    have hm1 : mayRes z0 1 [user] a 0 = true := by rw [Hu.out]; exact (step1 u a).1
    rw [hm1] at he
    subst he
    have HCF4 := Lib.hid hCF
    have HS4 : Hid (Small (reserve z0 1 [user] a 0) 1000) := Lib.hid (Small_mono (Small_reserve small_z0 1 [user] a 0) (by simp; omega))
    clear hCF HCF hm1
    go_wp2_with fail
    refine (settle_arg w w4 _ cb ub cells 1000 1 HCF4.out HS4.out (by omega)).mono ?_
    rintro e w5 ⟨rfl, hCF⟩
    have HS5 := Lib.hid (Small_settle HS4.out 1)
    rw [Hu.out, (step1 u a).2] at hCF HS5
    have HCF5 := Lib.hid hCF
    clear hCF HCF4 HS4
    go_wp2_with fail
    refine (res_arg w w5 _ _ cb ub cells 1000 2 [user] A2 c2 b 1 w5.heap.size HCF5.out HS5.out (below_alloc (Below.refl _ _) _) (by simp) (by omega) (by omega) (Nat.le_refl _) (by simp)
      (fun W' he => C_int1 (blk_cell (blk_eq he (newAt w5 _ _ rfl)) 0)) HR2.out hc2).mono ?_
    rintro e w6 ⟨he, hCF⟩
    have HS6 := Lib.hid (Small_reserve HS5.out 2 [user] b 1)
    rw [Hu.out, (step2 u a b).1] at he
    rw [Hu.out, (step2 u a b).2] at hCF
    rw [Hu.out, (step2 u a b).2] at HS6
    subst he
    have HS7 : Hid (Small (at2 u (u2 a b)) 2000) := Lib.hid (Small_mono HS6.out (by simp; omega))
    have HCF6 := Lib.hid hCF
    have HB6 : Hid (Below w.heap.size w w6) := Lib.hid (by obtain ⟨_, _, _, h⟩ := hCF; exact h)
    clear hCF HCF5 HS5 HS6
    go_wp2_with fail
    refine (check_arg w _ _ cb ub cells 2000 (some ⟨w6.heap.size, 0, none⟩) A2 1 c2 [user] b 1 (HCF6.out.below (below_alloc (Below.refl _ _) _)) HS7.out (by omega) (by simp) (by omega)
      (C_int1 (blk_cell (newAt w6 _ _ rfl) 0)) (Nat.le_refl _) (Kd.C_below HR2.out (HB6.out.trans (below_alloc (Below.refl _ _) _ |>.mono HB6.out.size))) hc2).mono ?_
    rintro e w7 ⟨⟨t, u9, he⟩, hb7, hCF⟩
    rw [Hu.out, step3 u a b] at he
    subst he
    have HCF7 := Lib.hid hCF
    clear hCF HCF6 HB6 hb7
    simp only [tgV]
    go_wp2_with fail
    refine (rem_arg w _ _ cb ub cells 2000 1 (HCF7.out.below (below_alloc (Below.refl _ _) _)) HS7.out (by omega)).mono ?_
    rintro e w8 ⟨rfl, hCF⟩
    have HS8 := Lib.hid (Small_removeC HS7.out 1)
    have HCF8 := Lib.hid hCF
    clear hCF HCF7 HS7
    go_wp2_with fail
    refine (settle_arg w w8 _ cb ub cells 2000 2 HCF8.out HS8.out (by omega)).mono ?_
    rintro e w9 ⟨rfl, hCF⟩
    have HS9 := Lib.hid (Small_settle HS8.out 2)
    rw [step4 u a b] at hCF HS9
    have HCF9 := Lib.hid hCF
    clear hCF HCF8 HS8
    go_wp2_with fail
    refine (busy_arg w w9 _ cb ub cells 2000 user (-1125899906842624) 1125899906842624 HCF9.out HS9.out (by omega)).mono ?_
    rintro e w10 ⟨⟨v10, he, hrow, hb10⟩, hCF⟩
    rw [Hu.out, ofU2] at he hrow
    have hrow' : RowS w10 w9.heap.size v10 (norm (clips (norm b))) := by rw [← show cut (u3 a b).1 (-1125899906842624) 1125899906842624 = norm (clips (norm b)) from step5 a b _ _]; exact hrow
    have hl1 := norm_len b
    have hl2 : (norm (clips (norm b))).length ≤ (norm b).length := Nat.le_trans (norm_len _) (by unfold clips; rw [List.length_map]; exact Nat.le_refl _)
    obtain ⟨A10, c10, rfl, hc10, hC10⟩ := row_readsS hrow' (by omega)
    simp only [Option.isSome_some, if_true] at he
    subst he
    have HCF10 := Lib.hid hCF
    have HC10 := Lib.hid hC10
    clear hCF HCF9 hrow hrow' hb10 hC10
    go_wp2_with fail
    refine (own_arg w w10 _ cb ub cells 2000 user HCF10.out HS9.out (by omega)).mono ?_
    rintro e w11 ⟨⟨v1, v2, rfl, hrw1, hrw2, hb11⟩, hCF⟩
    rw [Hu.out, ofU2] at hrw1 hrw2
    have h2n : ownersF (u3 a b).2 = [] := by rw [(u3_is a b).2]; simp [ownersF, sortI, Lib.compact, Lib.compactUpTo]
    have hol := own_len b a
    simp only at hrw1 hrw2
    rw [h2n] at hrw2
    obtain ⟨A11, c11, rfl, _, _⟩ := rowN_reads hrw1 (by omega)
    obtain ⟨A12, c12, rfl, _, _⟩ := rowN_reads hrw2 (by simp)
    have HCF11 := Lib.hid hCF
    have HC11 := Lib.hid (Kd.C_below HC10.out hb11)
    have HB11 : Hid (Below w.heap.size w w11) := Lib.hid (by obtain ⟨_, _, _, h⟩ := hCF; exact h)
    generalize (ownersF (u3 a b).1).length = no at *
    have Hol := Lib.hid hol
    clear hol hCF HCF10 hrw1 hrw2 hb11 HC10 h2n
    have HN1 := Lib.hid (refnorm_any A2 c2 b w11 (Kd.C_below HR2.out HB11.out) hc2 (by omega))
    go_wp2_with fail
    refine HN1.out.mono ?_
    rintro e w12 ⟨v12, rfl, hrow12, hb12⟩
    obtain ⟨A13, c13, rfl, hc13, hC13⟩ := row_readsS hrow12 (by omega)
    have HC13 := Lib.hid hC13
    have HC12 := Lib.hid (Kd.C_below HC11.out hb12)
    have HB12 := Lib.hid (HB11.out.trans (hb12.mono HB11.out.size))
    clear hrow12 hb12 hC13 HC11 HB11 HN1 HCF11 HS9
    generalize norm b = n at *
    go_wp2_with fail
    refine (first_any _).mono ?_
    rintro e w13 ⟨rfl, hb13⟩
    have HC14 := Lib.hid (Kd.C_below HC13.out hb13)
    have HC15 := Lib.hid (Kd.C_below HC12.out hb13)
    have HB13 := Lib.hid (HB12.out.trans (hb13.mono HB12.out.size))
    clear hb13 HC13 HC12 HB12
    have dm : ((no : Int) == min (n.length : Int) 1) = true := by have hol := Hol.out; simp only [beq_iff_eq]; omega
    simp only [List.length_nil] at *
    generalize hq : norm (clips n) = q at *
    have HCut : Hid (Calls Tryz.prog 22 #[.slice A13 n.length c13] w13 fun e w' => ∃ v, e = .returned v ∧ RowS w' w13.heap.size v q ∧ Below w13.heap.size w13 w') := Lib.hid ((cut17_any A13 c13 n w13 HC14.out hc13 (by omega)).mono fun e w' h => by rw [← hq]; exact h)
    clear hq
    have HSp : Hid (∀ A14 c14 w14, q.length ≤ c14 → Below w13.heap.size w13 w14 → Kd.C kSp w14 A14 q.length q → Calls Tryz.prog 21 #[.slice A10 q.length c10, .slice A14 q.length c14] w14 fun e w' => e = .returned (.bool true) ∧ Below w14.heap.size w14 w') := Lib.hid (fun A14 c14 w14 hc hb hr => by
      have := vokref_Spans.calls ((to42 q).length + 1) A10 c10 (to42 q) A14 c14 (to42 q) true w14 (by unfold to42; rw [List.length_map]; exact C_to42 (Kd.C_below HC15.out hb)) (by unfold to42; rw [List.length_map]; exact hc10) (by unfold to42; rw [List.length_map]; exact C_to42 hr) (by unfold to42; rw [List.length_map]; exact hc) (spans_same _ (by unfold to42; rw [List.length_map]; omega))
      rw [show (to42 q).length = q.length by unfold to42; rw [List.length_map]] at this
      exact this.mono fun e w' ⟨he, hd⟩ => ⟨he, hd.below⟩)
    by_cases h0 : n.length = 0
    · have d1 : decide ((0 : Int) < (n.length : Int)) = false := decide_eq_false (by omega)
      have d2 : decide (0 < n.length) = false := decide_eq_false (by omega)
      rw [d2]
      clear h0
      go_wp2_with fail
      refine HCut.out.mono ?_
      rintro e w14 ⟨v14, rfl, hrow14, hb14⟩
      obtain ⟨A14, c14, rfl, hc14, hC14⟩ := row_readsS hrow14 (by omega)
      have HS := Lib.hid (HSp.out A14 c14 w14 hc14 hb14 hC14)
      have HB14 := Lib.hid (HB13.out.trans (hb14.mono HB13.out.size))
      clear hrow14 hb14 hC14 HCut
      go_wp2_with fail
      refine HS.out.mono ?_
      rintro e w15 ⟨rfl, hd⟩
      have HB15 := Lib.hid (HB14.out.trans (hd.mono HB14.out.size))
      clear hd
      go_wp2
      go_ret
      exact ⟨rfl, HB15.out⟩
    · have d1 : decide ((0 : Int) < (n.length : Int)) = true := decide_eq_true (by omega)
      have d2 : decide (0 < n.length) = true := decide_eq_true (by omega)
      rw [d2]
      clear h0
      go_wp2_with fail
      refine HCut.out.mono ?_
      rintro e w14 ⟨v14, rfl, hrow14, hb14⟩
      obtain ⟨A14, c14, rfl, hc14, hC14⟩ := row_readsS hrow14 (by omega)
      have HS := Lib.hid (HSp.out A14 c14 w14 hc14 hb14 hC14)
      have HB14 := Lib.hid (HB13.out.trans (hb14.mono HB13.out.size))
      clear hrow14 hb14 hC14 HCut
      go_wp2_with fail
      refine HS.out.mono ?_
      rintro e w15 ⟨rfl, hd⟩
      have HB15 := Lib.hid (HB14.out.trans (hd.mono HB14.out.size))
      clear hd
      go_wp2
      go_ret
      exact ⟨rfl, HB15.out⟩
  · have HB3 : Hid (Below w.heap.size w w3) := Lib.hid (by obtain ⟨_, _, _, h⟩ := HCF.out; exact h)
    have hal : a.length ≤ 100 ∨ ¬ a.length ≤ 100 := Classical.em _
    clear HCF
    by_cases ha : a.length ≤ 100
    · have ha2 : decide ((100 : Int) < (a.length : Int)) = false := decide_eq_false (by omega)
      by_cases hb : b.length ≤ 100
      · have hb2 : decide ((100 : Int) < (b.length : Int)) = false := decide_eq_false (by omega)
        by_cases h0 : user < 0
        · have hu2 : decide (user < 0) = true := decide_eq_true h0
          clear hok hal
          go_wp2_with fail
          refine (first_any _).mono ?_
          rintro e w4 ⟨rfl, hb4⟩
          have HB4 := Lib.hid (HB3.out.trans (hb4.mono HB3.out.size))
          clear hb4
          go_wp2
          go_ret
          exact ⟨rfl, HB4.out⟩
        · have hu2 : decide (user < 0) = false := decide_eq_false h0
          have hu3 : decide (1 < user) = true := decide_eq_true (by omega)
          clear hok hal
          go_wp2_with fail
          refine (first_any _).mono ?_
          rintro e w4 ⟨rfl, hb4⟩
          have HB4 := Lib.hid (HB3.out.trans (hb4.mono HB3.out.size))
          clear hb4
          go_wp2
          go_ret
          exact ⟨rfl, HB4.out⟩
      · have hb2 : decide ((100 : Int) < (b.length : Int)) = true := decide_eq_true (by omega)
        clear hok hal
        go_wp2_with fail
        refine (first_any _).mono ?_
        rintro e w4 ⟨rfl, hb4⟩
        have HB4 := Lib.hid (HB3.out.trans (hb4.mono HB3.out.size))
        clear hb4
        go_wp2
        go_ret
        exact ⟨rfl, HB4.out⟩
    · have ha2 : decide ((100 : Int) < (a.length : Int)) = true := decide_eq_true (by omega)
      clear hok hal
      go_wp2_with fail
      refine (first_any _).mono ?_
      rintro e w4 ⟨rfl, hb4⟩
      have HB4 := Lib.hid (HB3.out.trans (hb4.mono HB3.out.size))
      clear hb4
      go_wp2
      go_ret
      exact ⟨rfl, HB4.out⟩
end Go.Proofs.YtohpimfanplloaaGreat.CalT
