/- A set's Add. -/
import Derived.Test.YtohpimfanplloaaGreatZIvG
import Derived.Test.YtohpimfanplloaaGreatZV
import Derived.WalkKit
import Derived.WalkSpells
import Derived.Lib.Hide
import Derived.Deep.AppendLies
import Derived.Deep.RegionLaw
import Derived.Deep.QuietTactic
import Derived.BigQuiet
set_option linter.unusedVariables false
set_option linter.unusedSimpArgs false
namespace Go.Proofs.YtohpimfanplloaaGreat.IvH
open Go.RowKit Go.Proofs.YtohpimfanplloaaGreatW.PrintWords Go.Proofs.YtohpimfanplloaaGreatW.PrintLast Go.Proofs.YtohpimfanplloaaGreatW.PrintMore Go.Proofs.YtohpimfanplloaaGreat.PureI1 Go.Proofs.YtohpimfanplloaaGreat.PureI2 Go.Proofs.YtohpimfanplloaaGreat.IvA Go.Proofs.YtohpimfanplloaaGreat.IvS Go.Proofs.YtohpimfanplloaaGreat.IvB Go.Proofs.YtohpimfanplloaaGreat.IvC Go.Proofs.YtohpimfanplloaaGreat.IvD Go.Proofs.YtohpimfanplloaaGreat.IvE Go.Proofs.YtohpimfanplloaaGreat.IvF Go.Proofs.YtohpimfanplloaaGreat.IvG

def addR (L : List Tg) (n : List Sp) (o : Int) : List Tg := L ++ n.map (fun x => ((x, o) : Tg))
def AddIs (W : World) (F : Nat → Prop) (b : Nat) (L : List Tg) (l : List Sp) (o : Int) (e : Ending) (w' : World) : Prop :=
  e = .returned (.bool (mayAdd L l o)) ∧ SetAt w' (fun k => F k ∨ W.heap.size ≤ k) b (add L l o) ∧ Kept5 W w' F
/-- Behind k rounds. -/
def AddAt (W : World) (F : Nat → Prop) (b : Nat) (L : List Tg) (n : List Sp) (o : Int) (rv : Value) (k : Nat) (wr : World) : Prop :=
  (∃ v, wr.heap[b]? = some (.cells #[v] 122 (0, 0)) ∧ RowT wr 0 v (addR L (n.take k) o) ∧ ∀ q, v.ownBlock = some q → F q ∨ W.heap.size ≤ q) ∧ Kept5 W wr F ∧ RowS wr W.heap.size rv n
theorem addR_snoc (L : List Tg) (n : List Sp) (k : Nat) (h : k < n.length) (o : Int) : addR L (n.take (k + 1)) o = addR L (n.take k) o ++ [(rdS n k, o)] := by
  rw [take_snoc' n k h (0, 0)]
  unfold addR
  rw [List.map_append, ← List.append_assoc]
  rfl
theorem addR_len (L : List Tg) (n : List Sp) (k : Nat) (o : Int) : (addR L (n.take k) o).length ≤ L.length + n.length := by
  unfold addR
  rw [List.length_append, List.length_map, List.length_take]
  omega
theorem rowS_ne {W : World} {base b n : Nat} {v v0 : Value} {xs : List Value} (h : W.ownsRow base 42 2 v n xs) (hb : W.heap[b]? = some (.cells #[v0] 122 (0, 0))) : v.ownBlock ≠ some b := by
  intro he
  rcases h.2 with ⟨rfl, _⟩ | ⟨g, cap, cur, rfl, _, hg, _⟩
  · cases he
  · cases he
    rw [hb] at hg
    cases hg
/-- One span more. -/
theorem AddAt.next {W wr wa w1 : World} {F : Nat → Prop} {b : Nat} {L : List Tg} {n : List Sp} {o : Int} {rv : Value} {k : Nat} (h : AddAt W F b L n o rv k wr) (hF : F b) (hk : k < n.length) {v v' : Value}
    (hv : wr.heap[b]? = some (.cells #[v] 122 (0, 0))) (hro : RowT wr 0 v (addR L (n.take k) o)) (hvF : ∀ q, v.ownBlock = some q → F q ∨ W.heap.size ≤ q)
    (hwa : Below wr.heap.size wr wa) (hown : RowT w1 0 v' (addR L (n.take (k + 1)) o)) (hgr : wa.grownBy w1 v.ownBlock) (hat : v'.ownBlock = v.ownBlock ∨ ∃ q, v'.ownBlock = some q ∧ W.heap.size ≤ q) :
    AddAt W F b L n o rv (k + 1) (w1.setCell ⟨b, 0, none⟩ v') := by
  obtain ⟨_, h2, h3⟩ := h
  have hb1 : w1.heap[b]? = some (.cells #[v] 122 (0, 0)) := (hgr.block b (Nat.lt_of_lt_of_le (blk_lt hv) hwa.size) (fun he => row_ne hro hv he.symm)).trans (blk_below hv hwa)
  refine ⟨⟨v', ?_, own_setCell hown (fun he => row_ne hown hb1 he.symm) _, fun q hq => ?_⟩, ?_, ?_⟩
  · have := blk_set hb1 0 v'
    simpa using this
  · rcases hat with hat | ⟨q', hq', hle⟩
    · exact hvF q (by rw [← hat]; exact hq)
    · rw [hq'] at hq; cases hq; exact .inr hle
  · refine ((Kept5.of_grown hgr (h2.below hwa) (fun q hq => hvF q hq))).setCell (.inl hF) _
  · have h4 := own_other (pw_own_below h3 hwa) hgr (own_type_ne h3 hro (by decide))
    exact own_setCell h4 (fun he => rowS_ne h4 hb1 he.symm) _

set_option maxHeartbeats 2000000 in
set_option maxRecDepth 100000 in
theorem add_any (F : Nat → Prop) (b : Nat) (L : List Tg) (A : Option Addr) (c : Nat) (l : List Sp) (o : Int) (W : World) (hS : SetAt W F b L) (hm : L.length ≤ 1099511627776) (hr : Kd.C kSp W A l.length l) (hc : l.length ≤ c) (hl : l.length ≤ 1099511627776) :
    Calls Tryz.prog 45 #[.pointer (some ⟨b, 0, none⟩), .slice A l.length c, .int .i64 o] W (AddIs W F b L l o) := by
  obtain ⟨i0, hi, hz0, hz1, hz2⟩ := info_parts info_tg
  have HS := Lib.hid hS
  have hbn := hS.lt
  have hn := norm_len l
  have HN := Lib.hid (norm_any A c l W hr hc hl)
  clear hS hr
  have stay : mayAdd L l o = false → ∀ w', Below W.heap.size W w' → AddIs W F b L l o (.returned (.bool false)) w' := fun hf w' hb =>
    ⟨by rw [hf], by unfold add; rw [hf]; exact (HS.out.below hb).mono (fun _ h => .inl h), Kept5.of_below hb F⟩
  have HSt := Lib.hid stay
  clear stay
  by_cases ho : o < 1
  · have d1 : decide (o < 1) = true := decide_eq_true ho
    have hf : mayAdd L l o = false := by unfold mayAdd; rw [show decide (1 ≤ o) = false by simp; omega]; rfl
    have HF := Lib.hid hf
    clear hf
    go_enter Tryz.func45, Tryz.ntmps45
    go_wp2_with fail
    refine HN.out.mono ?_
    rintro e w1 ⟨v, rfl, hrow, hb⟩
    have HB1 := Lib.hid hb
    clear hrow hb
    go_wp2
    go_ret
    exact HSt.out HF.out _ HB1.out
  · have d1 : decide (o < 1) = false := decide_eq_false ho
    cases hh : has L o with
    | true =>
      have hf : mayAdd L l o = false := by unfold mayAdd; rw [hh]; simp
      have HF := Lib.hid hf
      have HH := Lib.hid (fun w hS => has_any F b L o w hS hm)
      rw [hh] at HH
      clear hf hh
      go_enter Tryz.func45, Tryz.ntmps45
      go_wp2_with fail
      refine HN.out.mono ?_
      rintro e w1 ⟨v, rfl, hrow, hb⟩
      have HB1 := Lib.hid hb
      clear hrow hb
      go_wp2_with fail
      refine (HH.out w1 (HS.out.below HB1.out)).mono ?_
      rintro e w2 ⟨rfl, hb2⟩
      have HB2 := Lib.hid (HB1.out.trans (hb2.mono HB1.out.size))
      clear hb2
      go_wp2
      go_ret
      exact HSt.out HF.out _ HB2.out
    | false =>
      have HH := Lib.hid (fun w hS => has_any F b L o w hS hm)
      rw [hh] at HH
      cases hcl : clash L (norm l) 0 with
      | some t =>
        have hf : mayAdd L l o = false := by unfold mayAdd; rw [hcl]; simp
        have HF := Lib.hid hf
        have HCl := Lib.hid hcl
        clear hf hh hcl
        go_enter Tryz.func45, Tryz.ntmps45
        go_wp2_with fail
        refine HN.out.mono ?_
        rintro e w1 ⟨v, rfl, hrow, hb⟩
        obtain ⟨A1, c1, rfl, hc1, hC1⟩ := row_readsS hrow (by omega)
        have HB1 := Lib.hid hb
        have HC1 := Lib.hid hC1
        clear hrow hb hC1
        go_wp2_with fail
        refine (HH.out w1 (HS.out.below HB1.out)).mono ?_
        rintro e w2 ⟨rfl, hb2⟩
        have HB2 := Lib.hid (HB1.out.trans (hb2.mono HB1.out.size))
        have HC2 := Lib.hid (Kd.C_below HC1.out hb2)
        clear hb2
        go_wp2_with fail
        refine (clash0_any F b L A1 c1 (norm l) 0 w2 (HS.out.below HB2.out) hm HC2.out hc1 (by omega)).mono ?_
        rintro e w3 ⟨rfl, hb3⟩
        have HB3 := Lib.hid (HB2.out.trans (hb3.mono HB2.out.size))
        rw [HCl.out]
        simp only [resT, tgV]
        clear hb3
        go_wp2
        go_ret
        exact HSt.out HF.out _ (HB3.out.alloc HB3.out.size _)
      | none =>
        have hf : mayAdd L l o = true := by unfold mayAdd; rw [hcl, hh]; simp; omega
        have HF := Lib.hid hf
        have HCl := Lib.hid hcl
        clear hf hh hcl
        go_enter Tryz.func45, Tryz.ntmps45
        go_wp2_with fail
        refine HN.out.mono ?_
        rintro e w1 ⟨v, rfl, hrow, hb⟩
        obtain ⟨A1, c1, rfl, hc1, hC1⟩ := row_readsS hrow (by omega)
        have HB1 := Lib.hid hb
        have HC1 := Lib.hid hC1
        have HRw := Lib.hid hrow
        clear hrow hb hC1
        go_wp2_with fail
        refine (HH.out w1 (HS.out.below HB1.out)).mono ?_
        rintro e w2 ⟨rfl, hb2⟩
        have HB2 := Lib.hid (HB1.out.trans (hb2.mono HB1.out.size))
        have HC2 := Lib.hid (Kd.C_below HC1.out hb2)
        have HRw2 := Lib.hid (pw_own_below HRw.out hb2)
        clear hb2
        go_wp2_with fail
        refine (clash0_any F b L A1 c1 (norm l) 0 w2 (HS.out.below HB2.out) hm HC2.out hc1 (by omega)).mono ?_
        rintro e w3 ⟨rfl, hb3⟩
        have HB3 := Lib.hid (HB2.out.trans (hb3.mono HB2.out.size))
        have HRw3 := Lib.hid (pw_own_below HRw2.out hb3)
        rw [HCl.out]
        simp only [resT, tgV]
        clear hb3 HRw HRw2 HC1 HC2 HB2 HB1 HN HH
        go_wp2_with fail
        have HA0 : ∀ o', Hid (AddAt W F b L (norm l) o (.slice A1 (norm l).length c1) 0 (w3.alloc o')) := fun o' => Lib.hid (by
          obtain ⟨_, _, v, h3, h4, h5⟩ := HS.out.below HB3.out
          exact ⟨⟨v, blk_alloc h3 _, by simpa [addR] using h4.alloc _, fun q hq => .inl (h5 q hq)⟩, Kept5.of_below (HB3.out.alloc HB3.out.size _) F, HRw3.out.alloc _⟩)
        go_loopw [30] (fun i wr => ∃ k : Nat, i = .int .i64 k ∧ k ≤ (norm l).length ∧ Hid (AddAt W F b L (norm l) o (.slice A1 (norm l).length c1) k wr)) (fun i _ => (norm l).length - (intOf i).toNat)
        case atStart => exact ⟨0, by go_num, Nat.zero_le _, HA0 _⟩
        case round =>
          clear HA0
          obtain ⟨k, rfl, hk, HA⟩ := hrel
          by_cases hlt : k < (norm l).length
          · have hsz := HA.out.2.1.1
            obtain ⟨⟨v, hv, hro, hvF⟩, hkp, hrs⟩ := HA.out
            obtain ⟨A2, c2, h9, hc2, hC2⟩ := row_readsS hrs (by omega)
            cases h9
            obtain ⟨ad, rfl, e0, e1⟩ := at_Sp hC2 (k : Int) (by omega) (by omega)
            rw [Int.toNat_natCast] at e0 e1
            have hsn := addR_snoc L (norm l) k hlt o
            generalize hx : rdS (norm l) k = x at e0 e1 hsn
            have n0 := new_ne' wr e0
            have n1 := new_ne' wr e1
            have hal := addR_len L (norm l) k o
            have b0 : wr.cell? ⟨b, 0, none⟩ = some v := blk_cell hv 0
            have nb3 : b < wr.heap.size := blk_lt hv
            have nb : wr.heap.size ≠ b := by omega
            have nb2 : b ≠ wr.heap.size := by omega
            have HV := Lib.hid hv
            have HRo := Lib.hid hro
            have HVF := Lib.hid hvF
            have HSn := Lib.hid hsn
            have HRo0 := HRo
            have HF0 := Lib.hid HS.out.1
            clear hv hro hvF hkp hrs hC2 hx hsn
            generalize hxs : addR L (List.take k (norm l)) o = xs at HRo HSn hal
            clear hxs
            go_wp2_with fail
            go_region_law
              ((refine step_append_lies _ (by rfl) (.tmp 38) (.tmp 42) 120 (by rfl) 0 46 i0 (.agg #[.int .i64 0, .int .i64 0, .int .i64 0]) 3 24 Tryz.underlying120 hi hz0 hz1 hz2 rfl (by decide) v xs.length (xs.flatMap encT) (by rfl) ?aO ⟨wr.heap.size + 1, 0, none⟩ 1 1 (encT (x, o)) (by rfl) (by rfl) ?aN (oneT1 (x, o)) (by decide) (by unfold maxLen; omega) (by omega) (Nat.zero_le _) (wr.heap.size + 2) (by simp) ?_; (case aO => exact pw_own_below HRo.out (below_alloc (below_drew (below_alloc (Below.refl _ _) _)) _)); (case aN => exact news_of (newAt _ _ _ (by simp))); intro g cap w4 hown hgrow hat hlt4; (have hbk := (hgrow.block b (by simp; omega) (fun he => row_ne HRo.out HV.out he.symm)).trans (blk_alloc (blk_drew (blk_alloc HV.out _)) _)); (have k0 : w4.cell? ⟨b, 0, none⟩ = some v := blk_cell hbk 0); (have k1 : w4.frozen? ⟨b, 0, none⟩ = false := blk_frozen hbk 0)))
            all_goals
              have HNx := Lib.hid (HA.out.next HF0.out hlt HV.out HRo0.out HVF.out (below_alloc (below_drew (below_alloc (Below.refl wr.heap.size wr) _)) _) (v' := .slice (some ⟨g, 0, none⟩) (xs.length + 1) cap) (by rw [HSn.out]; simpa [RowT, List.flatMap_append] using hown) hgrow (hat.elim (fun h => .inl h.symm) (fun h => .inr ⟨g, rfl, by omega⟩)))
              go_wp2
              go_roundw
              case measure => simp [intOf]; omega
              case rel => exact ⟨k + 1, by go_num, by omega, HNx⟩
          · obtain rfl : k = (norm l).length := by omega
            obtain ⟨⟨v, hv, hro, hvF⟩, hkp, hrs⟩ := HA.out
            rw [List.take_length] at hro
            have b0 : wr.cell? ⟨b, 0, none⟩ = some v := blk_cell hv 0
            have hln : (addR L (norm l) o).length ≤ 1099511627776 + 1099511627776 := by unfold addR; rw [List.length_append, List.length_map]; omega
            have HV := Lib.hid hv
            have HRo := Lib.hid hro
            have HVF := Lib.hid hvF
            have HK := Lib.hid hkp
            clear hv hro hvF hkp hrs HA
            go_wp2_with fail
            refine (sortT_any 0 v (addR L (norm l) o) wr HRo.out hln).mono ?_
            rintro e w4 ⟨rfl, ys, hp, hs, hrow, hgr⟩
            have hys : ys = add L l o := by unfold add; rw [if_pos HF.out]; exact PureI1.add_any HS.out.inv HF.out hp hs
            subst hys
            have hb4 : w4.heap[b]? = some (.cells #[v] 122 (0, 0)) := (hgr.block b (blk_lt HV.out) (fun he => row_ne HRo.out HV.out he.symm)).trans HV.out
            have hfin : AddIs W F b L l o (.returned (.bool true)) w4 :=
              ⟨by rw [HF.out], ⟨.inl HS.out.1, HS.out.inv.add l o, v, hb4, hrow, HVF.out⟩, Kept5.of_grown hgr HK.out HVF.out⟩
            have HFin := Lib.hid hfin
            clear hfin hb4 hrow hgr hp hs
            go_wp2
            go_ret
            exact HFin.out
end Go.Proofs.YtohpimfanplloaaGreat.IvH
