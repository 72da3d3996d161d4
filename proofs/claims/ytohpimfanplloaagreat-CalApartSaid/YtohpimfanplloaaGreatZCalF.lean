/- A calendar's Settle. -/
import Derived.Test.YtohpimfanplloaaGreatZCalE
import Derived.Test.YtohpimfanplloaaGreatZV
import Derived.WalkKit
import Derived.WalkSpells
import Derived.Lib.Hide
import Derived.Maps.AppendAt
import Derived.Deep.RegionHeld3
import Derived.Deep.DeepCutAuto
set_option linter.unusedVariables false
set_option linter.unusedSimpArgs false
namespace Go.Proofs.YtohpimfanplloaaGreat.CalF
open Go.RowKit Go.Proofs.YtohpimfanplloaaGreatW.PrintWords Go.Proofs.YtohpimfanplloaaGreatW.PrintLast Go.Proofs.YtohpimfanplloaaGreatW.PrintMore Go.Proofs.YtohpimfanplloaaGreat.PureI1 Go.Proofs.YtohpimfanplloaaGreat.PureI2 Go.Proofs.YtohpimfanplloaaGreat.IvA Go.Proofs.YtohpimfanplloaaGreat.IvB Go.Proofs.YtohpimfanplloaaGreat.IvC Go.Proofs.YtohpimfanplloaaGreat.IvD Go.Proofs.YtohpimfanplloaaGreat.IvE Go.Proofs.YtohpimfanplloaaGreat.IvG Go.Proofs.YtohpimfanplloaaGreat.IvH Go.Proofs.YtohpimfanplloaaGreat.CalA Go.Proofs.YtohpimfanplloaaGreat.CalB Go.Proofs.YtohpimfanplloaaGreat.CalC Go.Proofs.YtohpimfanplloaaGreat.CalD Go.Proofs.YtohpimfanplloaaGreat.CalE

def freshL (S : List Tg) (l : List Sp) : List Sp := l.filter fun x => (clash S (norm [x]) 0).isNone
theorem fresh_snoc (S : List Tg) (l : List Sp) (x : Sp) : freshL S (l ++ [x]) = if (clash S (norm [x]) 0).isNone = true then freshL S l ++ [x] else freshL S l := by
  unfold freshL
  rw [List.filter_append]
  cases h : (clash S (norm [x]) 0).isNone <;> simp [h]
def FreshAt (W : World) (S : List Tg) (l : List Sp) (k : Nat) (v : Value) (wr : World) : Prop := RowS wr W.heap.size v (freshL S (l.take k)) ∧ Below W.heap.size W wr
theorem fresh_le (S : List Tg) (l : List Sp) (k : Nat) : (freshL S (l.take k)).length ≤ l.length := Nat.le_trans (List.length_filter_le _ _) (by rw [List.length_take]; omega)
theorem fresh_all (p : Pr) (tx : Int) : freshL p.1 (ofo p.2 tx) = fresh p tx := rfl
theorem C_one {w : World} {g : Nat} {x : Sp} (h0 : w.cell? ⟨g, 0, none⟩ = some (.int .i64 x.1)) (h1 : w.cell? ⟨g, 1, none⟩ = some (.int .i64 x.2)) : Kd.C kSp w (some ⟨g, 0, none⟩) [x].length [x] :=
  ⟨rfl, by simp, fun _ => ⟨⟨g, 0, none⟩, rfl, fun j p hj => by
    cases j with
    | succ j => simp at hj
    | zero =>
      have hj' : x = p := by simpa using hj
      subst hj'
      refine ⟨Go.Proofs.YtohpimfanplloaaGreat.IvA.encS x, rfl, kSp_mk w x, fun i u hu => ?_⟩
      rw [add_plain]
      match i, hu with
      | 0, hu => simp [Go.Proofs.YtohpimfanplloaaGreat.IvA.encS] at hu; subst hu; exact h0
      | 1, hu => simp [Go.Proofs.YtohpimfanplloaaGreat.IvA.encS] at hu; subst hu; exact h1
      | i + 2, hu => simp [Go.Proofs.YtohpimfanplloaaGreat.IvA.encS] at hu⟩⟩
theorem clash_one (F : Nat → Prop) (b : Nat) (L : List Tg) (x : Sp) (g : Nat) (W : World) (hS : SetAt W F b L) (hm : L.length ≤ 1099511627776) (h0 : W.cell? ⟨g, 0, none⟩ = some (.int .i64 x.1)) (h1 : W.cell? ⟨g, 1, none⟩ = some (.int .i64 x.2)) :
    Calls Tryz.prog 47 #[.pointer (some ⟨b, 0, none⟩), .slice (some ⟨g, 0, none⟩) 1 1, .int .i64 0] W (ResIs W (clash L (norm [x]) 0)) := clash_any F b L (some ⟨g, 0, none⟩) 1 [x] 0 W hS hm (C_one h0 h1) (by simp) (by simp)
theorem resT_bool (o : Option Tg) : ∃ t : Tg, resT o = .tuple #[tgV t, .bool o.isSome] := by
  cases o with
  | none => exact ⟨_, rfl⟩
  | some t => exact ⟨t, rfl⟩
def BoxAt (w0 : World) (x : Sp) (w : World) : Prop := Below w0.heap.size w0 w ∧ w.heap[w0.heap.size]? = some (.cells #[.int .i64 x.1, .int .i64 x.2] 42 (0, 0))
theorem far3 (w : World) (g g' i : Nat) (h : g ≠ g') (a b c : Value) : (((w.setCell ⟨g, 0, none⟩ a).setCell ⟨g, 1, none⟩ b).setCell ⟨g, 2, none⟩ c).cell? ⟨g', i, none⟩ = w.cell? ⟨g', i, none⟩ := by
  refine World.cell?_of_block ?_
  rw [Below.heap_setCell _ _ _ _ (by show g' ≠ g; omega), Below.heap_setCell _ _ _ _ (by show g' ≠ g; omega), Below.heap_setCell _ _ _ _ (by show g' ≠ g; omega)]
theorem own_kept {W W1 : World} {base : Nat} {e : TypeId} {size n : Nat} {v : Value} {xs : List Value} {S : Nat → Prop} (h : W.ownsRow base e size v n xs) (hk : Kept5 W W1 S) (hne : ∀ q, base ≤ q → ¬ S q) : W1.ownsRow base e size v n xs := by
  refine ⟨h.1, ?_⟩
  rcases h.2 with h | ⟨g, cap, cur, hv, hb, hg, hr⟩
  · exact .inl h
  · exact .inr ⟨g, cap, cur, hv, hb, blk_kept5 hg hk (hne g hb), hr⟩
theorem own_slice_le {w : World} {base n : Nat} {e : TypeId} {size : Nat} {v : Value} {xs : List Value} (h : w.ownsRow base e size v n xs) : ∃ A c, v = .slice A n c ∧ n ≤ c := by
  rcases row_slice h with ⟨rfl, rfl⟩ | ⟨g, c, rfl, hn, _⟩
  · exact ⟨none, 0, rfl, Nat.le_refl _⟩
  · exact ⟨_, c, rfl, hn⟩
def CallAt (w0 : World) (x : Sp) (b : Bool) (e : Ending) (w : World) : Prop := (∃ t : Tg, e = .returned (.tuple #[tgV t, .bool b])) ∧ BoxAt w0 x w
theorem clash_w1 (F : Nat → Prop) (b : Nat) (L : List Tg) (x : Sp) (wr : World) (hS : SetAt wr F b L) (hm : L.length ≤ 1099511627776) :
    Calls Tryz.prog 47 #[.pointer (some ⟨b, 0, none⟩), .slice (some ⟨wr.heap.size + 1, 0, none⟩) 1 1, .int .i64 0] ((wr.alloc (.cells #[.int .i64 x.1, .int .i64 x.2] 42)).alloc (.cells #[.int .i64 x.1, .int .i64 x.2] 42)).drew (CallAt wr x (clash L (norm [x]) 0).isSome) := by
  have hb : Below wr.heap.size wr ((wr.alloc (.cells #[.int .i64 x.1, .int .i64 x.2] 42)).alloc (.cells #[.int .i64 x.1, .int .i64 x.2] 42)).drew := below_drew (below_alloc (below_alloc (Below.refl _ _) _) _)
  have hn := new2 wr (.cells #[.int .i64 x.1, .int .i64 x.2] 42) (.cells #[.int .i64 x.1, .int .i64 x.2] 42)
  refine (clash_one F b L x (wr.heap.size + 1) _ (hS.below hb) hm (blk_cell (blk_drew hn) 0) (blk_cell (blk_drew hn) 1)).mono ?_
  rintro e w5 ⟨rfl, hb5⟩
  obtain ⟨t, ht⟩ := resT_bool (clash L (norm [x]) 0)
  refine ⟨⟨t, by rw [ht]⟩, hb.trans (hb5.mono hb.size), (hb5.block _ (by show _ < _; first | (simp; done) | (simp; omega))).trans (blk_drew (blk_alloc (newAt wr _ _ rfl) _))⟩
theorem clash_w2 (F : Nat → Prop) (b : Nat) (L : List Tg) (x : Sp) (wr : World) (hS : SetAt wr F b L) (hm : L.length ≤ 1099511627776) :
    Calls Tryz.prog 47 #[.pointer (some ⟨b, 0, none⟩), .slice (some ⟨wr.heap.size + 1, 0, none⟩) 1 1, .int .i64 0] (((wr.alloc (.cells #[.int .i64 x.1, .int .i64 x.2] 42)).alloc (.cells #[.int .i64 x.1, .int .i64 x.2] 42)).alloc (.cells #[.int .i64 0, .int .i64 0, .int .i64 0] 46)).drew (fun e w => CallAt wr x (clash L (norm [x]) 0).isSome e w ∧ w.heap[wr.heap.size + 2]? = some (.cells #[.int .i64 0, .int .i64 0, .int .i64 0] 46 (0, 0))) := by
  have hb : Below wr.heap.size wr (((wr.alloc (.cells #[.int .i64 x.1, .int .i64 x.2] 42)).alloc (.cells #[.int .i64 x.1, .int .i64 x.2] 42)).alloc (.cells #[.int .i64 0, .int .i64 0, .int .i64 0] 46)).drew := below_drew (below_alloc (below_alloc (below_alloc (Below.refl _ _) _) _) _)
  have hn := blk_alloc (new2 wr (.cells #[.int .i64 x.1, .int .i64 x.2] 42) (.cells #[.int .i64 x.1, .int .i64 x.2] 42)) (.cells #[.int .i64 0, .int .i64 0, .int .i64 0] 46)
  have hz := newAt ((wr.alloc (.cells #[.int .i64 x.1, .int .i64 x.2] 42)).alloc (.cells #[.int .i64 x.1, .int .i64 x.2] 42)) (.cells #[.int .i64 0, .int .i64 0, .int .i64 0] 46) (wr.heap.size + 2) (by simp)
  refine (clash_one F b L x (wr.heap.size + 1) _ (hS.below hb) hm (blk_cell (blk_drew hn) 0) (blk_cell (blk_drew hn) 1)).mono ?_
  rintro e w5 ⟨rfl, hb5⟩
  obtain ⟨t, ht⟩ := resT_bool (clash L (norm [x]) 0)
  exact ⟨⟨⟨t, by rw [ht]⟩, hb.trans (hb5.mono hb.size), (hb5.block _ (by show _ < _; first | (simp; done) | (simp; omega))).trans (blk_drew (blk_alloc (blk_alloc (newAt wr _ _ rfl) _) _))⟩, (hb5.block _ (by show _ < _; first | (simp; done) | (simp; omega))).trans (blk_drew hz)⟩
theorem clash_w3 (F : Nat → Prop) (b : Nat) (L : List Tg) (x : Sp) (wr : World) (hS : SetAt wr F b L) (hm : L.length ≤ 1099511627776) :
    Calls Tryz.prog 47 #[.pointer (some ⟨b, 0, none⟩), .slice (some ⟨wr.heap.size + 2, 0, none⟩) 1 1, .int .i64 0] (((wr.alloc (.cells #[.int .i64 x.1, .int .i64 x.2] 42)).alloc (.cells #[.int .i64 0, .int .i64 0, .int .i64 0] 46)).alloc (.cells #[.int .i64 x.1, .int .i64 x.2] 42)).drew (fun e w => CallAt wr x (clash L (norm [x]) 0).isSome e w ∧ w.heap[wr.heap.size + 1]? = some (.cells #[.int .i64 0, .int .i64 0, .int .i64 0] 46 (0, 0))) := by
  have hb : Below wr.heap.size wr (((wr.alloc (.cells #[.int .i64 x.1, .int .i64 x.2] 42)).alloc (.cells #[.int .i64 0, .int .i64 0, .int .i64 0] 46)).alloc (.cells #[.int .i64 x.1, .int .i64 x.2] 42)).drew := below_drew (below_alloc (below_alloc (below_alloc (Below.refl _ _) _) _) _)
  have hz := blk_alloc (new2 wr (.cells #[.int .i64 x.1, .int .i64 x.2] 42) (.cells #[.int .i64 0, .int .i64 0, .int .i64 0] 46)) (.cells #[.int .i64 x.1, .int .i64 x.2] 42)
  have hn := newAt ((wr.alloc (.cells #[.int .i64 x.1, .int .i64 x.2] 42)).alloc (.cells #[.int .i64 0, .int .i64 0, .int .i64 0] 46)) (.cells #[.int .i64 x.1, .int .i64 x.2] 42) (wr.heap.size + 2) (by simp)
  refine (clash_one F b L x (wr.heap.size + 2) _ (hS.below hb) hm (blk_cell (blk_drew hn) 0) (blk_cell (blk_drew hn) 1)).mono ?_
  rintro e w5 ⟨rfl, hb5⟩
  obtain ⟨t, ht⟩ := resT_bool (clash L (norm [x]) 0)
  exact ⟨⟨⟨t, by rw [ht]⟩, hb.trans (hb5.mono hb.size), (hb5.block _ (by show _ < _; first | (simp; done) | (simp; omega))).trans (blk_drew (blk_alloc (blk_alloc (newAt wr _ _ rfl) _) _))⟩, (hb5.block _ (by show _ < _; first | (simp; done) | (simp; omega))).trans (blk_drew hz)⟩
set_option maxHeartbeats 1600000 in
set_option maxRecDepth 100000 in
theorem settle_any (own : Nat → Nat) (c ub : Nat) (cells : List Value) (us : Us) (N : Nat) (tx : Int) (W : World) (hC : CalIn W own c ub cells us) (hN : Small us N) (hm : N ≤ 1099511627776) :
    Calls Tryz.prog 17 #[.pointer (some ⟨c, 0, none⟩), .int .i64 tx] W fun e w' => e = .returned (.tuple #[]) ∧ LeftC W own c ub cells (PureI2.settle us tx) w' := by
  obtain ⟨i0, hinf, hz0, hz1, hz2⟩ := info_parts info_sp
  obtain ⟨x0, x1, x2, x3, x4, x5, hb⟩ := hC.blk
  have c6 : W.cell? ⟨c, 6, none⟩ = some (.slice (some ⟨ub, 0, none⟩) us.length us.length) := blk_cell hb 6
  have hs := hC.small
  have HL0 : Hid (LeftC W own c ub cells (upto (settleP tx) us 0) W) := Lib.hid (by rw [upto_zero]; exact LeftC.refl hC)
  have HN := Lib.hid hN
  clear hb hC hN
  go_enter Tryz.func17, Tryz.ntmps17
  go_wp2
  clear c6
  go_loopw [16] (fun i wr => ∃ k : Nat, i = .int .i64 k ∧ k ≤ us.length ∧ Hid (LeftC W own c ub cells (upto (settleP tx) us k) wr)) (fun i _ => us.length - (intOf i).toNat)
  case atStart => exact ⟨0, by go_num, Nat.zero_le _, HL0⟩
  case round =>
    clear HL0
    obtain ⟨k, rfl, hk, HA⟩ := hrel
    by_cases hlt : k < us.length
    · obtain ⟨o1, hCr, ho1, hK1⟩ := HA.out
      have hcell := arr_cell hCr.arr k (by rw [hCr.len, upto_len]; exact hlt)
      have he := hCr.each k us[k] (upto_get (settleP tx) us k hlt)
      cases hp : us[k] with
      | none =>
        rw [hp] at he
        have hq : cells.getD k undef = .pointer none := he
        rw [hq] at hcell
        have HS : Hid (upto (settleP tx) us (k + 1) = upto (settleP tx) us k) := Lib.hid (upto_none _ us k hlt hp)
        clear he hp hq hCr ho1 hK1
        go_wp2
        go_roundw
        case measure => simp [intOf]; omega
        case rel => exact ⟨k + 1, by go_num, by omega, by rw [HS.out]; exact HA⟩
      | some p =>
        rw [hp] at he
        obtain ⟨sb, s, r, k1, k2, k3, k4, k5⟩ := he
        rw [k1] at hcell
        have hNp := HN.out p (by rw [← hp]; exact List.getElem_mem hlt)
        have d0 : wr.cell? ⟨sb, 0, none⟩ = some (.pointer (some ⟨s, 0, none⟩)) := blk_cell k2 0
        have d1 : wr.cell? ⟨sb, 1, none⟩ = some (.pointer (some ⟨r, 0, none⟩)) := blk_cell k2 1
        have hsb := blk_lt k2
        have HOf := Lib.hid (of_any _ r p.2 tx wr k5 (by omega))
        have HCr := Lib.hid hCr
        have HK1 := Lib.hid k1
        have HK2 := Lib.hid k2
        have HK3 := Lib.hid k3
        have HK4 := Lib.hid k4
        have HK5 := Lib.hid k5
        have HP : Hid ((upto (settleP tx) us k)[k]? = some (some p)) := Lib.hid (by rw [upto_get (settleP tx) us k hlt, hp])
        have HS : Hid (upto (settleP tx) us (k + 1) = (upto (settleP tx) us k).set k (some (settleP tx p))) := Lib.hid (upto_some _ us k hlt hp)
        have HO1 := Lib.hid ho1
        have HKe := Lib.hid hK1
        clear hp k1 k2 k3 k4 k5 hCr ho1 hK1
        go_wp2_with fail
        refine HOf.out.mono ?_
        rintro e w1 ⟨v, rfl, hrow, hb1⟩
        have hofl := ofo_le p.2 tx p.2.length
        rw [List.take_length] at hofl
        have hfr := fresh_all p tx
        obtain ⟨A1, c1, rfl, hc1, hC1⟩ := row_readsS hrow (by omega)
        have HC1 := Lib.hid hC1
        have HB1 := Lib.hid hb1
        have HFr := Lib.hid hfr
        have HK2b := Lib.hid (blk_below HK2.out hb1)
        have HK4b := Lib.hid (HK4.out.below hb1)
        replace d0 := (hb1.cell (p := ⟨sb, 0, none⟩) hsb).trans d0
        replace d1 := (hb1.cell (p := ⟨sb, 1, none⟩) hsb).trans d1
        have hsb1 := blk_lt HK2b.out
        have hszw := hb1.size
        clear hrow hC1 hb1 HOf hfr
        generalize ofo p.2 tx = xs at *
        obtain ⟨wo, rfl⟩ : ∃ wo : World, wo = wr := ⟨_, rfl⟩
        go_wp2_with fail
        go_loopw [6, 29] (fun v i wr => ∃ (j : Nat) (v0 : Value), v0 = v ∧ i = .int .i64 j ∧ j ≤ xs.length ∧ Hid (FreshAt w1 p.1 xs j v0 wr)) (fun _ i _ => xs.length - (intOf i).toNat)
        case atStart => exact ⟨0, _, rfl, by go_num, Nat.zero_le _, Lib.hid ⟨own_nil _ _ _ _, Below.refl _ _⟩⟩
        case round =>
          obtain ⟨j, v, rfl, rfl, hj, HF⟩ := hrel
          by_cases hjt : j < xs.length
          · obtain ⟨ad, rfl, e0, e1⟩ := at_Sp (Kd.C_below HC1.out HF.out.2) (j : Int) (by omega) (by omega)
            rw [Int.toNat_natCast] at e0 e1
            have hsn : freshL p.1 (xs.take (j + 1)) = if (clash p.1 (norm [rdS xs j]) 0).isNone = true then freshL p.1 (xs.take j) ++ [rdS xs j] else freshL p.1 (xs.take j) := by
              rw [take_snoc' xs j hjt (0, 0)]; exact fresh_snoc _ _ _
            generalize hx : rdS xs j = x at e0 e1 hsn
            have n0 := new_ne' _ e0
            have n1 := new_ne' _ e1
            have hszq := HF.out.2.size
            have hle := fresh_le p.1 xs j
            have HSn := Lib.hid hsn
            have HSet := Lib.hid (HK4b.out.below HF.out.2)
            have HK2q := Lib.hid (blk_below HK2b.out HF.out.2)
            have q0 : wr.cell? ⟨sb, 0, none⟩ = some (.pointer (some ⟨s, 0, none⟩)) := blk_cell HK2q.out 0
            have hsbq := blk_lt HK2q.out
            have hnq : wr.heap.size ≠ sb := by omega
            have hnq2 : sb ≠ wr.heap.size := by omega
            have hnq3 : wr.heap.size + 1 ≠ sb := by omega
            have hnq4 : sb ≠ wr.heap.size + 1 := by omega
            have hnq5 : wr.heap.size + 2 ≠ sb := by omega
            have hnq6 : sb ≠ wr.heap.size + 2 := by omega
            have hnq7 : wr.heap.size + 1 + 1 ≠ sb := by omega
            have hnq8 : sb ≠ wr.heap.size + 1 + 1 := by omega
            have HO : Hid (RowS wr w1.heap.size v (freshL p.1 (xs.take j))) := HF.out.1
            have HBq := Lib.hid HF.out.2
            clear hsn hx HF
            generalize freshL p.1 (xs.take j) = ys at *
            have hpl : p.1.length ≤ 1099511627776 := by omega
            go_wp2_with fail
            have HQ3 : Hid (∀ a b c : Obj, (((wr.alloc a).alloc b).alloc c).drew.cell? ⟨sb, 0, none⟩ = some (.pointer (some ⟨s, 0, none⟩))) := Lib.hid (fun a b c => ((below_drew (below_alloc (below_alloc (below_alloc (Below.refl _ _) a) b) c)).cell (p := ⟨sb, 0, none⟩) hsbq).trans q0)
            have HW1 := Lib.hid (clash_w1 _ s p.1 x wr HSet.out hpl)
            have HW2 := Lib.hid (clash_w2 _ s p.1 x wr HSet.out hpl)
            have HW3 := Lib.hid (clash_w3 _ s p.1 x wr HSet.out hpl)
            go_cut [10] (fun v10 wc => v10 = .bool (clash p.1 (norm [x]) 0).isSome ∧ Hid (BoxAt wr x wc))
            case first =>
              go_region_held3 (fun w' => w'.cell? ⟨sb, 0, none⟩ = some (.pointer (some ⟨s, 0, none⟩)) ∧ w'.cell? ⟨wr.heap.size, 0, none⟩ = some (.int .i64 x.1) ∧ w'.cell? ⟨wr.heap.size, 1, none⟩ = some (.int .i64 x.2))
                (((try dsimp only); (repeat' apply And.intro) <;> first | (with_reducible assumption) | (with_reducible exact HQ3.out _ _ _) | ((rw [far3 _ _ _ _ (by omega)]); with_reducible assumption) | go_keep))
                (first | (go_at_call 47; (with_reducible refine HW1.out.mono ?_); rintro e w5 ⟨⟨t9, rfl⟩, hbx⟩; (have hz : Below wr.heap.size wr w5 := hbx.1); (have hbh : w5.heap[wr.heap.size]? = some (.cells #[.int .i64 x.1, .int .i64 x.2] 42 (0, 0)) := hbx.2); (have hz0 := (hz.cell (p := ⟨sb, 0, none⟩) hsbq).trans q0); (have hz1 : w5.cell? ⟨wr.heap.size, 0, none⟩ = some (.int .i64 x.1) := blk_cell hbx.2 0); (have hz2 : w5.cell? ⟨wr.heap.size, 1, none⟩ = some (.int .i64 x.2) := blk_cell hbx.2 1); (have hz5 := blk_lt hbx.2); (have hz6 : wr.heap.size ≠ w5.heap.size := by omega); (simp only [tgV])) | (go_at_call 47; (with_reducible refine HW2.out.mono ?_); rintro e w5 ⟨⟨⟨t9, rfl⟩, hbx⟩, hzz⟩; (have hz : Below wr.heap.size wr w5 := hbx.1); (have hbh : w5.heap[wr.heap.size]? = some (.cells #[.int .i64 x.1, .int .i64 x.2] 42 (0, 0)) := hbx.2); (have hz0 := (hz.cell (p := ⟨sb, 0, none⟩) hsbq).trans q0); (have hz1 : w5.cell? ⟨wr.heap.size, 0, none⟩ = some (.int .i64 x.1) := blk_cell hbx.2 0); (have hz2 : w5.cell? ⟨wr.heap.size, 1, none⟩ = some (.int .i64 x.2) := blk_cell hbx.2 1); (have hz5 := blk_lt hbx.2); (have hz6 : wr.heap.size ≠ w5.heap.size := by omega); (have ga0 : w5.cell? ⟨wr.heap.size + 2, 0, none⟩ = some (.int .i64 0) := blk_cell hzz 0); (have gf0 := blk_frozen hzz 0); (have ga1 : w5.cell? ⟨wr.heap.size + 2, 1, none⟩ = some (.int .i64 0) := blk_cell hzz 1); (have gf1 := blk_frozen hzz 1); (have ga2 : w5.cell? ⟨wr.heap.size + 2, 2, none⟩ = some (.int .i64 0) := blk_cell hzz 2); (have gf2 := blk_frozen hzz 2); (simp only [tgV])) | (go_at_call 47; (with_reducible refine HW3.out.mono ?_); rintro e w5 ⟨⟨⟨t9, rfl⟩, hbx⟩, hzz⟩; (have hz : Below wr.heap.size wr w5 := hbx.1); (have hbh : w5.heap[wr.heap.size]? = some (.cells #[.int .i64 x.1, .int .i64 x.2] 42 (0, 0)) := hbx.2); (have hz0 := (hz.cell (p := ⟨sb, 0, none⟩) hsbq).trans q0); (have hz1 : w5.cell? ⟨wr.heap.size, 0, none⟩ = some (.int .i64 x.1) := blk_cell hbx.2 0); (have hz2 : w5.cell? ⟨wr.heap.size, 1, none⟩ = some (.int .i64 x.2) := blk_cell hbx.2 1); (have hz5 := blk_lt hbx.2); (have hz6 : wr.heap.size ≠ w5.heap.size := by omega); (have ga0 : w5.cell? ⟨wr.heap.size + 1, 0, none⟩ = some (.int .i64 0) := blk_cell hzz 0); (have gf0 := blk_frozen hzz 0); (have ga1 : w5.cell? ⟨wr.heap.size + 1, 1, none⟩ = some (.int .i64 0) := blk_cell hzz 1); (have gf1 := blk_frozen hzz 1); (have ga2 : w5.cell? ⟨wr.heap.size + 1, 2, none⟩ = some (.int .i64 0) := blk_cell hzz 2); (have gf2 := blk_frozen hzz 2); (simp only [tgV])))
              all_goals
                go_wp2_with fail
                go_meet
                refine ⟨rfl, Lib.hid ⟨?_, ?_⟩⟩
                · (repeat (first | (with_reducible exact hz) | (with_reducible refine below_drew ?_) | (with_reducible refine below_alloc ?_ _) | refine Below.setCell ?_ (by dsimp only; omega) _))
                · (repeat (first | (with_reducible exact hbh) | (with_reducible refine blk_drew ?_) | (with_reducible refine blk_alloc ?_ _) | refine blk_far ?_ (by dsimp only; omega) _))
            case rest =>
              obtain ⟨rfl, HBx⟩ := hcut
              have g0 : wc.cell? ⟨wr.heap.size, 0, none⟩ = some (.int .i64 x.1) := blk_cell HBx.out.2 0
              have g1 : wc.cell? ⟨wr.heap.size, 1, none⟩ = some (.int .i64 x.2) := blk_cell HBx.out.2 1
              have hwc := blk_lt HBx.out.2
              have hwn : wr.heap.size ≠ wc.heap.size := by omega
              have hwn2 : wc.heap.size ≠ wr.heap.size := by omega
              have HO2 := Lib.hid (pw_own_below HO.out HBx.out.1)
              cases hq : (clash p.1 (norm [x]) 0).isNone with
              | true =>
                have hqs : (clash p.1 (norm [x]) 0).isSome = false := by simpa using hq
                have HNx : Hid (freshL p.1 (xs.take (j + 1)) = ys ++ [x]) := Lib.hid (by rw [HSn.out, if_pos hq])
                rw [hqs]
                clear hq hqs
                go_wp2_with (at_builtin; refine wpList_append_own_at _ rfl _ _ 33 rfl w1.heap.size 42 i0 (.agg #[.int .i64 0, .int .i64 0]) 2 16 Tryz.underlying33 hinf hz0 hz1 hz2 rfl (by decide) _ ys.length _ rfl (HO2.out.alloc _) ⟨wc.heap.size, 0, none⟩ 1 1 (Go.Proofs.YtohpimfanplloaaGreat.IvA.encS x) rfl rfl (news_of (newAt _ _ _ rfl)) (oneS1 x) (by unfold maxLen; omega) (by omega) (by simp; omega) ?_; intro v' w6 hown' hgrow _ hat)
                go_roundw
                case measure => simp [intOf]; omega
                case rel =>
                  refine ⟨j + 1, v', rfl, by go_num, by omega, Lib.hid ⟨?_, ?_⟩⟩
                  · rw [HNx.out]
                    simpa [RowS, List.flatMap_append] using hown'
                  · exact ((HBq.out.trans (HBx.out.1.mono hszq)).alloc (by omega) _).grown hgrow (by simp; omega) (fun q hq => (HO.out.lt q hq).1)
              | false =>
                have hqs : (clash p.1 (norm [x]) 0).isSome = true := by
                  cases hc : clash p.1 (norm [x]) 0 with
                  | none => rw [hc] at hq; cases hq
                  | some t => rfl
                have HNx : Hid (freshL p.1 (xs.take (j + 1)) = ys) := Lib.hid (by rw [HSn.out, hq]; rfl)
                rw [hqs]
                clear hq hqs
                go_wp2
                go_roundw
                case measure => simp [intOf]; omega
                case rel => exact ⟨j + 1, v, rfl, by go_num, by omega, Lib.hid ⟨by rw [HNx.out]; exact HO2.out, HBq.out.trans (HBx.out.1.mono hszq)⟩⟩
          · obtain rfl : j = xs.length := by omega
            have hfl := fresh_le p.1 xs xs.length
            have HRow : Hid (RowS wr w1.heap.size v (fresh p tx)) := Lib.hid (by have := HF.out.1; rw [List.take_length] at this; rw [← HFr.out]; exact this)
            rw [List.take_length] at hfl
            rw [HFr.out] at hfl
            have hfr : (fresh p tx).length ≤ 1099511627776 := by omega
            obtain ⟨A3, c3, rfl, hc3⟩ := own_slice_le HRow.out
            have hw : Below wo.heap.size wo wr := HB1.out.trans (HF.out.2.mono hszw)
            have hCw := HCr.out.below hw
            have hsbw : sb < wr.heap.size := Nat.lt_of_lt_of_le hsb hw.size
            have D0 : wr.heap[sb]? = some (.cells #[.pointer (some ⟨s, 0, none⟩), .pointer (some ⟨r, 0, none⟩)] 85 (0, 0)) := blk_below HK2.out hw
            have e0 : wr.cell? ⟨sb, 1, none⟩ = some (.pointer (some ⟨r, 0, none⟩)) := blk_cell D0 1
            have HRm := Lib.hid (remove_any _ r p.2 tx wr (HK5.out.below hw) (by omega))
            have HPut := Lib.hid (fun w1 L h3 hk => put_r hCw HP.out HK1.out D0 HK3.out (HK4.out.below hw) (L := L) (W1 := w1) h3 hk)
            have HW := Lib.hid hw
            have HD := Lib.hid (show ∀ q, w1.heap.size ≤ q → o1 q = 0 from fun q hq => by
              have := HCr.out.dom q
              rcases Nat.eq_zero_or_pos (o1 q) with h | h
              · exact h
              · have := this (by omega); omega)
            clear hw hCw D0 HF d0 d1 hfl
            go_wp2_with fail
            refine HRm.out.mono ?_
            rintro e w4 ⟨⟨q, rfl⟩, hs4, hk4⟩
            obtain ⟨o2, hC4, hold2, hkp2⟩ := HPut.out w4 _ hs4 hk4
            have hg4 : ((upto (settleP tx) us k).set k (some (p.1, remove p.2 tx)))[k]? = some (some (p.1, remove p.2 tx)) := List.getElem?_set_self (by rw [upto_len]; exact hlt)
            obtain ⟨sb', s', r', f1, f2, f3, f4, f5⟩ := hC4.each k _ hg4
            have hsbe : sb = sb' := by
              have := HK1.out.symm.trans f1
              cases this
              rfl
            subst hsbe
            have HRow4 : Hid (RowS w4 w1.heap.size (.slice A3 (fresh p tx).length c3) (fresh p tx)) := Lib.hid (own_kept HRow.out hk4 (fun q hq => by rw [HD.out q hq]; omega))
            obtain ⟨A4, c4, h94, hc4, hC44⟩ := row_readsS HRow4.out (by omega)
            cases h94
            have HAd := Lib.hid (add_any _ s' p.1 A3 c3 (fresh p tx) tx w4 f4 (by omega) hC44 hc4 (by omega))
            have HPut2 := Lib.hid (fun w1 L h2 hk => put_s hC4 hg4 f1 f2 f3 f5 (L := L) (W1 := w1) h2 hk)
            have e1 : w4.cell? ⟨sb, 0, none⟩ = some (.pointer (some ⟨s', 0, none⟩)) := blk_cell f2 0
            have HH2 := Lib.hid hold2
            have HK2' := Lib.hid hkp2
            clear hs4 hk4 hC4 hold2 hkp2 hg4 f1 f2 f3 f4 f5 hC44
            go_wp2_with fail
            refine HAd.out.mono ?_
            rintro e w5 ⟨rfl, hs5, hk5⟩
            have hB := HPut2.out w5 _ hs5 hk5
            rw [List.set_set] at hB
            have hFin := LeftC.then_ HO1.out (HKe.out.below HW.out) (LeftC.then_ HH2.out HK2'.out hB)
            have HFin : Hid (LeftC W own c ub cells (upto (settleP tx) us (k + 1)) w5) := Lib.hid (by rw [HS.out]; exact hFin)
            clear hB hFin hs5 hk5
            go_wp2
            go_roundw
            case measure => simp [intOf]; omega
            case rel => exact ⟨k + 1, by go_num, by omega, HFin⟩
    · obtain rfl : k = us.length := by omega
      have HF : Hid (LeftC W own c ub cells (PureI2.settle us tx) wr) := Lib.hid (by have := HA.out; rwa [upto_all] at this)
      go_wp2
      go_end0
      exact ⟨rfl, HF.out⟩
end Go.Proofs.YtohpimfanplloaaGreat.CalF
