/- Has and Remove: slices.ContainsFunc and slices.DeleteFunc over a set's row. -/
import Derived.Test.YtohpimfanplloaaGreatZIvD
import Derived.WalkKit
import Derived.WalkSpells
import Derived.Lib.Hide
import Derived.Lib.SliceRun
import Derived.Deep.QuietTactic
import Derived.BigQuiet
import Derived.BigRegion
import Derived.Deep.RegionHeld3
import Derived.Test.YtohpimfanplloaaGreatZIvLay
set_option linter.unusedVariables false
set_option linter.unusedSimpArgs false
namespace Go.Proofs.YtohpimfanplloaaGreat.IvE
open Go.RowKit Go.Proofs.YtohpimfanplloaaGreatW.PrintWords Go.Proofs.YtohpimfanplloaaGreatW.PrintLast Go.Proofs.YtohpimfanplloaaGreatW.PrintMore Go.Proofs.YtohpimfanplloaaGreat.PureI1 Go.Proofs.YtohpimfanplloaaGreat.PureI2 Go.Proofs.YtohpimfanplloaaGreat.IvA Go.Proofs.YtohpimfanplloaaGreat.IvB Go.Proofs.YtohpimfanplloaaGreat.IvC Go.Proofs.YtohpimfanplloaaGreat.IvD

/-- Is it the owner's? -/
def mine (o : Int) (t : Tg) : Bool := t.2 == o
theorem hasC_any (o : Int) (B : Nat) (t : Tg) (W : World) (hc : W.cell? ⟨B, 0, none⟩ = some (.int .i64 o)) :
    Calls Tryz.prog 93 #[.agg #[.int .i64 t.1.1, .int .i64 t.1.2, .int .i64 t.2], .pointer (some ⟨B, 0, none⟩)] W fun e w' => e = .returned (.bool (mine o t)) ∧ Below W.heap.size W w' := by
  have hBW : B < W.heap.size := World.block_lt_of_cell? W _ hc
  have hne : B ≠ W.heap.size := by omega
  have hne' : W.heap.size ≠ B := by omega
  unfold mine
  go_enter Tryz.func93, Tryz.ntmps93
  go_wp2
  all_goals (go_ret; exact ⟨by simp_all, (Below.refl _ _).alloc (Nat.le_refl _) _⟩)
theorem remC_any (o : Int) (B : Nat) (t : Tg) (W : World) (hc : W.cell? ⟨B, 0, none⟩ = some (.int .i64 o)) :
    Calls Tryz.prog 75 #[.agg #[.int .i64 t.1.1, .int .i64 t.1.2, .int .i64 t.2], .pointer (some ⟨B, 0, none⟩)] W fun e w' => e = .returned (.bool (mine o t)) ∧ Below W.heap.size W w' := by
  have hBW : B < W.heap.size := World.block_lt_of_cell? W _ hc
  have hne : B ≠ W.heap.size := by omega
  have hne' : W.heap.size ≠ B := by omega
  unfold mine
  go_enter Tryz.func75, Tryz.ntmps75
  go_wp2
  all_goals (go_ret; exact ⟨by simp_all, (Below.refl _ _).alloc (Nat.le_refl _) _⟩)
theorem predH (o : Int) (B : Nat) (w : World) (hc : w.cell? ⟨B, 0, none⟩ = some (.int .i64 o)) : PredBelow Tryz.prog 93 #[.pointer (some ⟨B, 0, none⟩)] (fun x => .agg (encT x).toArray) (mine o) w := fun W x hb =>
  (hasC_any o B x W ((hb.cell (p := ⟨B, 0, none⟩) (World.block_lt_of_cell? w _ hc)).trans hc)).mono fun _ _ ⟨h1, h2⟩ => ⟨h1, hb.trans (h2.mono hb.size)⟩
theorem predR (o : Int) (B : Nat) (w : World) (hc : w.cell? ⟨B, 0, none⟩ = some (.int .i64 o)) : PredBelow Tryz.prog 75 #[.pointer (some ⟨B, 0, none⟩)] (fun x => .agg (encT x).toArray) (mine o) w := fun W x hb =>
  (remC_any o B x W ((hb.cell (p := ⟨B, 0, none⟩) (World.block_lt_of_cell? w _ hc)).trans hc)).mono fun _ _ ⟨h1, h2⟩ => ⟨h1, hb.trans (h2.mono hb.size)⟩
theorem row_hc {W : World} {base g c : Nat} {L : List Tg} (h : RowT W base (.slice (some ⟨g, 0, none⟩) L.length c) L) :
    ∀ j, j < L.length → ∀ i v, (encT L[j]!)[i]? = some v → W.cell? ⟨g, 0 + j * 3 + i, none⟩ = some v := by
  intro j hj i v hv
  have hi : i < 3 := (List.getElem?_eq_some_iff.1 hv).1
  have := encT_get L j i hj hi
  rw [List.getD_eq_getElem?_getD, List.getElem?_eq_getElem hj] at this
  rw [getElem!_pos L j hj] at hv
  rw [Nat.zero_add]
  exact (row_cells h _ _ (this.trans hv)).1
/-- The search at no element. -/
theorem index_nil (fv : Value) (W : World) : Calls Tryz.prog 96 #[.slice none 0 0, fv] W fun e w' => e = .returned (.int .i64 (-1)) ∧ w' = W := by
  go_enter Tryz.func96, Tryz.ntmps96
  go_wp2
  go_loopw [8] (fun i wr => i = .int .i64 0 ∧ wr = W) (fun _ _ => 0)
  case atStart => exact ⟨rfl, rfl⟩
  case round =>
    obtain ⟨rfl, rfl⟩ := hrel
    go_wp2
    go_ret
    exact ⟨rfl, rfl⟩
theorem cont_any (base : Nat) (v : Value) (L : List Tg) (o : Int) (B : Nat) (W : World) (hr : RowT W base v L) (hm : L.length ≤ 1099511627776) (hc : W.cell? ⟨B, 0, none⟩ = some (.int .i64 o)) :
    Calls Tryz.prog 92 #[v, .func (.func 93) #[] #[.pointer (some ⟨B, 0, none⟩)]] W fun e w' => e = .returned (.bool (has L o)) ∧ Below W.heap.size W w' := by
  rcases row_slice hr with ⟨rfl, h0⟩ | ⟨g, c, rfl, hn, hb, hg⟩
  · have hL : L = [] := List.length_eq_zero_iff.1 h0
    subst hL
    clear hr
    go_enter Tryz.func92, Tryz.ntmps92
    go_wp2_with fail
    refine (index_nil _ _).mono ?_
    rintro e w' ⟨rfl, rfl⟩
    go_wp2
    go_ret
    exact ⟨rfl, Below.refl _ _⟩
  · have eg : ∀ args w, (callFunc 93 args).run Tryz.prog w = .ok (.enter 93 args) w := enters_of Tryz.func93 (by kernel_rfl) rfl
    have := AnyQ.slices_ContainsFunc Tryz.contT 3 Tryz.isAgg46 Tryz.sizeOf46 encT (fun _ => rfl) (mine o) 93 #[.pointer (some ⟨B, 0, none⟩)] eg g 0 L.length c L W (predH o B W hc) (Nat.le_refl _) (by omega) hg (row_hc hr)
    rw [List.take_length] at this
    exact this
theorem has_any (F : Nat → Prop) (b : Nat) (L : List Tg) (o : Int) (W : World) (hS : SetAt W F b L) (hm : L.length ≤ 1099511627776) :
    Calls Tryz.prog 70 #[.pointer (some ⟨b, 0, none⟩), .int .i64 o] W fun e w' => e = .returned (.bool (has L o)) ∧ Below W.heap.size W w' := by
  obtain ⟨_, _, v, hblk, hrow, _⟩ := hS
  have HR := Lib.hid hrow
  have c0 : W.cell? ⟨b, 0, none⟩ = some v := blk_cell hblk 0
  have hbn := blk_lt hblk
  have hne : b ≠ W.heap.size := by omega
  have hne' : W.heap.size ≠ b := by omega
  clear hblk hrow
  go_enter Tryz.func70, Tryz.ntmps70
  go_wp2_with fail
  refine (cont_any 0 v L o _ _ (HR.out.alloc _) hm (by simp)).mono ?_
  rintro e w1 ⟨rfl, hb⟩
  go_wp2
  go_ret
  exact ⟨rfl, ((Below.refl _ _).alloc (Nat.le_refl _) _).trans (hb.mono (by simp))⟩
end Go.Proofs.YtohpimfanplloaaGreat.IvE
