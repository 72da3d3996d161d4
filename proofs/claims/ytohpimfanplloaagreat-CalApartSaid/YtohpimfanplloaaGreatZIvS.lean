/- Rows of spans, and of spans with owners, sorted by their begins (slices.SortFunc over byLo, tagged). -/
import Derived.Test.YtohpimfanplloaaGreatZIvA
import Derived.WalkKit
import Derived.WalkSpells
import Derived.Lib.Hide
import Derived.Shelf.SlSortCmp.NoneTotal
import Derived.Test.YtohpimfanplloaaGreatZIvLay
set_option linter.unusedVariables false
set_option linter.unusedSimpArgs false
namespace Go.Proofs.YtohpimfanplloaaGreat.IvS
open Go.RowKit Go.Shelf Go.Lib Go.Sort Go.Proofs.YtohpimfanplloaaGreatW.PrintWords Go.Proofs.YtohpimfanplloaaGreat.PureI1 Go.Proofs.YtohpimfanplloaaGreat.PureI2 Go.Proofs.YtohpimfanplloaaGreat.IvA

def cmpS (x y : Sp) : Int := if x.1 < y.1 then -1 else if y.1 < x.1 then 1 else 0
def cmpT (x y : Tg) : Int := cmpS x.1 y.1
set_option maxHeartbeats 1000000 in
theorem byLo_any (x y : Sp) (W : World) : Calls Tryz.prog 90 #[.agg #[.int .i64 x.1, .int .i64 x.2], .agg #[.int .i64 y.1, .int .i64 y.2]] W fun e w' => e = .returned (.int .i64 (cmpS x y)) ∧ ∃ q os', w' = grow (W.drewN q) os' := by
  unfold cmpS
  by_cases h1 : x.1 < y.1
  · rw [if_pos h1]
    have d1 : decide (x.1 < y.1) = true := decide_eq_true h1
    go_enter Tryz.func90, Tryz.ntmps90
    go_wp2
    go_ret
    exact ⟨rfl, 0, _, by rw [alloc_eq_grow, alloc_eq_grow, grow_grow]; rfl⟩
  · rw [if_neg h1]
    have d1 : decide (x.1 < y.1) = false := decide_eq_false h1
    by_cases h2 : y.1 < x.1
    · rw [if_pos h2]
      have d2 : decide (y.1 < x.1) = true := decide_eq_true h2
      go_enter Tryz.func90, Tryz.ntmps90
      go_wp2
      go_ret
      exact ⟨rfl, 0, _, by rw [alloc_eq_grow, alloc_eq_grow, grow_grow]; rfl⟩
    · rw [if_neg h2]
      have d2 : decide (y.1 < x.1) = false := decide_eq_false h2
      go_enter Tryz.func90, Tryz.ntmps90
      go_wp2
      go_ret
      exact ⟨rfl, 0, _, by rw [alloc_eq_grow, alloc_eq_grow, grow_grow]; rfl⟩
set_option maxHeartbeats 1000000 in
theorem tagged_any (x y : Tg) (W : World) : Calls Tryz.prog 73 #[.agg #[.int .i64 x.1.1, .int .i64 x.1.2, .int .i64 x.2], .agg #[.int .i64 y.1.1, .int .i64 y.1.2, .int .i64 y.2]] W fun e w' => e = .returned (.int .i64 (cmpT x y)) ∧ ∃ q os', w' = grow (W.drewN q) os' := by
  have hcon := fun W' => byLo_any x.1 y.1 W'
  unfold cmpT
  generalize cmpS x.1 y.1 = r at hcon ⊢
  have HC := Lib.hid hcon
  clear hcon
  go_enter Tryz.func73, Tryz.ntmps73
  go_wp2_with fail
  refine (HC.out _).mono ?_
  rintro e w' ⟨rfl, q, os, rfl⟩
  go_wp2
  go_ret
  exact ⟨rfl, q, _, by rw [alloc_eq_grow, alloc_eq_grow, grow_grow]; first | rfl | (rw [show ∀ (a : World) (o : Array Obj), (grow a o).drewN q = grow (a.drewN q) o from fun _ _ => rfl, grow_grow]) ⟩
theorem swoS : SWO (ltOf cmpS) where
  irrefl x := by unfold ltOf cmpS; simp
  trans x y z h1 h2 := by
    unfold ltOf cmpS at *
    simp only [decide_eq_true_eq] at *
    repeat' split at h1
    all_goals (repeat' split at h2)
    all_goals first | omega | (rw [if_pos (by omega)]; decide)
  ntrans x y z h1 h2 := by
    unfold ltOf cmpS at *
    simp only [decide_eq_false_iff_not] at *
    repeat' split at h1
    all_goals (repeat' split at h2)
    all_goals first | omega | (rw [if_neg (by omega)]; split <;> omega)
theorem swoT : SWO (ltOf cmpT) where
  irrefl x := swoS.irrefl x.1
  trans x y z := swoS.trans x.1 y.1 z.1
  ntrans x y z := swoS.ntrans x.1 y.1 z.1
theorem cmpLaysS (blk off size : Nat) (w : World) : CmpLays Tryz.prog 90 #[] Go.Proofs.YtohpimfanplloaaGreat.IvA.encS 2 cmpS blk off size w := fun _ _ _ _ x y => byLo_any x y _
theorem cmpLaysT (blk off size : Nat) (w : World) : CmpLays Tryz.prog 73 #[] encT 3 cmpT blk off size w := fun _ _ _ _ x y => tagged_any x y _

section
variable {α : Type} [Inhabited α]
omit [Inhabited α] in
theorem flat_len (enc : α → List Value) (k : Nat) (hk : ∀ x, (enc x).length = k) (xs : List α) : (xs.flatMap enc).length = xs.length * k := by
  induction xs with
  | nil => simp
  | cons x xs ih => rw [List.flatMap_cons, List.length_append, ih, hk, List.length_cons, Nat.succ_mul]; omega
theorem flat_get (enc : α → List Value) (k : Nat) (hk : ∀ x, (enc x).length = k) : ∀ (xs : List α) (i j : Nat), i < xs.length → j < k → (xs.flatMap enc)[i * k + j]? = (enc xs[i]!)[j]? := by
  intro xs
  induction xs with
  | nil => intro i j h; simp at h
  | cons x xs ih =>
    intro i j h hj
    rw [List.flatMap_cons]
    cases i with
    | zero => rw [List.getElem?_append_left (by rw [hk]; omega)]; simp
    | succ i =>
      rw [List.getElem?_append_right (by rw [hk, Nat.succ_mul]; omega), show (i + 1) * k + j - (enc x).length = i * k + j by rw [hk, Nat.succ_mul]; omega, ih i j (by simpa using h) hj]
      simp
theorem flat_at (enc : α → List Value) (k : Nat) (hk : ∀ x, (enc x).length = k) (xs : List α) (t : Nat) (ht : t < xs.length * k) : (xs.flatMap enc)[t]? = some ((enc xs[t / k]!)[t % k]!) := by
  have k0 : 0 < k := by rcases Nat.eq_zero_or_pos k with h | h
                        · subst h; simp at ht
                        · exact h
  have hd : t / k < xs.length := Nat.div_lt_of_lt_mul (by rwa [Nat.mul_comm] at ht)
  have hm := Nat.mod_lt t k0
  have e : t / k * k + t % k = t := by rw [Nat.mul_comm]; exact Nat.div_add_mod t k
  have := flat_get enc k hk xs (t / k) (t % k) hd hm
  rw [e] at this
  generalize xs[t / k]! = y at this ⊢
  rw [this, List.getElem?_eq_getElem (by rw [hk]; exact hm), getElem!_pos (enc y) (t % k) (by rw [hk]; exact hm)]
theorem holds_of_own (enc : α → List Value) (k : Nat) (hk : ∀ x, (enc x).length = k) {W : World} {base g c : Nat} {e : TypeId} {xs : List α}
    (h : W.ownsRow base e k (.slice (some ⟨g, 0, none⟩) xs.length c) xs.length (xs.flatMap enc)) : HoldsK enc k W g 0 xs.toArray := by
  intro t ht
  rw [size_flatK] at ht
  have ht' : t < xs.length * k := by simpa using ht
  rw [get_flatK _ _ _ _ ht, Nat.zero_add]
  have := row_cells h t _ (flat_at enc k hk xs t ht')
  simpa using this
theorem own_of_sort (enc : α → List Value) (k : Nat) (hk : ∀ x, (enc x).length = k) {W : World} {base g c : Nat} {e : TypeId} {xs ys : List α}
    (h : W.ownsRow base e k (.slice (some ⟨g, 0, none⟩) xs.length c) xs.length (xs.flatMap enc)) (hl : ys.length = xs.length) (m : Nat) (os : Array Obj) :
    (sortWorldK enc k W g 0 m ys.toArray os).ownsRow base e k (.slice (some ⟨g, 0, none⟩) ys.length c) ys.length (ys.flatMap enc) ∧ W.grownBy (sortWorldK enc k W g 0 m ys.toArray os) (some g) := by
  have hH := holds_of_own enc k hk h
  have hlt : g < W.heap.size := (h.lt g rfl).2
  have hp : ∀ j, j < ys.length * k → (sortWorldK enc k W g 0 m ys.toArray os).cell? ⟨g, j, none⟩ = some ((enc ys[j / k]!)[j % k]!) := fun j hj => by
    unfold sortWorldK
    rw [cell?_grow _ _ _ (by simpa [putRowK] using hlt)]
    have := cell?_putRow id (Sort.ahead W m) g 0 (flatK enc k xs.toArray) (flatK enc k ys.toArray) hH (by simp [hl]) j (by simpa using hj)
    rw [Nat.zero_add] at this
    unfold putRowK
    rw [this, get_flatK _ _ _ _ (by simpa using hj)]
    simp
  have hblk : ∀ j, j < W.heap.size → j ≠ g → (sortWorldK enc k W g 0 m ys.toArray os).heap[j]? = W.heap[j]? := fun j hj hne => by
    unfold sortWorldK
    rw [heap_grow_old _ _ (by simpa [putRowK] using hj)]
    simp only [putRowK, putRow, mapBlock, heap_ahead, Array.getElem?_modify]
    rw [if_neg (by omega)]
  rcases h.2 with ⟨h0, _⟩ | ⟨g', cap, cur, hv, hb, hg, hn, hcm, hsz, ht⟩
  · cases h0
  · cases hv
    have hnew : ∃ cur', (sortWorldK enc k W g 0 m ys.toArray os).heap[g]? = some (.cells cur' e (0, 0)) ∧ cur'.size = cur.size := by
      unfold sortWorldK
      rw [heap_grow_old _ _ (by simpa [putRowK] using hlt)]
      simp only [putRowK, putRow, mapBlock, heap_ahead, Array.getElem?_modify, if_pos, hg, Option.map_some]
      refine ⟨_, rfl, ?_⟩
      simp [putCells]
    obtain ⟨cur', hg', hs'⟩ := hnew
    refine ⟨⟨flat_len enc k hk ys, .inr ⟨g, c, cur', by rw [hl], hb, hg', by omega, hcm, by omega, ?_⟩⟩, ⟨?_, ?_, ?_, ?_, fun j hj hne => hblk j hj (fun he => hne (by rw [he]))⟩⟩
    · have hnk : ys.length * k ≤ cur'.size := by rw [hs', hsz]; exact Nat.mul_le_mul_right k (by omega)
      apply List.ext_getElem?
      intro j
      by_cases hj : j < ys.length * k
      · rw [List.getElem?_take, if_pos hj, flat_at enc k hk ys j hj, ← hp j hj, blk_cell hg' j]
        simp
      · rw [List.getElem?_eq_none (by rw [List.length_take]; omega), List.getElem?_eq_none (by rw [flat_len enc k hk]; omega)]
    · rfl
    · rfl
    · rfl
    · unfold sortWorldK; simp [putRowK]
end
def SortSIs (W : World) (base : Nat) (v : Value) (xs : List Sp) (e : Ending) (w' : World) : Prop := e = .returned (.tuple #[]) ∧ ∃ ys : List Sp, ys.Perm xs ∧ SortedLo ys ∧ RowS w' base v ys ∧ W.grownBy w' v.ownBlock
def SortTIs (W : World) (base : Nat) (v : Value) (xs : List Tg) (e : Ending) (w' : World) : Prop := e = .returned (.tuple #[]) ∧ ∃ ys : List Tg, ys.Perm xs ∧ ys.Pairwise (fun a b => a.1.1 ≤ b.1.1) ∧ RowT w' base v ys ∧ W.grownBy w' v.ownBlock
theorem grown_same (W : World) (r : Option Nat) : W.grownBy W r := ⟨rfl, rfl, rfl, Nat.le_refl _, fun _ _ _ => rfl⟩
theorem sorted_of {α : Type} [Inhabited α] {lt : α → α → Bool} {d : Array α} (h : SortedIn lt 0 d.size d) : d.toList.Pairwise (fun a b => lt b a = false) := by
  rw [List.pairwise_iff_getElem]
  intro i j hi hj hij
  have := h i j (Nat.zero_le _) hij (by simpa using hj)
  rw [getElem!_pos d j (by simpa using hj), getElem!_pos d i (by simpa using hi)] at this
  simpa using this
theorem perm_of {α : Type} [Inhabited α] {d d' : Array α} (h : PermIn 0 d.size d d') : d'.toList.Perm d.toList := by
  have := h.2.2
  rwa [show d'.extract 0 d.size = d' by rw [← h.1]; simp, show d.extract 0 d.size = d by simp] at this
theorem sortS_any (base : Nat) (v : Value) (xs : List Sp) (W : World) (h : RowS W base v xs) (hm : xs.length ≤ 1099511627776) :
    Calls Tryz.prog 89 #[v, .func (.func 90) #[] #[]] W (SortSIs W base v xs) := by
  rcases row_slice h with ⟨rfl, h0⟩ | ⟨g, c, rfl, hn, hb, hlt⟩
  · have hx : xs = [] := List.length_eq_zero_iff.1 h0
    subst hx
    have := AnyF.slices_SortFunc_none { Tryz.sortS with } none 0 (.func (.func 90) #[] #[]) W
    change Calls Tryz.prog 89 _ _ _ at this
    refine this.mono ?_
    rintro e w' ⟨rfl, rfl⟩
    exact ⟨rfl, [], List.Perm.refl _, List.Pairwise.nil, h, grown_same _ _⟩
  · have eg : ∀ args w, (callFunc 90 args).run Tryz.prog w = .ok (.enter 90 args) w := enters_of Tryz.func90 (by kernel_rfl) rfl
    have hcon := AnyQ.slices_SortFunc Tryz.sortS 2 Tryz.isAgg42 Tryz.sizeOf42 Go.Proofs.YtohpimfanplloaaGreat.IvA.encS (fun _ => rfl) (fun x => oneS1 x) cmpS swoS 90 #[] g 0 c xs.toArray W eg (cmpLaysS g 0 _ W) (holds_of_own Go.Proofs.YtohpimfanplloaaGreat.IvA.encS 2 (fun _ => rfl) h) hlt (by simp; omega)
    change Calls Tryz.prog 89 _ _ _ at hcon
    rw [show xs.toArray.size = xs.length by simp] at hcon
    refine hcon.mono ?_
    rintro e w' ⟨rfl, d', n, os, hp, hs, rfl⟩
    have hp' := perm_of (d := xs.toArray) (by simpa using hp)
    have hs' := sorted_of (d := d') (lt := ltOf cmpS) (by rw [hp.1]; simpa using hs)
    have hl := hp'.length_eq
    obtain ⟨k1, k2⟩ := own_of_sort Go.Proofs.YtohpimfanplloaaGreat.IvA.encS 2 (fun _ => rfl) h (ys := d'.toList) (by simpa using hl) n os
    refine ⟨rfl, d'.toList, by simpa using hp', hs'.imp (fun {a b} hab => ?_), ?_, ?_⟩
    · unfold ltOf cmpS at hab
      simp only [decide_eq_false_iff_not] at hab
      by_cases h1 : b.1 < a.1
      · rw [if_pos h1] at hab; exact absurd (by decide) hab
      · omega
    · have hl' : d'.toList.length = xs.length := by simpa using hl
      rw [hl'] at k1
      simpa [RowS, hl'] using k1
    · simpa [Value.ownBlock] using k2
theorem sortT_any (base : Nat) (v : Value) (xs : List Tg) (W : World) (h : RowT W base v xs) (hm : xs.length ≤ 1099511627776 + 1099511627776) :
    Calls Tryz.prog 72 #[v, .func (.func 73) #[] #[]] W (SortTIs W base v xs) := by
  rcases row_slice h with ⟨rfl, h0⟩ | ⟨g, c, rfl, hn, hb, hlt⟩
  · have hx : xs = [] := List.length_eq_zero_iff.1 h0
    subst hx
    have := AnyF.slices_SortFunc_none { Tryz.sortT with } none 0 (.func (.func 73) #[] #[]) W
    change Calls Tryz.prog 72 _ _ _ at this
    refine this.mono ?_
    rintro e w' ⟨rfl, rfl⟩
    exact ⟨rfl, [], List.Perm.refl _, List.Pairwise.nil, h, grown_same _ _⟩
  · have eg : ∀ args w, (callFunc 73 args).run Tryz.prog w = .ok (.enter 73 args) w := enters_of Tryz.func73 (by kernel_rfl) rfl
    have hcon := AnyQ.slices_SortFunc Tryz.sortT 3 Tryz.isAgg46 Tryz.sizeOf46 encT (fun _ => rfl) (fun x => oneT1 x) cmpT swoT 73 #[] g 0 c xs.toArray W eg (cmpLaysT g 0 _ W) (holds_of_own encT 3 (fun _ => rfl) h) hlt (by simp; omega)
    change Calls Tryz.prog 72 _ _ _ at hcon
    rw [show xs.toArray.size = xs.length by simp] at hcon
    refine hcon.mono ?_
    rintro e w' ⟨rfl, d', n, os, hp, hs, rfl⟩
    have hp' := perm_of (d := xs.toArray) (by simpa using hp)
    have hs' := sorted_of (d := d') (lt := ltOf cmpT) (by rw [hp.1]; simpa using hs)
    have hl := hp'.length_eq
    obtain ⟨k1, k2⟩ := own_of_sort encT 3 (fun _ => rfl) h (ys := d'.toList) (by simpa using hl) n os
    refine ⟨rfl, d'.toList, by simpa using hp', hs'.imp (fun {a b} hab => ?_), ?_, ?_⟩
    · unfold ltOf cmpT cmpS at hab
      simp only [decide_eq_false_iff_not] at hab
      by_cases h1 : b.1.1 < a.1.1
      · rw [if_pos h1] at hab; exact absurd (by decide) hab
      · omega
    · have hl' : d'.toList.length = xs.length := by simpa using hl
      rw [hl'] at k1
      simpa [RowT, hl'] using k1
    · simpa [Value.ownBlock] using k2
end Go.Proofs.YtohpimfanplloaaGreat.IvS
