/- Rows of whole numbers: cloned and sorted. -/
import Derived.Test.YtohpimfanplloaaGreatZIvH
import Derived.WalkKit
import Derived.WalkSpells
import Derived.Lib.Hide
import Derived.Test.YtohpimfanplloaaGreatZIvLay
set_option linter.unusedVariables false
set_option linter.unusedSimpArgs false
namespace Go.Proofs.YtohpimfanplloaaGreat.CalA
open Go.RowKit Go.Shelf Go.Lib Go.Sort Go.Proofs.YtohpimfanplloaaGreatW.PrintWords Go.Proofs.YtohpimfanplloaaGreatW.PrintLast Go.Proofs.YtohpimfanplloaaGreatW.PrintMore Go.Proofs.YtohpimfanplloaaGreat.PureI1 Go.Proofs.YtohpimfanplloaaGreat.PureI2 Go.Proofs.YtohpimfanplloaaGreat.IvA

abbrev RowN (W : World) (base : Nat) (v : Value) (xs : List Int) : Prop := W.ownsRow base 3 1 v xs.length (xs.map (Value.int .i64))
theorem rowN_reads {W : World} {base : Nat} {v : Value} {xs : List Int} (h : RowN W base v xs) (hm : xs.length ≤ 9223372036854775807) : ∃ A c, v = .slice A xs.length c ∧ xs.length ≤ c ∧ Kd.C (Kd.int .i64) W A xs.length xs := by
  obtain ⟨A, c, h1, h2, h3⟩ := own_reads_of_le (enc := Value.int .i64) (d := (0 : Int)) h
  exact ⟨A, c, h1, h2, Kd.C_of_reads (h1 := fun _ => rfl) h3⟩
theorem holdsN {W : World} {base g c : Nat} {xs : List Int} (h : RowN W base (.slice (some ⟨g, 0, none⟩) xs.length c) xs) : Holds (Value.int .i64) W g 0 xs.toArray := by
  intro t ht
  have ht' : t < xs.length := by simpa using ht
  have := row_cells h t (.int .i64 xs[t]) (by simp [ht'])
  rw [Nat.zero_add]
  simpa [ht'] using this
theorem own_of_put {W : World} {base g c : Nat} {xs ys : List Int} (h : RowN W base (.slice (some ⟨g, 0, none⟩) xs.length c) xs) (hl : ys.length = xs.length) (m : Nat) (os : Array Obj) :
    RowN (grow (putRow (Value.int .i64) (Sort.ahead W m) g 0 ys.toArray) os) base (.slice (some ⟨g, 0, none⟩) ys.length c) ys ∧ W.grownBy (grow (putRow (Value.int .i64) (Sort.ahead W m) g 0 ys.toArray) os) (some g) := by
  have hH := holdsN h
  have hlt : g < W.heap.size := (h.lt g rfl).2
  have hp : ∀ j, j < ys.length → (grow (putRow (Value.int .i64) (Sort.ahead W m) g 0 ys.toArray) os).cell? ⟨g, j, none⟩ = some (.int .i64 ys[j]!) := fun j hj => by
    rw [cell?_grow _ _ _ (by simpa using hlt)]
    have := cell?_putRow (Value.int .i64) (Sort.ahead W m) g 0 xs.toArray ys.toArray hH (by simp [hl]) j (by simpa using hj)
    rw [Nat.zero_add] at this
    rw [this]
    simp
  have hblk : ∀ j, j < W.heap.size → j ≠ g → (grow (putRow (Value.int .i64) (Sort.ahead W m) g 0 ys.toArray) os).heap[j]? = W.heap[j]? := fun j hj hne => by
    rw [heap_grow_old _ _ (by simpa using hj)]
    simp only [putRow, mapBlock, heap_ahead, Array.getElem?_modify]
    rw [if_neg (by omega)]
  rcases h.2 with ⟨h0, _⟩ | ⟨g', cap, cur, hv, hb, hg, hn, hcm, hsz, ht⟩
  · cases h0
  · cases hv
    have hnew : ∃ cur', (grow (putRow (Value.int .i64) (Sort.ahead W m) g 0 ys.toArray) os).heap[g]? = some (.cells cur' 3 (0, 0)) ∧ cur'.size = cur.size := by
      rw [heap_grow_old _ _ (by simpa using hlt)]
      simp only [putRow, mapBlock, heap_ahead, Array.getElem?_modify, if_pos, hg, Option.map_some]
      refine ⟨_, rfl, ?_⟩
      simp [putCells]
    obtain ⟨cur', hg', hs'⟩ := hnew
    refine ⟨⟨by simp, .inr ⟨g, c, cur', rfl, hb, hg', by omega, hcm, by omega, ?_⟩⟩, ⟨rfl, rfl, rfl, by simp, fun j hj hne => hblk j hj (fun he => hne (by rw [he]))⟩⟩
    apply List.ext_getElem?
    intro j
    by_cases hj : j < ys.length
    · have h1 := hp j hj
      rw [blk_cell hg' j] at h1
      rw [List.getElem?_take, if_pos (by omega)]
      have h2 : cur'.toList[j]? = cur'[j]? := by simp
      rw [h2, h1, getElem!_pos ys j hj]
      simp [hj]
    · rw [List.getElem?_eq_none (by rw [List.length_take]; omega), List.getElem?_eq_none (by rw [List.length_map]; omega)]

theorem cloneN_any (A : Option Addr) (c : Nat) (xs : List Int) (W : World) (hr : Kd.C (Kd.int .i64) W A xs.length xs) (hc : xs.length ≤ c) (hm : xs.length ≤ 1099511627776) :
    Calls Tryz.prog 49 #[.slice A xs.length c] W fun e w' => ∃ v, e = .returned v ∧ RowN w' W.heap.size v xs ∧ Below W.heap.size W w' := by
  cases A with
  | none =>
    have hx : xs = [] := by
      cases xs with
      | nil => rfl
      | cons x t =>
        obtain ⟨ad, h, _⟩ := Kd.at_int hr (0 : Int) (by omega) (by simp only [List.length_cons]; omega)
        cases h
    subst hx
    refine (Tryz.slices_Clone_int_nil 0 c W).mono ?_
    rintro e w' ⟨rfl, rfl⟩
    exact ⟨_, rfl, own_nil _ _ _ _, Below.refl _ _⟩
  | some ad =>
    cases xs with
    | nil =>
      refine (Tryz.slices_Clone_int_zero ad c W).mono ?_
      rintro e w' ⟨v, rfl, hr, _, hb⟩
      exact ⟨v, rfl, hr, hb⟩
    | cons x t =>
      obtain ⟨ad', he, hx⟩ := Kd.at_int hr (0 : Int) (by omega) (by simp only [List.length_cons]; omega)
      cases he
      have hsp : ad.spot = none := by
        have hx0 : W.cell? ad = some (.int .i64 (rd (x :: t) 0)) := by simpa [Addr.add] using hx
        unfold World.cell? at hx0
        split at hx0
        · by_cases hs : ad.spot.isSome
          · rw [if_pos hs] at hx0; cases hx0
          · simpa using hs
        · cases hx0
      obtain ⟨b, o, sp⟩ := ad
      simp only at hsp
      subst hsp
      refine (Tryz.slices_Clone_int b o (x :: t).length c (x :: t) W (Nat.le_refl _) (by omega) ?_).mono ?_
      · intro j hj
        obtain ⟨ad, he, hcell⟩ := Kd.at_int hr (j : Int) (by omega) (by omega)
        cases he
        rw [Int.toNat_natCast] at hcell
        have e1 : Addr.add ⟨b, o, none⟩ j = ⟨b, o + j, none⟩ := by
          unfold Addr.add
          by_cases h0 : j = 0
          · subst h0; rw [if_pos rfl]; rfl
          · rw [if_neg h0]
        rw [e1] at hcell
        rw [hcell]
        simp [Go.Proofs.YtohpimfanplloaaGreatW.PrintWords.rd]
      · rintro e w' ⟨v, rfl, hr2, _, hb⟩
        rw [List.take_length] at hr2
        exact ⟨v, rfl, hr2, hb⟩
theorem sortN_any (base : Nat) (v : Value) (xs : List Int) (W : World) (h : RowN W base v xs) (hm : xs.length ≤ 1099511627776) :
    Calls Tryz.prog 50 #[v] W fun e w' => e = .returned (.tuple #[]) ∧ RowN w' base v (sortI xs) ∧ W.grownBy w' v.ownBlock := by
  rcases row_slice h with ⟨rfl, h0⟩ | ⟨g, c, rfl, hn, hb, hlt⟩
  · have hx : xs = [] := List.length_eq_zero_iff.1 h0
    subst hx
    refine (Tryz.slices_Sort_int_none none 0 W).mono ?_
    rintro e w' ⟨rfl, rfl⟩
    exact ⟨rfl, by simpa [sortI] using h, ⟨rfl, rfl, rfl, Nat.le_refl _, fun _ _ _ => rfl⟩⟩
  · refine (Tryz.slices_Sort_int g 0 c xs W (holdsN h) hlt (by omega)).mono ?_
    rintro e w' ⟨rfl, n, os, rfl⟩
    have hl : (sortI xs).length = xs.length := (List.mergeSort_perm _ _).length_eq
    obtain ⟨h1, h2⟩ := own_of_put h hl n os
    refine ⟨rfl, ?_, h2⟩
    simp only [RowN, hl] at h1 ⊢
    exact h1
end Go.Proofs.YtohpimfanplloaaGreat.CalA
