/- Rows of spans and of spans with owners, as the program holds them. -/
import Derived.Test.YtohpimfanplloaaGreatZPureI2
import Derived.Test.YtohpimfanplloaaGreatZV
import Derived.Test.YtohpimfanplloaaGreatProg
import Derived.WalkKit
import Derived.WalkSpells
import Derived.Lib.Hide
import Derived.Maps.AppendAt
import Derived.Deep.QuietTactic
import Derived.BigQuiet
import Derived.BigRegion
import Derived.Shelf.GgSortFunc.RowK
set_option linter.unusedVariables false
set_option linter.unusedSimpArgs false
namespace Go.Proofs.YtohpimfanplloaaGreat.IvA
open Go.RowKit Go.Proofs.YtohpimfanplloaaGreatW.PrintWords Go.Proofs.YtohpimfanplloaaGreatW.PrintLast Go.Proofs.YtohpimfanplloaaGreatW.PrintMore Go.Proofs.YtohpimfanplloaaGreat.PureI1 Go.Proofs.YtohpimfanplloaaGreat.PureI2

def kSp : Kd Sp := Kd.pair (Kd.int .i64) (Kd.int .i64)
def encS (x : Sp) : List Value := [.int .i64 x.1, .int .i64 x.2]
def encT (t : Tg) : List Value := [.int .i64 t.1.1, .int .i64 t.1.2, .int .i64 t.2]
theorem kSp_open {w : World} {x : Sp} {cs : List Value} (h : kSp.K w x cs) : cs = encS x := by
  obtain ⟨_, _, rfl, rfl, rfl⟩ := h
  rfl
theorem kSp_mk (w : World) (x : Sp) : kSp.K w x (encS x) := ⟨[.int .i64 x.1], [.int .i64 x.2], rfl, rfl, rfl⟩
def rdS (xs : List Sp) (i : Int) : Sp := xs.getD i.toNat (0, 0)
theorem at_Sp {w : World} {A : Option Addr} {n : Nat} {xs : List Sp} (h : Kd.C kSp w A n xs) (i : Int) (h0 : 0 ≤ i) (h1 : i < n) : ∃ ad, A = some ad ∧ w.cell? (ad.add (i.toNat * 2)) = some (.int .i64 (rdS xs i).1) ∧ w.cell? ⟨(ad.add (i.toNat * 2)).block, (ad.add (i.toNat * 2)).off + 1, none⟩ = some (.int .i64 (rdS xs i).2) := by
  obtain ⟨ad, c, e, _, hK, hc0⟩ := Kd.C_get h (0, 0) i h0 h1
  have hc : ∀ j u, c[j]? = some u → w.cell? (ad.add (i.toNat * 2 + j)) = some u := hc0
  obtain rfl := kSp_open hK
  exact ⟨ad, e, hc 0 _ rfl, by rw [← add_field _ _ 1 (by omega)]; exact hc 1 _ rfl⟩

theorem info_sp : (Tryz.prog.info? 42).map (fun i => (i.zero, i.size, i.bytes)) = some (some (Value.agg #[.int .i64 0, .int .i64 0]), 2, 16) := by kernel_rfl
theorem info_tg : (Tryz.prog.info? 46).map (fun i => (i.zero, i.size, i.bytes)) = some (some (Value.agg #[.int .i64 0, .int .i64 0, .int .i64 0]), 3, 24) := by kernel_rfl

theorem encS_len (xs : List Sp) : (xs.flatMap encS).length = xs.length * 2 := by
  induction xs with
  | nil => rfl
  | cons x xs ih => simp only [List.flatMap_cons, List.length_append, ih, encS, List.length_cons, List.length_nil]; omega
theorem encT_len (xs : List Tg) : (xs.flatMap encT).length = xs.length * 3 := by
  induction xs with
  | nil => rfl
  | cons x xs ih => simp only [List.flatMap_cons, List.length_append, ih, encT, List.length_cons, List.length_nil]; omega
theorem encS_get : ∀ (xs : List Sp) (i j : Nat), i < xs.length → j < 2 → (xs.flatMap encS)[i * 2 + j]? = (encS (xs.getD i (0, 0)))[j]? := by
  intro xs
  induction xs with
  | nil => intro i j h; simp at h
  | cons x xs ih =>
    intro i j h hj
    rw [List.flatMap_cons]
    cases i with
    | zero => rw [List.getElem?_append_left (by simp [encS]; omega)]; simp
    | succ i =>
      rw [List.getElem?_append_right (by simp [encS]; omega), show (i + 1) * 2 + j - (encS x).length = i * 2 + j by simp [encS]; omega, ih i j (by simpa using h) hj]
      simp
theorem encT_get : ∀ (xs : List Tg) (i j : Nat), i < xs.length → j < 3 → (xs.flatMap encT)[i * 3 + j]? = (encT (xs.getD i ((0, 0), 0)))[j]? := by
  intro xs
  induction xs with
  | nil => intro i j h; simp at h
  | cons x xs ih =>
    intro i j h hj
    rw [List.flatMap_cons]
    cases i with
    | zero => rw [List.getElem?_append_left (by simp [encT]; omega)]; simp
    | succ i =>
      rw [List.getElem?_append_right (by simp [encT]; omega), show (i + 1) * 3 + j - (encT x).length = i * 3 + j by simp [encT]; omega, ih i j (by simpa using h) hj]
      simp
theorem oneS (xs : List Sp) : ∀ u ∈ xs.flatMap encS, u.oneCell' = true := by
  intro u hu
  obtain ⟨x, _, hx⟩ := List.mem_flatMap.1 hu
  simp [encS] at hx
  rcases hx with rfl | rfl <;> rfl
theorem oneT (xs : List Tg) : ∀ u ∈ xs.flatMap encT, u.oneCell' = true := by
  intro u hu
  obtain ⟨x, _, hx⟩ := List.mem_flatMap.1 hu
  simp [encT] at hx
  rcases hx with rfl | rfl | rfl <;> rfl

theorem news_of {w : World} {g : Nat} {e : TypeId} {cs : List Value} (h : w.heap[g]? = some (.cells cs.toArray e (0, 0))) : ∀ j u, cs[j]? = some u → w.cell? ((⟨g, 0, none⟩ : Addr).add j) = some u := by
  intro j u hj
  rw [add_plain, blk_cell h j]
  simpa using hj
theorem new2 (w : World) (o o' : Obj) : ((w.alloc o).alloc o').heap[w.heap.size + 1]? = some o' := by
  have := heap_alloc_new (w.alloc o) o'
  rwa [show (w.alloc o).heap.size = w.heap.size + 1 by simp] at this
theorem newAt (W : World) (o : Obj) (k : Nat) (hk : W.heap.size = k) : (W.alloc o).heap[k]? = some o := by rw [← hk]; exact heap_alloc_new W o
theorem oneS1 (x : Sp) : ∀ u ∈ encS x, u.oneCell' = true := fun u hu => oneS [x] u (by simpa using hu)
theorem oneT1 (x : Tg) : ∀ u ∈ encT x, u.oneCell' = true := fun u hu => oneT [x] u (by simpa using hu)
/-- A row of the call's own that holds spans. -/
abbrev RowS (W : World) (base : Nat) (v : Value) (xs : List Sp) : Prop := W.ownsRow base 42 2 v xs.length (xs.flatMap encS)
abbrev RowT (W : World) (base : Nat) (v : Value) (L : List Tg) : Prop := W.ownsRow base 46 3 v L.length (L.flatMap encT)
/-- A row of one's own reads as its list. -/
theorem row_slice {W : World} {base : Nat} {e : TypeId} {size n : Nat} {v : Value} {xs : List Value} (h : W.ownsRow base e size v n xs) :
    (v = .slice none 0 0 ∧ n = 0) ∨ ∃ g c, v = .slice (some ⟨g, 0, none⟩) n c ∧ n ≤ c ∧ base ≤ g ∧ g < W.heap.size := by
  rcases h.2 with h | ⟨g, cap, cur, rfl, hb, hg, hn, _⟩
  · exact .inl h
  · exact .inr ⟨g, cap, rfl, hn, hb, (Array.getElem?_eq_some_iff.1 hg).1⟩
theorem row_cells {W : World} {base : Nat} {e : TypeId} {size n g c : Nat} {xs : List Value} (h : W.ownsRow base e size (.slice (some ⟨g, 0, none⟩) n c) n xs) :
    ∀ j u, xs[j]? = some u → W.cell? ⟨g, j, none⟩ = some u ∧ W.frozen? ⟨g, j, none⟩ = false := by
  intro j u hj
  rcases h.2 with ⟨h, _⟩ | ⟨g', cap, cur, hv, hb, hg, hn, _, _, ht⟩
  · cases h
  · cases hv
    refine ⟨?_, blk_frozen hg j⟩
    rw [blk_cell hg j]
    rw [← ht, List.getElem?_take] at hj
    split at hj
    · simpa using hj
    · cases hj
theorem row_readsS {W : World} {base : Nat} {v : Value} {xs : List Sp} (h : RowS W base v xs) (hm : xs.length ≤ 9223372036854775807) : ∃ A c, v = .slice A xs.length c ∧ xs.length ≤ c ∧ Kd.C kSp W A xs.length xs := by
  rcases row_slice h with ⟨rfl, h0⟩ | ⟨g, c, rfl, hn, _⟩
  · have : xs = [] := List.length_eq_zero_iff.1 h0
    subst this
    exact ⟨none, 0, rfl, Nat.le_refl _, Kd.C_nil kSp W⟩
  · refine ⟨some ⟨g, 0, none⟩, c, rfl, hn, rfl, hm, fun h0 => ⟨_, rfl, fun j p hp => ?_⟩⟩
    have hj := (List.getElem?_eq_some_iff.1 hp).1
    refine ⟨encS p, rfl, kSp_mk W p, fun i u hu => ?_⟩
    have hi : i < 2 := (List.getElem?_eq_some_iff.1 hu).1
    rw [add_plain]
    refine (row_cells h _ u ?_).1
    have := encS_get xs j i hj hi
    rw [List.getD_eq_getElem?_getD, hp] at this
    exact this.trans hu
theorem own_set {W : World} {base : Nat} {e : TypeId} {size n g c : Nat} {xs : List Value} (h : W.ownsRow base e size (.slice (some ⟨g, 0, none⟩) n c) n xs) (j : Nat) (u : Value) (hj : j < xs.length) :
    (W.setCell ⟨g, j, none⟩ u).ownsRow base e size (.slice (some ⟨g, 0, none⟩) n c) n (xs.set j u) := by
  rcases h.2 with ⟨h, _⟩ | ⟨g', cap, cur, hv, hb, hg, hn, hm, hs, ht⟩
  · cases h
  · cases hv
    refine ⟨by rw [List.length_set]; exact h.1, .inr ⟨g, c, cur.setIfInBounds j u, rfl, hb, blk_set hg j u, hn, hm, by simpa using hs, ?_⟩⟩
    have hl := h.1
    rw [Array.toList_setIfInBounds, List.take_set, ht]
theorem take_snoc' {α : Type} (l : List α) (k : Nat) (h : k < l.length) (d : α) : l.take (k + 1) = l.take k ++ [l.getD k d] := by
  rw [List.take_succ_eq_append_getElem h, List.getD_eq_getElem?_getD, List.getElem?_eq_getElem h]; rfl
theorem inc_snoc (l : List Sp) (s : Sp) : inc (l ++ [s]) = if s.1 < s.2 then inc l ++ [s] else inc l := by
  unfold inc
  rw [List.filter_append]
  by_cases h : s.1 < s.2 <;> simp [h]
end Go.Proofs.YtohpimfanplloaaGreat.IvA
