/- iv.Owners, cal.Owners: whose spans stand. -/
import Derived.Test.YtohpimfanplloaaGreatZCalM
import Derived.Says
import Derived.Outline
import Derived.WalkKit
import Derived.WalkSpells
import Derived.Lib.Hide
import Derived.Maps.AppendAt
import Derived.Deep.QuietTactic
import Derived.Deep.RegionHeld3
import Derived.BigQuiet
set_option linter.unusedVariables false
set_option linter.unusedSimpArgs false
namespace Go.Proofs.YtohpimfanplloaaGreat.CalQ
open Go.RowKit Go.Sort Go.Proofs.YtohpimfanplloaaGreatW.PrintWords Go.Proofs.YtohpimfanplloaaGreatW.PrintLast Go.Proofs.YtohpimfanplloaaGreatW.PrintMore Go.Proofs.YtohpimfanplloaaGreat.PureI1 Go.Proofs.YtohpimfanplloaaGreat.PureI2 Go.Proofs.YtohpimfanplloaaGreat.IvA Go.Proofs.YtohpimfanplloaaGreat.IvS Go.Proofs.YtohpimfanplloaaGreat.IvB Go.Proofs.YtohpimfanplloaaGreat.IvC Go.Proofs.YtohpimfanplloaaGreat.IvE Go.Proofs.YtohpimfanplloaaGreat.IvF Go.Proofs.YtohpimfanplloaaGreat.IvG Go.Proofs.YtohpimfanplloaaGreat.CalA Go.Proofs.YtohpimfanplloaaGreat.CalB Go.Proofs.YtohpimfanplloaaGreat.CalM
def ownersF (L : List Tg) : List Int := Lib.compact (sortI (L.map (·.2)))
theorem compact_le (xs : List Int) : (Lib.compact xs).length ≤ xs.length := by
  unfold Lib.compact Lib.compactUpTo
  rw [List.length_map]
  exact Nat.le_trans (List.length_filter_le _ _) (by simp)
theorem mem_upto (d : Array Int) (x : Int) : ∀ m, x ∈ Lib.compactUpTo d m ↔ ∃ j, j < m ∧ d[j]! = x := by
  intro m
  induction m with
  | zero => simp [Lib.compactUpTo]
  | succ m ih =>
    rw [Lib.compactUpTo_succ, List.mem_append, ih]
    constructor
    · rintro (⟨j, hj, he⟩ | h)
      · exact ⟨j, by omega, he⟩
      · by_cases hk : Lib.keeps d m = true
        · rw [if_pos hk] at h
          exact ⟨m, by omega, (List.mem_singleton.1 h).symm⟩
        · rw [if_neg hk] at h
          cases h
    · rintro ⟨j, hj, he⟩
      by_cases hjm : j < m
      · exact .inl ⟨j, hjm, he⟩
      · obtain rfl : j = m := by omega
        by_cases hk : Lib.keeps d j = true
        · rw [if_pos hk]
          exact .inr (by rw [he]; simp)
        · left
          have : ¬ (j = 0 ∨ d[j]! ≠ d[j - 1]!) := by simpa [Lib.keeps] using hk
          refine ⟨j - 1, by omega, ?_⟩
          by_cases h9 : d[j]! = d[j - 1]!
          · rw [← h9]; exact he
          · exact absurd (.inr h9) this
theorem mem_compact (xs : List Int) (x : Int) : x ∈ Lib.compact xs ↔ x ∈ xs := by
  unfold Lib.compact
  rw [mem_upto, List.mem_iff_getElem]
  constructor
  · rintro ⟨j, hj, he⟩
    exact ⟨j, hj, by rw [← he]; simp [hj]⟩
  · rintro ⟨j, hj, he⟩
    exact ⟨j, hj, by rw [← he]; simp [hj]⟩
theorem mem_owners (L : List Tg) (o : Int) : o ∈ ownersF L ↔ has L o = true := by
  unfold ownersF sortI
  rw [mem_compact, (List.mergeSort_perm _ _).mem_iff, List.mem_map]
  unfold has
  rw [List.any_eq_true]
  constructor
  · rintro ⟨t, h1, h2⟩; exact ⟨t, h1, by simp [h2]⟩
  · rintro ⟨t, h1, h2⟩; exact ⟨t, h1, by simpa using h2⟩
theorem owners_le (L : List Tg) : (ownersF L).length ≤ L.length := by
  unfold ownersF
  refine Nat.le_trans (compact_le _) ?_
  unfold sortI
  rw [List.length_mergeSort, List.length_map]
  exact Nat.le_refl _
theorem compact_same (xs : List Int) (v : Int) (h : ∀ x ∈ xs, x = v) : (Lib.compact xs).length = min xs.length 1 := by
  unfold Lib.compact
  have hd : ∀ j, j < xs.length → xs.toArray[j]! = v := fun j hj => by
    rw [show xs.toArray[j]! = xs[j] by simp [hj]]
    exact h _ (List.getElem_mem hj)
  have key : ∀ m, m ≤ xs.length → (Lib.compactUpTo xs.toArray m).length = min m 1 := by
    intro m
    induction m with
    | zero => intro _; simp [Lib.compactUpTo]
    | succ m ih =>
      intro hm
      rw [Lib.compactUpTo_succ, List.length_append, ih (by omega)]
      by_cases h0 : m = 0
      · subst h0
        rw [if_pos (by simp [Lib.keeps])]
        rfl
      · rw [if_neg (by
          rw [Lib.keeps_neg (by omega) (by rw [hd m (by omega), hd (m - 1) (by omega)])]
          decide)]
        simp only [List.length_nil]
        omega
  exact key _ (Nat.le_refl _)
theorem owners_same (L : List Tg) (v : Int) (h : ∀ t ∈ L, t.2 = v) : (ownersF L).length = min L.length 1 := by
  unfold ownersF
  rw [compact_same _ v (fun x hx => by
    have : x ∈ L.map (·.2) := (List.mergeSort_perm _ _).mem_iff.1 hx
    obtain ⟨t, ht, rfl⟩ := List.mem_map.1 this
    exact h t ht)]
  unfold sortI
  rw [List.length_mergeSort, List.length_map]
theorem grow_nil (w : World) : grow w #[] = w := by cases w; simp [grow]
theorem compactN_any (base : Nat) (v : Value) (xs : List Int) (W : World) (h : RowN W base v xs) (hm : xs.length ≤ 1099511627776) :
    Calls Tryz.prog 78 #[v] W fun e w' => ∃ v', e = .returned v' ∧ RowN w' base v' (Lib.compact xs) ∧ W.grownBy w' v.ownBlock := by
  rcases row_slice h with ⟨rfl, h0⟩ | ⟨g, c, rfl, hn, hb, hlt⟩
  · have hx : xs = [] := List.length_eq_zero_iff.1 h0
    subst hx
    refine (Tryz.slices_Compact_int_empty none 0 W).mono ?_
    rintro e w' ⟨rfl, rfl⟩
    exact ⟨_, rfl, by simpa [Lib.compact, Lib.compactUpTo] using h, ⟨rfl, rfl, rfl, Nat.le_refl _, fun _ _ _ => rfl⟩⟩
  · refine (Tryz.slices_Compact_int g 0 c xs W (holdsN h) (by omega) hn).mono ?_
    rintro e w' ⟨rfl, q, rfl⟩
    have hle := compact_le xs
    have hl : (Lib.compact xs ++ List.replicate (xs.length - (Lib.compact xs).length) (0 : Int)).length = xs.length := by simp; omega
    obtain ⟨h1, h2⟩ := own_of_put h hl q #[]
    rw [grow_nil] at h1 h2
    refine ⟨_, rfl, ?_, h2⟩
    have h3 := own_taken (k := (Lib.compact xs).length) h1 (by omega)
    rw [Nat.mul_one, List.map_append, List.take_left' (by simp)] at h3
    exact h3
def OwnAt (W : World) (L : List Tg) (k : Nat) (v : Value) (wr : World) : Prop := RowN wr W.heap.size v ((L.take k).map (·.2)) ∧ Below W.heap.size W wr
theorem info_int : (Tryz.prog.info? 3).map (fun i => (i.zero, i.size, i.bytes)) = some (some (Value.int .i64 0), 1, 8) := by kernel_rfl
theorem oneN1 (x : Int) : ∀ u ∈ [Value.int .i64 x], u.oneCell' = true := fun u hu => by rw [List.mem_singleton.1 hu]; rfl
def OwnersIs (W : World) (L : List Tg) (e : Ending) (w' : World) : Prop := ∃ v, e = .returned v ∧ RowN w' W.heap.size v (ownersF L) ∧ Below W.heap.size W w'
set_option maxHeartbeats 1000000 in
set_option maxRecDepth 100000 in
theorem owners_any (F : Nat → Prop) (b : Nat) (L : List Tg) (W : World) (hS : SetAt W F b L) (hm : L.length ≤ 1099511627776) :
    Calls Tryz.prog 51 #[.pointer (some ⟨b, 0, none⟩)] W (OwnersIs W L) := by
  obtain ⟨i0, hi, hz0, hz1, hz2⟩ := info_parts info_int
  obtain ⟨_, _, v0, hblk, hrow, _⟩ := hS
  obtain ⟨A, c, rfl⟩ := own_slice hrow
  have HR := Lib.hid hrow
  have c0 : W.cell? ⟨b, 0, none⟩ = some (.slice A L.length c) := blk_cell hblk 0
  clear hblk hrow
  go_enter Tryz.func51, Tryz.ntmps51
  go_wp2
  clear c0
  go_loopw [3, 11] (fun v i wr => ∃ (k : Nat) (v0 : Value), v0 = v ∧ k ≤ L.length ∧ i = .int .i64 k ∧ Hid (OwnAt W L k v0 wr)) (fun _ i _ => L.length - (intOf i).toNat)
  case atStart => exact ⟨0, _, rfl, Nat.zero_le _, rfl, Lib.hid ⟨own_nil _ _ _ _, Below.refl _ _⟩⟩
  case round =>
    obtain ⟨k, v, rfl, hk, rfl, HA⟩ := hrel
    have hB : Below W.heap.size W wr := HA.out.2
    have hbs := hB.size
    have HO : Hid (RowN wr W.heap.size v ((L.take k).map (·.2))) := HA.out.1
    have HBl := Lib.hid hB
    have hle : ((L.take k).map (·.2)).length ≤ L.length := by rw [List.length_map, List.length_take]; omega
    clear hB
    by_cases hlt : k < L.length
    · obtain ⟨_, h0⟩ | ⟨g, c', hv, _, _, hg⟩ := row_slice HR.out
      · omega
      cases hv
      obtain ⟨t0, t1, t2, _⟩ := tg_cells (pw_own_below HR.out HBl.out) k hlt
      have hn : (L.take (k + 1)).map (·.2) = (L.take k).map (·.2) ++ [(rdT L k).2] := by rw [take_snoc' L k hlt ((0, 0), 0), List.map_append]; rfl
      generalize hy : rdT L k = y at t0 t1 t2 hn
      clear hy
      have hng : wr.heap.size ≠ g := by omega
      have HN := Lib.hid hn
      clear hn HA
      generalize (L.take k).map (·.2) = xs at *
      go_wp2_with (at_builtin; refine wpList_append_own_at _ rfl _ _ 39 rfl W.heap.size 3 i0 (.int .i64 0) 1 8 Tryz.underlying39 hi hz0 hz1 hz2 rfl (by decide) _ xs.length _ rfl ((HO.out.alloc _).alloc _) ⟨wr.heap.size + 1, 0, none⟩ 1 1 [.int .i64 y.2] rfl rfl (news_of (newAt _ _ _ (by simp))) (oneN1 y.2) (by unfold maxLen; omega) (by omega) (by simp; omega) ?_; intro v' w1 hown' hgrow _ hat)
      go_roundw
      case measure => simp [intOf]; omega
      case rel =>
        refine ⟨k + 1, v', rfl, by omega, by go_num, Lib.hid ⟨?_, ?_⟩⟩
        · rw [HN.out]
          simpa [RowN, List.map_append] using hown'
        · exact ((HBl.out.alloc hbs _).alloc (by simp; omega) _).grown hgrow (by simp; omega) (fun k hk => (HO.out.lt k hk).1)
    · obtain rfl : k = L.length := by omega
      rw [List.take_length] at HO
      have hlm : (L.map (·.2)).length ≤ 1099511627776 := by rw [List.length_map]; omega
      clear HA
      go_wp2_with fail
      refine (sortN_any W.heap.size v _ _ HO.out hlm).mono ?_
      rintro e w2 ⟨rfl, hrow2, hgr2⟩
      have HR2 := Lib.hid hrow2
      have HB2 := Lib.hid (HBl.out.grown hgr2 HBl.out.size (fun k hk => (HO.out.lt k hk).1))
      have hlm2 : (sortI (L.map (·.2))).length ≤ 1099511627776 := by unfold sortI; rw [List.length_mergeSort]; exact hlm
      clear hrow2 hgr2
      go_wp2_with fail
      refine (compactN_any W.heap.size v _ _ HR2.out hlm2).mono ?_
      rintro e w3 ⟨v3, rfl, hrow3, hgr3⟩
      have HF := Lib.hid (And.intro hrow3 (HB2.out.grown hgr3 HB2.out.size (fun k hk => (HR2.out.lt k hk).1)))
      clear hrow3 hgr3
      go_wp2
      go_ret
      exact ⟨v3, rfl, HF.out⟩
def OwnCIs (W : World) (us : Us) (u : Int) (e : Ending) (w' : World) : Prop :=
  ∃ v1 v2, e = .returned (.tuple #[v1, v2]) ∧ RowN w' W.heap.size v1 (match ofU us u with | some p => ownersF p.1 | none => []) ∧ RowN w' W.heap.size v2 (match ofU us u with | some p => ownersF p.2 | none => []) ∧ Below W.heap.size W w'
set_option maxHeartbeats 1000000 in
set_option maxRecDepth 100000 in
theorem ownersC_any (own : Nat → Nat) (c ub : Nat) (cells : List Value) (us : Us) (N : Nat) (u : Int) (W : World) (hC : CalIn W own c ub cells us) (hN : Small us N) (hm : N ≤ 1099511627776) :
    Calls Tryz.prog 20 #[.pointer (some ⟨c, 0, none⟩), .int .i64 u] W (OwnCIs W us u) := by
  have HO := Lib.hid (of_u own c ub cells us u W hC)
  unfold OwnCIs
  rcases uptr_cases hC u with ⟨h1, h2⟩ | ⟨p, n, h0, hn, hp, h1, h2⟩
  · rw [h2] at HO
    rw [h1]
    clear hC hN h1 h2
    go_enter Tryz.func20, Tryz.ntmps20
    go_wp2_with fail
    refine HO.out.mono ?_
    rintro e w1 ⟨rfl, rfl⟩
    go_wp2
    go_ret2
    exact ⟨_, _, rfl, own_nil _ _ _ _, own_nil _ _ _ _, Below.refl _ _⟩
  · obtain ⟨sb, s, r, k1, k2, k3, k4, k5⟩ := hC.each n (some p) hp
    rw [h2, k1] at HO
    rw [h1]
    have c0 : W.cell? ⟨sb, 0, none⟩ = some (.pointer (some ⟨s, 0, none⟩)) := blk_cell k2 0
    have c1 : W.cell? ⟨sb, 1, none⟩ = some (.pointer (some ⟨r, 0, none⟩)) := blk_cell k2 1
    have hsb := blk_lt k2
    have hNp := hN p (List.mem_of_getElem? hp)
    have hl1 : p.1.length ≤ 1099511627776 := by omega
    have hl2 : p.2.length ≤ 1099511627776 := by omega
    have HA : Hid (∀ w', Below W.heap.size W w' → Calls Tryz.prog 51 #[.pointer (some ⟨s, 0, none⟩)] w' (OwnersIs w' p.1)) := Lib.hid (fun w' hb => owners_any _ s p.1 w' (k4.below hb) hl1)
    have HB : Hid (∀ w', Below W.heap.size W w' → Calls Tryz.prog 51 #[.pointer (some ⟨r, 0, none⟩)] w' (OwnersIs w' p.2)) := Lib.hid (fun w' hb => owners_any _ r p.2 w' (k5.below hb) hl2)
    have HA0 := Lib.hid (HA.out W.drew (below_drew (Below.refl _ _)))
    have HB0 := Lib.hid (HB.out W.drew (below_drew (Below.refl _ _)))
    clear hC hN h0 hp h1 h2 k1 k2 k4 k5 hNp hl1 hl2
    go_enter Tryz.func20, Tryz.ntmps20
    go_wp2_with fail
    refine HO.out.mono ?_
    rintro e w1 ⟨rfl, rfl⟩
    go_wp2_with fail
    go_region_held3 (fun w' => w'.cell? ⟨sb, 0, none⟩ = some (.pointer (some ⟨s, 0, none⟩)) ∧ w'.cell? ⟨sb, 1, none⟩ = some (.pointer (some ⟨r, 0, none⟩)))
      (((try dsimp only); (repeat' apply And.intro) <;> first | (with_reducible assumption) | go_keep))
      (first
        | (go_at_call 51; (with_reducible refine HA0.out.mono ?_); rintro e w5 ⟨v5, rfl, hr5, hb5⟩; (have hz5 : Below w1.heap.size w1 w5 := below_then (below_drew (Below.refl _ _)) (Nat.le_refl _) hb5); (have hk5 := (hz5.cell (p := ⟨sb, 0, none⟩) hsb).trans c0); (have hk6 := (hz5.cell (p := ⟨sb, 1, none⟩) hsb).trans c1); (have HB5 := Lib.hid (HB.out w5 hz5)))
        | (go_at_call 51; (with_reducible refine HB5.out.mono ?_); rintro e w6 ⟨v6, rfl, hr6, hb6⟩; (have hz6 : Below w1.heap.size w1 w6 := hz5.trans (hb6.mono hz5.size)); (have hk7 := (hz6.cell (p := ⟨sb, 0, none⟩) hsb).trans c0); (have hk8 := (hz6.cell (p := ⟨sb, 1, none⟩) hsb).trans c1))
        | (go_at_call 51; (with_reducible refine HB0.out.mono ?_); rintro e w7 ⟨v7, rfl, hr7, hb7⟩; (have hz7 : Below w1.heap.size w1 w7 := below_then (below_drew (Below.refl _ _)) (Nat.le_refl _) hb7); (have hk5 := (hz7.cell (p := ⟨sb, 0, none⟩) hsb).trans c0); (have hk6 := (hz7.cell (p := ⟨sb, 1, none⟩) hsb).trans c1); (have HA7 := Lib.hid (HA.out w7 hz7)))
        | (go_at_call 51; (with_reducible refine HA7.out.mono ?_); rintro e w8 ⟨v8, rfl, hr8, hb8⟩; (have hz8 : Below w1.heap.size w1 w8 := hz7.trans (hb8.mono hz7.size)); (have hk7 := (hz8.cell (p := ⟨sb, 0, none⟩) hsb).trans c0); (have hk8 := (hz8.cell (p := ⟨sb, 1, none⟩) hsb).trans c1)))
    all_goals
      go_wp2
      go_ret2
      first
        | exact ⟨v5, v6, rfl, pw_own_below hr5 hb6, own_weaken hr6 hz5.size, hz6⟩
        | exact ⟨v8, v7, rfl, own_weaken hr8 hz7.size, pw_own_below hr7 hb8, hz8⟩
end Go.Proofs.YtohpimfanplloaaGreat.CalQ
