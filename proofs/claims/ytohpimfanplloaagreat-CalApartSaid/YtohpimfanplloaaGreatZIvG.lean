/- A set's Remove, Of, Cut, and a new one. -/
import Derived.Test.YtohpimfanplloaaGreatZIvF
import Derived.Test.YtohpimfanplloaaGreatZV
import Derived.WalkKit
import Derived.WalkSpells
import Derived.Lib.Hide
import Derived.Maps.AppendAt
set_option linter.unusedVariables false
set_option linter.unusedSimpArgs false
namespace Go.Proofs.YtohpimfanplloaaGreat.IvG
open Go.RowKit Go.Proofs.YtohpimfanplloaaGreatW.PrintWords Go.Proofs.YtohpimfanplloaaGreatW.PrintLast Go.Proofs.YtohpimfanplloaaGreatW.PrintMore Go.Proofs.YtohpimfanplloaaGreat.PureI1 Go.Proofs.YtohpimfanplloaaGreat.PureI2 Go.Proofs.YtohpimfanplloaaGreat.IvA Go.Proofs.YtohpimfanplloaaGreat.IvB Go.Proofs.YtohpimfanplloaaGreat.IvC Go.Proofs.YtohpimfanplloaaGreat.IvD Go.Proofs.YtohpimfanplloaaGreat.IvE Go.Proofs.YtohpimfanplloaaGreat.IvF
/-- As Kept, and of the world outside nothing has turned. -/
structure Kept5 (w W : World) (S : Nat → Prop) : Prop where
  size : w.heap.size ≤ W.heap.size
  block : ∀ i, i < w.heap.size → ¬ S i → W.heap[i]? = w.heap[i]?
  os : W.os = w.os
  tape : W.tape = w.tape
  output : W.output = w.output
theorem Kept5.refl (w : World) (S : Nat → Prop) : Kept5 w w S := ⟨Nat.le_refl _, fun _ _ _ => rfl, rfl, rfl, rfl⟩
theorem Kept5.of_below {w W : World} (h : Below w.heap.size w W) (S : Nat → Prop) : Kept5 w W S := ⟨h.size, fun i hi _ => h.block i hi, h.os, h.tape, h.output⟩
theorem Kept5.mono {w W : World} {S S' : Nat → Prop} (h : Kept5 w W S) (hs : ∀ k, S k → S' k) : Kept5 w W S' := ⟨h.1, fun i hi hn => h.2 i hi (fun hk => hn (hs i hk)), h.os, h.tape, h.output⟩
theorem Kept5.then_ {w W W2 : World} {S S2 : Nat → Prop} (h : Kept5 w W S) (k : Kept5 W W2 S2) (hs : ∀ k, S2 k → S k ∨ w.heap.size ≤ k) : Kept5 w W2 S :=
  ⟨Nat.le_trans h.1 k.1, fun i hi hn => (k.2 i (Nat.lt_of_lt_of_le hi h.1) (fun h2 => (hs i h2).elim hn (fun h3 => by omega))).trans (h.2 i hi hn), k.os.trans h.os, k.tape.trans h.tape, k.output.trans h.output⟩
theorem Kept5.of_grown {w W W2 : World} {S : Nat → Prop} {row : Option Nat} (hg : W.grownBy W2 row) (h : Kept5 w W S) (hr : ∀ k, row = some k → S k ∨ w.heap.size ≤ k) : Kept5 w W2 S :=
  h.then_ (S2 := fun k => row = some k) ⟨hg.size, fun i hi hn => hg.block i hi (fun he => hn he.symm), hg.os, hg.tape, hg.output⟩ hr
theorem Kept5.below {w W W2 : World} {S : Nat → Prop} (h : Kept5 w W S) (hb : Below W.heap.size W W2) : Kept5 w W2 S := h.then_ (Kept5.of_below hb (fun _ => False)) (fun _ hk => hk.elim)
theorem Kept5.alloc {w W : World} {S : Nat → Prop} (h : Kept5 w W S) (o : Obj) : Kept5 w (W.alloc o) S := h.below (below_alloc (Below.refl _ _) o)
theorem Kept5.drew {w W : World} {S : Nat → Prop} (h : Kept5 w W S) : Kept5 w W.drew S := h.below (below_drew (Below.refl _ _))
theorem Kept5.setCell {w W : World} {S : Nat → Prop} (h : Kept5 w W S) {p : Addr} (hp : S p.block ∨ w.heap.size ≤ p.block) (u : Value) : Kept5 w (W.setCell p u) S :=
  h.then_ (S2 := fun k => k = p.block) ⟨by simp [World.setCell], fun i _ hn => Below.heap_setCell W p u i hn, by simp [World.setCell], by simp [World.setCell], by simp [World.setCell]⟩ (fun k hk => by rw [hk]; exact hp)
theorem Kept5.kept {w W : World} {S : Nat → Prop} (h : Kept5 w W S) : Kept w W S := ⟨h.1, h.2⟩
theorem blk_kept5 {W W2 : World} {S : Nat → Prop} {g : Nat} {o : Obj} (hb : W.heap[g]? = some o) (hk : Kept5 W W2 S) (hne : ¬ S g) : W2.heap[g]? = some o := (hk.2 g (blk_lt hb) hne).trans hb
/-- What is kept but for blocks that are new since an elder world. -/
theorem Kept5.elder {w0 w W : World} {S : Nat → Prop} (hb : Below w0.heap.size w0 w) (h : Kept5 w W S) (hS : ∀ k, S k → w0.heap.size ≤ k) : Below w0.heap.size w0 W :=
  ⟨h.os.trans hb.os, h.tape.trans hb.tape, h.output.trans hb.output, Nat.le_trans hb.size h.size, fun k hk => (h.block k (Nat.lt_of_lt_of_le hk hb.size) (fun hs => by have := hS k hs; omega)).trans (hb.block k hk)⟩
attribute [local go_sem] max2_int min2_int max_two min_two

/-- A row and a set lie in two blocks. -/
theorem row_ne {W : World} {base b n : Nat} {v v0 : Value} {xs : List Value} (h : W.ownsRow base 46 3 v n xs) (hb : W.heap[b]? = some (.cells #[v0] 122 (0, 0))) : v.ownBlock ≠ some b := by
  intro he
  rcases h.2 with ⟨rfl, _⟩ | ⟨g, cap, cur, rfl, _, hg, _⟩
  · cases he
  · cases he
    rw [hb] at hg
    cases hg
theorem set_store {W : World} {F : Nat → Prop} {b : Nat} {v v' : Value} {L : List Tg} (hF : F b) (hI : Inv L) (hb : W.heap[b]? = some (.cells #[v] 122 (0, 0))) (hr : RowT W 0 v' L) (hk : ∀ k, v'.ownBlock = some k → F k) :
    SetAt (W.setCell ⟨b, 0, none⟩ v') F b L := by
  refine ⟨hF, hI, v', ?_, own_setCell hr (fun he => row_ne hr hb he.symm) _, hk⟩
  have := blk_set hb 0 v'
  simpa using this
def RemIs (W : World) (F : Nat → Prop) (b : Nat) (L : List Tg) (o : Int) (e : Ending) (w' : World) : Prop :=
  (∃ r : Int, e = .returned (.int .i64 r)) ∧ SetAt w' (fun k => F k ∨ W.heap.size ≤ k) b (remove L o) ∧ Kept5 W w' F
set_option maxHeartbeats 1000000 in
theorem remove_any (F : Nat → Prop) (b : Nat) (L : List Tg) (o : Int) (W : World) (hS : SetAt W F b L) (hm : L.length ≤ 1099511627776) :
    Calls Tryz.prog 48 #[.pointer (some ⟨b, 0, none⟩), .int .i64 o] W (RemIs W F b L o) := by
  obtain ⟨hF, hI, v, hblk, hrow, hvF⟩ := hS
  obtain ⟨A, c, rfl⟩ := own_slice hrow
  have HR := Lib.hid hrow
  have HB := Lib.hid hblk
  have HI := Lib.hid hI
  have HVF := Lib.hid hvF
  have HF := Lib.hid hF
  have c0 : W.cell? ⟨b, 0, none⟩ = some (.slice A L.length c) := blk_cell hblk 0
  have hbn := blk_lt hblk
  have hne : b ≠ W.heap.size := by omega
  have hne' : W.heap.size ≠ b := by omega
  clear hblk hrow hI hvF hF
  go_enter Tryz.func48, Tryz.ntmps48
  go_wp2_with fail
  refine (del_any 0 _ L o W.heap.size _ (HR.out.alloc _) hm (by simp) (fun he => by have := (HR.out.lt _ he).2; omega)).mono ?_
  rintro e w1 ⟨v', rfl, hrow, hown, hgr⟩
  have hle : (remove L o).length ≤ L.length := List.length_filter_le _ _
  obtain ⟨A', c', rfl⟩ := own_slice hrow
  have hblk : w1.heap[b]? = some (.cells #[.slice A L.length c] 122 (0, 0)) := (hgr.block b (by simp; omega) (fun he => row_ne HR.out HB.out he.symm)).trans (blk_alloc HB.out _)
  have hk : Kept5 W (w1.setCell ⟨b, 0, none⟩ (.slice A' (remove L o).length c')) F := ((Kept5.of_grown hgr ((Kept5.refl W F).alloc _) (fun k hk => .inl (HVF.out k hk)))).setCell (.inl HF.out) _
  have hs : SetAt (w1.setCell ⟨b, 0, none⟩ (.slice A' (remove L o).length c')) (fun k => F k ∨ W.heap.size ≤ k) b (remove L o) := set_store (.inl HF.out) (HI.out.remove o) hblk hrow (fun k hk => .inl (HVF.out k (by rw [← hown]; exact hk)))
  have f0 := blk_frozen hblk 0
  have c1 : w1.cell? ⟨b, 0, none⟩ = some (.slice A L.length c) := blk_cell hblk 0
  have HK := Lib.hid hk
  have HS := Lib.hid hs
  clear hk hs hblk hgr hrow hown
  go_wp2
  go_ret
  exact ⟨⟨_, rfl⟩, HS.out, HK.out⟩

def OfAt (W : World) (L : List Tg) (o : Int) (k : Nat) (v : Value) (wr : World) : Prop := RowS wr W.heap.size v (ofo (L.take k) o) ∧ Below W.heap.size W wr
theorem ofo_snoc (L : List Tg) (t : Tg) (o : Int) : ofo (L ++ [t]) o = if t.2 = o then ofo L o ++ [t.1] else ofo L o := by
  unfold ofo
  by_cases h : t.2 = o <;> simp [h]
theorem ofo_le (L : List Tg) (o : Int) (k : Nat) : (ofo (L.take k) o).length ≤ L.length := by
  unfold ofo
  rw [List.length_map]
  exact Nat.le_trans (List.length_filter_le _ _) (by rw [List.length_take]; omega)
set_option maxHeartbeats 1000000 in
set_option maxRecDepth 100000 in
theorem of_any (F : Nat → Prop) (b : Nat) (L : List Tg) (o : Int) (W : World) (hS : SetAt W F b L) (hm : L.length ≤ 1099511627776) :
    Calls Tryz.prog 46 #[.pointer (some ⟨b, 0, none⟩), .int .i64 o] W fun e w' => ∃ v, e = .returned v ∧ RowS w' W.heap.size v (ofo L o) ∧ Below W.heap.size W w' := by
  obtain ⟨i0, hi, hz0, hz1, hz2⟩ := info_parts info_sp
  obtain ⟨_, _, v0, hblk, hrow, _⟩ := hS
  obtain ⟨A, c, rfl⟩ := own_slice hrow
  have HR := Lib.hid hrow
  have c0 : W.cell? ⟨b, 0, none⟩ = some (.slice A L.length c) := blk_cell hblk 0
  clear hblk hrow
  go_enter Tryz.func46, Tryz.ntmps46
  go_wp2
  clear c0
  go_loopw [5, 13] (fun v i wr => ∃ (k : Nat) (v0 : Value), v0 = v ∧ k ≤ L.length ∧ i = .int .i64 k ∧ Hid (OfAt W L o k v0 wr)) (fun _ i _ => L.length - (intOf i).toNat)
  case atStart => exact ⟨0, _, rfl, Nat.zero_le _, rfl, Lib.hid ⟨own_nil _ _ _ _, Below.refl _ _⟩⟩
  case round =>
    obtain ⟨k, v, rfl, hk, rfl, HA⟩ := hrel
    have hB : Below W.heap.size W wr := HA.out.2
    have hbs := hB.size
    have HO : Hid (RowS wr W.heap.size v (ofo (L.take k) o)) := HA.out.1
    have HBl := Lib.hid hB
    have hle := ofo_le L o k
    clear hB
    by_cases hlt : k < L.length
    · obtain ⟨_, h0⟩ | ⟨g, c', hv, _, _, hg⟩ := row_slice HR.out
      · omega
      cases hv
      obtain ⟨t0, t1, t2, _⟩ := tg_cells (pw_own_below HR.out HBl.out) k hlt
      have hn : ofo (L.take (k + 1)) o = if (rdT L k).2 = o then ofo (L.take k) o ++ [(rdT L k).1] else ofo (L.take k) o := by rw [take_snoc' L k hlt ((0, 0), 0), ofo_snoc]; rfl
      generalize hy : rdT L k = y at t0 t1 t2 hn
      clear hy
      have hng : wr.heap.size ≠ g := by omega
      have HN := Lib.hid hn
      clear hn HA
      generalize ofo (L.take k) o = xs at *
      by_cases hq : y.2 = o
      · have d1 : (y.2 == o) = true := by simp [hq]
        go_wp2_with (at_builtin; refine wpList_append_own_at _ rfl _ _ 33 rfl W.heap.size 42 i0 (.agg #[.int .i64 0, .int .i64 0]) 2 16 Tryz.underlying33 hi hz0 hz1 hz2 rfl (by decide) _ xs.length _ rfl ((HO.out.alloc _).alloc _) ⟨wr.heap.size + 1, 0, none⟩ 1 1 (Go.Proofs.YtohpimfanplloaaGreat.IvA.encS y.1) rfl rfl (news_of (newAt _ _ _ (by simp))) (oneS1 y.1) (by unfold maxLen; omega) (by omega) (by simp; omega) ?_; intro v' w1 hown' hgrow _ hat)
        go_roundw
        case measure => simp [intOf]; omega
        case rel =>
          refine ⟨k + 1, v', rfl, by omega, by go_num, Lib.hid ⟨?_, ?_⟩⟩
          · rw [HN.out, if_pos hq]
            simpa [RowS, List.flatMap_append] using hown'
          · exact ((HBl.out.alloc hbs _).alloc (by simp; omega) _).grown hgrow (by simp; omega) (fun k hk => (HO.out.lt k hk).1)
      · have d1 : (y.2 == o) = false := by simp [hq]
        go_wp2
        go_roundw
        case measure => simp [intOf]; omega
        case rel => exact ⟨k + 1, v, rfl, by omega, by go_num, Lib.hid ⟨by rw [HN.out, if_neg hq]; exact HO.out.alloc _, HBl.out.alloc hbs _⟩⟩
    · obtain rfl : k = L.length := by omega
      rw [List.take_length] at HO
      clear HA
      go_wp2
      go_ret
      exact ⟨v, rfl, HO.out, HBl.out⟩

def cutL (L : List Tg) (lo hi : Int) : List Sp := L.map fun t => (max t.1.1 lo, min t.1.2 hi)
def CutAt (W : World) (L : List Tg) (lo hi : Int) (k : Nat) (v : Value) (wr : World) : Prop := RowS wr W.heap.size v (cutL (L.take k) lo hi) ∧ Below W.heap.size W wr
set_option maxHeartbeats 1000000 in
set_option maxRecDepth 100000 in
theorem cut_any (F : Nat → Prop) (b : Nat) (L : List Tg) (lo hi : Int) (W : World) (hS : SetAt W F b L) (hm : L.length ≤ 1099511627776) :
    Calls Tryz.prog 42 #[.pointer (some ⟨b, 0, none⟩), .int .i64 lo, .int .i64 hi] W fun e w' => ∃ v, e = .returned v ∧ RowS w' W.heap.size v (cut L lo hi) ∧ Below W.heap.size W w' := by
  obtain ⟨i0, hinf, hz0, hz1, hz2⟩ := info_parts info_sp
  obtain ⟨_, _, v0, hblk, hrow, _⟩ := hS
  obtain ⟨A, c, rfl⟩ := own_slice hrow
  have HR := Lib.hid hrow
  have c0 : W.cell? ⟨b, 0, none⟩ = some (.slice A L.length c) := blk_cell hblk 0
  clear hblk hrow
  go_enter Tryz.func42, Tryz.ntmps42
  go_wp2
  clear c0
  go_loopw [7, 15] (fun v i wr => ∃ (k : Nat) (v0 : Value), v0 = v ∧ k ≤ L.length ∧ i = .int .i64 k ∧ Hid (CutAt W L lo hi k v0 wr)) (fun _ i _ => L.length - (intOf i).toNat)
  case atStart => exact ⟨0, _, rfl, Nat.zero_le _, rfl, Lib.hid ⟨own_nil _ _ _ _, Below.refl _ _⟩⟩
  case round =>
    obtain ⟨k, v, rfl, hk, rfl, HA⟩ := hrel
    have hB : Below W.heap.size W wr := HA.out.2
    have hbs := hB.size
    have HO : Hid (RowS wr W.heap.size v (cutL (L.take k) lo hi)) := HA.out.1
    have HBl := Lib.hid hB
    have hle : (cutL (L.take k) lo hi).length ≤ L.length := by unfold cutL; rw [List.length_map, List.length_take]; omega
    clear hB
    by_cases hlt : k < L.length
    · obtain ⟨_, h0⟩ | ⟨g, c', hv, _, _, hg⟩ := row_slice HR.out
      · omega
      cases hv
      obtain ⟨t0, t1, t2, _⟩ := tg_cells (pw_own_below HR.out HBl.out) k hlt
      have hn : cutL (L.take (k + 1)) lo hi = cutL (L.take k) lo hi ++ [(if (rdT L k).1.1 < lo then lo else (rdT L k).1.1, if hi < (rdT L k).1.2 then hi else (rdT L k).1.2)] := by
        rw [take_snoc' L k hlt ((0, 0), 0)]
        unfold cutL
        rw [List.map_append]
        congr 1
        simp only [List.map_cons, List.map_nil]
        congr 1
        show (max (rdT L k).1.1 lo, min (rdT L k).1.2 hi) = _
        rw [Int.max_def, Int.min_def]
        congr 1
        · split <;> split <;> omega
        · split <;> split <;> omega
      generalize hy : rdT L k = y at t0 t1 t2 hn
      clear hy
      have hng : wr.heap.size ≠ g := by omega
      have HN := Lib.hid hn
      clear hn HA
      generalize cutL (L.take k) lo hi = xs at *
      go_wp2_with (at_builtin; refine wpList_append_own_at _ rfl _ _ 33 rfl W.heap.size 42 i0 (.agg #[.int .i64 0, .int .i64 0]) 2 16 Tryz.underlying33 hinf hz0 hz1 hz2 rfl (by decide) _ xs.length _ rfl ((HO.out.alloc _).alloc _) ⟨wr.heap.size + 1, 0, none⟩ 1 1 (Go.Proofs.YtohpimfanplloaaGreat.IvA.encS (if y.1.1 < lo then lo else y.1.1, if hi < y.1.2 then hi else y.1.2)) rfl rfl (news_of (newAt _ _ _ (by simp))) (oneS1 _) (by unfold maxLen; omega) (by omega) (by simp; omega) ?_; intro v' w1 hown' hgrow _ hat)
      go_roundw
      case measure => simp [intOf]; omega
      case rel =>
        refine ⟨k + 1, v', rfl, by omega, by go_num, Lib.hid ⟨?_, ?_⟩⟩
        · rw [HN.out]
          simpa [RowS, List.flatMap_append] using hown'
        · exact ((HBl.out.alloc hbs _).alloc (by simp; omega) _).grown hgrow (by simp; omega) (fun k hk => (HO.out.lt k hk).1)
    · obtain rfl : k = L.length := by omega
      rw [List.take_length] at HO hle
      clear HA
      obtain ⟨A1, c1, rfl, hc1, hC1⟩ := row_readsS HO.out (by omega)
      have HC1 := Lib.hid hC1
      clear hC1 HO
      go_wp2_with fail
      refine (norm_any A1 c1 (cutL L lo hi) _ HC1.out hc1 (by omega)).mono ?_
      rintro e w1 ⟨v, rfl, hrow, hb⟩
      have HRow := Lib.hid hrow
      have HB1 := Lib.hid (HBl.out.trans (hb.mono hbs))
      clear hrow hb
      go_wp2
      go_ret
      exact ⟨v, rfl, own_weaken HRow.out hbs, HB1.out⟩

theorem new_any (W : World) : Calls Tryz.prog 40 #[] W fun e w' => e = .returned (.pointer (some ⟨W.heap.size, 0, none⟩)) ∧ SetAt w' (fun k => k = W.heap.size) W.heap.size [] ∧ w' = W.alloc (.cells #[.slice none 0 0] 122) := by
  go_enter Tryz.func40, Tryz.ntmps40
  go_wp2
  go_ret
  exact ⟨rfl, ⟨rfl, Inv.nil, _, newAt W _ _ rfl, own_nil _ _ _ _, fun k hk => by cases hk⟩, rfl⟩
end Go.Proofs.YtohpimfanplloaaGreat.IvG
