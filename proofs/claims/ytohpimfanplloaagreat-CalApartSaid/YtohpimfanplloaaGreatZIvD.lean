/- clash and Clash: the first span of a set that overlaps one of a list's. -/
import Derived.Test.YtohpimfanplloaaGreatZIvC
import Derived.WalkKit
import Derived.WalkSpells
import Derived.Lib.Hide
import Derived.Deep.QuietTactic
import Derived.BigQuiet
import Derived.BigRegion
import Derived.Deep.RegionHeld3
set_option linter.unusedVariables false
set_option linter.unusedSimpArgs false
namespace Go.Proofs.YtohpimfanplloaaGreat.IvD
open Go.RowKit Go.Proofs.YtohpimfanplloaaGreatW.PrintWords Go.Proofs.YtohpimfanplloaaGreatW.PrintLast Go.Proofs.YtohpimfanplloaaGreatW.PrintMore Go.Proofs.YtohpimfanplloaaGreat.PureI1 Go.Proofs.YtohpimfanplloaaGreat.PureI2 Go.Proofs.YtohpimfanplloaaGreat.IvA Go.Proofs.YtohpimfanplloaaGreat.IvB Go.Proofs.YtohpimfanplloaaGreat.IvC

def ClashAt (W : World) (L : List Tg) (xs : List Sp) (but : Int) (k : Nat) (wr : World) : Prop := clash L (xs.take k) but = none ∧ wr.heap[W.heap.size]? = some (.cells #[.int .i64 0, .int .i64 0, .int .i64 0] 46 (0, 0)) ∧ Below W.heap.size W wr
theorem clash_snoc (L : List Tg) (xs : List Sp) (x : Sp) (but : Int) (h : clash L xs but = none) : clash L (xs ++ [x]) but = meets L x but := by
  unfold clash at *
  rw [List.findSome?_append, h]
  simp
theorem clash_take (L : List Tg) (xs : List Sp) (k : Nat) (hk : k < xs.length) (but : Int) (h : clash L (xs.take k) but = none) : clash L (xs.take (k + 1)) but = meets L (rdS xs k) but := by
  rw [take_snoc' xs k hk (0, 0)]
  exact clash_snoc L _ _ but h
theorem clash_some (L : List Tg) (xs : List Sp) (k : Nat) (but : Int) (t : Tg) (h : clash L (xs.take k) but = some t) : clash L xs but = some t := by
  unfold clash at *
  rw [← List.take_append_drop k xs, List.findSome?_append, h]
  rfl
set_option maxHeartbeats 1000000 in
set_option maxRecDepth 100000 in
theorem clash0_any (F : Nat → Prop) (b : Nat) (L : List Tg) (A : Option Addr) (c : Nat) (xs : List Sp) (but : Int) (W : World) (hS : SetAt W F b L) (hm : L.length ≤ 1099511627776) (hr : Kd.C kSp W A xs.length xs) (hc : xs.length ≤ c) (hx : xs.length ≤ 1099511627776) :
    Calls Tryz.prog 71 #[.pointer (some ⟨b, 0, none⟩), .slice A xs.length c, .int .i64 but] W (ResIs W (clash L xs but)) := by
  have HS := Lib.hid hS
  have HR := Lib.hid hr
  have hbn := hS.lt
  clear hS hr
  go_enter Tryz.func71, Tryz.ntmps71
  go_wp2_with fail
  go_loopw [14] (fun i wr => ∃ k : Nat, i = .int .i64 k ∧ k ≤ xs.length ∧ Hid (ClashAt W L xs but k wr)) (fun i _ => xs.length - (intOf i).toNat)
  case atStart => exact ⟨0, by go_num, Nat.zero_le _, Lib.hid ⟨rfl, newAt W _ _ rfl, (Below.refl _ _).alloc (Nat.le_refl _) _⟩⟩
  case round =>
    obtain ⟨k, rfl, hk, HA⟩ := hrel
    have hsz := HA.out.2.2.size
    have r0 : wr.cell? ⟨W.heap.size, 0, none⟩ = some (.int .i64 0) := blk_cell HA.out.2.1 0
    have r1 : wr.cell? ⟨W.heap.size, 1, none⟩ = some (.int .i64 0) := blk_cell HA.out.2.1 1
    have r2 : wr.cell? ⟨W.heap.size, 2, none⟩ = some (.int .i64 0) := blk_cell HA.out.2.1 2
    have f0 := blk_frozen HA.out.2.1 0
    have f1 := blk_frozen HA.out.2.1 1
    have f2 := blk_frozen HA.out.2.1 2
    have hlt0 := blk_lt HA.out.2.1
    have hn0 : W.heap.size ≠ wr.heap.size := by omega
    by_cases hlt : k < xs.length
    · obtain ⟨ad, rfl, hc0, hc1⟩ := at_Sp (Kd.C_below HR.out HA.out.2.2) (k : Int) (by omega) (by omega)
      rw [Int.toNat_natCast] at hc0 hc1
      generalize hx : rdS xs k = x at hc0 hc1
      have Hx := Lib.hid hx
      clear hx
      have n0 := new_ne' wr hc0
      have n1 := new_ne' wr hc1
      have hcl := clash_take L xs k hlt but HA.out.1
      rw [Hx.out] at hcl
      have HCl := Lib.hid hcl
      clear hcl
      go_wp2_with fail
      refine (meets_any F b L x but _ (HS.out.below (HA.out.2.2.trans ((Below.refl _ _).alloc hsz _))) hm).mono ?_
      rintro e w1 ⟨rfl, hb1⟩
      have hz : Below W.heap.size W w1 := (HA.out.2.2.trans ((Below.refl _ _).alloc hsz _)).trans (hb1.mono (by simp; omega))
      have B6 : w1.heap[W.heap.size]? = some (.cells #[.int .i64 0, .int .i64 0, .int .i64 0] 46 (0, 0)) := (hb1.block _ (by simp; omega)).trans (blk_alloc HA.out.2.1 _)
      have HZ := Lib.hid hz
      have HB6 := Lib.hid B6
      have hs1 : W.heap.size < w1.heap.size := blk_lt B6
      have f0 := blk_frozen B6 0
      have f1 := blk_frozen B6 1
      have f2 := blk_frozen B6 2
      have q0 : w1.cell? ⟨W.heap.size, 0, none⟩ = some (.int .i64 0) := blk_cell B6 0
      have q1 : w1.cell? ⟨W.heap.size, 1, none⟩ = some (.int .i64 0) := blk_cell B6 1
      have q2 : w1.cell? ⟨W.heap.size, 2, none⟩ = some (.int .i64 0) := blk_cell B6 2
      clear hz B6 hb1 r0 r1 r2 hlt0 hc0 hc1 n0 n1
      have hn1 : W.heap.size ≠ w1.heap.size := by omega
      cases hmt : meets L x but with
      | none =>
        have HN : Hid (clash L (xs.take (k + 1)) but = none) := by rw [HCl.out]; exact hmt
        clear hmt
        simp only [resT, tgV]
        go_wp2
        go_roundw
        case measure => simp [intOf]; omega
        case rel => exact ⟨k + 1, by go_num, by omega, Lib.hid ⟨HN.out, blk_alloc HB6.out _, HZ.out.alloc (by omega) _⟩⟩
      | some t =>
        have HN : Hid (clash L xs but = some t) := clash_some L xs (k + 1) but t (by rw [HCl.out]; exact hmt)
        clear hmt
        simp only [resT, tgV]
        go_wp2
        exact bodyPost_ret (results_ct rfl _ _ W.heap.size 46 #[.int .i64 t.1.1, .int .i64 t.1.2, .int .i64 t.2] (0, 0) _ rfl (by exact blk_alloc (blk3 HB6.out _ _ _) _) Tryz.underlying46 rfl size_tg) rfl ⟨by rw [HN.out]; rfl, (((HZ.out.setCell (Nat.le_refl _) _).setCell (Nat.le_refl _) _).setCell (Nat.le_refl _) _).alloc (by simp [World.setCell]; omega) _⟩
    · obtain rfl : k = xs.length := by omega
      have HN : Hid (clash L xs but = none) := by have := HA.out.1; rwa [List.take_length] at this
      go_wp2
      exact bodyPost_ret (results_ct rfl _ _ W.heap.size 46 #[.int .i64 0, .int .i64 0, .int .i64 0] (0, 0) _ rfl (by exact blk3 HA.out.2.1 _ _ _) Tryz.underlying46 rfl size_tg) rfl ⟨by rw [HN.out]; rfl, ((HA.out.2.2.setCell (Nat.le_refl _) _).setCell (Nat.le_refl _) _).setCell (Nat.le_refl _) _⟩

set_option maxHeartbeats 1000000 in
set_option maxRecDepth 100000 in
theorem clash_any (F : Nat → Prop) (b : Nat) (L : List Tg) (A : Option Addr) (c : Nat) (xs : List Sp) (but : Int) (W : World) (hS : SetAt W F b L) (hm : L.length ≤ 1099511627776) (hr : Kd.C kSp W A xs.length xs) (hc : xs.length ≤ c) (hx : xs.length ≤ 1099511627776) :
    Calls Tryz.prog 47 #[.pointer (some ⟨b, 0, none⟩), .slice A xs.length c, .int .i64 but] W (ResIs W (clash L (norm xs) but)) := by
  have HS := Lib.hid hS
  have HR := Lib.hid hr
  have hn := norm_len xs
  clear hS hr
  go_enter Tryz.func47, Tryz.ntmps47
  go_wp2_with fail
  refine (norm_any A c xs _ (Kd.C_below HR.out ((Below.refl _ _).alloc (Nat.le_refl _) _)) hc hx).mono ?_
  rintro e w1 ⟨v, rfl, hrow, hb⟩
  obtain ⟨A1, c1, rfl, hc1, hC1⟩ := row_readsS hrow (by omega)
  have hz : Below W.heap.size W w1 := ((Below.refl _ _).alloc (Nat.le_refl _) _).trans (hb.mono (by simp))
  have B6 : w1.heap[W.heap.size]? = some (.cells #[.int .i64 0, .int .i64 0, .int .i64 0] 46 (0, 0)) := (hb.block _ (by simp)).trans (newAt W _ _ rfl)
  have HZ := Lib.hid hz
  have HB6 := Lib.hid B6
  have HC1 := Lib.hid hC1
  clear hz B6 hb hrow hC1
  go_wp2_with fail
  refine (clash0_any F b L A1 c1 (norm xs) but _ (HS.out.below HZ.out) hm HC1.out hc1 (by omega)).mono ?_
  rintro e w2 ⟨rfl, hb2⟩
  have B62 : w2.heap[W.heap.size]? = some (.cells #[.int .i64 0, .int .i64 0, .int .i64 0] 46 (0, 0)) := (hb2.block _ (blk_lt HB6.out)).trans HB6.out
  have HZ2 := Lib.hid (HZ.out.trans (hb2.mono HZ.out.size))
  have HB62 := Lib.hid B62
  have f0 := blk_frozen B62 0
  have f1 := blk_frozen B62 1
  have f2 := blk_frozen B62 2
  have r0 : w2.cell? ⟨W.heap.size, 0, none⟩ = some (.int .i64 0) := blk_cell B62 0
  have r1 : w2.cell? ⟨W.heap.size, 1, none⟩ = some (.int .i64 0) := blk_cell B62 1
  have r2 : w2.cell? ⟨W.heap.size, 2, none⟩ = some (.int .i64 0) := blk_cell B62 2
  clear B62 hb2
  cases hq : clash L (norm xs) but with
  | none =>
    have HN := Lib.hid hq
    clear hq
    simp only [resT, tgV]
    go_wp2
    exact bodyPost_ret (results_ct rfl _ _ W.heap.size 46 #[.int .i64 0, .int .i64 0, .int .i64 0] (0, 0) _ rfl (by exact blk3 HB62.out _ _ _) Tryz.underlying46 rfl size_tg) rfl ⟨by rw [HN.out]; rfl, ((HZ2.out.setCell (Nat.le_refl _) _).setCell (Nat.le_refl _) _).setCell (Nat.le_refl _) _⟩
  | some t =>
    have HN := Lib.hid hq
    clear hq
    simp only [resT, tgV]
    go_wp2
    exact bodyPost_ret (results_ct rfl _ _ W.heap.size 46 #[.int .i64 t.1.1, .int .i64 t.1.2, .int .i64 t.2] (0, 0) _ rfl (by exact blk3 HB62.out _ _ _) Tryz.underlying46 rfl size_tg) rfl ⟨by rw [HN.out]; rfl, ((HZ2.out.setCell (Nat.le_refl _) _).setCell (Nat.le_refl _) _).setCell (Nat.le_refl _) _⟩
end Go.Proofs.YtohpimfanplloaaGreat.IvD
