/- What the walks of the script's laws want: PlainAct hands on what it was given; an act is the same as itself. -/
import Derived.Test.YtohpimfanplloaaGreatDoorZPureS4
import Derived.Test.YtohpimfanplloaaGreatDoorZGCx5
import Derived.WalkKit
import Derived.WalkSpells
import Derived.Lib.Hide
import Derived.Deep.RegionHeld3
set_option linter.unusedVariables false
set_option linter.unusedSimpArgs false
namespace Go.Proofs.YtohpimfanplloaaGreatDoor.AuxS
open Go Go.RowKit Go.Proofs.YtohpimfanplloaaGreatDoorW.PrintWords Go.Proofs.YtohpimfanplloaaGreatDoorW.PrintLast Go.Proofs.YtohpimfanplloaaGreatDoorW.PrintMore Go.Proofs.YtohpimfanplloaaGreatDoor.GC Go.Proofs.YtohpimfanplloaaGreatDoor.PureS1 Go.Proofs.YtohpimfanplloaaGreatDoor.PureS2 Go.Proofs.YtohpimfanplloaaGreatDoor.PureS3 Go.Proofs.YtohpimfanplloaaGreatDoor.PureS4

theorem a0_ok : Ok a0 := ⟨z64, z64, z64, z64, z64, fun y hy => (by cases hy), Nat.zero_le _, fun y hy => (by cases hy), Nat.zero_le _⟩
theorem parse_ok (l : List UInt8) (hl : l.length ≤ 99999) : Ok (parse l).1 := by
  unfold parse
  split
  · exact a0_ok
  · split
    · exact a0_ok
    · split
      · exact rdA_ok _ l hl
      · exact a0_ok
theorem pr_len (x : A8) (h : Ok x) (hu : x.us.length ≤ 300) (ht : x.tx.length ≤ 6000) : (pr x).length ≤ 30000 := by
  unfold pr
  have w1 := wd_len 1
  have wk := wd_len x.k
  have hd := dig_len x.tx
  have hl := lst_len x.us h.us
  have i1 := itoa_len _ h.id
  have i2 := itoa_len _ h.op
  have i3 := itoa_len _ h.old
  have i4 := itoa_len _ h.a
  have i5 := itoa_len _ h.b
  split
  · simp
  · split
    · rw [join_len4, join_len3]; omega
    · rw [join_len2, join_len2]; omega
theorem C_none {α : Type} (d : Kd α) (w : World) : Kd.C d w none ([] : List α).length [] := ⟨rfl, Nat.zero_le _, fun h => absurd h (by simp)⟩
theorem grown_blk {w w1 : World} {row : Option Nat} {g : Nat} {o : Obj} (hg : w.grownBy w1 row) (h : w.heap[g]? = some o) (hr : some g ≠ row) : w1.heap[g]? = some o := (hg.block g (blk_lt h) hr).trans h
def Far (l : List Int) (j : Nat) : Prop := ∀ q : Nat, q < j → -1000000000000000000 < rd l q ∧ rd l q < 1000000000000000000
theorem ints_l0 (l : List Int) (hl : l.length ≤ 1000000) : ∀ d i k : Nat, l.length - i = d → i ≤ l.length → d < k → vokref_Ints.l0 k l l (i : Int) = some true := by
  intro d
  induction d with
  | zero =>
    intro i k hd hi hk
    obtain ⟨k, rfl⟩ : ∃ m, k = m + 1 := ⟨k - 1, by omega⟩
    rw [vokref_Ints.l0, if_neg (by omega)]
  | succ d ih =>
    intro i k hd hi hk
    obtain ⟨k, rfl⟩ : ∃ m, k = m + 1 := ⟨k - 1, by omega⟩
    rw [vokref_Ints.l0, if_pos (by omega), if_pos (by omega), if_pos (by omega), if_pos rfl, w1 i (by omega)]
    exact ih (i + 1) k (by omega) (by omega) (by omega)
theorem same_self (x : A8) (hu : x.us.length ≤ 100000) : voklaw26_same.f 3000000 x.k x.a x.b x.id x.op x.old x.us x.tx x.k x.a x.b x.id x.op x.old x.us x.tx = some true := by
  unfold voklaw26_same.f vokref_Ints.f vokref_Bytes.f
  rw [if_pos rfl, if_pos rfl, if_pos rfl, if_pos rfl, if_pos rfl, if_pos rfl, if_pos rfl]
  have := ints_l0 x.us (by omega) x.us.length 0 3000000 (by omega) (by omega) (by omega)
  rw [show ((0 : Nat) : Int) = 0 from rfl] at this
  rw [this]
  simp
theorem far8 {w : World} {g b : Nat} {o : Obj} (x0 x1 x2 x3 x4 x5 x6 x7 : Value) (h : w.heap[g]? = some o) (hne : g ≠ b) : ((((((((w.setCell ⟨b, 0, none⟩ x0).setCell ⟨b, 1, none⟩ x1).setCell ⟨b, 2, none⟩ x2).setCell ⟨b, 3, none⟩ x3).setCell ⟨b, 4, none⟩ x4).setCell ⟨b, 5, none⟩ x5).setCell ⟨b, 6, none⟩ x6).setCell ⟨b, 7, none⟩ x7).heap[g]? = some o := by
  have far : ∀ {w : World} (i : Nat) (u : Value), w.heap[g]? = some o → (w.setCell ⟨b, i, none⟩ u).heap[g]? = some o := fun {w} i u h => (Below.heap_setCell w ⟨b, i, none⟩ u g hne).trans h
  exact far 7 x7 (far 6 x6 (far 5 x5 (far 4 x4 (far 3 x3 (far 2 x2 (far 1 x1 (far 0 x0 h)))))))
theorem put8 {w : World} {g : Nat} {t : TypeId} {o0 o1 o2 o3 o4 o5 o6 o7 : Value} (x0 x1 x2 x3 x4 x5 x6 x7 : Value) (h : w.heap[g]? = some (.cells #[o0, o1, o2, o3, o4, o5, o6, o7] t (0, 0))) : ((((((((w.setCell ⟨g, 0, none⟩ x0).setCell ⟨g, 1, none⟩ x1).setCell ⟨g, 2, none⟩ x2).setCell ⟨g, 3, none⟩ x3).setCell ⟨g, 4, none⟩ x4).setCell ⟨g, 5, none⟩ x5).setCell ⟨g, 6, none⟩ x6).setCell ⟨g, 7, none⟩ x7).heap[g]? = some (.cells #[x0, x1, x2, x3, x4, x5, x6, x7] t (0, 0)) := by
  have q := (blk_set (blk_set (blk_set (blk_set (blk_set (blk_set (blk_set (blk_set h 0 x0) 1 x1) 2 x2) 3 x3) 4 x4) 5 x5) 6 x6) 7 x7)
  simp only [List.setIfInBounds_toArray, List.set_cons_succ, List.set_cons_zero] at q
  exact q
theorem below8 {B : Nat} {w0 w : World} {b : Nat} (x0 x1 x2 x3 x4 x5 x6 x7 : Value) (h : Below B w0 w) (hb : B ≤ b) : Below B w0 ((((((((w.setCell ⟨b, 0, none⟩ x0).setCell ⟨b, 1, none⟩ x1).setCell ⟨b, 2, none⟩ x2).setCell ⟨b, 3, none⟩ x3).setCell ⟨b, 4, none⟩ x4).setCell ⟨b, 5, none⟩ x5).setCell ⟨b, 6, none⟩ x6).setCell ⟨b, 7, none⟩ x7) :=
  (((((((h.setCell (p := ⟨b, 0, none⟩) hb x0).setCell (p := ⟨b, 1, none⟩) hb x1).setCell (p := ⟨b, 2, none⟩) hb x2).setCell (p := ⟨b, 3, none⟩) hb x3).setCell (p := ⟨b, 4, none⟩) hb x4).setCell (p := ⟨b, 5, none⟩) hb x5).setCell (p := ⟨b, 6, none⟩) hb x6).setCell (p := ⟨b, 7, none⟩) hb x7
set_option maxRecDepth 100000 in
set_option maxHeartbeats 4000000 in
theorem plainreq_any (id op old : Int) (AU AT : Option Addr) (nu cu nt ct : Nat) (w : World) :
    Calls Tryz.prog 21 #[.agg #[.int .i64 id, .int .i64 op, .int .i64 old, .slice AU nu cu, .slice AT nt ct]] w
      (fun e w' => e = .returned (.agg #[.int .i64 id, .int .i64 op, .int .i64 old, .slice AU nu cu, .slice AT nt ct]) ∧ Below w.heap.size w w') := by
  have hu1 := Tryz.underlying36
  have hu2 := Tryz.underlying39
  have hbl := ((Below.refl w.heap.size w).alloc (Nat.le_refl _) (.cells #[.int .i64 id, .int .i64 op, .int .i64 old, .slice AU nu cu, .slice AT nt ct] 36)).alloc (by simp) (.cells #[.int .i64 id, .int .i64 op, .int .i64 old, .slice AU nu cu, .slice AT nt ct] 39)
  have HB := Lib.hid hbl
  clear hbl
  go_enter Tryz.func21, Tryz.ntmps21
  go_wp2
  (try simp only [Exit.inBlock, Exit.then])
  have hnew := blk_new (w.alloc (.cells #[.int .i64 id, .int .i64 op, .int .i64 old, .slice AU nu cu, .slice AT nt ct] 36)) (.cells #[.int .i64 id, .int .i64 op, .int .i64 old, .slice AU nu cu, .slice AT nt ct] 39)
  rw [show (w.alloc (.cells #[.int .i64 id, .int .i64 op, .int .i64 old, .slice AU nu cu, .slice AT nt ct] 36)).heap.size = w.heap.size + 1 by simp] at hnew
  refine bodyPost_ret (results_cell_row rfl _ _ (w.heap.size + 1) 39 _ (0, 0) _ rfl hnew hu2 rfl (by kernel_rfl)) rfl ?_
  exact ⟨rfl, HB.out⟩
set_option maxRecDepth 100000 in
set_option maxHeartbeats 4000000 in
theorem plain_any (k a b id op old : Int) (AU AT : Option Addr) (nu cu nt ct : Nat) (w : World) :
    Calls Tryz.prog 8 #[.agg #[.int .i64 k, .int .i64 a, .int .i64 b, .int .i64 id, .int .i64 op, .int .i64 old, .slice AU nu cu, .slice AT nt ct]] w
      (fun e w' => e = .returned (.agg #[.int .i64 k, .int .i64 a, .int .i64 b, .int .i64 id, .int .i64 op, .int .i64 old, .slice AU nu cu, .slice AT nt ct]) ∧ Below w.heap.size w w') := by
  have hu1 := Tryz.underlying36
  have hu2 := Tryz.underlying39
  have hu3 := Tryz.underlying38
  have hu4 := Tryz.underlying41
  have HA := Lib.hid (blk_alloc (blk_new w (.cells #[.int .i64 k, .int .i64 a, .int .i64 b, .int .i64 id, .int .i64 op, .int .i64 old, .slice AU nu cu, .slice AT nt ct] 38)) (.cells #[.int .i64 0, .int .i64 0, .int .i64 0, .int .i64 0, .int .i64 0, .int .i64 0, .slice none 0 0, .slice none 0 0] 41))
  have HV := Lib.hid (blk_new (w.alloc (.cells #[.int .i64 k, .int .i64 a, .int .i64 b, .int .i64 id, .int .i64 op, .int .i64 old, .slice AU nu cu, .slice AT nt ct] 38)) (.cells #[.int .i64 0, .int .i64 0, .int .i64 0, .int .i64 0, .int .i64 0, .int .i64 0, .slice none 0 0, .slice none 0 0] 41))
  rw [show (w.alloc (.cells #[.int .i64 k, .int .i64 a, .int .i64 b, .int .i64 id, .int .i64 op, .int .i64 old, .slice AU nu cu, .slice AT nt ct] 38)).heap.size = w.heap.size + 1 by simp] at HV
  have HB := Lib.hid (((Below.refl w.heap.size w).alloc (Nat.le_refl _) (.cells #[.int .i64 k, .int .i64 a, .int .i64 b, .int .i64 id, .int .i64 op, .int .i64 old, .slice AU nu cu, .slice AT nt ct] 38)).alloc (by simp) (.cells #[.int .i64 0, .int .i64 0, .int .i64 0, .int .i64 0, .int .i64 0, .int .i64 0, .slice none 0 0, .slice none 0 0] 41))
  go_enter Tryz.func8, Tryz.ntmps8
  go_wp2_with fail
  generalize (w.alloc (.cells #[.int .i64 k, .int .i64 a, .int .i64 b, .int .i64 id, .int .i64 op, .int .i64 old, .slice AU nu cu, .slice AT nt ct] 38)).alloc (.cells #[.int .i64 0, .int .i64 0, .int .i64 0, .int .i64 0, .int .i64 0, .int .i64 0, .slice none 0 0, .slice none 0 0] 41) = W at *
  have hne : w.heap.size ≠ w.heap.size + 1 := by omega
  have HZ0 := Lib.hid (show Below W.heap.size W W.drew from (Below.refl _ _).drew)
  have hS0 : W.drew.cell? ⟨w.heap.size, 0, none⟩ = some (.int .i64 k) ∧ W.drew.cell? ⟨w.heap.size, 1, none⟩ = some (.int .i64 a) ∧ W.drew.cell? ⟨w.heap.size, 2, none⟩ = some (.int .i64 b) ∧ W.drew.cell? ⟨w.heap.size, 3, none⟩ = some (.int .i64 id) ∧ W.drew.cell? ⟨w.heap.size, 4, none⟩ = some (.int .i64 op) ∧ W.drew.cell? ⟨w.heap.size, 5, none⟩ = some (.int .i64 old) ∧ W.drew.cell? ⟨w.heap.size, 6, none⟩ = some (.slice AU nu cu) ∧ W.drew.cell? ⟨w.heap.size, 7, none⟩ = some (.slice AT nt ct) := ⟨(blk_cell (blk_below HA.out HZ0.out) 0).trans rfl, (blk_cell (blk_below HA.out HZ0.out) 1).trans rfl, (blk_cell (blk_below HA.out HZ0.out) 2).trans rfl, (blk_cell (blk_below HA.out HZ0.out) 3).trans rfl, (blk_cell (blk_below HA.out HZ0.out) 4).trans rfl, (blk_cell (blk_below HA.out HZ0.out) 5).trans rfl, (blk_cell (blk_below HA.out HZ0.out) 6).trans rfl, (blk_cell (blk_below HA.out HZ0.out) 7).trans rfl⟩
  go_region_held3 (fun w' => w'.cell? ⟨w.heap.size, 0, none⟩ = some (.int .i64 k) ∧ w'.cell? ⟨w.heap.size, 1, none⟩ = some (.int .i64 a) ∧ w'.cell? ⟨w.heap.size, 2, none⟩ = some (.int .i64 b) ∧ w'.cell? ⟨w.heap.size, 3, none⟩ = some (.int .i64 id) ∧ w'.cell? ⟨w.heap.size, 4, none⟩ = some (.int .i64 op) ∧ w'.cell? ⟨w.heap.size, 5, none⟩ = some (.int .i64 old) ∧ w'.cell? ⟨w.heap.size, 6, none⟩ = some (.slice AU nu cu) ∧ w'.cell? ⟨w.heap.size, 7, none⟩ = some (.slice AT nt ct)) (first | (with_reducible exact hS0) | (with_reducible exact hS1) | exact ⟨(blk_cell (far8 _ _ _ _ _ _ _ _ HA1.out hne) 0).trans rfl, (blk_cell (far8 _ _ _ _ _ _ _ _ HA1.out hne) 1).trans rfl, (blk_cell (far8 _ _ _ _ _ _ _ _ HA1.out hne) 2).trans rfl, (blk_cell (far8 _ _ _ _ _ _ _ _ HA1.out hne) 3).trans rfl, (blk_cell (far8 _ _ _ _ _ _ _ _ HA1.out hne) 4).trans rfl, (blk_cell (far8 _ _ _ _ _ _ _ _ HA1.out hne) 5).trans rfl, (blk_cell (far8 _ _ _ _ _ _ _ _ HA1.out hne) 6).trans rfl, (blk_cell (far8 _ _ _ _ _ _ _ _ HA1.out hne) 7).trans rfl⟩) (first | (go_at_call 21; clear hS0; refine (plainreq_any id op old AU AT nu cu nt ct _).mono ?_; rintro e y1 ⟨rfl, hbl⟩; (have hz : Below W.heap.size W y1 := HZ0.out.trans (hbl.mono HZ0.out.size)); (have hS1 : y1.cell? ⟨w.heap.size, 0, none⟩ = some (.int .i64 k) ∧ y1.cell? ⟨w.heap.size, 1, none⟩ = some (.int .i64 a) ∧ y1.cell? ⟨w.heap.size, 2, none⟩ = some (.int .i64 b) ∧ y1.cell? ⟨w.heap.size, 3, none⟩ = some (.int .i64 id) ∧ y1.cell? ⟨w.heap.size, 4, none⟩ = some (.int .i64 op) ∧ y1.cell? ⟨w.heap.size, 5, none⟩ = some (.int .i64 old) ∧ y1.cell? ⟨w.heap.size, 6, none⟩ = some (.slice AU nu cu) ∧ y1.cell? ⟨w.heap.size, 7, none⟩ = some (.slice AT nt ct) := ⟨(blk_cell (blk_below HA.out hz) 0).trans rfl, (blk_cell (blk_below HA.out hz) 1).trans rfl, (blk_cell (blk_below HA.out hz) 2).trans rfl, (blk_cell (blk_below HA.out hz) 3).trans rfl, (blk_cell (blk_below HA.out hz) 4).trans rfl, (blk_cell (blk_below HA.out hz) 5).trans rfl, (blk_cell (blk_below HA.out hz) 6).trans rfl, (blk_cell (blk_below HA.out hz) 7).trans rfl⟩); (have HZ1 := Lib.hid hz); (have HV1 := Lib.hid (blk_below HV.out hz)); (have HA1 := Lib.hid (blk_below HA.out hz)); (have e0 := (blk_cell HV1.out 0).trans rfl); (have f0 := blk_frozen HV1.out 0); (have e1 := (blk_cell HV1.out 1).trans rfl); (have f1 := blk_frozen HV1.out 1); (have e2 := (blk_cell HV1.out 2).trans rfl); (have f2 := blk_frozen HV1.out 2); (have e3 := (blk_cell HV1.out 3).trans rfl); (have f3 := blk_frozen HV1.out 3); (have e4 := (blk_cell HV1.out 4).trans rfl); (have f4 := blk_frozen HV1.out 4); (have e5 := (blk_cell HV1.out 5).trans rfl); (have f5 := blk_frozen HV1.out 5); (have e6 := (blk_cell HV1.out 6).trans rfl); (have f6 := blk_frozen HV1.out 6); (have e7 := (blk_cell HV1.out 7).trans rfl); (have f7 := blk_frozen HV1.out 7); clear hbl hz))
  all_goals
    go_wp2
    (try simp only [Exit.inBlock, Exit.then])
    refine bodyPost_ret (results_cell_row rfl _ _ (w.heap.size + 1) 41 _ (0, 0) _ rfl (put8 _ _ _ _ _ _ _ _ HV1.out) hu4 rfl (by kernel_rfl)) rfl ?_
    exact ⟨rfl, below8 _ _ _ _ _ _ _ _ (HB.out.trans (HZ1.out.mono HB.out.size)) (Nat.le_succ _)⟩
end Go.Proofs.YtohpimfanplloaaGreatDoor.AuxS
