-- laid by a program of this session (print_proof, changed for laws over structs) (packed)
import Derived.Test.YtohpimfanplloaaDoorZGOx0
import Derived.Test.YtohpimfanplloaaDoorZGOx1
namespace Go.Proofs.YtohpimfanplloaaDoor.GO
open Go.RowKit Go.Proofs.YtohpimfanplloaaDoorW.PrintWords Go.Proofs.YtohpimfanplloaaDoorW.PrintLast Go.Proofs.YtohpimfanplloaaDoorW.PrintMore
attribute [local go_sem] max2_int min2_int max_two min_two max_three min_three max_four min_four   -- for this text's walks alone
set_option linter.unusedVariables false
set_option linter.unusedSimpArgs false

/-! ### script_Opts: function 5 -/
def script_Opts.f (k : Nat) (l0 : List Int) : Option (Int × Int × (List (S47)) × Int × Int × Int × Int × Int × Int × Int × Int) := (script_at.f l0 0).bind fun t116 => ((script_begin.f k).bind fun t120 => ((script_begin.f k).bind fun t121 => ((script_at.f l0 1).bind fun t122 => ((script_at.f l0 2).bind fun t123 => ((script_at.f l0 3).bind fun t124 => (some (wrap64 (1 + (Int.tmod t116 3)), 4, (([(⟨0, ([] : List (S79)), ([] : List (S43)), 0⟩ : S47), (⟨3600, ([] : List (S79)), (([(⟨3, 5, 6, 3600, 7200⟩ : S43), (⟨10, 5, 6, 3600, 3600⟩ : S43)] : List (S43))), 2000⟩ : S47)] : List (S47))), t120, wrap64 (t121 + 5184000), wrap64 (2 + (Int.tmod t122 4)), wrap64 (2 + (Int.tmod t123 4)), wrap64 (2 + (Int.tmod t124 4)), 4, 20000, 200)))))))
theorem script_Opts.mono : ∀ a0 k, LeO (script_Opts.f k a0) (script_Opts.f (k + 1) a0) := by
 intro a0 k
 unfold script_Opts.f
 repeat' first
   | (with_reducible exact script_begin.mono _)
   | (with_reducible exact LeO.refl _)
   | (with_reducible exact LeO.none _)
   | (with_reducible refine LeO.ite ?_ ?_)
   | (with_reducible refine LeO.bind ?_ (fun _ => ?_))
   | exact script_begin.mono _
   | exact LeO.none _
   | refine LeO.ite ?_ ?_
   | refine LeO.bind ?_ (fun _ => ?_)
def script_Opts.T2 : Bool × List (List Nat × List Nat) := (true, [([], []), ([0], [0]), ([1], [1]), ([2], [2]), ([], []), ([], []), ([4, 5], [4, 5]), ([1], []), ([7], []), ([8], [8]), ([3, 6, 7, 9], [3, 6, 7, 9]), ([], []), ([11, 8], [11]), ([12], [12]), ([13], [13]), ([], []), ([15, 12], [15]), ([16], [16]), ([17], [17]), ([], []), ([19, 16], [19]), ([20], [20]), ([21], [21]), ([14, 18, 22], [14, 18, 22]), ([10, 23], [10, 23]), ([24, 20, 0, 1, 2, 3, 4, 5, 6, 7, 8, 9, 10, 11, 12, 13, 14, 15, 16, 17, 18, 19, 20, 21, 22, 23, 24], [24])])
def script_Opts.B2 : List Nat := [0, 1, 3, 7, 0, 0, 48, 3, 131, 387, 1023, 0, 2435, 6531, 14723, 0, 39299, 104835, 235907, 0, 629123, 1677699, 3774851, 8386947, 16777215, 33554431]
theorem script_Opts.tab2 : rtab .any (opsOf Tryd.f5 2) = script_Opts.T2 := by kernel_rfl
theorem script_Opts.bits2 : waitsOk script_Opts.T2.2 script_Opts.B2 = true := by kernel_rfl
set_option maxHeartbeats 8000000 in
set_option maxRecDepth 100000 in
theorem script_Opts.calls (k : Nat) (A0 : Option Addr) (c0 : Nat) (l0 : List Int) (r1 : Int) (r2 : Int) (r3 : List (S47)) (r4 : Int) (r5 : Int) (r6 : Int) (r7 : Int) (r8 : Int) (r9 : Int) (r10 : Int) (r11 : Int) (w : World) (hr0 : Kd.C (Kd.int .u8) w A0 l0.length l0) (hc0 : l0.length ≤ c0) (h : script_Opts.f k l0 = some (r1, r2, r3, r4, r5, r6, r7, r8, r9, r10, r11)) :
  Calls Tryd.prog 5 #[.slice A0 l0.length c0] w fun e w' => ∃ v2_ : Value, e = .returned (.agg #[.int .i64 r1, .int .i64 r2, v2_, .int .i64 r4, .int .i64 r5, .int .i64 r6, .int .i64 r7, .int .i64 r8, .int .i64 r9, .int .i64 r10, .int .i64 r11]) ∧ Kd.N k47 47 w' w.heap.size (fun k_ => (w.heap.size ≤ k_)) v2_ r3 ∧ Below w.heap.size w w' := by
 have hu30 := Tryd.underlying30
 have hu43 := Tryd.underlying43
 have hu47 := Tryd.underlying47
 have hu26 := Tryd.underlying26
 have hu28 := Tryd.underlying28
 have HR0 := Aside0.mk hr0
 have HC0 := Aside0.mk hc0
 clear hr0 hc0
 have HB := Aside0.mk (Below.refl w.heap.size w)
 have H : ((script_at.f l0 0).bind fun t116 => ((script_begin.f k).bind fun t120 => ((script_begin.f k).bind fun t121 => ((script_at.f l0 1).bind fun t122 => ((script_at.f l0 2).bind fun t123 => ((script_at.f l0 3).bind fun t124 => (some (wrap64 (1 + (Int.tmod t116 3)), 4, (([(⟨0, ([] : List (S79)), ([] : List (S43)), 0⟩ : S47), (⟨3600, ([] : List (S79)), (([(⟨3, 5, 6, 3600, 7200⟩ : S43), (⟨10, 5, 6, 3600, 3600⟩ : S43)] : List (S43))), 2000⟩ : S47)] : List (S47))), t120, wrap64 (t121 + 5184000), wrap64 (2 + (Int.tmod t122 4)), wrap64 (2 + (Int.tmod t123 4)), wrap64 (2 + (Int.tmod t124 4)), 4, 20000, 200)))))))) = some (r1, r2, r3, r4, r5, r6, r7, r8, r9, r10, r11) := h
 clear h
 obtain ⟨y112, hy112⟩ : ∃ y_ : List (S43), y_ = (([(⟨3, 5, 6, 3600, 7200⟩ : S43), (⟨10, 5, 6, 3600, 3600⟩ : S43)] : List (S43))) := ⟨_, rfl⟩
 replace H : ((script_at.f l0 0).bind fun t116 => ((script_begin.f k).bind fun t120 => ((script_begin.f k).bind fun t121 => ((script_at.f l0 1).bind fun t122 => ((script_at.f l0 2).bind fun t123 => ((script_at.f l0 3).bind fun t124 => (some (wrap64 (1 + (Int.tmod t116 3)), 4, (([(⟨0, ([] : List (S79)), ([] : List (S43)), 0⟩ : S47), (⟨3600, ([] : List (S79)), y112, 2000⟩ : S47)] : List (S47))), t120, wrap64 (t121 + 5184000), wrap64 (2 + (Int.tmod t122 4)), wrap64 (2 + (Int.tmod t123 4)), wrap64 (2 + (Int.tmod t124 4)), 4, 20000, 200)))))))) = some (r1, r2, r3, r4, r5, r6, r7, r8, r9, r10, r11) := by first | (rw [hy112]; with_reducible exact H) | (have H2_ := (Option.bind_some _ _).symm.trans H; rw [hy112]; with_reducible exact H2_) | (have H2_ := (Option.bind_some _ _).symm.trans H; with_reducible exact H2_) | with_reducible exact H | (rw [hy112]; exact H) | exact H
 have Ny112 := Aside0.mk hy112
 clear hy112
 replace H := Option.bind_eq_some_iff.mp H
 obtain ⟨t116, A20, H⟩ := H
 replace H : ((script_begin.f k).bind fun t120 => ((script_begin.f k).bind fun t121 => ((script_at.f l0 1).bind fun t122 => ((script_at.f l0 2).bind fun t123 => ((script_at.f l0 3).bind fun t124 => (some (wrap64 (1 + (Int.tmod t116 3)), 4, (([(⟨0, ([] : List (S79)), ([] : List (S43)), 0⟩ : S47), (⟨3600, ([] : List (S79)), y112, 2000⟩ : S47)] : List (S47))), t120, wrap64 (t121 + 5184000), wrap64 (2 + (Int.tmod t122 4)), wrap64 (2 + (Int.tmod t123 4)), wrap64 (2 + (Int.tmod t124 4)), 4, 20000, 200))))))) = some (r1, r2, r3, r4, r5, r6, r7, r8, r9, r10, r11) := H
 have A2 := Aside0.mk A20
 clear A20
 obtain ⟨y117, hy117⟩ : ∃ y_ : List (S47), y_ = (([(⟨0, ([] : List (S79)), ([] : List (S43)), 0⟩ : S47), (⟨3600, ([] : List (S79)), y112, 2000⟩ : S47)] : List (S47))) := ⟨_, rfl⟩
 replace H : ((script_begin.f k).bind fun t120 => ((script_begin.f k).bind fun t121 => ((script_at.f l0 1).bind fun t122 => ((script_at.f l0 2).bind fun t123 => ((script_at.f l0 3).bind fun t124 => (some (wrap64 (1 + (Int.tmod t116 3)), 4, y117, t120, wrap64 (t121 + 5184000), wrap64 (2 + (Int.tmod t122 4)), wrap64 (2 + (Int.tmod t123 4)), wrap64 (2 + (Int.tmod t124 4)), 4, 20000, 200))))))) = some (r1, r2, r3, r4, r5, r6, r7, r8, r9, r10, r11) := by first | (rw [hy117]; with_reducible exact H) | (have H2_ := (Option.bind_some _ _).symm.trans H; rw [hy117]; with_reducible exact H2_) | (have H2_ := (Option.bind_some _ _).symm.trans H; with_reducible exact H2_) | with_reducible exact H | (rw [hy117]; exact H) | exact H
 have Ny117 := Aside0.mk hy117
 clear hy117
 replace H := Option.bind_eq_some_iff.mp H
 obtain ⟨t120, A30, H⟩ := H
 replace H : ((script_begin.f k).bind fun t121 => ((script_at.f l0 1).bind fun t122 => ((script_at.f l0 2).bind fun t123 => ((script_at.f l0 3).bind fun t124 => (some (wrap64 (1 + (Int.tmod t116 3)), 4, y117, t120, wrap64 (t121 + 5184000), wrap64 (2 + (Int.tmod t122 4)), wrap64 (2 + (Int.tmod t123 4)), wrap64 (2 + (Int.tmod t124 4)), 4, 20000, 200)))))) = some (r1, r2, r3, r4, r5, r6, r7, r8, r9, r10, r11) := H
 have A3 := Aside0.mk A30
 clear A30
 replace H := Option.bind_eq_some_iff.mp H
 obtain ⟨t121, A40, H⟩ := H
 replace H : ((script_at.f l0 1).bind fun t122 => ((script_at.f l0 2).bind fun t123 => ((script_at.f l0 3).bind fun t124 => (some (wrap64 (1 + (Int.tmod t116 3)), 4, y117, t120, wrap64 (t121 + 5184000), wrap64 (2 + (Int.tmod t122 4)), wrap64 (2 + (Int.tmod t123 4)), wrap64 (2 + (Int.tmod t124 4)), 4, 20000, 200))))) = some (r1, r2, r3, r4, r5, r6, r7, r8, r9, r10, r11) := H
 have A4 := Aside0.mk A40
 clear A40
 replace H := Option.bind_eq_some_iff.mp H
 obtain ⟨t122, A50, H⟩ := H
 replace H : ((script_at.f l0 2).bind fun t123 => ((script_at.f l0 3).bind fun t124 => (some (wrap64 (1 + (Int.tmod t116 3)), 4, y117, t120, wrap64 (t121 + 5184000), wrap64 (2 + (Int.tmod t122 4)), wrap64 (2 + (Int.tmod t123 4)), wrap64 (2 + (Int.tmod t124 4)), 4, 20000, 200)))) = some (r1, r2, r3, r4, r5, r6, r7, r8, r9, r10, r11) := H
 have A5 := Aside0.mk A50
 clear A50
 replace H := Option.bind_eq_some_iff.mp H
 obtain ⟨t123, A60, H⟩ := H
 replace H : ((script_at.f l0 3).bind fun t124 => (some (wrap64 (1 + (Int.tmod t116 3)), 4, y117, t120, wrap64 (t121 + 5184000), wrap64 (2 + (Int.tmod t122 4)), wrap64 (2 + (Int.tmod t123 4)), wrap64 (2 + (Int.tmod t124 4)), 4, 20000, 200))) = some (r1, r2, r3, r4, r5, r6, r7, r8, r9, r10, r11) := H
 have A6 := Aside0.mk A60
 clear A60
 replace H := Option.bind_eq_some_iff.mp H
 obtain ⟨t124, A70, H⟩ := H
 replace H : (some (wrap64 (1 + (Int.tmod t116 3)), 4, y117, t120, wrap64 (t121 + 5184000), wrap64 (2 + (Int.tmod t122 4)), wrap64 (2 + (Int.tmod t123 4)), wrap64 (2 + (Int.tmod t124 4)), 4, 20000, 200)) = some (r1, r2, r3, r4, r5, r6, r7, r8, r9, r10, r11) := H
 have A7 := Aside0.mk A70
 clear A70
 simp only [Option.some.injEq, Prod.mk.injEq] at H
 obtain ⟨rfl, rfl, rfl, rfl, rfl, rfl, rfl, rfl, rfl, rfl, rfl⟩ := H
 go_enter Tryd.func5, Tryd.ntmps5
 try go_wp2_with (first | ((with_reducible refine gate_dst (N := 2) rfl ?_); refine box_event ?hg (N := 2) ?hd (cs := #[.int .i64 0, .int .i64 0, .slice none 0 0, .int .i64 0, .int .i64 0, .int .i64 0, .int .i64 0, .int .i64 0, .int .i64 0, .int .i64 0, .int .i64 0]) (t := 30) ?hr ?_; (case hd => rfl); (case hg => rfl); (case hr => first | (go_simp; done) | (go_simp; rfl)); intro gb111 hg w8 hbox hb; have n0_ := Aside0.mk (below_step (by repeat (first | (with_reducible first | exact HB.out | apply below_alloc | apply pw_below_drewN | apply below_drew1) | exact HB.out)) hb); have n1_ := Aside0.mk (hbox); have n2_ := Aside0.mk ((by rw [hg]; exact (below_size (by repeat (first | (with_reducible first | exact HB.out | apply below_alloc | apply pw_below_drewN | apply below_drew1) | exact HB.out))) : w.heap.size ≤ gb111)); have n3_ := Aside0.mk ((by rw [hg]; exact (below_size (by repeat (first | (with_reducible first | exact HB.out | apply below_alloc | apply pw_below_drewN | apply below_drew1) | exact HB.out))) : w.heap.size ≤ gb111)); clear HB; have HB := n0_; have BK111 := n1_; have GW111 := n2_; have GE111 := n3_; clear n0_ n1_ n2_ n3_; clear hb hbox hg) | ((with_reducible refine gate_dst (N := 6) rfl ?_); refine Kd.R_lit k43 _ 43 ?hg (N := 6) ?hd (xs := ([(⟨3, 5, 6, 3600, 7200⟩ : S43), (⟨10, 5, 6, 3600, 3600⟩ : S43)] : List (S43))) (inner := [.int .i64 3, .int .i64 5, .int .i64 6, .int .i64 3600, .int .i64 7200, .int .i64 10, .int .i64 5, .int .i64 6, .int .i64 3600, .int .i64 3600]) (ok := fun _ => True) (okp := fun _ => True) ?hr ?hp (fun _ hk => hk) trivial (Below.refl _ _) (Nat.le_refl _) (by simp) ?_; (case hd => rfl); (case hg => rfl); (case hr => first | (go_simp; done) | (go_simp; rfl)); (case hp => exact (Reps.c5 (show Kd.M k43 _ _ _ (⟨3, 5, 6, 3600, 7200⟩ : S43) [.int .i64 3, .int .i64 5, .int .i64 6, .int .i64 3600, .int .i64 7200] from (k43_mkM _ _ _ (⟨3, 5, 6, 3600, 7200⟩ : S43) )) (Reps.c5 (show Kd.M k43 _ _ _ (⟨10, 5, 6, 3600, 3600⟩ : S43) [.int .i64 10, .int .i64 5, .int .i64 6, .int .i64 3600, .int .i64 3600] from (k43_mkM _ _ _ (⟨10, 5, 6, 3600, 3600⟩ : S43) )) (Reps.none _ _)))); intro v113 w9 ho10 hb hg_ hnew_; clear hg_ hnew_; (first | rw [← Ny112.out] at ho10 | (simp only [Int.reduceToNat] at ho10; rw [← Ny112.out] at ho10)); have n0_ := Aside0.mk (Kd.R_lower (Kd.R_newM (M := fun k_ => (w.heap.size ≤ k_)) ho10 (below_size (by repeat (first | (with_reducible first | exact HB.out | apply below_alloc | apply pw_below_drewN | apply below_drew1 | refine below_set ?_ GE111.out) | exact HB.out))) (fun k_ h_ => h_)) (below_size (by repeat (first | (with_reducible first | exact HB.out | apply below_alloc | apply pw_below_drewN | apply below_drew1 | refine below_set ?_ GE111.out) | exact HB.out)))); have n1_ := Aside0.mk (blk_below (g := gb111) (o := .cells #[.int .i64 0, .int .i64 0, .slice none 0 0, .int .i64 0, .int .i64 0, .int .i64 0, .int .i64 0, .int .i64 0, .int .i64 0, .int .i64 0, .int .i64 0] 30 (0, 0)) (by (with_reducible repeat (first | refine blk_drewN ?_ _ | refine blk_drew ?_ | refine blk_alloc ?_ _)); exact BK111.out) hb); have n2_ := Aside0.mk (below_step (by repeat (first | (with_reducible first | exact HB.out | apply below_alloc | apply pw_below_drewN | apply below_drew1 | refine below_set ?_ GE111.out) | exact HB.out)) hb); clear BK111; clear HB; have HO114 := n0_; have BK111 := n1_; have HB := n2_; clear n0_ n1_ n2_; clear hb ho10; obtain ⟨Ao11, co11, eo11⟩ := Kd.R_slice HO114.out; subst eo11) | ((with_reducible refine gate_dst (N := 3) rfl ?_); refine box_event ?hg (N := 3) ?hd (cs := #[.int .i64 0, .slice none 0 0, .slice none 0 0, .int .i64 0]) (t := 47) ?hr ?_; (case hd => rfl); (case hg => rfl); (case hr => first | (go_simp; done) | (go_simp; rfl)); intro gb115 hg w12 hbox hb; have n0_ := Aside0.mk (Kd.R_below (by (with_reducible repeat (first | apply Kd.R_alloc | apply Kd.R_drewN | apply Kd.R_drew)); exact HO114.out) hb); have n1_ := Aside0.mk (blk_below (g := gb111) (o := .cells #[.int .i64 0, .int .i64 0, .slice none 0 0, .int .i64 0, .int .i64 0, .int .i64 0, .int .i64 0, .int .i64 0, .int .i64 0, .int .i64 0, .int .i64 0] 30 (0, 0)) (by (with_reducible repeat (first | refine blk_drewN ?_ _ | refine blk_drew ?_ | refine blk_alloc ?_ _)); exact BK111.out) hb); have n2_ := Aside0.mk (below_step (by repeat (first | (with_reducible first | exact HB.out | apply below_alloc | apply pw_below_drewN | apply below_drew1 | refine below_set ?_ GE111.out) | exact HB.out)) hb); have n3_ := Aside0.mk (hbox); have n4_ := Aside0.mk ((by rw [hg]; exact (below_size (by repeat (first | (with_reducible first | exact HB.out | apply below_alloc | apply pw_below_drewN | apply below_drew1 | refine below_set ?_ GE111.out) | exact HB.out))) : w.heap.size ≤ gb115)); have n5_ := Aside0.mk ((by rw [hg]; exact (below_size (by repeat (first | (with_reducible first | exact HB.out | apply below_alloc | apply pw_below_drewN | apply below_drew1 | refine below_set ?_ GE111.out) | exact HB.out))) : w.heap.size ≤ gb115)); have n6_ := Aside0.mk ((by rw [hg]; exact Nat.ne_of_lt (blk_lt (g := gb111) (o := .cells #[.int .i64 0, .int .i64 0, .slice none 0 0, .int .i64 0, .int .i64 0, .int .i64 0, .int .i64 0, .int .i64 0, .int .i64 0, .int .i64 0, .int .i64 0] 30 (0, 0)) (by (with_reducible repeat (first | refine blk_drewN ?_ _ | refine blk_drew ?_ | refine blk_alloc ?_ _)); exact BK111.out)) : gb111 ≠ gb115)); have n7_ := Aside0.mk ((by rw [hg]; exact Nat.ne_of_gt (blk_lt (g := gb111) (o := .cells #[.int .i64 0, .int .i64 0, .slice none 0 0, .int .i64 0, .int .i64 0, .int .i64 0, .int .i64 0, .int .i64 0, .int .i64 0, .int .i64 0, .int .i64 0] 30 (0, 0)) (by (with_reducible repeat (first | refine blk_drewN ?_ _ | refine blk_drew ?_ | refine blk_alloc ?_ _)); exact BK111.out)) : gb115 ≠ gb111)); clear HO114; clear BK111; clear HB; have HO114 := n0_; have BK111 := n1_; have HB := n2_; have BK115 := n3_; have GW115 := n4_; have GE115 := n5_; have NB111_115 := n6_; have NB115_111 := n7_; clear n0_ n1_ n2_ n3_ n4_ n5_ n6_ n7_; clear hb hbox hg; have hnb13 := NB115_111.out; have hnc13 := NB111_115.out; have hcz14_0 : w12.cell? ⟨gb115, 0, none⟩ = some (.int .i64 0) := (blk_cell BK115.out 0).trans rfl; have hcz14_1 : w12.cell? ⟨gb115, 1, none⟩ = some (.slice none 0 0) := (blk_cell BK115.out 1).trans rfl; have hcz14_2 : w12.cell? ⟨gb115, 2, none⟩ = some (.slice none 0 0) := (blk_cell BK115.out 2).trans rfl; have hcz14_3 : w12.cell? ⟨gb115, 3, none⟩ = some (.int .i64 0) := (blk_cell BK115.out 3).trans rfl; have hfz14_0 := blk_frozen BK115.out 0; have hfz14_1 := blk_frozen BK115.out 1; have hfz14_2 := blk_frozen BK115.out 2; have hfz14_3 := blk_frozen BK115.out 3))
 have n0_ : Aside0 (Kd.R k43 43 ((((w12.setCell ⟨gb115, 0, none⟩ (.int .i64 3600)).setCell ⟨gb115, 1, none⟩ (.slice none 0 0)).setCell ⟨gb115, 2, none⟩ (.slice Ao11 y112.length co11)).setCell ⟨gb115, 3, none⟩ (.int .i64 2000)) w.heap.size (fun k_ => (w.heap.size ≤ k_)) (.slice Ao11 y112.length co11) y112) := ⟨by (with_reducible repeat (first | apply Kd.R_alloc | apply Kd.R_drewN | apply Kd.R_drew)); exact Kd.R_mono (Kd.R_far (p := ⟨gb115, 3, none⟩) (Kd.R_far (p := ⟨gb115, 2, none⟩) (Kd.R_far (p := ⟨gb115, 1, none⟩) (Kd.R_far (p := ⟨gb115, 0, none⟩) (Kd.R_types HO114.out BK115.out (by decide)) (fun _ hk => hk.2) (.int .i64 3600)) (fun _ hk => hk.2) (.slice none 0 0)) (fun _ hk => hk.2) (.slice Ao11 y112.length co11)) (fun _ hk => hk.2) (.int .i64 2000)) (fun _ hk => hk.1.1)⟩
 have n1_ : Aside0 (((((w12.setCell ⟨gb115, 0, none⟩ (.int .i64 3600)).setCell ⟨gb115, 1, none⟩ (.slice none 0 0)).setCell ⟨gb115, 2, none⟩ (.slice Ao11 y112.length co11)).setCell ⟨gb115, 3, none⟩ (.int .i64 2000)).heap[gb111]? = some (.cells #[.int .i64 0, .int .i64 0, .slice none 0 0, .int .i64 0, .int .i64 0, .int .i64 0, .int .i64 0, .int .i64 0, .int .i64 0, .int .i64 0, .int .i64 0] 30 (0, 0))) := ⟨by (with_reducible repeat (first | refine blk_drewN ?_ _ | refine blk_drew ?_ | refine blk_alloc ?_ _)); refine blk_far ?_ NB111_115.out _; (with_reducible repeat (first | refine blk_drewN ?_ _ | refine blk_drew ?_ | refine blk_alloc ?_ _)); refine blk_far ?_ NB111_115.out _; (with_reducible repeat (first | refine blk_drewN ?_ _ | refine blk_drew ?_ | refine blk_alloc ?_ _)); refine blk_far ?_ NB111_115.out _; (with_reducible repeat (first | refine blk_drewN ?_ _ | refine blk_drew ?_ | refine blk_alloc ?_ _)); refine blk_far ?_ NB111_115.out _; (with_reducible repeat (first | refine blk_drewN ?_ _ | refine blk_drew ?_ | refine blk_alloc ?_ _)); exact BK111.out⟩
 have n2_ : Aside0 (((((w12.setCell ⟨gb115, 0, none⟩ (.int .i64 3600)).setCell ⟨gb115, 1, none⟩ (.slice none 0 0)).setCell ⟨gb115, 2, none⟩ (.slice Ao11 y112.length co11)).setCell ⟨gb115, 3, none⟩ (.int .i64 2000)).heap[gb115]? = some (.cells #[.int .i64 3600, .slice none 0 0, .slice Ao11 y112.length co11, .int .i64 2000] 47 (0, 0))) := ⟨by (with_reducible repeat (first | refine blk_drewN ?_ _ | refine blk_drew ?_ | refine blk_alloc ?_ _)); refine blk_put (cs := #[.int .i64 3600, .slice none 0 0, .slice Ao11 y112.length co11, .int .i64 0]) ?_ 3 _ rfl; (with_reducible repeat (first | refine blk_drewN ?_ _ | refine blk_drew ?_ | refine blk_alloc ?_ _)); refine blk_put (cs := #[.int .i64 3600, .slice none 0 0, .slice none 0 0, .int .i64 0]) ?_ 2 _ rfl; (with_reducible repeat (first | refine blk_drewN ?_ _ | refine blk_drew ?_ | refine blk_alloc ?_ _)); refine blk_put (cs := #[.int .i64 3600, .slice none 0 0, .slice none 0 0, .int .i64 0]) ?_ 1 _ rfl; (with_reducible repeat (first | refine blk_drewN ?_ _ | refine blk_drew ?_ | refine blk_alloc ?_ _)); refine blk_put (cs := #[.int .i64 0, .slice none 0 0, .slice none 0 0, .int .i64 0]) ?_ 0 _ rfl; (with_reducible repeat (first | refine blk_drewN ?_ _ | refine blk_drew ?_ | refine blk_alloc ?_ _)); exact BK115.out⟩
 have n3_ : Aside0 (Below w.heap.size w ((((w12.setCell ⟨gb115, 0, none⟩ (.int .i64 3600)).setCell ⟨gb115, 1, none⟩ (.slice none 0 0)).setCell ⟨gb115, 2, none⟩ (.slice Ao11 y112.length co11)).setCell ⟨gb115, 3, none⟩ (.int .i64 2000))) := ⟨by repeat (first | (with_reducible first | exact HB.out | apply below_alloc | apply pw_below_drewN | apply below_drew1 | refine below_set ?_ GE111.out | refine below_set ?_ GE115.out) | exact HB.out)⟩
 (try clear HO114)
 (try clear BK111)
 (try clear BK115)
 (try clear HB)
 generalize ((((w12.setCell ⟨gb115, 0, none⟩ (.int .i64 3600)).setCell ⟨gb115, 1, none⟩ (.slice none 0 0)).setCell ⟨gb115, 2, none⟩ (.slice Ao11 y112.length co11)).setCell ⟨gb115, 3, none⟩ (.int .i64 2000)) = w15 at n0_ n1_ n2_ n3_ ⊢
 have HO114 := n0_
 have BK111 := n1_
 have BK115 := n2_
 have HB := n3_
 clear n0_ n1_ n2_ n3_
 have n0_ := Aside0.mk (Kd.R_drew HO114.out)
 have n1_ := Aside0.mk (blk_drew BK111.out)
 have n2_ := Aside0.mk (blk_drew BK115.out)
 have n3_ := Aside0.mk (below_drew1 HB.out)
 clear HO114
 clear BK111
 clear BK115
 clear HB
 have HO114 := n0_
 have BK111 := n1_
 have BK115 := n2_
 have HB := n3_
 clear n0_ n1_ n2_ n3_
 refine start_ (n := 26) (S := fun w' => w'.cell? ⟨gb115, 0, none⟩ = some (.int .i64 3600) ∧ w'.cell? ⟨gb115, 1, none⟩ = some (.slice none 0 0) ∧ w'.cell? ⟨gb115, 2, none⟩ = some (.slice Ao11 y112.length co11) ∧ w'.cell? ⟨gb115, 3, none⟩ = some (.int .i64 2000)) (ds := []) #[false, false, false, false, false, false, false, false, false, false, false, false, false, false, false, false, false, false, false, false, false, false, false, false, false, false] (by kernel_rfl) rfl rfl ⟨(blk_cell BK115.out 0).trans rfl, (blk_cell BK115.out 1).trans rfl, (blk_cell BK115.out 2).trans rfl, (blk_cell BK115.out 3).trans rfl⟩ (fun hHeld => ?_); refine with_tabW script_Opts.tab2 script_Opts.bits2 (fun HT_ HW_ => ?_)
 generalize w15.drew = w16 at HO114 BK111 BK115 HB hHeld ⊢
 refine pure_ (i := 0) (N := some 8) (v := ?_) (a' := ?_) #[true, false, false, false, false, false, false, false, false, false, false, false, false, false, false, false, false, false, false, false, false, false, false, false, false, false] rfl rfl (any_of HT_.out (by kernel_rfl)) (fun _ _ _ h => h) (Or.inl ⟨by rfl, ?_⟩) ?_ ?_
 rotate_left
 ·intro w'
  go_simp
  with_reducible rfl
 rotate_left
 ·simp only [Act.put, List.setIfInBounds_toArray, List.set_cons_zero, List.set_cons_succ, i64_w, i32_w]
  rfl
 refine pure_ (i := 4) (N := some 12) (v := ?_) (a' := ?_) #[true, false, false, false, true, false, false, false, false, false, false, false, false, false, false, false, false, false, false, false, false, false, false, false, false, false] rfl rfl (any_of HT_.out (by kernel_rfl)) (fun _ _ _ h => h) (Or.inl ⟨by rfl, ?_⟩) ?_ ?_
 rotate_left
 ·intro w'
  go_simp
  with_reducible rfl
 rotate_left
 ·simp only [Act.put, List.setIfInBounds_toArray, List.set_cons_zero, List.set_cons_succ, i64_w, i32_w]
  rfl
 refine pure_ (i := 11) (N := some 19) (v := ?_) (a' := ?_) #[true, false, false, false, true, false, false, false, false, false, false, true, false, false, false, false, false, false, false, false, false, false, false, false, false, false] rfl rfl (any_of HT_.out (by kernel_rfl)) (fun _ _ _ h => h) (Or.inl ⟨by rfl, ?_⟩) ?_ ?_
 rotate_left
 ·intro w'
  go_simp
  with_reducible rfl
 rotate_left
 ·simp only [Act.put, List.setIfInBounds_toArray, List.set_cons_zero, List.set_cons_succ, i64_w, i32_w]
  rfl
 refine pure_ (i := 15) (N := some 23) (v := ?_) (a' := ?_) #[true, false, false, false, true, false, false, false, false, false, false, true, false, false, false, true, false, false, false, false, false, false, false, false, false, false] rfl rfl (any_of HT_.out (by kernel_rfl)) (fun _ _ _ h => h) (Or.inl ⟨by rfl, ?_⟩) ?_ ?_
 rotate_left
 ·intro w'
  go_simp
  with_reducible rfl
 rotate_left
 ·simp only [Act.put, List.setIfInBounds_toArray, List.set_cons_zero, List.set_cons_succ, i64_w, i32_w]
  rfl
 refine pure_ (i := 19) (N := some 27) (v := ?_) (a' := ?_) #[true, false, false, false, true, false, false, false, false, false, false, true, false, false, false, true, false, false, false, true, false, false, false, false, false, false] rfl rfl (any_of HT_.out (by kernel_rfl)) (fun _ _ _ h => h) (Or.inl ⟨by rfl, ?_⟩) ?_ ?_
 rotate_left
 ·intro w'
  go_simp
  with_reducible rfl
 rotate_left
 ·simp only [Act.put, List.setIfInBounds_toArray, List.set_cons_zero, List.set_cons_succ, i64_w, i32_w]
  rfl
 refine take_ (i := 5) (N := some 13) (v := ?_) (a' := ?_) #[true, false, false, false, true, true, false, false, false, false, false, true, false, false, false, true, false, false, false, true, false, false, false, false, false, false] rfl rfl (take_ofW HT_.out HW_.out (by kernel_rfl)) (fun _ _ _ h => h) (Or.inl ⟨by rfl, ?_⟩) hHeld ?_ ?_
 rotate_left
 ·rintro w' ⟨s0, s1, s2, s3⟩
  go_simp
  with_reducible rfl
 rotate_left
 ·simp only [Act.put, List.setIfInBounds_toArray, List.set_cons_zero, List.set_cons_succ, i64_w, i32_w]
  rfl
 refine join_ (σ := Value) 2 #[true, true, true, true, true, true, true, true, true, true, true, true, true, true, true, true, true, true, true, true, true, true, true, true, false, false] (fun s_ => [(9, .int .i64 t116), (14, s_), (15, .int .i64 t120), (16, .int .i64 t121), (20, .int .i64 t122), (24, .int .i64 t123), (28, .int .i64 t124), (10, .int .i64 (Int.tmod t116 3)), (11, .int .i64 (wrap64 (1 + (Int.tmod t116 3)))), (17, .int .i64 (wrap64 (t121 + 5184000))), (18, .agg #[.int .i64 (wrap64 (1 + (Int.tmod t116 3))), .int .i64 4, s_, .int .i64 t120, .int .i64 (wrap64 (t121 + 5184000))]), (21, .int .i64 (Int.tmod t122 4)), (22, .int .i64 (wrap64 (2 + (Int.tmod t122 4)))), (25, .int .i64 (Int.tmod t123 4)), (26, .int .i64 (wrap64 (2 + (Int.tmod t123 4)))), (29, .int .i64 (Int.tmod t124 4)), (30, .int .i64 (wrap64 (2 + (Int.tmod t124 4)))), (31, .agg #[.int .i64 (wrap64 (2 + (Int.tmod t122 4))), .int .i64 (wrap64 (2 + (Int.tmod t123 4))), .int .i64 (wrap64 (2 + (Int.tmod t124 4))), .int .i64 4])]) (fun s_ w' => (w'.cell? ⟨gb115, 0, none⟩ = some (.int .i64 3600) ∧ w'.cell? ⟨gb115, 1, none⟩ = some (.slice none 0 0) ∧ w'.cell? ⟨gb115, 2, none⟩ = some (.slice Ao11 y112.length co11) ∧ w'.cell? ⟨gb115, 3, none⟩ = some (.int .i64 2000)) ∧ (Kd.N k47 47 w' w.heap.size (fun k_ => (w.heap.size ≤ k_) ∧ k_ ≠ gb111 ∧ k_ ≠ gb115) s_ y117) ∧ (w'.heap[gb111]? = some (.cells #[.int .i64 0, .int .i64 0, .slice none 0 0, .int .i64 0, .int .i64 0, .int .i64 0, .int .i64 0, .int .i64 0, .int .i64 0, .int .i64 0, .int .i64 0] 30 (0, 0))) ∧ (w'.heap[gb115]? = some (.cells #[.int .i64 3600, .slice none 0 0, .slice Ao11 y112.length co11, .int .i64 2000] 47 (0, 0))) ∧ (Below w.heap.size w w')) ?_ ?_
 rotate_left
 ·intro hJ1_6_7_8_12_16_20
  refine join_ (σ := Value) 6 #[true, true, true, true, true, true, true, true, true, true, true, true, true, true, true, true, true, true, true, true, false, false, false, false, false, false] (fun s_ => [(9, .int .i64 t116), (14, s_), (15, .int .i64 t120), (16, .int .i64 t121), (20, .int .i64 t122), (24, .int .i64 t123), (10, .int .i64 (Int.tmod t116 3)), (11, .int .i64 (wrap64 (1 + (Int.tmod t116 3)))), (17, .int .i64 (wrap64 (t121 + 5184000))), (18, .agg #[.int .i64 (wrap64 (1 + (Int.tmod t116 3))), .int .i64 4, s_, .int .i64 t120, .int .i64 (wrap64 (t121 + 5184000))]), (21, .int .i64 (Int.tmod t122 4)), (22, .int .i64 (wrap64 (2 + (Int.tmod t122 4)))), (25, .int .i64 (Int.tmod t123 4)), (26, .int .i64 (wrap64 (2 + (Int.tmod t123 4))))]) (fun s_ w' => (w'.cell? ⟨gb115, 0, none⟩ = some (.int .i64 3600) ∧ w'.cell? ⟨gb115, 1, none⟩ = some (.slice none 0 0) ∧ w'.cell? ⟨gb115, 2, none⟩ = some (.slice Ao11 y112.length co11) ∧ w'.cell? ⟨gb115, 3, none⟩ = some (.int .i64 2000)) ∧ (Kd.N k47 47 w' w.heap.size (fun k_ => (w.heap.size ≤ k_) ∧ k_ ≠ gb111 ∧ k_ ≠ gb115) s_ y117) ∧ (w'.heap[gb111]? = some (.cells #[.int .i64 0, .int .i64 0, .slice none 0 0, .int .i64 0, .int .i64 0, .int .i64 0, .int .i64 0, .int .i64 0, .int .i64 0, .int .i64 0, .int .i64 0] 30 (0, 0))) ∧ (w'.heap[gb115]? = some (.cells #[.int .i64 3600, .slice none 0 0, .slice Ao11 y112.length co11, .int .i64 2000] 47 (0, 0))) ∧ (Below w.heap.size w w')) ?_ ?_
  rotate_left
  ·intro hJ1_6_7_8_12_16
   refine join_ (σ := Unit) 4 #[true, true, true, true, true, true, false, true, true, true, false, true, true, true, true, true, true, true, true, true, true, true, true, true, false, false] (fun s_ => [(9, .int .i64 t116), (15, .int .i64 t120), (16, .int .i64 t121), (20, .int .i64 t122), (24, .int .i64 t123), (28, .int .i64 t124), (10, .int .i64 (Int.tmod t116 3)), (11, .int .i64 (wrap64 (1 + (Int.tmod t116 3)))), (17, .int .i64 (wrap64 (t121 + 5184000))), (21, .int .i64 (Int.tmod t122 4)), (22, .int .i64 (wrap64 (2 + (Int.tmod t122 4)))), (25, .int .i64 (Int.tmod t123 4)), (26, .int .i64 (wrap64 (2 + (Int.tmod t123 4)))), (29, .int .i64 (Int.tmod t124 4)), (30, .int .i64 (wrap64 (2 + (Int.tmod t124 4)))), (31, .agg #[.int .i64 (wrap64 (2 + (Int.tmod t122 4))), .int .i64 (wrap64 (2 + (Int.tmod t123 4))), .int .i64 (wrap64 (2 + (Int.tmod t124 4))), .int .i64 4])]) (fun s_ w' => (w'.cell? ⟨gb115, 0, none⟩ = some (.int .i64 3600) ∧ w'.cell? ⟨gb115, 1, none⟩ = some (.slice none 0 0) ∧ w'.cell? ⟨gb115, 2, none⟩ = some (.slice Ao11 y112.length co11) ∧ w'.cell? ⟨gb115, 3, none⟩ = some (.int .i64 2000)) ∧ (Kd.R k43 43 w' w.heap.size (fun k_ => (w.heap.size ≤ k_)) (.slice Ao11 y112.length co11) y112) ∧ (w'.heap[gb111]? = some (.cells #[.int .i64 0, .int .i64 0, .slice none 0 0, .int .i64 0, .int .i64 0, .int .i64 0, .int .i64 0, .int .i64 0, .int .i64 0, .int .i64 0, .int .i64 0] 30 (0, 0))) ∧ (w'.heap[gb115]? = some (.cells #[.int .i64 3600, .slice none 0 0, .slice Ao11 y112.length co11, .int .i64 2000] 47 (0, 0))) ∧ (Below w.heap.size w w')) ?_ ?_
   rotate_left
   ·intro hJ1_7_8_12_16_20
    refine join_ (σ := Value) 9 #[true, true, true, true, true, true, true, true, true, true, true, true, true, true, true, true, false, false, false, true, false, false, false, false, false, false] (fun s_ => [(9, .int .i64 t116), (14, s_), (15, .int .i64 t120), (16, .int .i64 t121), (20, .int .i64 t122), (10, .int .i64 (Int.tmod t116 3)), (11, .int .i64 (wrap64 (1 + (Int.tmod t116 3)))), (17, .int .i64 (wrap64 (t121 + 5184000))), (18, .agg #[.int .i64 (wrap64 (1 + (Int.tmod t116 3))), .int .i64 4, s_, .int .i64 t120, .int .i64 (wrap64 (t121 + 5184000))]), (21, .int .i64 (Int.tmod t122 4)), (22, .int .i64 (wrap64 (2 + (Int.tmod t122 4))))]) (fun s_ w' => (w'.cell? ⟨gb115, 0, none⟩ = some (.int .i64 3600) ∧ w'.cell? ⟨gb115, 1, none⟩ = some (.slice none 0 0) ∧ w'.cell? ⟨gb115, 2, none⟩ = some (.slice Ao11 y112.length co11) ∧ w'.cell? ⟨gb115, 3, none⟩ = some (.int .i64 2000)) ∧ (Kd.N k47 47 w' w.heap.size (fun k_ => (w.heap.size ≤ k_) ∧ k_ ≠ gb111 ∧ k_ ≠ gb115) s_ y117) ∧ (w'.heap[gb111]? = some (.cells #[.int .i64 0, .int .i64 0, .slice none 0 0, .int .i64 0, .int .i64 0, .int .i64 0, .int .i64 0, .int .i64 0, .int .i64 0, .int .i64 0, .int .i64 0] 30 (0, 0))) ∧ (w'.heap[gb115]? = some (.cells #[.int .i64 3600, .slice none 0 0, .slice Ao11 y112.length co11, .int .i64 2000] 47 (0, 0))) ∧ (Below w.heap.size w w')) ?_ ?_
    rotate_left
    ·intro hJ1_6_7_8_12
     refine join_ (σ := Unit) 8 #[true, true, true, true, true, true, false, true, true, true, false, true, true, true, true, true, true, true, true, true, false, false, false, false, false, false] (fun s_ => [(9, .int .i64 t116), (15, .int .i64 t120), (16, .int .i64 t121), (20, .int .i64 t122), (24, .int .i64 t123), (10, .int .i64 (Int.tmod t116 3)), (11, .int .i64 (wrap64 (1 + (Int.tmod t116 3)))), (17, .int .i64 (wrap64 (t121 + 5184000))), (21, .int .i64 (Int.tmod t122 4)), (22, .int .i64 (wrap64 (2 + (Int.tmod t122 4)))), (25, .int .i64 (Int.tmod t123 4)), (26, .int .i64 (wrap64 (2 + (Int.tmod t123 4))))]) (fun s_ w' => (w'.cell? ⟨gb115, 0, none⟩ = some (.int .i64 3600) ∧ w'.cell? ⟨gb115, 1, none⟩ = some (.slice none 0 0) ∧ w'.cell? ⟨gb115, 2, none⟩ = some (.slice Ao11 y112.length co11) ∧ w'.cell? ⟨gb115, 3, none⟩ = some (.int .i64 2000)) ∧ (Kd.R k43 43 w' w.heap.size (fun k_ => (w.heap.size ≤ k_)) (.slice Ao11 y112.length co11) y112) ∧ (w'.heap[gb111]? = some (.cells #[.int .i64 0, .int .i64 0, .slice none 0 0, .int .i64 0, .int .i64 0, .int .i64 0, .int .i64 0, .int .i64 0, .int .i64 0, .int .i64 0, .int .i64 0] 30 (0, 0))) ∧ (w'.heap[gb115]? = some (.cells #[.int .i64 3600, .slice none 0 0, .slice Ao11 y112.length co11, .int .i64 2000] 47 (0, 0))) ∧ (Below w.heap.size w w')) ?_ ?_
     rotate_left
     ·intro hJ1_7_8_12_16
      refine join_ (σ := Value) 12 #[true, true, true, true, true, true, true, true, true, true, true, true, false, false, false, true, false, false, false, true, false, false, false, false, false, false] (fun s_ => [(9, .int .i64 t116), (14, s_), (15, .int .i64 t120), (16, .int .i64 t121), (10, .int .i64 (Int.tmod t116 3)), (11, .int .i64 (wrap64 (1 + (Int.tmod t116 3)))), (17, .int .i64 (wrap64 (t121 + 5184000))), (18, .agg #[.int .i64 (wrap64 (1 + (Int.tmod t116 3))), .int .i64 4, s_, .int .i64 t120, .int .i64 (wrap64 (t121 + 5184000))])]) (fun s_ w' => (w'.cell? ⟨gb115, 0, none⟩ = some (.int .i64 3600) ∧ w'.cell? ⟨gb115, 1, none⟩ = some (.slice none 0 0) ∧ w'.cell? ⟨gb115, 2, none⟩ = some (.slice Ao11 y112.length co11) ∧ w'.cell? ⟨gb115, 3, none⟩ = some (.int .i64 2000)) ∧ (Kd.N k47 47 w' w.heap.size (fun k_ => (w.heap.size ≤ k_) ∧ k_ ≠ gb111 ∧ k_ ≠ gb115) s_ y117) ∧ (w'.heap[gb111]? = some (.cells #[.int .i64 0, .int .i64 0, .slice none 0 0, .int .i64 0, .int .i64 0, .int .i64 0, .int .i64 0, .int .i64 0, .int .i64 0, .int .i64 0, .int .i64 0] 30 (0, 0))) ∧ (w'.heap[gb115]? = some (.cells #[.int .i64 3600, .slice none 0 0, .slice Ao11 y112.length co11, .int .i64 2000] 47 (0, 0))) ∧ (Below w.heap.size w w')) ?_ ?_
      rotate_left
      ·intro hJ1_6_7_8
       refine join_ (σ := Unit) 11 #[true, true, true, true, true, true, false, true, true, true, false, true, true, true, true, true, false, false, false, true, false, false, false, false, false, false] (fun s_ => [(9, .int .i64 t116), (15, .int .i64 t120), (16, .int .i64 t121), (20, .int .i64 t122), (10, .int .i64 (Int.tmod t116 3)), (11, .int .i64 (wrap64 (1 + (Int.tmod t116 3)))), (17, .int .i64 (wrap64 (t121 + 5184000))), (21, .int .i64 (Int.tmod t122 4)), (22, .int .i64 (wrap64 (2 + (Int.tmod t122 4))))]) (fun s_ w' => (w'.cell? ⟨gb115, 0, none⟩ = some (.int .i64 3600) ∧ w'.cell? ⟨gb115, 1, none⟩ = some (.slice none 0 0) ∧ w'.cell? ⟨gb115, 2, none⟩ = some (.slice Ao11 y112.length co11) ∧ w'.cell? ⟨gb115, 3, none⟩ = some (.int .i64 2000)) ∧ (Kd.R k43 43 w' w.heap.size (fun k_ => (w.heap.size ≤ k_)) (.slice Ao11 y112.length co11) y112) ∧ (w'.heap[gb111]? = some (.cells #[.int .i64 0, .int .i64 0, .slice none 0 0, .int .i64 0, .int .i64 0, .int .i64 0, .int .i64 0, .int .i64 0, .int .i64 0, .int .i64 0, .int .i64 0] 30 (0, 0))) ∧ (w'.heap[gb115]? = some (.cells #[.int .i64 3600, .slice none 0 0, .slice Ao11 y112.length co11, .int .i64 2000] 47 (0, 0))) ∧ (Below w.heap.size w w')) ?_ ?_
       rotate_left
       ·intro hJ1_7_8_12
        refine join_ (σ := Value) 15 #[true, true, true, true, true, true, true, true, false, false, false, true, false, false, false, true, false, false, false, true, false, false, false, false, false, false] (fun s_ => [(9, .int .i64 t116), (14, s_), (15, .int .i64 t120), (10, .int .i64 (Int.tmod t116 3)), (11, .int .i64 (wrap64 (1 + (Int.tmod t116 3))))]) (fun s_ w' => (w'.cell? ⟨gb115, 0, none⟩ = some (.int .i64 3600) ∧ w'.cell? ⟨gb115, 1, none⟩ = some (.slice none 0 0) ∧ w'.cell? ⟨gb115, 2, none⟩ = some (.slice Ao11 y112.length co11) ∧ w'.cell? ⟨gb115, 3, none⟩ = some (.int .i64 2000)) ∧ (Kd.N k47 47 w' w.heap.size (fun k_ => (w.heap.size ≤ k_) ∧ k_ ≠ gb111 ∧ k_ ≠ gb115) s_ y117) ∧ (w'.heap[gb111]? = some (.cells #[.int .i64 0, .int .i64 0, .slice none 0 0, .int .i64 0, .int .i64 0, .int .i64 0, .int .i64 0, .int .i64 0, .int .i64 0, .int .i64 0, .int .i64 0] 30 (0, 0))) ∧ (w'.heap[gb115]? = some (.cells #[.int .i64 3600, .slice none 0 0, .slice Ao11 y112.length co11, .int .i64 2000] 47 (0, 0))) ∧ (Below w.heap.size w w')) ?_ ?_
        rotate_left
        ·intro hJ1_6_7
         refine join_ (σ := Unit) 14 #[true, true, true, true, true, true, false, true, true, true, false, true, false, false, false, true, false, false, false, true, false, false, false, false, false, false] (fun s_ => [(9, .int .i64 t116), (15, .int .i64 t120), (16, .int .i64 t121), (10, .int .i64 (Int.tmod t116 3)), (11, .int .i64 (wrap64 (1 + (Int.tmod t116 3)))), (17, .int .i64 (wrap64 (t121 + 5184000)))]) (fun s_ w' => (w'.cell? ⟨gb115, 0, none⟩ = some (.int .i64 3600) ∧ w'.cell? ⟨gb115, 1, none⟩ = some (.slice none 0 0) ∧ w'.cell? ⟨gb115, 2, none⟩ = some (.slice Ao11 y112.length co11) ∧ w'.cell? ⟨gb115, 3, none⟩ = some (.int .i64 2000)) ∧ (Kd.R k43 43 w' w.heap.size (fun k_ => (w.heap.size ≤ k_)) (.slice Ao11 y112.length co11) y112) ∧ (w'.heap[gb111]? = some (.cells #[.int .i64 0, .int .i64 0, .slice none 0 0, .int .i64 0, .int .i64 0, .int .i64 0, .int .i64 0, .int .i64 0, .int .i64 0, .int .i64 0, .int .i64 0] 30 (0, 0))) ∧ (w'.heap[gb115]? = some (.cells #[.int .i64 3600, .slice none 0 0, .slice Ao11 y112.length co11, .int .i64 2000] 47 (0, 0))) ∧ (Below w.heap.size w w')) ?_ ?_
         rotate_left
         ·intro hJ1_7_8
          refine join_ (σ := Value) 16 #[true, true, true, true, true, true, true, false, false, false, false, true, false, false, false, true, false, false, false, true, false, false, false, false, false, false] (fun s_ => [(9, .int .i64 t116), (14, s_), (10, .int .i64 (Int.tmod t116 3)), (11, .int .i64 (wrap64 (1 + (Int.tmod t116 3))))]) (fun s_ w' => (w'.cell? ⟨gb115, 0, none⟩ = some (.int .i64 3600) ∧ w'.cell? ⟨gb115, 1, none⟩ = some (.slice none 0 0) ∧ w'.cell? ⟨gb115, 2, none⟩ = some (.slice Ao11 y112.length co11) ∧ w'.cell? ⟨gb115, 3, none⟩ = some (.int .i64 2000)) ∧ (Kd.N k47 47 w' w.heap.size (fun k_ => (w.heap.size ≤ k_) ∧ k_ ≠ gb111 ∧ k_ ≠ gb115) s_ y117) ∧ (w'.heap[gb111]? = some (.cells #[.int .i64 0, .int .i64 0, .slice none 0 0, .int .i64 0, .int .i64 0, .int .i64 0, .int .i64 0, .int .i64 0, .int .i64 0, .int .i64 0, .int .i64 0] 30 (0, 0))) ∧ (w'.heap[gb115]? = some (.cells #[.int .i64 3600, .slice none 0 0, .slice Ao11 y112.length co11, .int .i64 2000] 47 (0, 0))) ∧ (Below w.heap.size w w')) ?_ ?_
          rotate_left
          ·intro hJ1_6
           refine join_ (σ := Unit) 16 #[true, true, true, true, true, true, false, true, false, false, false, true, false, false, false, true, false, false, false, true, false, false, false, false, false, false] (fun s_ => [(9, .int .i64 t116), (15, .int .i64 t120), (10, .int .i64 (Int.tmod t116 3)), (11, .int .i64 (wrap64 (1 + (Int.tmod t116 3))))]) (fun s_ w' => (w'.cell? ⟨gb115, 0, none⟩ = some (.int .i64 3600) ∧ w'.cell? ⟨gb115, 1, none⟩ = some (.slice none 0 0) ∧ w'.cell? ⟨gb115, 2, none⟩ = some (.slice Ao11 y112.length co11) ∧ w'.cell? ⟨gb115, 3, none⟩ = some (.int .i64 2000)) ∧ (Kd.R k43 43 w' w.heap.size (fun k_ => (w.heap.size ≤ k_)) (.slice Ao11 y112.length co11) y112) ∧ (w'.heap[gb111]? = some (.cells #[.int .i64 0, .int .i64 0, .slice none 0 0, .int .i64 0, .int .i64 0, .int .i64 0, .int .i64 0, .int .i64 0, .int .i64 0, .int .i64 0, .int .i64 0] 30 (0, 0))) ∧ (w'.heap[gb115]? = some (.cells #[.int .i64 3600, .slice none 0 0, .slice Ao11 y112.length co11, .int .i64 2000] 47 (0, 0))) ∧ (Below w.heap.size w w')) ?_ ?_
           rotate_left
           ·intro hJ1_7
            refine join_ (σ := Unit) 17 #[true, true, true, true, true, true, false, false, false, false, false, true, false, false, false, true, false, false, false, true, false, false, false, false, false, false] (fun s_ => [(9, .int .i64 t116), (10, .int .i64 (Int.tmod t116 3)), (11, .int .i64 (wrap64 (1 + (Int.tmod t116 3))))]) (fun s_ w' => (w'.cell? ⟨gb115, 0, none⟩ = some (.int .i64 3600) ∧ w'.cell? ⟨gb115, 1, none⟩ = some (.slice none 0 0) ∧ w'.cell? ⟨gb115, 2, none⟩ = some (.slice Ao11 y112.length co11) ∧ w'.cell? ⟨gb115, 3, none⟩ = some (.int .i64 2000)) ∧ (Kd.R k43 43 w' w.heap.size (fun k_ => (w.heap.size ≤ k_)) (.slice Ao11 y112.length co11) y112) ∧ (w'.heap[gb111]? = some (.cells #[.int .i64 0, .int .i64 0, .slice none 0 0, .int .i64 0, .int .i64 0, .int .i64 0, .int .i64 0, .int .i64 0, .int .i64 0, .int .i64 0, .int .i64 0] 30 (0, 0))) ∧ (w'.heap[gb115]? = some (.cells #[.int .i64 3600, .slice none 0 0, .slice Ao11 y112.length co11, .int .i64 2000] 47 (0, 0))) ∧ (Below w.heap.size w w')) ?_ ?_
            rotate_left
            ·intro hJ1
             refine join_ (σ := Value) 19 #[true, false, false, false, true, true, true, false, false, false, false, true, false, false, false, true, false, false, false, true, false, false, false, false, false, false] (fun s_ => [(14, s_)]) (fun s_ w' => (w'.cell? ⟨gb115, 0, none⟩ = some (.int .i64 3600) ∧ w'.cell? ⟨gb115, 1, none⟩ = some (.slice none 0 0) ∧ w'.cell? ⟨gb115, 2, none⟩ = some (.slice Ao11 y112.length co11) ∧ w'.cell? ⟨gb115, 3, none⟩ = some (.int .i64 2000)) ∧ (Kd.N k47 47 w' w.heap.size (fun k_ => (w.heap.size ≤ k_) ∧ k_ ≠ gb111 ∧ k_ ≠ gb115) s_ y117) ∧ (w'.heap[gb111]? = some (.cells #[.int .i64 0, .int .i64 0, .slice none 0 0, .int .i64 0, .int .i64 0, .int .i64 0, .int .i64 0, .int .i64 0, .int .i64 0, .int .i64 0, .int .i64 0] 30 (0, 0))) ∧ (w'.heap[gb115]? = some (.cells #[.int .i64 3600, .slice none 0 0, .slice Ao11 y112.length co11, .int .i64 2000] 47 (0, 0))) ∧ (Below w.heap.size w w')) ?_ ?_
             rotate_left
             ·intro hJ6
              refine two_ (i := 1) (j := 6) (Ni := some 9) (Nj := some 14) #[true, true, false, false, true, true, false, false, false, false, false, true, false, false, false, true, false, false, false, true, false, false, false, false, false, false] #[true, false, false, false, true, true, true, false, false, false, false, true, false, false, false, true, false, false, false, true, false, false, false, false, false, false] rfl rfl rfl rfl (two_of HT_.out (by kernel_rfl)) (by decide) (by decide) (fun K hK => ?_) (fun K hK => ?_)
              ·skip
               refine goes_ Tryd.func8 (by kernel_rfl) rfl #[.slice A0 l0.length c0, .int .i64 0] (by rfl) rfl rfl (by (try simp only [List.map_toArray, List.map_cons, List.map_nil]); first | done | rfl | (simp only [List.length_drop, List.length_take]; rfl)) ?_
               with_reducible refine (script_at.calls _ _ l0 0 t116 _ ?side1 ?side2 A2.out).mono ?_
               (case side1 => repeat (first | exact (Kd.C_below HR0.out HB.out) | (with_reducible refine Kd.C_alloc ?_ _) | (with_reducible refine Kd.C_drewN ?_ _) | (with_reducible refine Kd.C_drew ?_)))
               (case side2 => exact HC0.out)
               rintro e w' ⟨rfl, ⟨nd, rfl⟩⟩
               refine ⟨_, rfl, ?_⟩
               refine hK.out _ _ ⟨(blk_cell BK115.out 0).trans rfl, (blk_cell BK115.out 1).trans rfl, (blk_cell BK115.out 2).trans rfl, (blk_cell BK115.out 3).trans rfl⟩ (fun hHeld => ?_)
               clear hK K
               refine norm_ (a' := ?_) ?_ ?_
               rotate_left
               ·show Act.put _ (some 9) _ = _
                simp only [Act.put, List.setIfInBounds_toArray, List.set_cons_zero, List.set_cons_succ, i64_w, i32_w]
                rfl
               refine pure_ (i := 2) (N := some 10) (v := ?_) (a' := ?_) #[true, true, true, false, true, true, false, false, false, false, false, true, false, false, false, true, false, false, false, true, false, false, false, false, false, false] rfl rfl (any_of HT_.out (by kernel_rfl)) (fun _ _ _ h => h) (Or.inl ⟨by rfl, ?_⟩) ?_ ?_
               rotate_left
               ·intro w'
                go_simp
                with_reducible rfl
               rotate_left
               ·simp only [Act.put, List.setIfInBounds_toArray, List.set_cons_zero, List.set_cons_succ, i64_w, i32_w]
                rfl
               refine pure_ (i := 3) (N := some 11) (v := ?_) (a' := ?_) #[true, true, true, true, true, true, false, false, false, false, false, true, false, false, false, true, false, false, false, true, false, false, false, false, false, false] rfl rfl (any_of HT_.out (by kernel_rfl)) (fun _ _ _ h => h) (Or.inl ⟨by rfl, ?_⟩) ?_ ?_
               rotate_left
               ·intro w'
                go_simp
                with_reducible rfl
               rotate_left
               ·simp only [Act.put, List.setIfInBounds_toArray, List.set_cons_zero, List.set_cons_succ, i64_w, i32_w]
                rfl
               exact norm_ (by first | (simp only [putAll, Act.put, List.setIfInBounds_toArray, List.set_cons_zero, List.set_cons_succ]; done) | (simp only [putAll, Act.put, List.setIfInBounds_toArray, List.set_cons_zero, List.set_cons_succ]; rfl)) (hJ1 () _ ⟨hHeld, (by (with_reducible repeat (first | apply Kd.R_alloc | apply Kd.R_drewN | apply Kd.R_drew)); exact HO114.out), (by (with_reducible repeat (first | refine blk_drewN ?_ _ | refine blk_drew ?_ | refine blk_alloc ?_ _)); exact BK111.out), (by (with_reducible repeat (first | refine blk_drewN ?_ _ | refine blk_drew ?_ | refine blk_alloc ?_ _)); exact BK115.out), (by repeat (first | (with_reducible first | exact HB.out | apply below_alloc | apply pw_below_drewN | apply below_drew1 | refine below_set ?_ GE111.out | refine below_set ?_ GE115.out) | exact HB.out))⟩)
              ·skip
               refine Kd.N_lit_step k47 _ 47 ?hg (N' := 14) ?hd (xs := ([(⟨0, ([] : List (S79)), ([] : List (S43)), 0⟩ : S47), (⟨3600, ([] : List (S79)), y112, 2000⟩ : S47)] : List (S47))) (inner := [.int .i64 0, .slice none 0 0, .slice none 0 0, .int .i64 0, .int .i64 3600, .slice none 0 0, .slice Ao11 y112.length co11, .int .i64 2000]) (ok := (fun k_ => (w.heap.size ≤ k_) ∧ k_ ≠ gb111 ∧ k_ ≠ gb115)) (okp := (fun k_ => (w.heap.size ≤ k_) ∧ k_ ≠ gb111 ∧ k_ ≠ gb115)) ?hr ?hp (fun _ hk => hk) ((show ∀ k_, w16.heap.size ≤ k_ → (fun k_ => (w.heap.size ≤ k_) ∧ k_ ≠ gb111 ∧ k_ ≠ gb115) k_ from fun k_ hk => ⟨(Nat.le_trans (below_size (by repeat (first | (with_reducible first | exact HB.out | apply below_alloc | apply pw_below_drewN | apply below_drew1 | refine below_set ?_ GE111.out | refine below_set ?_ GE115.out) | exact HB.out))) hk), Kd.freshB (g := gb111) (o := .cells #[.int .i64 0, .int .i64 0, .slice none 0 0, .int .i64 0, .int .i64 0, .int .i64 0, .int .i64 0, .int .i64 0, .int .i64 0, .int .i64 0, .int .i64 0] 30 (0, 0)) (by (with_reducible repeat (first | refine blk_drewN ?_ _ | refine blk_drew ?_ | refine blk_alloc ?_ _)); exact BK111.out) k_ hk, Kd.freshB (g := gb115) (o := .cells #[.int .i64 3600, .slice none 0 0, .slice Ao11 y112.length co11, .int .i64 2000] 47 (0, 0)) (by (with_reducible repeat (first | refine blk_drewN ?_ _ | refine blk_drew ?_ | refine blk_alloc ?_ _)); exact BK115.out) k_ hk⟩) _ (Nat.le_refl _)) (Below.refl _ _) (Nat.le_refl _) (by simp) ?_; (case hd => rfl); (case hg => rfl); (case hr => first | (go_simp; done) | (go_simp; rfl)); (case hp => exact (Reps.c4 (show Kd.FK k47 _ _ (⟨0, ([] : List (S79)), ([] : List (S43)), 0⟩ : S47) [.int .i64 0, .slice none 0 0, .slice none 0 0, .int .i64 0] from (k47_mkF _ _ (⟨0, ([] : List (S79)), ([] : List (S43)), 0⟩ : S47) (Nat.le_refl _) (Kd.F_nil _ _ _) (Nat.le_refl _) (Kd.F_nil _ _ _))) (Reps.c4 (show Kd.FK k47 _ _ (⟨3600, ([] : List (S79)), y112, 2000⟩ : S47) [.int .i64 3600, .slice none 0 0, .slice Ao11 y112.length co11, .int .i64 2000] from (k47_mkF _ _ (⟨3600, ([] : List (S79)), y112, 2000⟩ : S47) (Nat.le_refl _) (Kd.F_nil _ _ _) (Kd.R_reads' (Kd.R_mono (ok' := (fun k_ => (w.heap.size ≤ k_) ∧ k_ ≠ gb111 ∧ k_ ≠ gb115)) (Kd.R_types (Kd.R_types (HO114.out) BK111.out (by decide)) BK115.out (by decide)) (fun k_ hk => ⟨hk.1.1, ⟨hk.1.2, hk.2⟩⟩))).2.1 (Kd.R_F (Kd.R_mono (ok' := (fun k_ => (w.heap.size ≤ k_) ∧ k_ ≠ gb111 ∧ k_ ≠ gb115)) (Kd.R_types (Kd.R_types (HO114.out) BK111.out (by decide)) BK115.out (by decide)) (fun k_ hk => ⟨hk.1.1, ⟨hk.1.2, hk.2⟩⟩))))) (Reps.none _ _))))
               intro v118 w17 ho18 hb hg_ hnew_
               clear hg_ hnew_
               (first | rw [← Ny117.out] at ho18 | (simp only [Int.reduceToNat] at ho18; rw [← Ny117.out] at ho18))
               have n0_ := Aside0.mk (Kd.N_lower ho18 (below_size (by repeat (first | (with_reducible first | exact HB.out | apply below_alloc | apply pw_below_drewN | apply below_drew1 | refine below_set ?_ GE111.out | refine below_set ?_ GE115.out) | exact HB.out))))
               have n1_ := Aside0.mk (blk_below (g := gb111) (o := .cells #[.int .i64 0, .int .i64 0, .slice none 0 0, .int .i64 0, .int .i64 0, .int .i64 0, .int .i64 0, .int .i64 0, .int .i64 0, .int .i64 0, .int .i64 0] 30 (0, 0)) (by (with_reducible repeat (first | refine blk_drewN ?_ _ | refine blk_drew ?_ | refine blk_alloc ?_ _)); exact BK111.out) hb)
               have n2_ := Aside0.mk (blk_below (g := gb115) (o := .cells #[.int .i64 3600, .slice none 0 0, .slice Ao11 y112.length co11, .int .i64 2000] 47 (0, 0)) (by (with_reducible repeat (first | refine blk_drewN ?_ _ | refine blk_drew ?_ | refine blk_alloc ?_ _)); exact BK115.out) hb)
               have n3_ := Aside0.mk (below_step (by repeat (first | (with_reducible first | exact HB.out | apply below_alloc | apply pw_below_drewN | apply below_drew1 | refine below_set ?_ GE111.out | refine below_set ?_ GE115.out) | exact HB.out)) hb)
               clear BK111
               clear BK115
               clear HB
               clear HO114
               have HO119 := n0_
               have BK111 := n1_
               have BK115 := n2_
               have HB := n3_
               clear n0_ n1_ n2_ n3_
               clear hb ho18
               refine hK.out _ _ ⟨(blk_cell BK115.out 0).trans rfl, (blk_cell BK115.out 1).trans rfl, (blk_cell BK115.out 2).trans rfl, (blk_cell BK115.out 3).trans rfl⟩ (fun hHeld => ?_)
               clear hK K
               refine norm_ (a' := ?_) ?_ ?_
               rotate_left
               ·show Act.put _ (some 14) _ = _
                simp only [Act.put, List.setIfInBounds_toArray, List.set_cons_zero, List.set_cons_succ, i64_w, i32_w]
                rfl
               exact norm_ (by first | (simp only [putAll, Act.put, List.setIfInBounds_toArray, List.set_cons_zero, List.set_cons_succ]; done) | (simp only [putAll, Act.put, List.setIfInBounds_toArray, List.set_cons_zero, List.set_cons_succ]; rfl)) (hJ6 (v118) _ ⟨hHeld, (by (with_reducible repeat (first | apply Kd.N_alloc | apply Kd.N_drewN | apply Kd.N_drew)); exact HO119.out), (by (with_reducible repeat (first | refine blk_drewN ?_ _ | refine blk_drew ?_ | refine blk_alloc ?_ _)); exact BK111.out), (by (with_reducible repeat (first | refine blk_drewN ?_ _ | refine blk_drew ?_ | refine blk_alloc ?_ _)); exact BK115.out), (by repeat (first | (with_reducible first | exact HB.out | apply below_alloc | apply pw_below_drewN | apply below_drew1 | refine below_set ?_ GE111.out | refine below_set ?_ GE115.out) | exact HB.out))⟩)
             ·skip
              rintro v118 w19 ⟨hS_, h0_, h1_, h2_, h3_⟩
              have n0_ : Aside0 (Kd.N k47 47 w19 w.heap.size (fun k_ => (w.heap.size ≤ k_) ∧ k_ ≠ gb111 ∧ k_ ≠ gb115) v118 y117) := ⟨h0_⟩
              have n1_ : Aside0 (w19.heap[gb111]? = some (.cells #[.int .i64 0, .int .i64 0, .slice none 0 0, .int .i64 0, .int .i64 0, .int .i64 0, .int .i64 0, .int .i64 0, .int .i64 0, .int .i64 0, .int .i64 0] 30 (0, 0))) := ⟨h1_⟩
              have n2_ : Aside0 (w19.heap[gb115]? = some (.cells #[.int .i64 3600, .slice none 0 0, .slice Ao11 y112.length co11, .int .i64 2000] 47 (0, 0))) := ⟨h2_⟩
              have n3_ : Aside0 (Below w.heap.size w w19) := ⟨h3_⟩
              clear HO114
              clear BK111
              clear BK115
              clear HB
              clear h0_ h1_ h2_ h3_
              have HO119 := n0_
              have BK111 := n1_
              have BK115 := n2_
              have HB := n3_
              clear n0_ n1_ n2_ n3_
              have hHeld : w19.cell? ⟨gb115, 0, none⟩ = some (.int .i64 3600) ∧ w19.cell? ⟨gb115, 1, none⟩ = some (.slice none 0 0) ∧ w19.cell? ⟨gb115, 2, none⟩ = some (.slice Ao11 y112.length co11) ∧ w19.cell? ⟨gb115, 3, none⟩ = some (.int .i64 2000) := hS_
              refine norm_ (a' := ?_) ?_ ?_
              rotate_left
              ·simp only [putAll, Act.put, List.setIfInBounds_toArray, List.set_cons_zero, List.set_cons_succ]
               rfl
              refine one_ (i := 1) (N := some 9) #[true, true, false, false, true, true, true, false, false, false, false, true, false, false, false, true, false, false, false, true, false, false, false, false, false, false] rfl rfl (one_of HT_.out (by kernel_rfl)) (by decide) (fun K hK => ?_)
              refine goes_ Tryd.func8 (by kernel_rfl) rfl #[.slice A0 l0.length c0, .int .i64 0] (by rfl) rfl rfl (by (try simp only [List.map_toArray, List.map_cons, List.map_nil]); first | done | rfl | (simp only [List.length_drop, List.length_take]; rfl)) ?_
              with_reducible refine (script_at.calls _ _ l0 0 t116 _ ?side1 ?side2 A2.out).mono ?_
              (case side1 => repeat (first | exact (Kd.C_below HR0.out HB.out) | (with_reducible refine Kd.C_alloc ?_ _) | (with_reducible refine Kd.C_drewN ?_ _) | (with_reducible refine Kd.C_drew ?_)))
              (case side2 => exact HC0.out)
              rintro e w' ⟨rfl, ⟨nd, rfl⟩⟩
              refine ⟨_, rfl, ?_⟩
              refine hK.out _ _ ⟨(blk_cell BK115.out 0).trans rfl, (blk_cell BK115.out 1).trans rfl, (blk_cell BK115.out 2).trans rfl, (blk_cell BK115.out 3).trans rfl⟩ (fun hHeld => ?_)
              clear hK K
              refine norm_ (a' := ?_) ?_ ?_
              rotate_left
              ·show Act.put _ (some 9) _ = _
               simp only [Act.put, List.setIfInBounds_toArray, List.set_cons_zero, List.set_cons_succ, i64_w, i32_w]
               rfl
              refine pure_ (i := 2) (N := some 10) (v := ?_) (a' := ?_) #[true, true, true, false, true, true, true, false, false, false, false, true, false, false, false, true, false, false, false, true, false, false, false, false, false, false] rfl rfl (any_of HT_.out (by kernel_rfl)) (fun _ _ _ h => h) (Or.inl ⟨by rfl, ?_⟩) ?_ ?_
              rotate_left
              ·intro w'
               go_simp
               with_reducible rfl
              rotate_left
              ·simp only [Act.put, List.setIfInBounds_toArray, List.set_cons_zero, List.set_cons_succ, i64_w, i32_w]
               rfl
              refine pure_ (i := 3) (N := some 11) (v := ?_) (a' := ?_) #[true, true, true, true, true, true, true, false, false, false, false, true, false, false, false, true, false, false, false, true, false, false, false, false, false, false] rfl rfl (any_of HT_.out (by kernel_rfl)) (fun _ _ _ h => h) (Or.inl ⟨by rfl, ?_⟩) ?_ ?_
              rotate_left
              ·intro w'
               go_simp
               with_reducible rfl
              rotate_left
              ·simp only [Act.put, List.setIfInBounds_toArray, List.set_cons_zero, List.set_cons_succ, i64_w, i32_w]
               rfl
              exact norm_ (by first | (simp only [putAll, Act.put, List.setIfInBounds_toArray, List.set_cons_zero, List.set_cons_succ]; done) | (simp only [putAll, Act.put, List.setIfInBounds_toArray, List.set_cons_zero, List.set_cons_succ]; rfl)) (hJ1_6 (v118) _ ⟨hHeld, (by (with_reducible repeat (first | apply Kd.N_alloc | apply Kd.N_drewN | apply Kd.N_drew)); exact HO119.out), (by (with_reducible repeat (first | refine blk_drewN ?_ _ | refine blk_drew ?_ | refine blk_alloc ?_ _)); exact BK111.out), (by (with_reducible repeat (first | refine blk_drewN ?_ _ | refine blk_drew ?_ | refine blk_alloc ?_ _)); exact BK115.out), (by repeat (first | (with_reducible first | exact HB.out | apply below_alloc | apply pw_below_drewN | apply below_drew1 | refine below_set ?_ GE111.out | refine below_set ?_ GE115.out) | exact HB.out))⟩)
            ·skip
             rintro _ w17 ⟨hS_, h0_, h1_, h2_, h3_⟩
             have n0_ : Aside0 (Kd.R k43 43 w17 w.heap.size (fun k_ => (w.heap.size ≤ k_)) (.slice Ao11 y112.length co11) y112) := ⟨h0_⟩
             have n1_ : Aside0 (w17.heap[gb111]? = some (.cells #[.int .i64 0, .int .i64 0, .slice none 0 0, .int .i64 0, .int .i64 0, .int .i64 0, .int .i64 0, .int .i64 0, .int .i64 0, .int .i64 0, .int .i64 0] 30 (0, 0))) := ⟨h1_⟩
             have n2_ : Aside0 (w17.heap[gb115]? = some (.cells #[.int .i64 3600, .slice none 0 0, .slice Ao11 y112.length co11, .int .i64 2000] 47 (0, 0))) := ⟨h2_⟩
             have n3_ : Aside0 (Below w.heap.size w w17) := ⟨h3_⟩
             clear HO114
             clear BK111
             clear BK115
             clear HB
             clear h0_ h1_ h2_ h3_
             have HO114 := n0_
             have BK111 := n1_
             have BK115 := n2_
             have HB := n3_
             clear n0_ n1_ n2_ n3_
             have hHeld : w17.cell? ⟨gb115, 0, none⟩ = some (.int .i64 3600) ∧ w17.cell? ⟨gb115, 1, none⟩ = some (.slice none 0 0) ∧ w17.cell? ⟨gb115, 2, none⟩ = some (.slice Ao11 y112.length co11) ∧ w17.cell? ⟨gb115, 3, none⟩ = some (.int .i64 2000) := hS_
             refine norm_ (a' := ?_) ?_ ?_
             rotate_left
             ·simp only [putAll, Act.put, List.setIfInBounds_toArray, List.set_cons_zero, List.set_cons_succ]
              rfl
             refine two_ (i := 6) (j := 7) (Ni := some 14) (Nj := some 15) #[true, true, true, true, true, true, true, false, false, false, false, true, false, false, false, true, false, false, false, true, false, false, false, false, false, false] #[true, true, true, true, true, true, false, true, false, false, false, true, false, false, false, true, false, false, false, true, false, false, false, false, false, false] rfl rfl rfl rfl (two_of HT_.out (by kernel_rfl)) (by decide) (by decide) (fun K hK => ?_) (fun K hK => ?_)
             ·skip
              refine Kd.N_lit_step k47 _ 47 ?hg (N' := 14) ?hd (xs := ([(⟨0, ([] : List (S79)), ([] : List (S43)), 0⟩ : S47), (⟨3600, ([] : List (S79)), y112, 2000⟩ : S47)] : List (S47))) (inner := [.int .i64 0, .slice none 0 0, .slice none 0 0, .int .i64 0, .int .i64 3600, .slice none 0 0, .slice Ao11 y112.length co11, .int .i64 2000]) (ok := (fun k_ => (w.heap.size ≤ k_) ∧ k_ ≠ gb111 ∧ k_ ≠ gb115)) (okp := (fun k_ => (w.heap.size ≤ k_) ∧ k_ ≠ gb111 ∧ k_ ≠ gb115)) ?hr ?hp (fun _ hk => hk) ((show ∀ k_, w17.heap.size ≤ k_ → (fun k_ => (w.heap.size ≤ k_) ∧ k_ ≠ gb111 ∧ k_ ≠ gb115) k_ from fun k_ hk => ⟨(Nat.le_trans (below_size (by repeat (first | (with_reducible first | exact HB.out | apply below_alloc | apply pw_below_drewN | apply below_drew1 | refine below_set ?_ GE111.out | refine below_set ?_ GE115.out) | exact HB.out))) hk), Kd.freshB (g := gb111) (o := .cells #[.int .i64 0, .int .i64 0, .slice none 0 0, .int .i64 0, .int .i64 0, .int .i64 0, .int .i64 0, .int .i64 0, .int .i64 0, .int .i64 0, .int .i64 0] 30 (0, 0)) (by (with_reducible repeat (first | refine blk_drewN ?_ _ | refine blk_drew ?_ | refine blk_alloc ?_ _)); exact BK111.out) k_ hk, Kd.freshB (g := gb115) (o := .cells #[.int .i64 3600, .slice none 0 0, .slice Ao11 y112.length co11, .int .i64 2000] 47 (0, 0)) (by (with_reducible repeat (first | refine blk_drewN ?_ _ | refine blk_drew ?_ | refine blk_alloc ?_ _)); exact BK115.out) k_ hk⟩) _ (Nat.le_refl _)) (Below.refl _ _) (Nat.le_refl _) (by simp) ?_; (case hd => rfl); (case hg => rfl); (case hr => first | (go_simp; done) | (go_simp; rfl)); (case hp => exact (Reps.c4 (show Kd.FK k47 _ _ (⟨0, ([] : List (S79)), ([] : List (S43)), 0⟩ : S47) [.int .i64 0, .slice none 0 0, .slice none 0 0, .int .i64 0] from (k47_mkF _ _ (⟨0, ([] : List (S79)), ([] : List (S43)), 0⟩ : S47) (Nat.le_refl _) (Kd.F_nil _ _ _) (Nat.le_refl _) (Kd.F_nil _ _ _))) (Reps.c4 (show Kd.FK k47 _ _ (⟨3600, ([] : List (S79)), y112, 2000⟩ : S47) [.int .i64 3600, .slice none 0 0, .slice Ao11 y112.length co11, .int .i64 2000] from (k47_mkF _ _ (⟨3600, ([] : List (S79)), y112, 2000⟩ : S47) (Nat.le_refl _) (Kd.F_nil _ _ _) (Kd.R_reads' (Kd.R_mono (ok' := (fun k_ => (w.heap.size ≤ k_) ∧ k_ ≠ gb111 ∧ k_ ≠ gb115)) (Kd.R_types (Kd.R_types (HO114.out) BK111.out (by decide)) BK115.out (by decide)) (fun k_ hk => ⟨hk.1.1, ⟨hk.1.2, hk.2⟩⟩))).2.1 (Kd.R_F (Kd.R_mono (ok' := (fun k_ => (w.heap.size ≤ k_) ∧ k_ ≠ gb111 ∧ k_ ≠ gb115)) (Kd.R_types (Kd.R_types (HO114.out) BK111.out (by decide)) BK115.out (by decide)) (fun k_ hk => ⟨hk.1.1, ⟨hk.1.2, hk.2⟩⟩))))) (Reps.none _ _))))
              intro v118 w18 ho19 hb hg_ hnew_
              clear hg_ hnew_
              (first | rw [← Ny117.out] at ho19 | (simp only [Int.reduceToNat] at ho19; rw [← Ny117.out] at ho19))
              have n0_ := Aside0.mk (Kd.N_lower ho19 (below_size (by repeat (first | (with_reducible first | exact HB.out | apply below_alloc | apply pw_below_drewN | apply below_drew1 | refine below_set ?_ GE111.out | refine below_set ?_ GE115.out) | exact HB.out))))
              have n1_ := Aside0.mk (blk_below (g := gb111) (o := .cells #[.int .i64 0, .int .i64 0, .slice none 0 0, .int .i64 0, .int .i64 0, .int .i64 0, .int .i64 0, .int .i64 0, .int .i64 0, .int .i64 0, .int .i64 0] 30 (0, 0)) (by (with_reducible repeat (first | refine blk_drewN ?_ _ | refine blk_drew ?_ | refine blk_alloc ?_ _)); exact BK111.out) hb)
              have n2_ := Aside0.mk (blk_below (g := gb115) (o := .cells #[.int .i64 3600, .slice none 0 0, .slice Ao11 y112.length co11, .int .i64 2000] 47 (0, 0)) (by (with_reducible repeat (first | refine blk_drewN ?_ _ | refine blk_drew ?_ | refine blk_alloc ?_ _)); exact BK115.out) hb)
              have n3_ := Aside0.mk (below_step (by repeat (first | (with_reducible first | exact HB.out | apply below_alloc | apply pw_below_drewN | apply below_drew1 | refine below_set ?_ GE111.out | refine below_set ?_ GE115.out) | exact HB.out)) hb)
              clear BK111
              clear BK115
              clear HB
              clear HO114
              have HO119 := n0_
              have BK111 := n1_
              have BK115 := n2_
              have HB := n3_
              clear n0_ n1_ n2_ n3_
              clear hb ho19
              refine hK.out _ _ ⟨(blk_cell BK115.out 0).trans rfl, (blk_cell BK115.out 1).trans rfl, (blk_cell BK115.out 2).trans rfl, (blk_cell BK115.out 3).trans rfl⟩ (fun hHeld => ?_)
              clear hK K
              refine norm_ (a' := ?_) ?_ ?_
              rotate_left
              ·show Act.put _ (some 14) _ = _
               simp only [Act.put, List.setIfInBounds_toArray, List.set_cons_zero, List.set_cons_succ, i64_w, i32_w]
               rfl
              exact norm_ (by first | (simp only [putAll, Act.put, List.setIfInBounds_toArray, List.set_cons_zero, List.set_cons_succ]; done) | (simp only [putAll, Act.put, List.setIfInBounds_toArray, List.set_cons_zero, List.set_cons_succ]; rfl)) (hJ1_6 (v118) _ ⟨hHeld, (by (with_reducible repeat (first | apply Kd.N_alloc | apply Kd.N_drewN | apply Kd.N_drew)); exact HO119.out), (by (with_reducible repeat (first | refine blk_drewN ?_ _ | refine blk_drew ?_ | refine blk_alloc ?_ _)); exact BK111.out), (by (with_reducible repeat (first | refine blk_drewN ?_ _ | refine blk_drew ?_ | refine blk_alloc ?_ _)); exact BK115.out), (by repeat (first | (with_reducible first | exact HB.out | apply below_alloc | apply pw_below_drewN | apply below_drew1 | refine below_set ?_ GE111.out | refine below_set ?_ GE115.out) | exact HB.out))⟩)
             ·skip
              refine goes_ Tryd.func9 (by kernel_rfl) rfl #[] (by rfl) rfl rfl (by (try simp only [List.map_toArray, List.map_cons, List.map_nil]); first | done | rfl | (simp only [List.length_drop, List.length_take]; rfl)) ?_
              with_reducible refine (script_begin.calls k  t120 _ A3.out).mono ?_
              rintro e w' ⟨rfl, ⟨nd, rfl⟩⟩
              refine ⟨_, rfl, ?_⟩
              refine hK.out _ _ ⟨(blk_cell BK115.out 0).trans rfl, (blk_cell BK115.out 1).trans rfl, (blk_cell BK115.out 2).trans rfl, (blk_cell BK115.out 3).trans rfl⟩ (fun hHeld => ?_)
              clear hK K
              refine norm_ (a' := ?_) ?_ ?_
              rotate_left
              ·show Act.put _ (some 15) _ = _
               simp only [Act.put, List.setIfInBounds_toArray, List.set_cons_zero, List.set_cons_succ, i64_w, i32_w]
               rfl
              exact norm_ (by first | (simp only [putAll, Act.put, List.setIfInBounds_toArray, List.set_cons_zero, List.set_cons_succ]; done) | (simp only [putAll, Act.put, List.setIfInBounds_toArray, List.set_cons_zero, List.set_cons_succ]; rfl)) (hJ1_7 () _ ⟨hHeld, (by (with_reducible repeat (first | apply Kd.R_alloc | apply Kd.R_drewN | apply Kd.R_drew)); exact HO114.out), (by (with_reducible repeat (first | refine blk_drewN ?_ _ | refine blk_drew ?_ | refine blk_alloc ?_ _)); exact BK111.out), (by (with_reducible repeat (first | refine blk_drewN ?_ _ | refine blk_drew ?_ | refine blk_alloc ?_ _)); exact BK115.out), (by repeat (first | (with_reducible first | exact HB.out | apply below_alloc | apply pw_below_drewN | apply below_drew1 | refine below_set ?_ GE111.out | refine below_set ?_ GE115.out) | exact HB.out))⟩)
           ·skip
            rintro _ w17 ⟨hS_, h0_, h1_, h2_, h3_⟩
            have n0_ : Aside0 (Kd.R k43 43 w17 w.heap.size (fun k_ => (w.heap.size ≤ k_)) (.slice Ao11 y112.length co11) y112) := ⟨h0_⟩
            have n1_ : Aside0 (w17.heap[gb111]? = some (.cells #[.int .i64 0, .int .i64 0, .slice none 0 0, .int .i64 0, .int .i64 0, .int .i64 0, .int .i64 0, .int .i64 0, .int .i64 0, .int .i64 0, .int .i64 0] 30 (0, 0))) := ⟨h1_⟩
            have n2_ : Aside0 (w17.heap[gb115]? = some (.cells #[.int .i64 3600, .slice none 0 0, .slice Ao11 y112.length co11, .int .i64 2000] 47 (0, 0))) := ⟨h2_⟩
            have n3_ : Aside0 (Below w.heap.size w w17) := ⟨h3_⟩
            clear HO114
            clear BK111
            clear BK115
            clear HB
            clear h0_ h1_ h2_ h3_
            have HO114 := n0_
            have BK111 := n1_
            have BK115 := n2_
            have HB := n3_
            clear n0_ n1_ n2_ n3_
            have hHeld : w17.cell? ⟨gb115, 0, none⟩ = some (.int .i64 3600) ∧ w17.cell? ⟨gb115, 1, none⟩ = some (.slice none 0 0) ∧ w17.cell? ⟨gb115, 2, none⟩ = some (.slice Ao11 y112.length co11) ∧ w17.cell? ⟨gb115, 3, none⟩ = some (.int .i64 2000) := hS_
            refine norm_ (a' := ?_) ?_ ?_
            rotate_left
            ·simp only [putAll, Act.put, List.setIfInBounds_toArray, List.set_cons_zero, List.set_cons_succ]
             rfl
            refine two_ (i := 6) (j := 8) (Ni := some 14) (Nj := some 16) #[true, true, true, true, true, true, true, true, false, false, false, true, false, false, false, true, false, false, false, true, false, false, false, false, false, false] #[true, true, true, true, true, true, false, true, true, false, false, true, false, false, false, true, false, false, false, true, false, false, false, false, false, false] rfl rfl rfl rfl (two_of HT_.out (by kernel_rfl)) (by decide) (by decide) (fun K hK => ?_) (fun K hK => ?_)
            ·skip
             refine Kd.N_lit_step k47 _ 47 ?hg (N' := 14) ?hd (xs := ([(⟨0, ([] : List (S79)), ([] : List (S43)), 0⟩ : S47), (⟨3600, ([] : List (S79)), y112, 2000⟩ : S47)] : List (S47))) (inner := [.int .i64 0, .slice none 0 0, .slice none 0 0, .int .i64 0, .int .i64 3600, .slice none 0 0, .slice Ao11 y112.length co11, .int .i64 2000]) (ok := (fun k_ => (w.heap.size ≤ k_) ∧ k_ ≠ gb111 ∧ k_ ≠ gb115)) (okp := (fun k_ => (w.heap.size ≤ k_) ∧ k_ ≠ gb111 ∧ k_ ≠ gb115)) ?hr ?hp (fun _ hk => hk) ((show ∀ k_, w17.heap.size ≤ k_ → (fun k_ => (w.heap.size ≤ k_) ∧ k_ ≠ gb111 ∧ k_ ≠ gb115) k_ from fun k_ hk => ⟨(Nat.le_trans (below_size (by repeat (first | (with_reducible first | exact HB.out | apply below_alloc | apply pw_below_drewN | apply below_drew1 | refine below_set ?_ GE111.out | refine below_set ?_ GE115.out) | exact HB.out))) hk), Kd.freshB (g := gb111) (o := .cells #[.int .i64 0, .int .i64 0, .slice none 0 0, .int .i64 0, .int .i64 0, .int .i64 0, .int .i64 0, .int .i64 0, .int .i64 0, .int .i64 0, .int .i64 0] 30 (0, 0)) (by (with_reducible repeat (first | refine blk_drewN ?_ _ | refine blk_drew ?_ | refine blk_alloc ?_ _)); exact BK111.out) k_ hk, Kd.freshB (g := gb115) (o := .cells #[.int .i64 3600, .slice none 0 0, .slice Ao11 y112.length co11, .int .i64 2000] 47 (0, 0)) (by (with_reducible repeat (first | refine blk_drewN ?_ _ | refine blk_drew ?_ | refine blk_alloc ?_ _)); exact BK115.out) k_ hk⟩) _ (Nat.le_refl _)) (Below.refl _ _) (Nat.le_refl _) (by simp) ?_; (case hd => rfl); (case hg => rfl); (case hr => first | (go_simp; done) | (go_simp; rfl)); (case hp => exact (Reps.c4 (show Kd.FK k47 _ _ (⟨0, ([] : List (S79)), ([] : List (S43)), 0⟩ : S47) [.int .i64 0, .slice none 0 0, .slice none 0 0, .int .i64 0] from (k47_mkF _ _ (⟨0, ([] : List (S79)), ([] : List (S43)), 0⟩ : S47) (Nat.le_refl _) (Kd.F_nil _ _ _) (Nat.le_refl _) (Kd.F_nil _ _ _))) (Reps.c4 (show Kd.FK k47 _ _ (⟨3600, ([] : List (S79)), y112, 2000⟩ : S47) [.int .i64 3600, .slice none 0 0, .slice Ao11 y112.length co11, .int .i64 2000] from (k47_mkF _ _ (⟨3600, ([] : List (S79)), y112, 2000⟩ : S47) (Nat.le_refl _) (Kd.F_nil _ _ _) (Kd.R_reads' (Kd.R_mono (ok' := (fun k_ => (w.heap.size ≤ k_) ∧ k_ ≠ gb111 ∧ k_ ≠ gb115)) (Kd.R_types (Kd.R_types (HO114.out) BK111.out (by decide)) BK115.out (by decide)) (fun k_ hk => ⟨hk.1.1, ⟨hk.1.2, hk.2⟩⟩))).2.1 (Kd.R_F (Kd.R_mono (ok' := (fun k_ => (w.heap.size ≤ k_) ∧ k_ ≠ gb111 ∧ k_ ≠ gb115)) (Kd.R_types (Kd.R_types (HO114.out) BK111.out (by decide)) BK115.out (by decide)) (fun k_ hk => ⟨hk.1.1, ⟨hk.1.2, hk.2⟩⟩))))) (Reps.none _ _))))
             intro v118 w18 ho19 hb hg_ hnew_
             clear hg_ hnew_
             (first | rw [← Ny117.out] at ho19 | (simp only [Int.reduceToNat] at ho19; rw [← Ny117.out] at ho19))
             have n0_ := Aside0.mk (Kd.N_lower ho19 (below_size (by repeat (first | (with_reducible first | exact HB.out | apply below_alloc | apply pw_below_drewN | apply below_drew1 | refine below_set ?_ GE111.out | refine below_set ?_ GE115.out) | exact HB.out))))
             have n1_ := Aside0.mk (blk_below (g := gb111) (o := .cells #[.int .i64 0, .int .i64 0, .slice none 0 0, .int .i64 0, .int .i64 0, .int .i64 0, .int .i64 0, .int .i64 0, .int .i64 0, .int .i64 0, .int .i64 0] 30 (0, 0)) (by (with_reducible repeat (first | refine blk_drewN ?_ _ | refine blk_drew ?_ | refine blk_alloc ?_ _)); exact BK111.out) hb)
             have n2_ := Aside0.mk (blk_below (g := gb115) (o := .cells #[.int .i64 3600, .slice none 0 0, .slice Ao11 y112.length co11, .int .i64 2000] 47 (0, 0)) (by (with_reducible repeat (first | refine blk_drewN ?_ _ | refine blk_drew ?_ | refine blk_alloc ?_ _)); exact BK115.out) hb)
             have n3_ := Aside0.mk (below_step (by repeat (first | (with_reducible first | exact HB.out | apply below_alloc | apply pw_below_drewN | apply below_drew1 | refine below_set ?_ GE111.out | refine below_set ?_ GE115.out) | exact HB.out)) hb)
             clear BK111
             clear BK115
             clear HB
             clear HO114
             have HO119 := n0_
             have BK111 := n1_
             have BK115 := n2_
             have HB := n3_
             clear n0_ n1_ n2_ n3_
             clear hb ho19
             refine hK.out _ _ ⟨(blk_cell BK115.out 0).trans rfl, (blk_cell BK115.out 1).trans rfl, (blk_cell BK115.out 2).trans rfl, (blk_cell BK115.out 3).trans rfl⟩ (fun hHeld => ?_)
             clear hK K
             refine norm_ (a' := ?_) ?_ ?_
             rotate_left
             ·show Act.put _ (some 14) _ = _
              simp only [Act.put, List.setIfInBounds_toArray, List.set_cons_zero, List.set_cons_succ, i64_w, i32_w]
              rfl
             exact norm_ (by first | (simp only [putAll, Act.put, List.setIfInBounds_toArray, List.set_cons_zero, List.set_cons_succ]; done) | (simp only [putAll, Act.put, List.setIfInBounds_toArray, List.set_cons_zero, List.set_cons_succ]; rfl)) (hJ1_6_7 (v118) _ ⟨hHeld, (by (with_reducible repeat (first | apply Kd.N_alloc | apply Kd.N_drewN | apply Kd.N_drew)); exact HO119.out), (by (with_reducible repeat (first | refine blk_drewN ?_ _ | refine blk_drew ?_ | refine blk_alloc ?_ _)); exact BK111.out), (by (with_reducible repeat (first | refine blk_drewN ?_ _ | refine blk_drew ?_ | refine blk_alloc ?_ _)); exact BK115.out), (by repeat (first | (with_reducible first | exact HB.out | apply below_alloc | apply pw_below_drewN | apply below_drew1 | refine below_set ?_ GE111.out | refine below_set ?_ GE115.out) | exact HB.out))⟩)
            ·skip
             refine goes_ Tryd.func9 (by kernel_rfl) rfl #[] (by rfl) rfl rfl (by (try simp only [List.map_toArray, List.map_cons, List.map_nil]); first | done | rfl | (simp only [List.length_drop, List.length_take]; rfl)) ?_
             with_reducible refine (script_begin.calls k  t121 _ A4.out).mono ?_
             rintro e w' ⟨rfl, ⟨nd, rfl⟩⟩
             refine ⟨_, rfl, ?_⟩
             refine hK.out _ _ ⟨(blk_cell BK115.out 0).trans rfl, (blk_cell BK115.out 1).trans rfl, (blk_cell BK115.out 2).trans rfl, (blk_cell BK115.out 3).trans rfl⟩ (fun hHeld => ?_)
             clear hK K
             refine norm_ (a' := ?_) ?_ ?_
             rotate_left
             ·show Act.put _ (some 16) _ = _
              simp only [Act.put, List.setIfInBounds_toArray, List.set_cons_zero, List.set_cons_succ, i64_w, i32_w]
              rfl
             refine pure_ (i := 9) (N := some 17) (v := ?_) (a' := ?_) #[true, true, true, true, true, true, false, true, true, true, false, true, false, false, false, true, false, false, false, true, false, false, false, false, false, false] rfl rfl (any_of HT_.out (by kernel_rfl)) (fun _ _ _ h => h) (Or.inl ⟨by rfl, ?_⟩) ?_ ?_
             rotate_left
             ·intro w'
              go_simp
              with_reducible rfl
             rotate_left
             ·simp only [Act.put, List.setIfInBounds_toArray, List.set_cons_zero, List.set_cons_succ, i64_w, i32_w]
              rfl
             exact norm_ (by first | (simp only [putAll, Act.put, List.setIfInBounds_toArray, List.set_cons_zero, List.set_cons_succ]; done) | (simp only [putAll, Act.put, List.setIfInBounds_toArray, List.set_cons_zero, List.set_cons_succ]; rfl)) (hJ1_7_8 () _ ⟨hHeld, (by (with_reducible repeat (first | apply Kd.R_alloc | apply Kd.R_drewN | apply Kd.R_drew)); exact HO114.out), (by (with_reducible repeat (first | refine blk_drewN ?_ _ | refine blk_drew ?_ | refine blk_alloc ?_ _)); exact BK111.out), (by (with_reducible repeat (first | refine blk_drewN ?_ _ | refine blk_drew ?_ | refine blk_alloc ?_ _)); exact BK115.out), (by repeat (first | (with_reducible first | exact HB.out | apply below_alloc | apply pw_below_drewN | apply below_drew1 | refine below_set ?_ GE111.out | refine below_set ?_ GE115.out) | exact HB.out))⟩)
          ·skip
           rintro v118 w19 ⟨hS_, h0_, h1_, h2_, h3_⟩
           have n0_ : Aside0 (Kd.N k47 47 w19 w.heap.size (fun k_ => (w.heap.size ≤ k_) ∧ k_ ≠ gb111 ∧ k_ ≠ gb115) v118 y117) := ⟨h0_⟩
           have n1_ : Aside0 (w19.heap[gb111]? = some (.cells #[.int .i64 0, .int .i64 0, .slice none 0 0, .int .i64 0, .int .i64 0, .int .i64 0, .int .i64 0, .int .i64 0, .int .i64 0, .int .i64 0, .int .i64 0] 30 (0, 0))) := ⟨h1_⟩
           have n2_ : Aside0 (w19.heap[gb115]? = some (.cells #[.int .i64 3600, .slice none 0 0, .slice Ao11 y112.length co11, .int .i64 2000] 47 (0, 0))) := ⟨h2_⟩
           have n3_ : Aside0 (Below w.heap.size w w19) := ⟨h3_⟩
           clear HO114
           clear BK111
           clear BK115
           clear HB
           clear h0_ h1_ h2_ h3_
           have HO119 := n0_
           have BK111 := n1_
           have BK115 := n2_
           have HB := n3_
           clear n0_ n1_ n2_ n3_
           have hHeld : w19.cell? ⟨gb115, 0, none⟩ = some (.int .i64 3600) ∧ w19.cell? ⟨gb115, 1, none⟩ = some (.slice none 0 0) ∧ w19.cell? ⟨gb115, 2, none⟩ = some (.slice Ao11 y112.length co11) ∧ w19.cell? ⟨gb115, 3, none⟩ = some (.int .i64 2000) := hS_
           refine norm_ (a' := ?_) ?_ ?_
           rotate_left
           ·simp only [putAll, Act.put, List.setIfInBounds_toArray, List.set_cons_zero, List.set_cons_succ]
            rfl
           refine one_ (i := 7) (N := some 15) #[true, true, true, true, true, true, true, true, false, false, false, true, false, false, false, true, false, false, false, true, false, false, false, false, false, false] rfl rfl (one_of HT_.out (by kernel_rfl)) (by decide) (fun K hK => ?_)
           refine goes_ Tryd.func9 (by kernel_rfl) rfl #[] (by rfl) rfl rfl (by (try simp only [List.map_toArray, List.map_cons, List.map_nil]); first | done | rfl | (simp only [List.length_drop, List.length_take]; rfl)) ?_
           with_reducible refine (script_begin.calls k  t120 _ A3.out).mono ?_
           rintro e w' ⟨rfl, ⟨nd, rfl⟩⟩
           refine ⟨_, rfl, ?_⟩
           refine hK.out _ _ ⟨(blk_cell BK115.out 0).trans rfl, (blk_cell BK115.out 1).trans rfl, (blk_cell BK115.out 2).trans rfl, (blk_cell BK115.out 3).trans rfl⟩ (fun hHeld => ?_)
           clear hK K
           refine norm_ (a' := ?_) ?_ ?_
           rotate_left
           ·show Act.put _ (some 15) _ = _
            simp only [Act.put, List.setIfInBounds_toArray, List.set_cons_zero, List.set_cons_succ, i64_w, i32_w]
            rfl
           exact norm_ (by first | (simp only [putAll, Act.put, List.setIfInBounds_toArray, List.set_cons_zero, List.set_cons_succ]; done) | (simp only [putAll, Act.put, List.setIfInBounds_toArray, List.set_cons_zero, List.set_cons_succ]; rfl)) (hJ1_6_7 (v118) _ ⟨hHeld, (by (with_reducible repeat (first | apply Kd.N_alloc | apply Kd.N_drewN | apply Kd.N_drew)); exact HO119.out), (by (with_reducible repeat (first | refine blk_drewN ?_ _ | refine blk_drew ?_ | refine blk_alloc ?_ _)); exact BK111.out), (by (with_reducible repeat (first | refine blk_drewN ?_ _ | refine blk_drew ?_ | refine blk_alloc ?_ _)); exact BK115.out), (by repeat (first | (with_reducible first | exact HB.out | apply below_alloc | apply pw_below_drewN | apply below_drew1 | refine below_set ?_ GE111.out | refine below_set ?_ GE115.out) | exact HB.out))⟩)
         ·skip
          rintro _ w17 ⟨hS_, h0_, h1_, h2_, h3_⟩
          have n0_ : Aside0 (Kd.R k43 43 w17 w.heap.size (fun k_ => (w.heap.size ≤ k_)) (.slice Ao11 y112.length co11) y112) := ⟨h0_⟩
          have n1_ : Aside0 (w17.heap[gb111]? = some (.cells #[.int .i64 0, .int .i64 0, .slice none 0 0, .int .i64 0, .int .i64 0, .int .i64 0, .int .i64 0, .int .i64 0, .int .i64 0, .int .i64 0, .int .i64 0] 30 (0, 0))) := ⟨h1_⟩
          have n2_ : Aside0 (w17.heap[gb115]? = some (.cells #[.int .i64 3600, .slice none 0 0, .slice Ao11 y112.length co11, .int .i64 2000] 47 (0, 0))) := ⟨h2_⟩
          have n3_ : Aside0 (Below w.heap.size w w17) := ⟨h3_⟩
          clear HO114
          clear BK111
          clear BK115
          clear HB
          clear h0_ h1_ h2_ h3_
          have HO114 := n0_
          have BK111 := n1_
          have BK115 := n2_
          have HB := n3_
          clear n0_ n1_ n2_ n3_
          have hHeld : w17.cell? ⟨gb115, 0, none⟩ = some (.int .i64 3600) ∧ w17.cell? ⟨gb115, 1, none⟩ = some (.slice none 0 0) ∧ w17.cell? ⟨gb115, 2, none⟩ = some (.slice Ao11 y112.length co11) ∧ w17.cell? ⟨gb115, 3, none⟩ = some (.int .i64 2000) := hS_
          refine norm_ (a' := ?_) ?_ ?_
          rotate_left
          ·simp only [putAll, Act.put, List.setIfInBounds_toArray, List.set_cons_zero, List.set_cons_succ]
           rfl
          refine two_ (i := 6) (j := 12) (Ni := some 14) (Nj := some 20) #[true, true, true, true, true, true, true, true, true, true, false, true, false, false, false, true, false, false, false, true, false, false, false, false, false, false] #[true, true, true, true, true, true, false, true, true, true, false, true, true, false, false, true, false, false, false, true, false, false, false, false, false, false] rfl rfl rfl rfl (two_of HT_.out (by kernel_rfl)) (by decide) (by decide) (fun K hK => ?_) (fun K hK => ?_)
          ·skip
           refine Kd.N_lit_step k47 _ 47 ?hg (N' := 14) ?hd (xs := ([(⟨0, ([] : List (S79)), ([] : List (S43)), 0⟩ : S47), (⟨3600, ([] : List (S79)), y112, 2000⟩ : S47)] : List (S47))) (inner := [.int .i64 0, .slice none 0 0, .slice none 0 0, .int .i64 0, .int .i64 3600, .slice none 0 0, .slice Ao11 y112.length co11, .int .i64 2000]) (ok := (fun k_ => (w.heap.size ≤ k_) ∧ k_ ≠ gb111 ∧ k_ ≠ gb115)) (okp := (fun k_ => (w.heap.size ≤ k_) ∧ k_ ≠ gb111 ∧ k_ ≠ gb115)) ?hr ?hp (fun _ hk => hk) ((show ∀ k_, w17.heap.size ≤ k_ → (fun k_ => (w.heap.size ≤ k_) ∧ k_ ≠ gb111 ∧ k_ ≠ gb115) k_ from fun k_ hk => ⟨(Nat.le_trans (below_size (by repeat (first | (with_reducible first | exact HB.out | apply below_alloc | apply pw_below_drewN | apply below_drew1 | refine below_set ?_ GE111.out | refine below_set ?_ GE115.out) | exact HB.out))) hk), Kd.freshB (g := gb111) (o := .cells #[.int .i64 0, .int .i64 0, .slice none 0 0, .int .i64 0, .int .i64 0, .int .i64 0, .int .i64 0, .int .i64 0, .int .i64 0, .int .i64 0, .int .i64 0] 30 (0, 0)) (by (with_reducible repeat (first | refine blk_drewN ?_ _ | refine blk_drew ?_ | refine blk_alloc ?_ _)); exact BK111.out) k_ hk, Kd.freshB (g := gb115) (o := .cells #[.int .i64 3600, .slice none 0 0, .slice Ao11 y112.length co11, .int .i64 2000] 47 (0, 0)) (by (with_reducible repeat (first | refine blk_drewN ?_ _ | refine blk_drew ?_ | refine blk_alloc ?_ _)); exact BK115.out) k_ hk⟩) _ (Nat.le_refl _)) (Below.refl _ _) (Nat.le_refl _) (by simp) ?_; (case hd => rfl); (case hg => rfl); (case hr => first | (go_simp; done) | (go_simp; rfl)); (case hp => exact (Reps.c4 (show Kd.FK k47 _ _ (⟨0, ([] : List (S79)), ([] : List (S43)), 0⟩ : S47) [.int .i64 0, .slice none 0 0, .slice none 0 0, .int .i64 0] from (k47_mkF _ _ (⟨0, ([] : List (S79)), ([] : List (S43)), 0⟩ : S47) (Nat.le_refl _) (Kd.F_nil _ _ _) (Nat.le_refl _) (Kd.F_nil _ _ _))) (Reps.c4 (show Kd.FK k47 _ _ (⟨3600, ([] : List (S79)), y112, 2000⟩ : S47) [.int .i64 3600, .slice none 0 0, .slice Ao11 y112.length co11, .int .i64 2000] from (k47_mkF _ _ (⟨3600, ([] : List (S79)), y112, 2000⟩ : S47) (Nat.le_refl _) (Kd.F_nil _ _ _) (Kd.R_reads' (Kd.R_mono (ok' := (fun k_ => (w.heap.size ≤ k_) ∧ k_ ≠ gb111 ∧ k_ ≠ gb115)) (Kd.R_types (Kd.R_types (HO114.out) BK111.out (by decide)) BK115.out (by decide)) (fun k_ hk => ⟨hk.1.1, ⟨hk.1.2, hk.2⟩⟩))).2.1 (Kd.R_F (Kd.R_mono (ok' := (fun k_ => (w.heap.size ≤ k_) ∧ k_ ≠ gb111 ∧ k_ ≠ gb115)) (Kd.R_types (Kd.R_types (HO114.out) BK111.out (by decide)) BK115.out (by decide)) (fun k_ hk => ⟨hk.1.1, ⟨hk.1.2, hk.2⟩⟩))))) (Reps.none _ _))))
           intro v118 w18 ho19 hb hg_ hnew_
           clear hg_ hnew_
           (first | rw [← Ny117.out] at ho19 | (simp only [Int.reduceToNat] at ho19; rw [← Ny117.out] at ho19))
           have n0_ := Aside0.mk (Kd.N_lower ho19 (below_size (by repeat (first | (with_reducible first | exact HB.out | apply below_alloc | apply pw_below_drewN | apply below_drew1 | refine below_set ?_ GE111.out | refine below_set ?_ GE115.out) | exact HB.out))))
           have n1_ := Aside0.mk (blk_below (g := gb111) (o := .cells #[.int .i64 0, .int .i64 0, .slice none 0 0, .int .i64 0, .int .i64 0, .int .i64 0, .int .i64 0, .int .i64 0, .int .i64 0, .int .i64 0, .int .i64 0] 30 (0, 0)) (by (with_reducible repeat (first | refine blk_drewN ?_ _ | refine blk_drew ?_ | refine blk_alloc ?_ _)); exact BK111.out) hb)
           have n2_ := Aside0.mk (blk_below (g := gb115) (o := .cells #[.int .i64 3600, .slice none 0 0, .slice Ao11 y112.length co11, .int .i64 2000] 47 (0, 0)) (by (with_reducible repeat (first | refine blk_drewN ?_ _ | refine blk_drew ?_ | refine blk_alloc ?_ _)); exact BK115.out) hb)
           have n3_ := Aside0.mk (below_step (by repeat (first | (with_reducible first | exact HB.out | apply below_alloc | apply pw_below_drewN | apply below_drew1 | refine below_set ?_ GE111.out | refine below_set ?_ GE115.out) | exact HB.out)) hb)
           clear BK111
           clear BK115
           clear HB
           clear HO114
           have HO119 := n0_
           have BK111 := n1_
           have BK115 := n2_
           have HB := n3_
           clear n0_ n1_ n2_ n3_
           clear hb ho19
           obtain ⟨Ao20, co20, eo20⟩ := Kd.N_slice HO119.out
           (first | subst eo20 | (injection eo20 with f1_ f2_ f3_; have f4_ := f1_.symm; have f5_ := f3_.symm; clear f1_ f2_ f3_; subst f4_; subst f5_))
           refine hK.out _ _ ⟨(blk_cell BK115.out 0).trans rfl, (blk_cell BK115.out 1).trans rfl, (blk_cell BK115.out 2).trans rfl, (blk_cell BK115.out 3).trans rfl⟩ (fun hHeld => ?_)
           clear hK K
           refine norm_ (a' := ?_) ?_ ?_
           rotate_left
           ·show Act.put _ (some 14) _ = _
            simp only [Act.put, List.setIfInBounds_toArray, List.set_cons_zero, List.set_cons_succ, i64_w, i32_w]
            rfl
           refine pure_ (i := 10) (N := some 18) (v := ?_) (a' := ?_) #[true, true, true, true, true, true, true, true, true, true, true, true, false, false, false, true, false, false, false, true, false, false, false, false, false, false] rfl rfl (any_of HT_.out (by kernel_rfl)) (fun _ _ _ h => h) (Or.inl ⟨by rfl, ?_⟩) ?_ ?_
           rotate_left
           ·intro w'
            go_simp
            with_reducible rfl
           rotate_left
           ·simp only [Act.put, List.setIfInBounds_toArray, List.set_cons_zero, List.set_cons_succ, i64_w, i32_w]
            rfl
           exact norm_ (by first | (simp only [putAll, Act.put, List.setIfInBounds_toArray, List.set_cons_zero, List.set_cons_succ]; done) | (simp only [putAll, Act.put, List.setIfInBounds_toArray, List.set_cons_zero, List.set_cons_succ]; rfl)) (hJ1_6_7_8 (.slice Ao20 y117.length co20) _ ⟨hHeld, (by (with_reducible repeat (first | apply Kd.N_alloc | apply Kd.N_drewN | apply Kd.N_drew)); exact HO119.out), (by (with_reducible repeat (first | refine blk_drewN ?_ _ | refine blk_drew ?_ | refine blk_alloc ?_ _)); exact BK111.out), (by (with_reducible repeat (first | refine blk_drewN ?_ _ | refine blk_drew ?_ | refine blk_alloc ?_ _)); exact BK115.out), (by repeat (first | (with_reducible first | exact HB.out | apply below_alloc | apply pw_below_drewN | apply below_drew1 | refine below_set ?_ GE111.out | refine below_set ?_ GE115.out) | exact HB.out))⟩)
          ·skip
           refine goes_ Tryd.func8 (by kernel_rfl) rfl #[.slice A0 l0.length c0, .int .i64 1] (by rfl) rfl rfl (by (try simp only [List.map_toArray, List.map_cons, List.map_nil]); first | done | rfl | (simp only [List.length_drop, List.length_take]; rfl)) ?_
           with_reducible refine (script_at.calls _ _ l0 1 t122 _ ?side1 ?side2 A5.out).mono ?_
           (case side1 => repeat (first | exact (Kd.C_below HR0.out HB.out) | (with_reducible refine Kd.C_alloc ?_ _) | (with_reducible refine Kd.C_drewN ?_ _) | (with_reducible refine Kd.C_drew ?_)))
           (case side2 => exact HC0.out)
           rintro e w' ⟨rfl, ⟨nd, rfl⟩⟩
           refine ⟨_, rfl, ?_⟩
           refine hK.out _ _ ⟨(blk_cell BK115.out 0).trans rfl, (blk_cell BK115.out 1).trans rfl, (blk_cell BK115.out 2).trans rfl, (blk_cell BK115.out 3).trans rfl⟩ (fun hHeld => ?_)
           clear hK K
           refine norm_ (a' := ?_) ?_ ?_
           rotate_left
           ·show Act.put _ (some 20) _ = _
            simp only [Act.put, List.setIfInBounds_toArray, List.set_cons_zero, List.set_cons_succ, i64_w, i32_w]
            rfl
           refine pure_ (i := 13) (N := some 21) (v := ?_) (a' := ?_) #[true, true, true, true, true, true, false, true, true, true, false, true, true, true, false, true, false, false, false, true, false, false, false, false, false, false] rfl rfl (any_of HT_.out (by kernel_rfl)) (fun _ _ _ h => h) (Or.inl ⟨by rfl, ?_⟩) ?_ ?_
           rotate_left
           ·intro w'
            go_simp
            with_reducible rfl
           rotate_left
           ·simp only [Act.put, List.setIfInBounds_toArray, List.set_cons_zero, List.set_cons_succ, i64_w, i32_w]
            rfl
           refine pure_ (i := 14) (N := some 22) (v := ?_) (a' := ?_) #[true, true, true, true, true, true, false, true, true, true, false, true, true, true, true, true, false, false, false, true, false, false, false, false, false, false] rfl rfl (any_of HT_.out (by kernel_rfl)) (fun _ _ _ h => h) (Or.inl ⟨by rfl, ?_⟩) ?_ ?_
           rotate_left
           ·intro w'
            go_simp
            with_reducible rfl
           rotate_left
           ·simp only [Act.put, List.setIfInBounds_toArray, List.set_cons_zero, List.set_cons_succ, i64_w, i32_w]
            rfl
           exact norm_ (by first | (simp only [putAll, Act.put, List.setIfInBounds_toArray, List.set_cons_zero, List.set_cons_succ]; done) | (simp only [putAll, Act.put, List.setIfInBounds_toArray, List.set_cons_zero, List.set_cons_succ]; rfl)) (hJ1_7_8_12 () _ ⟨hHeld, (by (with_reducible repeat (first | apply Kd.R_alloc | apply Kd.R_drewN | apply Kd.R_drew)); exact HO114.out), (by (with_reducible repeat (first | refine blk_drewN ?_ _ | refine blk_drew ?_ | refine blk_alloc ?_ _)); exact BK111.out), (by (with_reducible repeat (first | refine blk_drewN ?_ _ | refine blk_drew ?_ | refine blk_alloc ?_ _)); exact BK115.out), (by repeat (first | (with_reducible first | exact HB.out | apply below_alloc | apply pw_below_drewN | apply below_drew1 | refine below_set ?_ GE111.out | refine below_set ?_ GE115.out) | exact HB.out))⟩)
        ·skip
         rintro v118 w19 ⟨hS_, h0_, h1_, h2_, h3_⟩
         have n0_ : Aside0 (Kd.N k47 47 w19 w.heap.size (fun k_ => (w.heap.size ≤ k_) ∧ k_ ≠ gb111 ∧ k_ ≠ gb115) v118 y117) := ⟨h0_⟩
         have n1_ : Aside0 (w19.heap[gb111]? = some (.cells #[.int .i64 0, .int .i64 0, .slice none 0 0, .int .i64 0, .int .i64 0, .int .i64 0, .int .i64 0, .int .i64 0, .int .i64 0, .int .i64 0, .int .i64 0] 30 (0, 0))) := ⟨h1_⟩
         have n2_ : Aside0 (w19.heap[gb115]? = some (.cells #[.int .i64 3600, .slice none 0 0, .slice Ao11 y112.length co11, .int .i64 2000] 47 (0, 0))) := ⟨h2_⟩
         have n3_ : Aside0 (Below w.heap.size w w19) := ⟨h3_⟩
         clear HO114
         clear BK111
         clear BK115
         clear HB
         clear h0_ h1_ h2_ h3_
         have HO119 := n0_
         have BK111 := n1_
         have BK115 := n2_
         have HB := n3_
         clear n0_ n1_ n2_ n3_
         have hHeld : w19.cell? ⟨gb115, 0, none⟩ = some (.int .i64 3600) ∧ w19.cell? ⟨gb115, 1, none⟩ = some (.slice none 0 0) ∧ w19.cell? ⟨gb115, 2, none⟩ = some (.slice Ao11 y112.length co11) ∧ w19.cell? ⟨gb115, 3, none⟩ = some (.int .i64 2000) := hS_
         refine norm_ (a' := ?_) ?_ ?_
         rotate_left
         ·simp only [putAll, Act.put, List.setIfInBounds_toArray, List.set_cons_zero, List.set_cons_succ]
          rfl
         refine one_ (i := 8) (N := some 16) #[true, true, true, true, true, true, true, true, true, false, false, true, false, false, false, true, false, false, false, true, false, false, false, false, false, false] rfl rfl (one_of HT_.out (by kernel_rfl)) (by decide) (fun K hK => ?_)
         refine goes_ Tryd.func9 (by kernel_rfl) rfl #[] (by rfl) rfl rfl (by (try simp only [List.map_toArray, List.map_cons, List.map_nil]); first | done | rfl | (simp only [List.length_drop, List.length_take]; rfl)) ?_
         with_reducible refine (script_begin.calls k  t121 _ A4.out).mono ?_
         rintro e w' ⟨rfl, ⟨nd, rfl⟩⟩
         refine ⟨_, rfl, ?_⟩
         obtain ⟨Ao20, co20, eo20⟩ := Kd.N_slice HO119.out
         (first | subst eo20 | (injection eo20 with f1_ f2_ f3_; have f4_ := f1_.symm; have f5_ := f3_.symm; clear f1_ f2_ f3_; subst f4_; subst f5_))
         refine hK.out _ _ ⟨(blk_cell BK115.out 0).trans rfl, (blk_cell BK115.out 1).trans rfl, (blk_cell BK115.out 2).trans rfl, (blk_cell BK115.out 3).trans rfl⟩ (fun hHeld => ?_)
         clear hK K
         refine norm_ (a' := ?_) ?_ ?_
         rotate_left
         ·show Act.put _ (some 16) _ = _
          simp only [Act.put, List.setIfInBounds_toArray, List.set_cons_zero, List.set_cons_succ, i64_w, i32_w]
          rfl
         refine pure_ (i := 9) (N := some 17) (v := ?_) (a' := ?_) #[true, true, true, true, true, true, true, true, true, true, false, true, false, false, false, true, false, false, false, true, false, false, false, false, false, false] rfl rfl (any_of HT_.out (by kernel_rfl)) (fun _ _ _ h => h) (Or.inl ⟨by rfl, ?_⟩) ?_ ?_
         rotate_left
         ·intro w'
          go_simp
          with_reducible rfl
         rotate_left
         ·simp only [Act.put, List.setIfInBounds_toArray, List.set_cons_zero, List.set_cons_succ, i64_w, i32_w]
          rfl
         refine pure_ (i := 10) (N := some 18) (v := ?_) (a' := ?_) #[true, true, true, true, true, true, true, true, true, true, true, true, false, false, false, true, false, false, false, true, false, false, false, false, false, false] rfl rfl (any_of HT_.out (by kernel_rfl)) (fun _ _ _ h => h) (Or.inl ⟨by rfl, ?_⟩) ?_ ?_
         rotate_left
         ·intro w'
          go_simp
          with_reducible rfl
         rotate_left
         ·simp only [Act.put, List.setIfInBounds_toArray, List.set_cons_zero, List.set_cons_succ, i64_w, i32_w]
          rfl
         exact norm_ (by first | (simp only [putAll, Act.put, List.setIfInBounds_toArray, List.set_cons_zero, List.set_cons_succ]; done) | (simp only [putAll, Act.put, List.setIfInBounds_toArray, List.set_cons_zero, List.set_cons_succ]; rfl)) (hJ1_6_7_8 (.slice Ao20 y117.length co20) _ ⟨hHeld, (by (with_reducible repeat (first | apply Kd.N_alloc | apply Kd.N_drewN | apply Kd.N_drew)); exact HO119.out), (by (with_reducible repeat (first | refine blk_drewN ?_ _ | refine blk_drew ?_ | refine blk_alloc ?_ _)); exact BK111.out), (by (with_reducible repeat (first | refine blk_drewN ?_ _ | refine blk_drew ?_ | refine blk_alloc ?_ _)); exact BK115.out), (by repeat (first | (with_reducible first | exact HB.out | apply below_alloc | apply pw_below_drewN | apply below_drew1 | refine below_set ?_ GE111.out | refine below_set ?_ GE115.out) | exact HB.out))⟩)
       ·skip
        rintro _ w17 ⟨hS_, h0_, h1_, h2_, h3_⟩
        have n0_ : Aside0 (Kd.R k43 43 w17 w.heap.size (fun k_ => (w.heap.size ≤ k_)) (.slice Ao11 y112.length co11) y112) := ⟨h0_⟩
        have n1_ : Aside0 (w17.heap[gb111]? = some (.cells #[.int .i64 0, .int .i64 0, .slice none 0 0, .int .i64 0, .int .i64 0, .int .i64 0, .int .i64 0, .int .i64 0, .int .i64 0, .int .i64 0, .int .i64 0] 30 (0, 0))) := ⟨h1_⟩
        have n2_ : Aside0 (w17.heap[gb115]? = some (.cells #[.int .i64 3600, .slice none 0 0, .slice Ao11 y112.length co11, .int .i64 2000] 47 (0, 0))) := ⟨h2_⟩
        have n3_ : Aside0 (Below w.heap.size w w17) := ⟨h3_⟩
        clear HO114
        clear BK111
        clear BK115
        clear HB
        clear h0_ h1_ h2_ h3_
        have HO114 := n0_
        have BK111 := n1_
        have BK115 := n2_
        have HB := n3_
        clear n0_ n1_ n2_ n3_
        have hHeld : w17.cell? ⟨gb115, 0, none⟩ = some (.int .i64 3600) ∧ w17.cell? ⟨gb115, 1, none⟩ = some (.slice none 0 0) ∧ w17.cell? ⟨gb115, 2, none⟩ = some (.slice Ao11 y112.length co11) ∧ w17.cell? ⟨gb115, 3, none⟩ = some (.int .i64 2000) := hS_
        refine norm_ (a' := ?_) ?_ ?_
        rotate_left
        ·simp only [putAll, Act.put, List.setIfInBounds_toArray, List.set_cons_zero, List.set_cons_succ]
         rfl
        refine two_ (i := 6) (j := 16) (Ni := some 14) (Nj := some 24) #[true, true, true, true, true, true, true, true, true, true, false, true, true, true, true, true, false, false, false, true, false, false, false, false, false, false] #[true, true, true, true, true, true, false, true, true, true, false, true, true, true, true, true, true, false, false, true, false, false, false, false, false, false] rfl rfl rfl rfl (two_of HT_.out (by kernel_rfl)) (by decide) (by decide) (fun K hK => ?_) (fun K hK => ?_)
        ·skip
         refine Kd.N_lit_step k47 _ 47 ?hg (N' := 14) ?hd (xs := ([(⟨0, ([] : List (S79)), ([] : List (S43)), 0⟩ : S47), (⟨3600, ([] : List (S79)), y112, 2000⟩ : S47)] : List (S47))) (inner := [.int .i64 0, .slice none 0 0, .slice none 0 0, .int .i64 0, .int .i64 3600, .slice none 0 0, .slice Ao11 y112.length co11, .int .i64 2000]) (ok := (fun k_ => (w.heap.size ≤ k_) ∧ k_ ≠ gb111 ∧ k_ ≠ gb115)) (okp := (fun k_ => (w.heap.size ≤ k_) ∧ k_ ≠ gb111 ∧ k_ ≠ gb115)) ?hr ?hp (fun _ hk => hk) ((show ∀ k_, w17.heap.size ≤ k_ → (fun k_ => (w.heap.size ≤ k_) ∧ k_ ≠ gb111 ∧ k_ ≠ gb115) k_ from fun k_ hk => ⟨(Nat.le_trans (below_size (by repeat (first | (with_reducible first | exact HB.out | apply below_alloc | apply pw_below_drewN | apply below_drew1 | refine below_set ?_ GE111.out | refine below_set ?_ GE115.out) | exact HB.out))) hk), Kd.freshB (g := gb111) (o := .cells #[.int .i64 0, .int .i64 0, .slice none 0 0, .int .i64 0, .int .i64 0, .int .i64 0, .int .i64 0, .int .i64 0, .int .i64 0, .int .i64 0, .int .i64 0] 30 (0, 0)) (by (with_reducible repeat (first | refine blk_drewN ?_ _ | refine blk_drew ?_ | refine blk_alloc ?_ _)); exact BK111.out) k_ hk, Kd.freshB (g := gb115) (o := .cells #[.int .i64 3600, .slice none 0 0, .slice Ao11 y112.length co11, .int .i64 2000] 47 (0, 0)) (by (with_reducible repeat (first | refine blk_drewN ?_ _ | refine blk_drew ?_ | refine blk_alloc ?_ _)); exact BK115.out) k_ hk⟩) _ (Nat.le_refl _)) (Below.refl _ _) (Nat.le_refl _) (by simp) ?_; (case hd => rfl); (case hg => rfl); (case hr => first | (go_simp; done) | (go_simp; rfl)); (case hp => exact (Reps.c4 (show Kd.FK k47 _ _ (⟨0, ([] : List (S79)), ([] : List (S43)), 0⟩ : S47) [.int .i64 0, .slice none 0 0, .slice none 0 0, .int .i64 0] from (k47_mkF _ _ (⟨0, ([] : List (S79)), ([] : List (S43)), 0⟩ : S47) (Nat.le_refl _) (Kd.F_nil _ _ _) (Nat.le_refl _) (Kd.F_nil _ _ _))) (Reps.c4 (show Kd.FK k47 _ _ (⟨3600, ([] : List (S79)), y112, 2000⟩ : S47) [.int .i64 3600, .slice none 0 0, .slice Ao11 y112.length co11, .int .i64 2000] from (k47_mkF _ _ (⟨3600, ([] : List (S79)), y112, 2000⟩ : S47) (Nat.le_refl _) (Kd.F_nil _ _ _) (Kd.R_reads' (Kd.R_mono (ok' := (fun k_ => (w.heap.size ≤ k_) ∧ k_ ≠ gb111 ∧ k_ ≠ gb115)) (Kd.R_types (Kd.R_types (HO114.out) BK111.out (by decide)) BK115.out (by decide)) (fun k_ hk => ⟨hk.1.1, ⟨hk.1.2, hk.2⟩⟩))).2.1 (Kd.R_F (Kd.R_mono (ok' := (fun k_ => (w.heap.size ≤ k_) ∧ k_ ≠ gb111 ∧ k_ ≠ gb115)) (Kd.R_types (Kd.R_types (HO114.out) BK111.out (by decide)) BK115.out (by decide)) (fun k_ hk => ⟨hk.1.1, ⟨hk.1.2, hk.2⟩⟩))))) (Reps.none _ _))))
         intro v118 w18 ho19 hb hg_ hnew_
         clear hg_ hnew_
         (first | rw [← Ny117.out] at ho19 | (simp only [Int.reduceToNat] at ho19; rw [← Ny117.out] at ho19))
         have n0_ := Aside0.mk (Kd.N_lower ho19 (below_size (by repeat (first | (with_reducible first | exact HB.out | apply below_alloc | apply pw_below_drewN | apply below_drew1 | refine below_set ?_ GE111.out | refine below_set ?_ GE115.out) | exact HB.out))))
         have n1_ := Aside0.mk (blk_below (g := gb111) (o := .cells #[.int .i64 0, .int .i64 0, .slice none 0 0, .int .i64 0, .int .i64 0, .int .i64 0, .int .i64 0, .int .i64 0, .int .i64 0, .int .i64 0, .int .i64 0] 30 (0, 0)) (by (with_reducible repeat (first | refine blk_drewN ?_ _ | refine blk_drew ?_ | refine blk_alloc ?_ _)); exact BK111.out) hb)
         have n2_ := Aside0.mk (blk_below (g := gb115) (o := .cells #[.int .i64 3600, .slice none 0 0, .slice Ao11 y112.length co11, .int .i64 2000] 47 (0, 0)) (by (with_reducible repeat (first | refine blk_drewN ?_ _ | refine blk_drew ?_ | refine blk_alloc ?_ _)); exact BK115.out) hb)
         have n3_ := Aside0.mk (below_step (by repeat (first | (with_reducible first | exact HB.out | apply below_alloc | apply pw_below_drewN | apply below_drew1 | refine below_set ?_ GE111.out | refine below_set ?_ GE115.out) | exact HB.out)) hb)
         clear BK111
         clear BK115
         clear HB
         clear HO114
         have HO119 := n0_
         have BK111 := n1_
         have BK115 := n2_
         have HB := n3_
         clear n0_ n1_ n2_ n3_
         clear hb ho19
         obtain ⟨Ao20, co20, eo20⟩ := Kd.N_slice HO119.out
         (first | subst eo20 | (injection eo20 with f1_ f2_ f3_; have f4_ := f1_.symm; have f5_ := f3_.symm; clear f1_ f2_ f3_; subst f4_; subst f5_))
         refine hK.out _ _ ⟨(blk_cell BK115.out 0).trans rfl, (blk_cell BK115.out 1).trans rfl, (blk_cell BK115.out 2).trans rfl, (blk_cell BK115.out 3).trans rfl⟩ (fun hHeld => ?_)
         clear hK K
         refine norm_ (a' := ?_) ?_ ?_
         rotate_left
         ·show Act.put _ (some 14) _ = _
          simp only [Act.put, List.setIfInBounds_toArray, List.set_cons_zero, List.set_cons_succ, i64_w, i32_w]
          rfl
         refine pure_ (i := 10) (N := some 18) (v := ?_) (a' := ?_) #[true, true, true, true, true, true, true, true, true, true, true, true, true, true, true, true, false, false, false, true, false, false, false, false, false, false] rfl rfl (any_of HT_.out (by kernel_rfl)) (fun _ _ _ h => h) (Or.inl ⟨by rfl, ?_⟩) ?_ ?_
         rotate_left
         ·intro w'
          go_simp
          with_reducible rfl
         rotate_left
         ·simp only [Act.put, List.setIfInBounds_toArray, List.set_cons_zero, List.set_cons_succ, i64_w, i32_w]
          rfl
         exact norm_ (by first | (simp only [putAll, Act.put, List.setIfInBounds_toArray, List.set_cons_zero, List.set_cons_succ]; done) | (simp only [putAll, Act.put, List.setIfInBounds_toArray, List.set_cons_zero, List.set_cons_succ]; rfl)) (hJ1_6_7_8_12 (.slice Ao20 y117.length co20) _ ⟨hHeld, (by (with_reducible repeat (first | apply Kd.N_alloc | apply Kd.N_drewN | apply Kd.N_drew)); exact HO119.out), (by (with_reducible repeat (first | refine blk_drewN ?_ _ | refine blk_drew ?_ | refine blk_alloc ?_ _)); exact BK111.out), (by (with_reducible repeat (first | refine blk_drewN ?_ _ | refine blk_drew ?_ | refine blk_alloc ?_ _)); exact BK115.out), (by repeat (first | (with_reducible first | exact HB.out | apply below_alloc | apply pw_below_drewN | apply below_drew1 | refine below_set ?_ GE111.out | refine below_set ?_ GE115.out) | exact HB.out))⟩)
        ·skip
         refine goes_ Tryd.func8 (by kernel_rfl) rfl #[.slice A0 l0.length c0, .int .i64 2] (by rfl) rfl rfl (by (try simp only [List.map_toArray, List.map_cons, List.map_nil]); first | done | rfl | (simp only [List.length_drop, List.length_take]; rfl)) ?_
         with_reducible refine (script_at.calls _ _ l0 2 t123 _ ?side1 ?side2 A6.out).mono ?_
         (case side1 => repeat (first | exact (Kd.C_below HR0.out HB.out) | (with_reducible refine Kd.C_alloc ?_ _) | (with_reducible refine Kd.C_drewN ?_ _) | (with_reducible refine Kd.C_drew ?_)))
         (case side2 => exact HC0.out)
         rintro e w' ⟨rfl, ⟨nd, rfl⟩⟩
         refine ⟨_, rfl, ?_⟩
         refine hK.out _ _ ⟨(blk_cell BK115.out 0).trans rfl, (blk_cell BK115.out 1).trans rfl, (blk_cell BK115.out 2).trans rfl, (blk_cell BK115.out 3).trans rfl⟩ (fun hHeld => ?_)
         clear hK K
         refine norm_ (a' := ?_) ?_ ?_
         rotate_left
         ·show Act.put _ (some 24) _ = _
          simp only [Act.put, List.setIfInBounds_toArray, List.set_cons_zero, List.set_cons_succ, i64_w, i32_w]
          rfl
         refine pure_ (i := 17) (N := some 25) (v := ?_) (a' := ?_) #[true, true, true, true, true, true, false, true, true, true, false, true, true, true, true, true, true, true, false, true, false, false, false, false, false, false] rfl rfl (any_of HT_.out (by kernel_rfl)) (fun _ _ _ h => h) (Or.inl ⟨by rfl, ?_⟩) ?_ ?_
         rotate_left
         ·intro w'
          go_simp
          with_reducible rfl
         rotate_left
         ·simp only [Act.put, List.setIfInBounds_toArray, List.set_cons_zero, List.set_cons_succ, i64_w, i32_w]
          rfl
         refine pure_ (i := 18) (N := some 26) (v := ?_) (a' := ?_) #[true, true, true, true, true, true, false, true, true, true, false, true, true, true, true, true, true, true, true, true, false, false, false, false, false, false] rfl rfl (any_of HT_.out (by kernel_rfl)) (fun _ _ _ h => h) (Or.inl ⟨by rfl, ?_⟩) ?_ ?_
         rotate_left
         ·intro w'
          go_simp
          with_reducible rfl
         rotate_left
         ·simp only [Act.put, List.setIfInBounds_toArray, List.set_cons_zero, List.set_cons_succ, i64_w, i32_w]
          rfl
         exact norm_ (by first | (simp only [putAll, Act.put, List.setIfInBounds_toArray, List.set_cons_zero, List.set_cons_succ]; done) | (simp only [putAll, Act.put, List.setIfInBounds_toArray, List.set_cons_zero, List.set_cons_succ]; rfl)) (hJ1_7_8_12_16 () _ ⟨hHeld, (by (with_reducible repeat (first | apply Kd.R_alloc | apply Kd.R_drewN | apply Kd.R_drew)); exact HO114.out), (by (with_reducible repeat (first | refine blk_drewN ?_ _ | refine blk_drew ?_ | refine blk_alloc ?_ _)); exact BK111.out), (by (with_reducible repeat (first | refine blk_drewN ?_ _ | refine blk_drew ?_ | refine blk_alloc ?_ _)); exact BK115.out), (by repeat (first | (with_reducible first | exact HB.out | apply below_alloc | apply pw_below_drewN | apply below_drew1 | refine below_set ?_ GE111.out | refine below_set ?_ GE115.out) | exact HB.out))⟩)
      ·skip
       rintro v118 w20 ⟨hS_, h0_, h1_, h2_, h3_⟩
       have n0_ : Aside0 (Kd.N k47 47 w20 w.heap.size (fun k_ => (w.heap.size ≤ k_) ∧ k_ ≠ gb111 ∧ k_ ≠ gb115) v118 y117) := ⟨h0_⟩
       have n1_ : Aside0 (w20.heap[gb111]? = some (.cells #[.int .i64 0, .int .i64 0, .slice none 0 0, .int .i64 0, .int .i64 0, .int .i64 0, .int .i64 0, .int .i64 0, .int .i64 0, .int .i64 0, .int .i64 0] 30 (0, 0))) := ⟨h1_⟩
       have n2_ : Aside0 (w20.heap[gb115]? = some (.cells #[.int .i64 3600, .slice none 0 0, .slice Ao11 y112.length co11, .int .i64 2000] 47 (0, 0))) := ⟨h2_⟩
       have n3_ : Aside0 (Below w.heap.size w w20) := ⟨h3_⟩
       clear HO114
       clear BK111
       clear BK115
       clear HB
       clear h0_ h1_ h2_ h3_
       have HO119 := n0_
       have BK111 := n1_
       have BK115 := n2_
       have HB := n3_
       clear n0_ n1_ n2_ n3_
       have hHeld : w20.cell? ⟨gb115, 0, none⟩ = some (.int .i64 3600) ∧ w20.cell? ⟨gb115, 1, none⟩ = some (.slice none 0 0) ∧ w20.cell? ⟨gb115, 2, none⟩ = some (.slice Ao11 y112.length co11) ∧ w20.cell? ⟨gb115, 3, none⟩ = some (.int .i64 2000) := hS_
       obtain ⟨Ao21, co21, eo21⟩ := Kd.N_slice HO119.out
       (first | subst eo21 | (injection eo21 with f1_ f2_ f3_; have f4_ := f1_.symm; have f5_ := f3_.symm; clear f1_ f2_ f3_; subst f4_; subst f5_))
       refine norm_ (a' := ?_) ?_ ?_
       rotate_left
       ·simp only [putAll, Act.put, List.setIfInBounds_toArray, List.set_cons_zero, List.set_cons_succ]
        rfl
       refine one_ (i := 12) (N := some 20) #[true, true, true, true, true, true, true, true, true, true, true, true, true, false, false, true, false, false, false, true, false, false, false, false, false, false] rfl rfl (one_of HT_.out (by kernel_rfl)) (by decide) (fun K hK => ?_)
       refine goes_ Tryd.func8 (by kernel_rfl) rfl #[.slice A0 l0.length c0, .int .i64 1] (by rfl) rfl rfl (by (try simp only [List.map_toArray, List.map_cons, List.map_nil]); first | done | rfl | (simp only [List.length_drop, List.length_take]; rfl)) ?_
       with_reducible refine (script_at.calls _ _ l0 1 t122 _ ?side1 ?side2 A5.out).mono ?_
       (case side1 => repeat (first | exact (Kd.C_below HR0.out HB.out) | (with_reducible refine Kd.C_alloc ?_ _) | (with_reducible refine Kd.C_drewN ?_ _) | (with_reducible refine Kd.C_drew ?_)))
       (case side2 => exact HC0.out)
       rintro e w' ⟨rfl, ⟨nd, rfl⟩⟩
       refine ⟨_, rfl, ?_⟩
       refine hK.out _ _ ⟨(blk_cell BK115.out 0).trans rfl, (blk_cell BK115.out 1).trans rfl, (blk_cell BK115.out 2).trans rfl, (blk_cell BK115.out 3).trans rfl⟩ (fun hHeld => ?_)
       clear hK K
       refine norm_ (a' := ?_) ?_ ?_
       rotate_left
       ·show Act.put _ (some 20) _ = _
        simp only [Act.put, List.setIfInBounds_toArray, List.set_cons_zero, List.set_cons_succ, i64_w, i32_w]
        rfl
       refine pure_ (i := 13) (N := some 21) (v := ?_) (a' := ?_) #[true, true, true, true, true, true, true, true, true, true, true, true, true, true, false, true, false, false, false, true, false, false, false, false, false, false] rfl rfl (any_of HT_.out (by kernel_rfl)) (fun _ _ _ h => h) (Or.inl ⟨by rfl, ?_⟩) ?_ ?_
       rotate_left
       ·intro w'
        go_simp
        with_reducible rfl
       rotate_left
       ·simp only [Act.put, List.setIfInBounds_toArray, List.set_cons_zero, List.set_cons_succ, i64_w, i32_w]
        rfl
       refine pure_ (i := 14) (N := some 22) (v := ?_) (a' := ?_) #[true, true, true, true, true, true, true, true, true, true, true, true, true, true, true, true, false, false, false, true, false, false, false, false, false, false] rfl rfl (any_of HT_.out (by kernel_rfl)) (fun _ _ _ h => h) (Or.inl ⟨by rfl, ?_⟩) ?_ ?_
       rotate_left
       ·intro w'
        go_simp
        with_reducible rfl
       rotate_left
       ·simp only [Act.put, List.setIfInBounds_toArray, List.set_cons_zero, List.set_cons_succ, i64_w, i32_w]
        rfl
       exact norm_ (by first | (simp only [putAll, Act.put, List.setIfInBounds_toArray, List.set_cons_zero, List.set_cons_succ]; done) | (simp only [putAll, Act.put, List.setIfInBounds_toArray, List.set_cons_zero, List.set_cons_succ]; rfl)) (hJ1_6_7_8_12 (.slice Ao21 y117.length co21) _ ⟨hHeld, (by (with_reducible repeat (first | apply Kd.N_alloc | apply Kd.N_drewN | apply Kd.N_drew)); exact HO119.out), (by (with_reducible repeat (first | refine blk_drewN ?_ _ | refine blk_drew ?_ | refine blk_alloc ?_ _)); exact BK111.out), (by (with_reducible repeat (first | refine blk_drewN ?_ _ | refine blk_drew ?_ | refine blk_alloc ?_ _)); exact BK115.out), (by repeat (first | (with_reducible first | exact HB.out | apply below_alloc | apply pw_below_drewN | apply below_drew1 | refine below_set ?_ GE111.out | refine below_set ?_ GE115.out) | exact HB.out))⟩)
     ·skip
      rintro _ w17 ⟨hS_, h0_, h1_, h2_, h3_⟩
      have n0_ : Aside0 (Kd.R k43 43 w17 w.heap.size (fun k_ => (w.heap.size ≤ k_)) (.slice Ao11 y112.length co11) y112) := ⟨h0_⟩
      have n1_ : Aside0 (w17.heap[gb111]? = some (.cells #[.int .i64 0, .int .i64 0, .slice none 0 0, .int .i64 0, .int .i64 0, .int .i64 0, .int .i64 0, .int .i64 0, .int .i64 0, .int .i64 0, .int .i64 0] 30 (0, 0))) := ⟨h1_⟩
      have n2_ : Aside0 (w17.heap[gb115]? = some (.cells #[.int .i64 3600, .slice none 0 0, .slice Ao11 y112.length co11, .int .i64 2000] 47 (0, 0))) := ⟨h2_⟩
      have n3_ : Aside0 (Below w.heap.size w w17) := ⟨h3_⟩
      clear HO114
      clear BK111
      clear BK115
      clear HB
      clear h0_ h1_ h2_ h3_
      have HO114 := n0_
      have BK111 := n1_
      have BK115 := n2_
      have HB := n3_
      clear n0_ n1_ n2_ n3_
      have hHeld : w17.cell? ⟨gb115, 0, none⟩ = some (.int .i64 3600) ∧ w17.cell? ⟨gb115, 1, none⟩ = some (.slice none 0 0) ∧ w17.cell? ⟨gb115, 2, none⟩ = some (.slice Ao11 y112.length co11) ∧ w17.cell? ⟨gb115, 3, none⟩ = some (.int .i64 2000) := hS_
      refine norm_ (a' := ?_) ?_ ?_
      rotate_left
      ·simp only [putAll, Act.put, List.setIfInBounds_toArray, List.set_cons_zero, List.set_cons_succ]
       rfl
      refine two_ (i := 6) (j := 20) (Ni := some 14) (Nj := some 28) #[true, true, true, true, true, true, true, true, true, true, false, true, true, true, true, true, true, true, true, true, false, false, false, false, false, false] #[true, true, true, true, true, true, false, true, true, true, false, true, true, true, true, true, true, true, true, true, true, false, false, false, false, false] rfl rfl rfl rfl (two_of HT_.out (by kernel_rfl)) (by decide) (by decide) (fun K hK => ?_) (fun K hK => ?_)
      ·skip
       refine Kd.N_lit_step k47 _ 47 ?hg (N' := 14) ?hd (xs := ([(⟨0, ([] : List (S79)), ([] : List (S43)), 0⟩ : S47), (⟨3600, ([] : List (S79)), y112, 2000⟩ : S47)] : List (S47))) (inner := [.int .i64 0, .slice none 0 0, .slice none 0 0, .int .i64 0, .int .i64 3600, .slice none 0 0, .slice Ao11 y112.length co11, .int .i64 2000]) (ok := (fun k_ => (w.heap.size ≤ k_) ∧ k_ ≠ gb111 ∧ k_ ≠ gb115)) (okp := (fun k_ => (w.heap.size ≤ k_) ∧ k_ ≠ gb111 ∧ k_ ≠ gb115)) ?hr ?hp (fun _ hk => hk) ((show ∀ k_, w17.heap.size ≤ k_ → (fun k_ => (w.heap.size ≤ k_) ∧ k_ ≠ gb111 ∧ k_ ≠ gb115) k_ from fun k_ hk => ⟨(Nat.le_trans (below_size (by repeat (first | (with_reducible first | exact HB.out | apply below_alloc | apply pw_below_drewN | apply below_drew1 | refine below_set ?_ GE111.out | refine below_set ?_ GE115.out) | exact HB.out))) hk), Kd.freshB (g := gb111) (o := .cells #[.int .i64 0, .int .i64 0, .slice none 0 0, .int .i64 0, .int .i64 0, .int .i64 0, .int .i64 0, .int .i64 0, .int .i64 0, .int .i64 0, .int .i64 0] 30 (0, 0)) (by (with_reducible repeat (first | refine blk_drewN ?_ _ | refine blk_drew ?_ | refine blk_alloc ?_ _)); exact BK111.out) k_ hk, Kd.freshB (g := gb115) (o := .cells #[.int .i64 3600, .slice none 0 0, .slice Ao11 y112.length co11, .int .i64 2000] 47 (0, 0)) (by (with_reducible repeat (first | refine blk_drewN ?_ _ | refine blk_drew ?_ | refine blk_alloc ?_ _)); exact BK115.out) k_ hk⟩) _ (Nat.le_refl _)) (Below.refl _ _) (Nat.le_refl _) (by simp) ?_; (case hd => rfl); (case hg => rfl); (case hr => first | (go_simp; done) | (go_simp; rfl)); (case hp => exact (Reps.c4 (show Kd.FK k47 _ _ (⟨0, ([] : List (S79)), ([] : List (S43)), 0⟩ : S47) [.int .i64 0, .slice none 0 0, .slice none 0 0, .int .i64 0] from (k47_mkF _ _ (⟨0, ([] : List (S79)), ([] : List (S43)), 0⟩ : S47) (Nat.le_refl _) (Kd.F_nil _ _ _) (Nat.le_refl _) (Kd.F_nil _ _ _))) (Reps.c4 (show Kd.FK k47 _ _ (⟨3600, ([] : List (S79)), y112, 2000⟩ : S47) [.int .i64 3600, .slice none 0 0, .slice Ao11 y112.length co11, .int .i64 2000] from (k47_mkF _ _ (⟨3600, ([] : List (S79)), y112, 2000⟩ : S47) (Nat.le_refl _) (Kd.F_nil _ _ _) (Kd.R_reads' (Kd.R_mono (ok' := (fun k_ => (w.heap.size ≤ k_) ∧ k_ ≠ gb111 ∧ k_ ≠ gb115)) (Kd.R_types (Kd.R_types (HO114.out) BK111.out (by decide)) BK115.out (by decide)) (fun k_ hk => ⟨hk.1.1, ⟨hk.1.2, hk.2⟩⟩))).2.1 (Kd.R_F (Kd.R_mono (ok' := (fun k_ => (w.heap.size ≤ k_) ∧ k_ ≠ gb111 ∧ k_ ≠ gb115)) (Kd.R_types (Kd.R_types (HO114.out) BK111.out (by decide)) BK115.out (by decide)) (fun k_ hk => ⟨hk.1.1, ⟨hk.1.2, hk.2⟩⟩))))) (Reps.none _ _))))
       intro v118 w18 ho19 hb hg_ hnew_
       clear hg_ hnew_
       (first | rw [← Ny117.out] at ho19 | (simp only [Int.reduceToNat] at ho19; rw [← Ny117.out] at ho19))
       have n0_ := Aside0.mk (Kd.N_lower ho19 (below_size (by repeat (first | (with_reducible first | exact HB.out | apply below_alloc | apply pw_below_drewN | apply below_drew1 | refine below_set ?_ GE111.out | refine below_set ?_ GE115.out) | exact HB.out))))
       have n1_ := Aside0.mk (blk_below (g := gb111) (o := .cells #[.int .i64 0, .int .i64 0, .slice none 0 0, .int .i64 0, .int .i64 0, .int .i64 0, .int .i64 0, .int .i64 0, .int .i64 0, .int .i64 0, .int .i64 0] 30 (0, 0)) (by (with_reducible repeat (first | refine blk_drewN ?_ _ | refine blk_drew ?_ | refine blk_alloc ?_ _)); exact BK111.out) hb)
       have n2_ := Aside0.mk (blk_below (g := gb115) (o := .cells #[.int .i64 3600, .slice none 0 0, .slice Ao11 y112.length co11, .int .i64 2000] 47 (0, 0)) (by (with_reducible repeat (first | refine blk_drewN ?_ _ | refine blk_drew ?_ | refine blk_alloc ?_ _)); exact BK115.out) hb)
       have n3_ := Aside0.mk (below_step (by repeat (first | (with_reducible first | exact HB.out | apply below_alloc | apply pw_below_drewN | apply below_drew1 | refine below_set ?_ GE111.out | refine below_set ?_ GE115.out) | exact HB.out)) hb)
       clear BK111
       clear BK115
       clear HB
       clear HO114
       have HO119 := n0_
       have BK111 := n1_
       have BK115 := n2_
       have HB := n3_
       clear n0_ n1_ n2_ n3_
       clear hb ho19
       obtain ⟨Ao20, co20, eo20⟩ := Kd.N_slice HO119.out
       (first | subst eo20 | (injection eo20 with f1_ f2_ f3_; have f4_ := f1_.symm; have f5_ := f3_.symm; clear f1_ f2_ f3_; subst f4_; subst f5_))
       refine hK.out _ _ ⟨(blk_cell BK115.out 0).trans rfl, (blk_cell BK115.out 1).trans rfl, (blk_cell BK115.out 2).trans rfl, (blk_cell BK115.out 3).trans rfl⟩ (fun hHeld => ?_)
       clear hK K
       refine norm_ (a' := ?_) ?_ ?_
       rotate_left
       ·show Act.put _ (some 14) _ = _
        simp only [Act.put, List.setIfInBounds_toArray, List.set_cons_zero, List.set_cons_succ, i64_w, i32_w]
        rfl
       refine pure_ (i := 10) (N := some 18) (v := ?_) (a' := ?_) #[true, true, true, true, true, true, true, true, true, true, true, true, true, true, true, true, true, true, true, true, false, false, false, false, false, false] rfl rfl (any_of HT_.out (by kernel_rfl)) (fun _ _ _ h => h) (Or.inl ⟨by rfl, ?_⟩) ?_ ?_
       rotate_left
       ·intro w'
        go_simp
        with_reducible rfl
       rotate_left
       ·simp only [Act.put, List.setIfInBounds_toArray, List.set_cons_zero, List.set_cons_succ, i64_w, i32_w]
        rfl
       exact norm_ (by first | (simp only [putAll, Act.put, List.setIfInBounds_toArray, List.set_cons_zero, List.set_cons_succ]; done) | (simp only [putAll, Act.put, List.setIfInBounds_toArray, List.set_cons_zero, List.set_cons_succ]; rfl)) (hJ1_6_7_8_12_16 (.slice Ao20 y117.length co20) _ ⟨hHeld, (by (with_reducible repeat (first | apply Kd.N_alloc | apply Kd.N_drewN | apply Kd.N_drew)); exact HO119.out), (by (with_reducible repeat (first | refine blk_drewN ?_ _ | refine blk_drew ?_ | refine blk_alloc ?_ _)); exact BK111.out), (by (with_reducible repeat (first | refine blk_drewN ?_ _ | refine blk_drew ?_ | refine blk_alloc ?_ _)); exact BK115.out), (by repeat (first | (with_reducible first | exact HB.out | apply below_alloc | apply pw_below_drewN | apply below_drew1 | refine below_set ?_ GE111.out | refine below_set ?_ GE115.out) | exact HB.out))⟩)
      ·skip
       refine goes_ Tryd.func8 (by kernel_rfl) rfl #[.slice A0 l0.length c0, .int .i64 3] (by rfl) rfl rfl (by (try simp only [List.map_toArray, List.map_cons, List.map_nil]); first | done | rfl | (simp only [List.length_drop, List.length_take]; rfl)) ?_
       with_reducible refine (script_at.calls _ _ l0 3 t124 _ ?side1 ?side2 A7.out).mono ?_
       (case side1 => repeat (first | exact (Kd.C_below HR0.out HB.out) | (with_reducible refine Kd.C_alloc ?_ _) | (with_reducible refine Kd.C_drewN ?_ _) | (with_reducible refine Kd.C_drew ?_)))
       (case side2 => exact HC0.out)
       rintro e w' ⟨rfl, ⟨nd, rfl⟩⟩
       refine ⟨_, rfl, ?_⟩
       refine hK.out _ _ ⟨(blk_cell BK115.out 0).trans rfl, (blk_cell BK115.out 1).trans rfl, (blk_cell BK115.out 2).trans rfl, (blk_cell BK115.out 3).trans rfl⟩ (fun hHeld => ?_)
       clear hK K
       refine norm_ (a' := ?_) ?_ ?_
       rotate_left
       ·show Act.put _ (some 28) _ = _
        simp only [Act.put, List.setIfInBounds_toArray, List.set_cons_zero, List.set_cons_succ, i64_w, i32_w]
        rfl
       refine pure_ (i := 21) (N := some 29) (v := ?_) (a' := ?_) #[true, true, true, true, true, true, false, true, true, true, false, true, true, true, true, true, true, true, true, true, true, true, false, false, false, false] rfl rfl (any_of HT_.out (by kernel_rfl)) (fun _ _ _ h => h) (Or.inl ⟨by rfl, ?_⟩) ?_ ?_
       rotate_left
       ·intro w'
        go_simp
        with_reducible rfl
       rotate_left
       ·simp only [Act.put, List.setIfInBounds_toArray, List.set_cons_zero, List.set_cons_succ, i64_w, i32_w]
        rfl
       refine pure_ (i := 22) (N := some 30) (v := ?_) (a' := ?_) #[true, true, true, true, true, true, false, true, true, true, false, true, true, true, true, true, true, true, true, true, true, true, true, false, false, false] rfl rfl (any_of HT_.out (by kernel_rfl)) (fun _ _ _ h => h) (Or.inl ⟨by rfl, ?_⟩) ?_ ?_
       rotate_left
       ·intro w'
        go_simp
        with_reducible rfl
       rotate_left
       ·simp only [Act.put, List.setIfInBounds_toArray, List.set_cons_zero, List.set_cons_succ, i64_w, i32_w]
        rfl
       refine pure_ (i := 23) (N := some 31) (v := ?_) (a' := ?_) #[true, true, true, true, true, true, false, true, true, true, false, true, true, true, true, true, true, true, true, true, true, true, true, true, false, false] rfl rfl (any_of HT_.out (by kernel_rfl)) (fun _ _ _ h => h) (Or.inl ⟨by rfl, ?_⟩) ?_ ?_
       rotate_left
       ·intro w'
        go_simp
        with_reducible rfl
       rotate_left
       ·simp only [Act.put, List.setIfInBounds_toArray, List.set_cons_zero, List.set_cons_succ, i64_w, i32_w]
        rfl
       exact norm_ (by first | (simp only [putAll, Act.put, List.setIfInBounds_toArray, List.set_cons_zero, List.set_cons_succ]; done) | (simp only [putAll, Act.put, List.setIfInBounds_toArray, List.set_cons_zero, List.set_cons_succ]; rfl)) (hJ1_7_8_12_16_20 () _ ⟨hHeld, (by (with_reducible repeat (first | apply Kd.R_alloc | apply Kd.R_drewN | apply Kd.R_drew)); exact HO114.out), (by (with_reducible repeat (first | refine blk_drewN ?_ _ | refine blk_drew ?_ | refine blk_alloc ?_ _)); exact BK111.out), (by (with_reducible repeat (first | refine blk_drewN ?_ _ | refine blk_drew ?_ | refine blk_alloc ?_ _)); exact BK115.out), (by repeat (first | (with_reducible first | exact HB.out | apply below_alloc | apply pw_below_drewN | apply below_drew1 | refine below_set ?_ GE111.out | refine below_set ?_ GE115.out) | exact HB.out))⟩)
    ·skip
     rintro v118 w20 ⟨hS_, h0_, h1_, h2_, h3_⟩
     have n0_ : Aside0 (Kd.N k47 47 w20 w.heap.size (fun k_ => (w.heap.size ≤ k_) ∧ k_ ≠ gb111 ∧ k_ ≠ gb115) v118 y117) := ⟨h0_⟩
     have n1_ : Aside0 (w20.heap[gb111]? = some (.cells #[.int .i64 0, .int .i64 0, .slice none 0 0, .int .i64 0, .int .i64 0, .int .i64 0, .int .i64 0, .int .i64 0, .int .i64 0, .int .i64 0, .int .i64 0] 30 (0, 0))) := ⟨h1_⟩
     have n2_ : Aside0 (w20.heap[gb115]? = some (.cells #[.int .i64 3600, .slice none 0 0, .slice Ao11 y112.length co11, .int .i64 2000] 47 (0, 0))) := ⟨h2_⟩
     have n3_ : Aside0 (Below w.heap.size w w20) := ⟨h3_⟩
     clear HO114
     clear BK111
     clear BK115
     clear HB
     clear h0_ h1_ h2_ h3_
     have HO119 := n0_
     have BK111 := n1_
     have BK115 := n2_
     have HB := n3_
     clear n0_ n1_ n2_ n3_
     have hHeld : w20.cell? ⟨gb115, 0, none⟩ = some (.int .i64 3600) ∧ w20.cell? ⟨gb115, 1, none⟩ = some (.slice none 0 0) ∧ w20.cell? ⟨gb115, 2, none⟩ = some (.slice Ao11 y112.length co11) ∧ w20.cell? ⟨gb115, 3, none⟩ = some (.int .i64 2000) := hS_
     obtain ⟨Ao21, co21, eo21⟩ := Kd.N_slice HO119.out
     (first | subst eo21 | (injection eo21 with f1_ f2_ f3_; have f4_ := f1_.symm; have f5_ := f3_.symm; clear f1_ f2_ f3_; subst f4_; subst f5_))
     refine norm_ (a' := ?_) ?_ ?_
     rotate_left
     ·simp only [putAll, Act.put, List.setIfInBounds_toArray, List.set_cons_zero, List.set_cons_succ]
      rfl
     refine one_ (i := 16) (N := some 24) #[true, true, true, true, true, true, true, true, true, true, true, true, true, true, true, true, true, false, false, true, false, false, false, false, false, false] rfl rfl (one_of HT_.out (by kernel_rfl)) (by decide) (fun K hK => ?_)
     refine goes_ Tryd.func8 (by kernel_rfl) rfl #[.slice A0 l0.length c0, .int .i64 2] (by rfl) rfl rfl (by (try simp only [List.map_toArray, List.map_cons, List.map_nil]); first | done | rfl | (simp only [List.length_drop, List.length_take]; rfl)) ?_
     with_reducible refine (script_at.calls _ _ l0 2 t123 _ ?side1 ?side2 A6.out).mono ?_
     (case side1 => repeat (first | exact (Kd.C_below HR0.out HB.out) | (with_reducible refine Kd.C_alloc ?_ _) | (with_reducible refine Kd.C_drewN ?_ _) | (with_reducible refine Kd.C_drew ?_)))
     (case side2 => exact HC0.out)
     rintro e w' ⟨rfl, ⟨nd, rfl⟩⟩
     refine ⟨_, rfl, ?_⟩
     refine hK.out _ _ ⟨(blk_cell BK115.out 0).trans rfl, (blk_cell BK115.out 1).trans rfl, (blk_cell BK115.out 2).trans rfl, (blk_cell BK115.out 3).trans rfl⟩ (fun hHeld => ?_)
     clear hK K
     refine norm_ (a' := ?_) ?_ ?_
     rotate_left
     ·show Act.put _ (some 24) _ = _
      simp only [Act.put, List.setIfInBounds_toArray, List.set_cons_zero, List.set_cons_succ, i64_w, i32_w]
      rfl
     refine pure_ (i := 17) (N := some 25) (v := ?_) (a' := ?_) #[true, true, true, true, true, true, true, true, true, true, true, true, true, true, true, true, true, true, false, true, false, false, false, false, false, false] rfl rfl (any_of HT_.out (by kernel_rfl)) (fun _ _ _ h => h) (Or.inl ⟨by rfl, ?_⟩) ?_ ?_
     rotate_left
     ·intro w'
      go_simp
      with_reducible rfl
     rotate_left
     ·simp only [Act.put, List.setIfInBounds_toArray, List.set_cons_zero, List.set_cons_succ, i64_w, i32_w]
      rfl
     refine pure_ (i := 18) (N := some 26) (v := ?_) (a' := ?_) #[true, true, true, true, true, true, true, true, true, true, true, true, true, true, true, true, true, true, true, true, false, false, false, false, false, false] rfl rfl (any_of HT_.out (by kernel_rfl)) (fun _ _ _ h => h) (Or.inl ⟨by rfl, ?_⟩) ?_ ?_
     rotate_left
     ·intro w'
      go_simp
      with_reducible rfl
     rotate_left
     ·simp only [Act.put, List.setIfInBounds_toArray, List.set_cons_zero, List.set_cons_succ, i64_w, i32_w]
      rfl
     exact norm_ (by first | (simp only [putAll, Act.put, List.setIfInBounds_toArray, List.set_cons_zero, List.set_cons_succ]; done) | (simp only [putAll, Act.put, List.setIfInBounds_toArray, List.set_cons_zero, List.set_cons_succ]; rfl)) (hJ1_6_7_8_12_16 (.slice Ao21 y117.length co21) _ ⟨hHeld, (by (with_reducible repeat (first | apply Kd.N_alloc | apply Kd.N_drewN | apply Kd.N_drew)); exact HO119.out), (by (with_reducible repeat (first | refine blk_drewN ?_ _ | refine blk_drew ?_ | refine blk_alloc ?_ _)); exact BK111.out), (by (with_reducible repeat (first | refine blk_drewN ?_ _ | refine blk_drew ?_ | refine blk_alloc ?_ _)); exact BK115.out), (by repeat (first | (with_reducible first | exact HB.out | apply below_alloc | apply pw_below_drewN | apply below_drew1 | refine below_set ?_ GE111.out | refine below_set ?_ GE115.out) | exact HB.out))⟩)
   ·skip
    rintro _ w17 ⟨hS_, h0_, h1_, h2_, h3_⟩
    have n0_ : Aside0 (Kd.R k43 43 w17 w.heap.size (fun k_ => (w.heap.size ≤ k_)) (.slice Ao11 y112.length co11) y112) := ⟨h0_⟩
    have n1_ : Aside0 (w17.heap[gb111]? = some (.cells #[.int .i64 0, .int .i64 0, .slice none 0 0, .int .i64 0, .int .i64 0, .int .i64 0, .int .i64 0, .int .i64 0, .int .i64 0, .int .i64 0, .int .i64 0] 30 (0, 0))) := ⟨h1_⟩
    have n2_ : Aside0 (w17.heap[gb115]? = some (.cells #[.int .i64 3600, .slice none 0 0, .slice Ao11 y112.length co11, .int .i64 2000] 47 (0, 0))) := ⟨h2_⟩
    have n3_ : Aside0 (Below w.heap.size w w17) := ⟨h3_⟩
    clear HO114
    clear BK111
    clear BK115
    clear HB
    clear h0_ h1_ h2_ h3_
    have HO114 := n0_
    have BK111 := n1_
    have BK115 := n2_
    have HB := n3_
    clear n0_ n1_ n2_ n3_
    have hHeld : w17.cell? ⟨gb115, 0, none⟩ = some (.int .i64 3600) ∧ w17.cell? ⟨gb115, 1, none⟩ = some (.slice none 0 0) ∧ w17.cell? ⟨gb115, 2, none⟩ = some (.slice Ao11 y112.length co11) ∧ w17.cell? ⟨gb115, 3, none⟩ = some (.int .i64 2000) := hS_
    refine norm_ (a' := ?_) ?_ ?_
    rotate_left
    ·simp only [putAll, Act.put, List.setIfInBounds_toArray, List.set_cons_zero, List.set_cons_succ]
     rfl
    refine one_ (i := 6) (N := some 14) #[true, true, true, true, true, true, true, true, true, true, false, true, true, true, true, true, true, true, true, true, true, true, true, true, false, false] rfl rfl (one_of HT_.out (by kernel_rfl)) (by decide) (fun K hK => ?_)
    refine Kd.N_lit_step k47 _ 47 ?hg (N' := 14) ?hd (xs := ([(⟨0, ([] : List (S79)), ([] : List (S43)), 0⟩ : S47), (⟨3600, ([] : List (S79)), y112, 2000⟩ : S47)] : List (S47))) (inner := [.int .i64 0, .slice none 0 0, .slice none 0 0, .int .i64 0, .int .i64 3600, .slice none 0 0, .slice Ao11 y112.length co11, .int .i64 2000]) (ok := (fun k_ => (w.heap.size ≤ k_) ∧ k_ ≠ gb111 ∧ k_ ≠ gb115)) (okp := (fun k_ => (w.heap.size ≤ k_) ∧ k_ ≠ gb111 ∧ k_ ≠ gb115)) ?hr ?hp (fun _ hk => hk) ((show ∀ k_, w17.heap.size ≤ k_ → (fun k_ => (w.heap.size ≤ k_) ∧ k_ ≠ gb111 ∧ k_ ≠ gb115) k_ from fun k_ hk => ⟨(Nat.le_trans (below_size (by repeat (first | (with_reducible first | exact HB.out | apply below_alloc | apply pw_below_drewN | apply below_drew1 | refine below_set ?_ GE111.out | refine below_set ?_ GE115.out) | exact HB.out))) hk), Kd.freshB (g := gb111) (o := .cells #[.int .i64 0, .int .i64 0, .slice none 0 0, .int .i64 0, .int .i64 0, .int .i64 0, .int .i64 0, .int .i64 0, .int .i64 0, .int .i64 0, .int .i64 0] 30 (0, 0)) (by (with_reducible repeat (first | refine blk_drewN ?_ _ | refine blk_drew ?_ | refine blk_alloc ?_ _)); exact BK111.out) k_ hk, Kd.freshB (g := gb115) (o := .cells #[.int .i64 3600, .slice none 0 0, .slice Ao11 y112.length co11, .int .i64 2000] 47 (0, 0)) (by (with_reducible repeat (first | refine blk_drewN ?_ _ | refine blk_drew ?_ | refine blk_alloc ?_ _)); exact BK115.out) k_ hk⟩) _ (Nat.le_refl _)) (Below.refl _ _) (Nat.le_refl _) (by simp) ?_; (case hd => rfl); (case hg => rfl); (case hr => first | (go_simp; done) | (go_simp; rfl)); (case hp => exact (Reps.c4 (show Kd.FK k47 _ _ (⟨0, ([] : List (S79)), ([] : List (S43)), 0⟩ : S47) [.int .i64 0, .slice none 0 0, .slice none 0 0, .int .i64 0] from (k47_mkF _ _ (⟨0, ([] : List (S79)), ([] : List (S43)), 0⟩ : S47) (Nat.le_refl _) (Kd.F_nil _ _ _) (Nat.le_refl _) (Kd.F_nil _ _ _))) (Reps.c4 (show Kd.FK k47 _ _ (⟨3600, ([] : List (S79)), y112, 2000⟩ : S47) [.int .i64 3600, .slice none 0 0, .slice Ao11 y112.length co11, .int .i64 2000] from (k47_mkF _ _ (⟨3600, ([] : List (S79)), y112, 2000⟩ : S47) (Nat.le_refl _) (Kd.F_nil _ _ _) (Kd.R_reads' (Kd.R_mono (ok' := (fun k_ => (w.heap.size ≤ k_) ∧ k_ ≠ gb111 ∧ k_ ≠ gb115)) (Kd.R_types (Kd.R_types (HO114.out) BK111.out (by decide)) BK115.out (by decide)) (fun k_ hk => ⟨hk.1.1, ⟨hk.1.2, hk.2⟩⟩))).2.1 (Kd.R_F (Kd.R_mono (ok' := (fun k_ => (w.heap.size ≤ k_) ∧ k_ ≠ gb111 ∧ k_ ≠ gb115)) (Kd.R_types (Kd.R_types (HO114.out) BK111.out (by decide)) BK115.out (by decide)) (fun k_ hk => ⟨hk.1.1, ⟨hk.1.2, hk.2⟩⟩))))) (Reps.none _ _))))
    intro v118 w18 ho19 hb hg_ hnew_
    clear hg_ hnew_
    (first | rw [← Ny117.out] at ho19 | (simp only [Int.reduceToNat] at ho19; rw [← Ny117.out] at ho19))
    have n0_ := Aside0.mk (Kd.N_lower ho19 (below_size (by repeat (first | (with_reducible first | exact HB.out | apply below_alloc | apply pw_below_drewN | apply below_drew1 | refine below_set ?_ GE111.out | refine below_set ?_ GE115.out) | exact HB.out))))
    have n1_ := Aside0.mk (blk_below (g := gb111) (o := .cells #[.int .i64 0, .int .i64 0, .slice none 0 0, .int .i64 0, .int .i64 0, .int .i64 0, .int .i64 0, .int .i64 0, .int .i64 0, .int .i64 0, .int .i64 0] 30 (0, 0)) (by (with_reducible repeat (first | refine blk_drewN ?_ _ | refine blk_drew ?_ | refine blk_alloc ?_ _)); exact BK111.out) hb)
    have n2_ := Aside0.mk (blk_below (g := gb115) (o := .cells #[.int .i64 3600, .slice none 0 0, .slice Ao11 y112.length co11, .int .i64 2000] 47 (0, 0)) (by (with_reducible repeat (first | refine blk_drewN ?_ _ | refine blk_drew ?_ | refine blk_alloc ?_ _)); exact BK115.out) hb)
    have n3_ := Aside0.mk (below_step (by repeat (first | (with_reducible first | exact HB.out | apply below_alloc | apply pw_below_drewN | apply below_drew1 | refine below_set ?_ GE111.out | refine below_set ?_ GE115.out) | exact HB.out)) hb)
    clear BK111
    clear BK115
    clear HB
    clear HO114
    have HO119 := n0_
    have BK111 := n1_
    have BK115 := n2_
    have HB := n3_
    clear n0_ n1_ n2_ n3_
    clear hb ho19
    obtain ⟨Ao20, co20, eo20⟩ := Kd.N_slice HO119.out
    (first | subst eo20 | (injection eo20 with f1_ f2_ f3_; have f4_ := f1_.symm; have f5_ := f3_.symm; clear f1_ f2_ f3_; subst f4_; subst f5_))
    refine hK.out _ _ ⟨(blk_cell BK115.out 0).trans rfl, (blk_cell BK115.out 1).trans rfl, (blk_cell BK115.out 2).trans rfl, (blk_cell BK115.out 3).trans rfl⟩ (fun hHeld => ?_)
    clear hK K
    refine norm_ (a' := ?_) ?_ ?_
    rotate_left
    ·show Act.put _ (some 14) _ = _
     simp only [Act.put, List.setIfInBounds_toArray, List.set_cons_zero, List.set_cons_succ, i64_w, i32_w]
     rfl
    refine pure_ (i := 10) (N := some 18) (v := ?_) (a' := ?_) #[true, true, true, true, true, true, true, true, true, true, true, true, true, true, true, true, true, true, true, true, true, true, true, true, false, false] rfl rfl (any_of HT_.out (by kernel_rfl)) (fun _ _ _ h => h) (Or.inl ⟨by rfl, ?_⟩) ?_ ?_
    rotate_left
    ·intro w'
     go_simp
     with_reducible rfl
    rotate_left
    ·simp only [Act.put, List.setIfInBounds_toArray, List.set_cons_zero, List.set_cons_succ, i64_w, i32_w]
     rfl
    exact norm_ (by first | (simp only [putAll, Act.put, List.setIfInBounds_toArray, List.set_cons_zero, List.set_cons_succ]; done) | (simp only [putAll, Act.put, List.setIfInBounds_toArray, List.set_cons_zero, List.set_cons_succ]; rfl)) (hJ1_6_7_8_12_16_20 (.slice Ao20 y117.length co20) _ ⟨hHeld, (by (with_reducible repeat (first | apply Kd.N_alloc | apply Kd.N_drewN | apply Kd.N_drew)); exact HO119.out), (by (with_reducible repeat (first | refine blk_drewN ?_ _ | refine blk_drew ?_ | refine blk_alloc ?_ _)); exact BK111.out), (by (with_reducible repeat (first | refine blk_drewN ?_ _ | refine blk_drew ?_ | refine blk_alloc ?_ _)); exact BK115.out), (by repeat (first | (with_reducible first | exact HB.out | apply below_alloc | apply pw_below_drewN | apply below_drew1 | refine below_set ?_ GE111.out | refine below_set ?_ GE115.out) | exact HB.out))⟩)
  ·skip
   rintro v118 w20 ⟨hS_, h0_, h1_, h2_, h3_⟩
   have n0_ : Aside0 (Kd.N k47 47 w20 w.heap.size (fun k_ => (w.heap.size ≤ k_) ∧ k_ ≠ gb111 ∧ k_ ≠ gb115) v118 y117) := ⟨h0_⟩
   have n1_ : Aside0 (w20.heap[gb111]? = some (.cells #[.int .i64 0, .int .i64 0, .slice none 0 0, .int .i64 0, .int .i64 0, .int .i64 0, .int .i64 0, .int .i64 0, .int .i64 0, .int .i64 0, .int .i64 0] 30 (0, 0))) := ⟨h1_⟩
   have n2_ : Aside0 (w20.heap[gb115]? = some (.cells #[.int .i64 3600, .slice none 0 0, .slice Ao11 y112.length co11, .int .i64 2000] 47 (0, 0))) := ⟨h2_⟩
   have n3_ : Aside0 (Below w.heap.size w w20) := ⟨h3_⟩
   clear HO114
   clear BK111
   clear BK115
   clear HB
   clear h0_ h1_ h2_ h3_
   have HO119 := n0_
   have BK111 := n1_
   have BK115 := n2_
   have HB := n3_
   clear n0_ n1_ n2_ n3_
   have hHeld : w20.cell? ⟨gb115, 0, none⟩ = some (.int .i64 3600) ∧ w20.cell? ⟨gb115, 1, none⟩ = some (.slice none 0 0) ∧ w20.cell? ⟨gb115, 2, none⟩ = some (.slice Ao11 y112.length co11) ∧ w20.cell? ⟨gb115, 3, none⟩ = some (.int .i64 2000) := hS_
   obtain ⟨Ao21, co21, eo21⟩ := Kd.N_slice HO119.out
   (first | subst eo21 | (injection eo21 with f1_ f2_ f3_; have f4_ := f1_.symm; have f5_ := f3_.symm; clear f1_ f2_ f3_; subst f4_; subst f5_))
   refine norm_ (a' := ?_) ?_ ?_
   rotate_left
   ·simp only [putAll, Act.put, List.setIfInBounds_toArray, List.set_cons_zero, List.set_cons_succ]
    rfl
   refine one_ (i := 20) (N := some 28) #[true, true, true, true, true, true, true, true, true, true, true, true, true, true, true, true, true, true, true, true, true, false, false, false, false, false] rfl rfl (one_of HT_.out (by kernel_rfl)) (by decide) (fun K hK => ?_)
   refine goes_ Tryd.func8 (by kernel_rfl) rfl #[.slice A0 l0.length c0, .int .i64 3] (by rfl) rfl rfl (by (try simp only [List.map_toArray, List.map_cons, List.map_nil]); first | done | rfl | (simp only [List.length_drop, List.length_take]; rfl)) ?_
   with_reducible refine (script_at.calls _ _ l0 3 t124 _ ?side1 ?side2 A7.out).mono ?_
   (case side1 => repeat (first | exact (Kd.C_below HR0.out HB.out) | (with_reducible refine Kd.C_alloc ?_ _) | (with_reducible refine Kd.C_drewN ?_ _) | (with_reducible refine Kd.C_drew ?_)))
   (case side2 => exact HC0.out)
   rintro e w' ⟨rfl, ⟨nd, rfl⟩⟩
   refine ⟨_, rfl, ?_⟩
   refine hK.out _ _ ⟨(blk_cell BK115.out 0).trans rfl, (blk_cell BK115.out 1).trans rfl, (blk_cell BK115.out 2).trans rfl, (blk_cell BK115.out 3).trans rfl⟩ (fun hHeld => ?_)
   clear hK K
   refine norm_ (a' := ?_) ?_ ?_
   rotate_left
   ·show Act.put _ (some 28) _ = _
    simp only [Act.put, List.setIfInBounds_toArray, List.set_cons_zero, List.set_cons_succ, i64_w, i32_w]
    rfl
   refine pure_ (i := 21) (N := some 29) (v := ?_) (a' := ?_) #[true, true, true, true, true, true, true, true, true, true, true, true, true, true, true, true, true, true, true, true, true, true, false, false, false, false] rfl rfl (any_of HT_.out (by kernel_rfl)) (fun _ _ _ h => h) (Or.inl ⟨by rfl, ?_⟩) ?_ ?_
   rotate_left
   ·intro w'
    go_simp
    with_reducible rfl
   rotate_left
   ·simp only [Act.put, List.setIfInBounds_toArray, List.set_cons_zero, List.set_cons_succ, i64_w, i32_w]
    rfl
   refine pure_ (i := 22) (N := some 30) (v := ?_) (a' := ?_) #[true, true, true, true, true, true, true, true, true, true, true, true, true, true, true, true, true, true, true, true, true, true, true, false, false, false] rfl rfl (any_of HT_.out (by kernel_rfl)) (fun _ _ _ h => h) (Or.inl ⟨by rfl, ?_⟩) ?_ ?_
   rotate_left
   ·intro w'
    go_simp
    with_reducible rfl
   rotate_left
   ·simp only [Act.put, List.setIfInBounds_toArray, List.set_cons_zero, List.set_cons_succ, i64_w, i32_w]
    rfl
   refine pure_ (i := 23) (N := some 31) (v := ?_) (a' := ?_) #[true, true, true, true, true, true, true, true, true, true, true, true, true, true, true, true, true, true, true, true, true, true, true, true, false, false] rfl rfl (any_of HT_.out (by kernel_rfl)) (fun _ _ _ h => h) (Or.inl ⟨by rfl, ?_⟩) ?_ ?_
   rotate_left
   ·intro w'
    go_simp
    with_reducible rfl
   rotate_left
   ·simp only [Act.put, List.setIfInBounds_toArray, List.set_cons_zero, List.set_cons_succ, i64_w, i32_w]
    rfl
   exact norm_ (by first | (simp only [putAll, Act.put, List.setIfInBounds_toArray, List.set_cons_zero, List.set_cons_succ]; done) | (simp only [putAll, Act.put, List.setIfInBounds_toArray, List.set_cons_zero, List.set_cons_succ]; rfl)) (hJ1_6_7_8_12_16_20 (.slice Ao21 y117.length co21) _ ⟨hHeld, (by (with_reducible repeat (first | apply Kd.N_alloc | apply Kd.N_drewN | apply Kd.N_drew)); exact HO119.out), (by (with_reducible repeat (first | refine blk_drewN ?_ _ | refine blk_drew ?_ | refine blk_alloc ?_ _)); exact BK111.out), (by (with_reducible repeat (first | refine blk_drewN ?_ _ | refine blk_drew ?_ | refine blk_alloc ?_ _)); exact BK115.out), (by repeat (first | (with_reducible first | exact HB.out | apply below_alloc | apply pw_below_drewN | apply below_drew1 | refine below_set ?_ GE111.out | refine below_set ?_ GE115.out) | exact HB.out))⟩)
 rintro v118 w20 ⟨hS_, h0_, h1_, h2_, h3_⟩
 have n0_ : Aside0 (Kd.N k47 47 w20 w.heap.size (fun k_ => (w.heap.size ≤ k_) ∧ k_ ≠ gb111 ∧ k_ ≠ gb115) v118 y117) := ⟨h0_⟩
 have n1_ : Aside0 (w20.heap[gb111]? = some (.cells #[.int .i64 0, .int .i64 0, .slice none 0 0, .int .i64 0, .int .i64 0, .int .i64 0, .int .i64 0, .int .i64 0, .int .i64 0, .int .i64 0, .int .i64 0] 30 (0, 0))) := ⟨h1_⟩
 have n2_ : Aside0 (w20.heap[gb115]? = some (.cells #[.int .i64 3600, .slice none 0 0, .slice Ao11 y112.length co11, .int .i64 2000] 47 (0, 0))) := ⟨h2_⟩
 have n3_ : Aside0 (Below w.heap.size w w20) := ⟨h3_⟩
 clear HO114
 clear BK111
 clear BK115
 clear HB
 clear h0_ h1_ h2_ h3_
 have HO119 := n0_
 have BK111 := n1_
 have BK115 := n2_
 have HB := n3_
 clear n0_ n1_ n2_ n3_
 have hHeld : w20.cell? ⟨gb115, 0, none⟩ = some (.int .i64 3600) ∧ w20.cell? ⟨gb115, 1, none⟩ = some (.slice none 0 0) ∧ w20.cell? ⟨gb115, 2, none⟩ = some (.slice Ao11 y112.length co11) ∧ w20.cell? ⟨gb115, 3, none⟩ = some (.int .i64 2000) := hS_
 obtain ⟨Ao21, co21, eo21⟩ := Kd.N_slice HO119.out
 (first | subst eo21 | (injection eo21 with f1_ f2_ f3_; have f4_ := f1_.symm; have f5_ := f3_.symm; clear f1_ f2_ f3_; subst f4_; subst f5_))
 refine norm_ (a' := ?_) ?_ ?_
 rotate_left
 ·simp only [putAll, Act.put, List.setIfInBounds_toArray, List.set_cons_zero, List.set_cons_succ]
  rfl
 refine pure_ (i := 24) (N := some 32) (v := ?_) (a' := ?_) #[true, true, true, true, true, true, true, true, true, true, true, true, true, true, true, true, true, true, true, true, true, true, true, true, true, false] rfl rfl (any_of HT_.out (by kernel_rfl)) (fun _ _ _ h => h) (Or.inl ⟨by rfl, ?_⟩) ?_ ?_
 rotate_left
 ·intro w'
  go_simp
  with_reducible rfl
 rotate_left
 ·simp only [Act.put, List.setIfInBounds_toArray, List.set_cons_zero, List.set_cons_succ, i64_w, i32_w]
  rfl
 refine one_ (i := 25) (N := none) #[true, true, true, true, true, true, true, true, true, true, true, true, true, true, true, true, true, true, true, true, true, true, true, true, true, true] rfl rfl (one_of HT_.out (by kernel_rfl)) (by decide) (fun K hK => ?_)
 have hs22 : w20.cell? ⟨gb111, 0, none⟩ = some (.int .i64 0) := (blk_cell BK111.out 0).trans rfl
 have hfs22 := blk_frozen BK111.out 0
 have hns22_1 := NB115_111.out
 have hms22_1 := NB111_115.out
 have hs23 : w20.cell? ⟨gb111, 1, none⟩ = some (.int .i64 0) := (blk_cell BK111.out 1).trans rfl
 have hfs23 := blk_frozen BK111.out 1
 have hns23_1 := NB115_111.out
 have hms23_1 := NB111_115.out
 have hs24 : w20.cell? ⟨gb111, 2, none⟩ = some (.slice none 0 0) := (blk_cell BK111.out 2).trans rfl
 have hfs24 := blk_frozen BK111.out 2
 have hns24_1 := NB115_111.out
 have hms24_1 := NB111_115.out
 have hs25 : w20.cell? ⟨gb111, 3, none⟩ = some (.int .i64 0) := (blk_cell BK111.out 3).trans rfl
 have hfs25 := blk_frozen BK111.out 3
 have hns25_1 := NB115_111.out
 have hms25_1 := NB111_115.out
 have hs26 : w20.cell? ⟨gb111, 4, none⟩ = some (.int .i64 0) := (blk_cell BK111.out 4).trans rfl
 have hfs26 := blk_frozen BK111.out 4
 have hns26_1 := NB115_111.out
 have hms26_1 := NB111_115.out
 have hs27 : w20.cell? ⟨gb111, 5, none⟩ = some (.int .i64 0) := (blk_cell BK111.out 5).trans rfl
 have hfs27 := blk_frozen BK111.out 5
 have hns27_1 := NB115_111.out
 have hms27_1 := NB111_115.out
 have hs28 : w20.cell? ⟨gb111, 6, none⟩ = some (.int .i64 0) := (blk_cell BK111.out 6).trans rfl
 have hfs28 := blk_frozen BK111.out 6
 have hns28_1 := NB115_111.out
 have hms28_1 := NB111_115.out
 have hs29 : w20.cell? ⟨gb111, 7, none⟩ = some (.int .i64 0) := (blk_cell BK111.out 7).trans rfl
 have hfs29 := blk_frozen BK111.out 7
 have hns29_1 := NB115_111.out
 have hms29_1 := NB111_115.out
 have hs30 : w20.cell? ⟨gb111, 8, none⟩ = some (.int .i64 0) := (blk_cell BK111.out 8).trans rfl
 have hfs30 := blk_frozen BK111.out 8
 have hns30_1 := NB115_111.out
 have hms30_1 := NB111_115.out
 have hs31 : w20.cell? ⟨gb111, 9, none⟩ = some (.int .i64 0) := (blk_cell BK111.out 9).trans rfl
 have hfs31 := blk_frozen BK111.out 9
 have hns31_1 := NB115_111.out
 have hms31_1 := NB111_115.out
 have hs32 : w20.cell? ⟨gb111, 10, none⟩ = some (.int .i64 0) := (blk_cell BK111.out 10).trans rfl
 have hfs32 := blk_frozen BK111.out 10
 have hns32_1 := NB115_111.out
 have hms32_1 := NB111_115.out
 refine skip_ (w1 := ?_) (by rfl) rfl ?_ ?_
 rotate_left
 ·go_simp
  rfl
 refine hK.out _ _ ⟨((cell_far (p := ⟨gb111, _, none⟩) NB115_111.out _).trans (((cell_far (p := ⟨gb111, _, none⟩) NB115_111.out _).trans (((cell_far (p := ⟨gb111, _, none⟩) NB115_111.out _).trans (((cell_far (p := ⟨gb111, _, none⟩) NB115_111.out _).trans (((cell_far (p := ⟨gb111, _, none⟩) NB115_111.out _).trans (((cell_far (p := ⟨gb111, _, none⟩) NB115_111.out _).trans (((cell_far (p := ⟨gb111, _, none⟩) NB115_111.out _).trans (((cell_far (p := ⟨gb111, _, none⟩) NB115_111.out _).trans (((cell_far (p := ⟨gb111, _, none⟩) NB115_111.out _).trans (((cell_far (p := ⟨gb111, _, none⟩) NB115_111.out _).trans (((cell_far (p := ⟨gb111, _, none⟩) NB115_111.out _).trans (hHeld.1)))))))))))))))))))))), ((cell_far (p := ⟨gb111, _, none⟩) NB115_111.out _).trans (((cell_far (p := ⟨gb111, _, none⟩) NB115_111.out _).trans (((cell_far (p := ⟨gb111, _, none⟩) NB115_111.out _).trans (((cell_far (p := ⟨gb111, _, none⟩) NB115_111.out _).trans (((cell_far (p := ⟨gb111, _, none⟩) NB115_111.out _).trans (((cell_far (p := ⟨gb111, _, none⟩) NB115_111.out _).trans (((cell_far (p := ⟨gb111, _, none⟩) NB115_111.out _).trans (((cell_far (p := ⟨gb111, _, none⟩) NB115_111.out _).trans (((cell_far (p := ⟨gb111, _, none⟩) NB115_111.out _).trans (((cell_far (p := ⟨gb111, _, none⟩) NB115_111.out _).trans (((cell_far (p := ⟨gb111, _, none⟩) NB115_111.out _).trans (hHeld.2.1)))))))))))))))))))))), ((cell_far (p := ⟨gb111, _, none⟩) NB115_111.out _).trans (((cell_far (p := ⟨gb111, _, none⟩) NB115_111.out _).trans (((cell_far (p := ⟨gb111, _, none⟩) NB115_111.out _).trans (((cell_far (p := ⟨gb111, _, none⟩) NB115_111.out _).trans (((cell_far (p := ⟨gb111, _, none⟩) NB115_111.out _).trans (((cell_far (p := ⟨gb111, _, none⟩) NB115_111.out _).trans (((cell_far (p := ⟨gb111, _, none⟩) NB115_111.out _).trans (((cell_far (p := ⟨gb111, _, none⟩) NB115_111.out _).trans (((cell_far (p := ⟨gb111, _, none⟩) NB115_111.out _).trans (((cell_far (p := ⟨gb111, _, none⟩) NB115_111.out _).trans (((cell_far (p := ⟨gb111, _, none⟩) NB115_111.out _).trans (hHeld.2.2.1)))))))))))))))))))))), ((cell_far (p := ⟨gb111, _, none⟩) NB115_111.out _).trans (((cell_far (p := ⟨gb111, _, none⟩) NB115_111.out _).trans (((cell_far (p := ⟨gb111, _, none⟩) NB115_111.out _).trans (((cell_far (p := ⟨gb111, _, none⟩) NB115_111.out _).trans (((cell_far (p := ⟨gb111, _, none⟩) NB115_111.out _).trans (((cell_far (p := ⟨gb111, _, none⟩) NB115_111.out _).trans (((cell_far (p := ⟨gb111, _, none⟩) NB115_111.out _).trans (((cell_far (p := ⟨gb111, _, none⟩) NB115_111.out _).trans (((cell_far (p := ⟨gb111, _, none⟩) NB115_111.out _).trans (((cell_far (p := ⟨gb111, _, none⟩) NB115_111.out _).trans (((cell_far (p := ⟨gb111, _, none⟩) NB115_111.out _).trans (hHeld.2.2.2))))))))))))))))))))))⟩ (fun hHeld => ?_)
 clear hK K
 refine done_ (done_of HT_.out (by kernel_rfl)) ?_
 try go_wp2
 refine bodyPost_ret (results_cell_row rfl _ _ gb111 30 #[.int .i64 (wrap64 (1 + (Int.tmod t116 3))), .int .i64 4, .slice Ao21 y117.length co21, .int .i64 t120, .int .i64 (wrap64 (t121 + 5184000)), .int .i64 (wrap64 (2 + (Int.tmod t122 4))), .int .i64 (wrap64 (2 + (Int.tmod t123 4))), .int .i64 (wrap64 (2 + (Int.tmod t124 4))), .int .i64 4, .int .i64 20000, .int .i64 200] (0, 0) _ rfl (by (with_reducible repeat (first | refine blk_drewN ?_ _ | refine blk_drew ?_ | refine blk_alloc ?_ _)); refine blk_put (cs := #[.int .i64 (wrap64 (1 + (Int.tmod t116 3))), .int .i64 4, .slice Ao21 y117.length co21, .int .i64 t120, .int .i64 (wrap64 (t121 + 5184000)), .int .i64 (wrap64 (2 + (Int.tmod t122 4))), .int .i64 (wrap64 (2 + (Int.tmod t123 4))), .int .i64 (wrap64 (2 + (Int.tmod t124 4))), .int .i64 4, .int .i64 20000, .int .i64 0]) ?_ 10 _ rfl; (with_reducible repeat (first | refine blk_drewN ?_ _ | refine blk_drew ?_ | refine blk_alloc ?_ _)); refine blk_put (cs := #[.int .i64 (wrap64 (1 + (Int.tmod t116 3))), .int .i64 4, .slice Ao21 y117.length co21, .int .i64 t120, .int .i64 (wrap64 (t121 + 5184000)), .int .i64 (wrap64 (2 + (Int.tmod t122 4))), .int .i64 (wrap64 (2 + (Int.tmod t123 4))), .int .i64 (wrap64 (2 + (Int.tmod t124 4))), .int .i64 4, .int .i64 0, .int .i64 0]) ?_ 9 _ rfl; (with_reducible repeat (first | refine blk_drewN ?_ _ | refine blk_drew ?_ | refine blk_alloc ?_ _)); refine blk_put (cs := #[.int .i64 (wrap64 (1 + (Int.tmod t116 3))), .int .i64 4, .slice Ao21 y117.length co21, .int .i64 t120, .int .i64 (wrap64 (t121 + 5184000)), .int .i64 (wrap64 (2 + (Int.tmod t122 4))), .int .i64 (wrap64 (2 + (Int.tmod t123 4))), .int .i64 (wrap64 (2 + (Int.tmod t124 4))), .int .i64 0, .int .i64 0, .int .i64 0]) ?_ 8 _ rfl; (with_reducible repeat (first | refine blk_drewN ?_ _ | refine blk_drew ?_ | refine blk_alloc ?_ _)); refine blk_put (cs := #[.int .i64 (wrap64 (1 + (Int.tmod t116 3))), .int .i64 4, .slice Ao21 y117.length co21, .int .i64 t120, .int .i64 (wrap64 (t121 + 5184000)), .int .i64 (wrap64 (2 + (Int.tmod t122 4))), .int .i64 (wrap64 (2 + (Int.tmod t123 4))), .int .i64 0, .int .i64 0, .int .i64 0, .int .i64 0]) ?_ 7 _ rfl; (with_reducible repeat (first | refine blk_drewN ?_ _ | refine blk_drew ?_ | refine blk_alloc ?_ _)); refine blk_put (cs := #[.int .i64 (wrap64 (1 + (Int.tmod t116 3))), .int .i64 4, .slice Ao21 y117.length co21, .int .i64 t120, .int .i64 (wrap64 (t121 + 5184000)), .int .i64 (wrap64 (2 + (Int.tmod t122 4))), .int .i64 0, .int .i64 0, .int .i64 0, .int .i64 0, .int .i64 0]) ?_ 6 _ rfl; (with_reducible repeat (first | refine blk_drewN ?_ _ | refine blk_drew ?_ | refine blk_alloc ?_ _)); refine blk_put (cs := #[.int .i64 (wrap64 (1 + (Int.tmod t116 3))), .int .i64 4, .slice Ao21 y117.length co21, .int .i64 t120, .int .i64 (wrap64 (t121 + 5184000)), .int .i64 0, .int .i64 0, .int .i64 0, .int .i64 0, .int .i64 0, .int .i64 0]) ?_ 5 _ rfl; (with_reducible repeat (first | refine blk_drewN ?_ _ | refine blk_drew ?_ | refine blk_alloc ?_ _)); refine blk_put (cs := #[.int .i64 (wrap64 (1 + (Int.tmod t116 3))), .int .i64 4, .slice Ao21 y117.length co21, .int .i64 t120, .int .i64 0, .int .i64 0, .int .i64 0, .int .i64 0, .int .i64 0, .int .i64 0, .int .i64 0]) ?_ 4 _ rfl; (with_reducible repeat (first | refine blk_drewN ?_ _ | refine blk_drew ?_ | refine blk_alloc ?_ _)); refine blk_put (cs := #[.int .i64 (wrap64 (1 + (Int.tmod t116 3))), .int .i64 4, .slice Ao21 y117.length co21, .int .i64 0, .int .i64 0, .int .i64 0, .int .i64 0, .int .i64 0, .int .i64 0, .int .i64 0, .int .i64 0]) ?_ 3 _ rfl; (with_reducible repeat (first | refine blk_drewN ?_ _ | refine blk_drew ?_ | refine blk_alloc ?_ _)); refine blk_put (cs := #[.int .i64 (wrap64 (1 + (Int.tmod t116 3))), .int .i64 4, .slice none 0 0, .int .i64 0, .int .i64 0, .int .i64 0, .int .i64 0, .int .i64 0, .int .i64 0, .int .i64 0, .int .i64 0]) ?_ 2 _ rfl; (with_reducible repeat (first | refine blk_drewN ?_ _ | refine blk_drew ?_ | refine blk_alloc ?_ _)); refine blk_put (cs := #[.int .i64 (wrap64 (1 + (Int.tmod t116 3))), .int .i64 0, .slice none 0 0, .int .i64 0, .int .i64 0, .int .i64 0, .int .i64 0, .int .i64 0, .int .i64 0, .int .i64 0, .int .i64 0]) ?_ 1 _ rfl; (with_reducible repeat (first | refine blk_drewN ?_ _ | refine blk_drew ?_ | refine blk_alloc ?_ _)); refine blk_put (cs := #[.int .i64 0, .int .i64 0, .slice none 0 0, .int .i64 0, .int .i64 0, .int .i64 0, .int .i64 0, .int .i64 0, .int .i64 0, .int .i64 0, .int .i64 0]) ?_ 0 _ rfl; (with_reducible repeat (first | refine blk_drewN ?_ _ | refine blk_drew ?_ | refine blk_alloc ?_ _)); exact BK111.out) Tryd.underlying30 rfl (by kernel_rfl)) rfl ?_
 exact ⟨_, by first | rfl | (simp [errW_none, errW_some] <;> rfl) | (simp [*, errW_none, errW_some] <;> rfl), by (with_reducible repeat (first | apply Kd.N_alloc | apply Kd.N_drewN | apply Kd.N_drew)); exact Kd.N_mono (Kd.N_far (p := ⟨gb111, 10, none⟩) (Kd.N_far (p := ⟨gb111, 9, none⟩) (Kd.N_far (p := ⟨gb111, 8, none⟩) (Kd.N_far (p := ⟨gb111, 7, none⟩) (Kd.N_far (p := ⟨gb111, 6, none⟩) (Kd.N_far (p := ⟨gb111, 5, none⟩) (Kd.N_far (p := ⟨gb111, 4, none⟩) (Kd.N_far (p := ⟨gb111, 3, none⟩) (Kd.N_far (p := ⟨gb111, 2, none⟩) (Kd.N_far (p := ⟨gb111, 1, none⟩) (Kd.N_far (p := ⟨gb111, 0, none⟩) (Kd.N_mono HO119.out (fun k_ hk => (⟨hk, hk.2.1⟩ : _ ∧ k_ ≠ gb111))) (fun _ hk => hk.2) (.int .i64 (wrap64 (1 + (Int.tmod t116 3))))) (fun _ hk => hk.2) (.int .i64 4)) (fun _ hk => hk.2) (.slice Ao21 y117.length co21)) (fun _ hk => hk.2) (.int .i64 t120)) (fun _ hk => hk.2) (.int .i64 (wrap64 (t121 + 5184000)))) (fun _ hk => hk.2) (.int .i64 (wrap64 (2 + (Int.tmod t122 4))))) (fun _ hk => hk.2) (.int .i64 (wrap64 (2 + (Int.tmod t123 4))))) (fun _ hk => hk.2) (.int .i64 (wrap64 (2 + (Int.tmod t124 4))))) (fun _ hk => hk.2) (.int .i64 4)) (fun _ hk => hk.2) (.int .i64 20000)) (fun _ hk => hk.2) (.int .i64 200)) (fun _ hk => hk.1.1), by repeat (first | (with_reducible first | exact HB.out | apply below_alloc | apply pw_below_drewN | apply below_drew1 | refine below_set ?_ GE111.out | refine below_set ?_ GE115.out) | exact HB.out)⟩

end Go.Proofs.YtohpimfanplloaaDoor.GO
