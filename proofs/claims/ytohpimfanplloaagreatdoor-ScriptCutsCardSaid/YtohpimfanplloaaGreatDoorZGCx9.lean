-- laid by a program of this session (print_proof, changed for laws over structs) (packed)
import Derived.Test.YtohpimfanplloaaGreatDoorZGCExt
import Derived.Test.YtohpimfanplloaaGreatDoorZGCx0
import Derived.Test.YtohpimfanplloaaGreatDoorZGCx6
import Derived.Test.YtohpimfanplloaaGreatDoorZGCx8
namespace Go.Proofs.YtohpimfanplloaaGreatDoor.GC
open Go.RowKit Go.Proofs.YtohpimfanplloaaGreatDoorW.PrintWords Go.Proofs.YtohpimfanplloaaGreatDoorW.PrintLast Go.Proofs.YtohpimfanplloaaGreatDoorW.PrintMore
attribute [local go_sem] max2_int min2_int max_two min_two max_three min_three max_four min_four   -- for this text's walks alone
set_option linter.unusedVariables false
set_option linter.unusedSimpArgs false

/-! ### script_Print: function 35 -/
def script_Print.j0 : Nat → Bool → Int → Int → Int → Int → Int → Int → List Int → List Int → Option (ByteArray)
 | 0, _, _, _, _, _, _, _, _, _ => none
 | k + 1, x12, x260000, x260001, x260002, x260003, x260004, x260005, x260006, x260007 => if x12 = true then (some (⟨#[63]⟩ : ByteArray)) else ((script_words.f).bind fun t260 => (if 0 ≤ (wrap64 (x260000 - 1)) then (if (wrap64 (x260000 - 1)) < (t260.length : Int) then ((some (([rdOf ByteArray.empty t260 (wrap64 (x260000 - 1))] : List ByteArray) : List ByteArray)).bind fun y264 => (if x260000 = 1 then ((script_list.f k (([x260003, x260004, x260005] : List Int)) (⟨#[32]⟩ : ByteArray) (⟨#[]⟩ : ByteArray)).bind fun t271 => ((script_list.f k x260006 (⟨#[44]⟩ : ByteArray) (⟨#[45]⟩ : ByteArray)).bind fun t272 => ((script_digits.f k x260007).bind fun t273 => ((some (([t271, t272, t273] : List ByteArray) : List ByteArray)).bind fun y274 => (if y264.length + y274.length < 8796093022208 then ((strings_Join.f (y264 ++ y274) (⟨#[32]⟩ : ByteArray)).bind fun t280 => (some t280)) else (none)))))) else ((script_list.f k (([x260001, x260002] : List Int)) (⟨#[32]⟩ : ByteArray) (⟨#[]⟩ : ByteArray)).bind fun t284 => (if y264.length < 8796093022208 then ((strings_Join.f (y264 ++ [t284]) (⟨#[32]⟩ : ByteArray)).bind fun t288 => (some t288)) else (none))))) else (none)) else (none)))
def script_Print.f (k : Nat) (a0_0 : Int) (a0_1 : Int) (a0_2 : Int) (a0_3 : Int) (a0_4 : Int) (a0_5 : Int) (l0_6 : List Int) (l0_7 : List Int) : Option (ByteArray) := if a0_0 < 1 then (script_Print.j0 k true a0_0 a0_1 a0_2 a0_3 a0_4 a0_5 l0_6 l0_7) else (script_Print.j0 k (decide (a0_0 > 8)) a0_0 a0_1 a0_2 a0_3 a0_4 a0_5 l0_6 l0_7)
theorem script_Print.mono_l : ∀ k, (∀ y0 y1 y2 y3 y4 y5 y6 y7 y8, LeO (script_Print.j0 k y0 y1 y2 y3 y4 y5 y6 y7 y8) (script_Print.j0 (k + 1) y0 y1 y2 y3 y4 y5 y6 y7 y8))
 | 0 => fun _ _ _ _ _ _ _ _ _ r h => by simp [script_Print.j0] at h
 | k + 1 => by
  have ih0 := script_Print.mono_l k
  ·intro y0 y1 y2 y3 y4 y5 y6 y7 y8
   unfold script_Print.j0
   repeat' first
   | (with_reducible exact ih0 _ _ _ _ _ _ _ _ _)
   | (with_reducible exact script_digits.mono _ _)
   | (with_reducible exact script_list.mono _ _ _ _)
   | (with_reducible exact LeO.refl _)
   | (with_reducible exact LeO.none _)
   | (with_reducible refine LeO.ite ?_ ?_)
   | (with_reducible refine LeO.bind ?_ (fun _ => ?_))
   | exact ih0 _ _ _ _ _ _ _ _ _
   | exact script_digits.mono _ _
   | exact script_list.mono _ _ _ _
   | exact LeO.none _
   | refine LeO.ite ?_ ?_
   | refine LeO.bind ?_ (fun _ => ?_)
theorem script_Print.mono : ∀ a0 a1 a2 a3 a4 a5 a6 a7 k, LeO (script_Print.f k a0 a1 a2 a3 a4 a5 a6 a7) (script_Print.f (k + 1) a0 a1 a2 a3 a4 a5 a6 a7) := by
 intro a0 a1 a2 a3 a4 a5 a6 a7 k
 have ih0 := script_Print.mono_l k
 unfold script_Print.f
 repeat' first
   | (with_reducible exact ih0 _ _ _ _ _ _ _ _ _)
   | (with_reducible exact script_digits.mono _ _)
   | (with_reducible exact script_list.mono _ _ _ _)
   | (with_reducible exact LeO.refl _)
   | (with_reducible exact LeO.none _)
   | (with_reducible refine LeO.ite ?_ ?_)
   | (with_reducible refine LeO.bind ?_ (fun _ => ?_))
   | exact ih0 _ _ _ _ _ _ _ _ _
   | exact script_digits.mono _ _
   | exact script_list.mono _ _ _ _
   | exact LeO.none _
   | refine LeO.ite ?_ ?_
   | refine LeO.bind ?_ (fun _ => ?_)
def script_Print.T3 : Bool × List (List Nat × List Nat) := (true, [([], []), ([], []), ([1], [1]), ([2], [2]), ([0, 3], [0, 3]), ([4], [4]), ([5], [5]), ([6, 0, 0, 1, 2, 3, 4, 5, 6], [6])])
def script_Print.B3 : List Nat := [0, 0, 2, 6, 15, 31, 63, 127]
theorem script_Print.tab3 : rtab .any (opsOf Tryz.f35 3) = script_Print.T3 := by kernel_rfl
theorem script_Print.bits3 : waitsOk script_Print.T3.2 script_Print.B3 = true := by kernel_rfl
def script_Print.T6 : Bool × List (List Nat × List Nat) := (true, [([], []), ([], []), ([1], [1]), ([], []), ([3], [3]), ([], []), ([5], [5]), ([2, 4, 6], [2, 4, 6]), ([7], [7]), ([], []), ([9], [9]), ([10, 8], [10]), ([], []), ([12], [12]), ([13, 11], [13]), ([8, 11, 14], [8, 11, 14]), ([0, 15, 14], [0, 15]), ([16, 16, 0, 1, 2, 3, 4, 5, 6, 7, 8, 9, 10, 11, 12, 13, 14, 15, 16], [0, 16])])
def script_Print.B6 : List Nat := [0, 0, 2, 0, 8, 0, 32, 126, 254, 0, 512, 2046, 0, 4096, 16382, 32766, 65535, 131071]
theorem script_Print.tab6 : rtab .any (opsOf Tryz.f35 6) = script_Print.T6 := by kernel_rfl
theorem script_Print.bits6 : waitsOk script_Print.T6.2 script_Print.B6 = true := by kernel_rfl
set_option maxHeartbeats 8000000 in
set_option maxRecDepth 100000 in
theorem script_Print.calls (k : Nat) (a0_0 : Int) (a0_1 : Int) (a0_2 : Int) (a0_3 : Int) (a0_4 : Int) (a0_5 : Int) (A0_6 : Option Addr) (c0_6 : Nat) (l0_6 : List Int) (A0_7 : Option Addr) (c0_7 : Nat) (l0_7 : List Int) (r : ByteArray) (w : World) (hr0_6 : Kd.C (Kd.int .i64) w A0_6 l0_6.length l0_6) (hc0_6 : l0_6.length ≤ c0_6) (hr0_7 : Kd.C (Kd.int .u8) w A0_7 l0_7.length l0_7) (hc0_7 : l0_7.length ≤ c0_7) (hG : Glob w) (h : script_Print.f k a0_0 a0_1 a0_2 a0_3 a0_4 a0_5 l0_6 l0_7 = some r) :
  Calls Tryz.prog 35 #[.agg #[.int .i64 a0_0, .int .i64 a0_1, .int .i64 a0_2, .int .i64 a0_3, .int .i64 a0_4, .int .i64 a0_5, .slice A0_6 l0_6.length c0_6, .slice A0_7 l0_7.length c0_7]] w fun e w' => e = .returned (.string r) ∧ Below w.heap.size w w' := by
 have HG := Aside0.mk hG
 clear hG
 have hu38 := Tryz.underlying38
 have hu36 := Tryz.underlying36
 have HR0_6 := Aside0.mk hr0_6
 have HC0_6 := Aside0.mk hc0_6
 clear hr0_6 hc0_6
 have HR0_7 := Aside0.mk hr0_7
 have HC0_7 := Aside0.mk hc0_7
 clear hr0_7 hc0_7
 have HB := Aside0.mk (Below.refl w.heap.size w)
 have H : (if a0_0 < 1 then (script_Print.j0 k true a0_0 a0_1 a0_2 a0_3 a0_4 a0_5 l0_6 l0_7) else (script_Print.j0 k (decide (a0_0 > 8)) a0_0 a0_1 a0_2 a0_3 a0_4 a0_5 l0_6 l0_7)) = some r := h
 clear h
 have HC2 := Aside0.mk H
 clear H
 go_enter Tryz.func35, Tryz.ntmps35
 go_upto_region 1 with (first | ((with_reducible refine gate_dst (N := 1) rfl ?_); refine box_event ?hg (N := 1) ?hd (cs := #[.int .i64 a0_0, .int .i64 a0_1, .int .i64 a0_2, .int .i64 a0_3, .int .i64 a0_4, .int .i64 a0_5, .slice A0_6 l0_6.length c0_6, .slice A0_7 l0_7.length c0_7]) (t := 38) ?hr ?_; (case hd => rfl); (case hg => rfl); (case hr => first | (go_simp; done) | (go_simp; rfl)); intro gb259 hg w3 hbox hb; have n0_ := Aside0.mk (below_step (by repeat (first | (with_reducible first | exact HB.out | apply below_alloc | apply pw_below_drewN | apply below_drew1) | exact HB.out)) hb); have n1_ := Aside0.mk (hbox); have n2_ := Aside0.mk ((by rw [hg]; exact (below_size (by repeat (first | (with_reducible first | exact HB.out | apply below_alloc | apply pw_below_drewN | apply below_drew1) | exact HB.out))) : w.heap.size ≤ gb259)); have n3_ := Aside0.mk ((by rw [hg]; exact (below_size (by repeat (first | (with_reducible first | exact HB.out | apply below_alloc | apply pw_below_drewN | apply below_drew1) | exact HB.out))) : w.heap.size ≤ gb259)); clear HB; have HB := n0_; have BK259 := n1_; have GW259 := n2_; have GE259 := n3_; clear n0_ n1_ n2_ n3_; clear hb hbox hg))
 (try simp only [Act.put, List.setIfInBounds_toArray, List.set_cons_zero, List.set_cons_succ])
 go_cut [12] (fun v12 wc => ∃ (kq : Nat) (x12_1 : Bool), v12 = .bool x12_1 ∧ Aside0 (script_Print.j0 kq x12_1 a0_0 a0_1 a0_2 a0_3 a0_4 a0_5 l0_6 l0_7 = some r) ∧ Aside0 (kq ≤ k) ∧ Aside0 (wc.heap[gb259]? = some (.cells #[.int .i64 a0_0, .int .i64 a0_1, .int .i64 a0_2, .int .i64 a0_3, .int .i64 a0_4, .int .i64 a0_5, (.slice A0_6 l0_6.length c0_6), (.slice A0_7 l0_7.length c0_7)] 38 (0, 0))) ∧ Aside0 (Below w.heap.size w wc))
 case first =>
  have H := HC2.out
  clear HC2
  by_cases c4 : a0_0 < 1
  ·rw [if_pos c4] at H
   have c4b0 : decide (a0_0 < 1) = true := decide_eq_true c4
   clear c4
   (first | rw [c4b0] | (simp only [i64_w, i32_w]; rw [c4b0]) | skip)
   have H' := Aside0.mk H
   clear H
   have hcz5_0 : w3.cell? ⟨gb259, 0, none⟩ = some (.int .i64 a0_0) := (blk_cell BK259.out 0).trans rfl
   have hcz5_1 : w3.cell? ⟨gb259, 1, none⟩ = some (.int .i64 a0_1) := (blk_cell BK259.out 1).trans rfl
   have hcz5_2 : w3.cell? ⟨gb259, 2, none⟩ = some (.int .i64 a0_2) := (blk_cell BK259.out 2).trans rfl
   have hcz5_3 : w3.cell? ⟨gb259, 3, none⟩ = some (.int .i64 a0_3) := (blk_cell BK259.out 3).trans rfl
   have hcz5_4 : w3.cell? ⟨gb259, 4, none⟩ = some (.int .i64 a0_4) := (blk_cell BK259.out 4).trans rfl
   have hcz5_5 : w3.cell? ⟨gb259, 5, none⟩ = some (.int .i64 a0_5) := (blk_cell BK259.out 5).trans rfl
   have hcz5_6 : w3.cell? ⟨gb259, 6, none⟩ = some (.slice A0_6 l0_6.length c0_6) := (blk_cell BK259.out 6).trans rfl
   have hcz5_7 : w3.cell? ⟨gb259, 7, none⟩ = some (.slice A0_7 l0_7.length c0_7) := (blk_cell BK259.out 7).trans rfl
   have hfz5_0 := blk_frozen BK259.out 0
   have hfz5_1 := blk_frozen BK259.out 1
   have hfz5_2 := blk_frozen BK259.out 2
   have hfz5_3 := blk_frozen BK259.out 3
   have hfz5_4 := blk_frozen BK259.out 4
   have hfz5_5 := blk_frozen BK259.out 5
   have hfz5_6 := blk_frozen BK259.out 6
   have hfz5_7 := blk_frozen BK259.out 7
   go_wp2
   go_meet
   case rel => exact ⟨_, (true), (by first | rfl | (simp; done) | (simp [*]; done)), H', ⟨by first | omega | exact Nat.le_refl _⟩, ⟨by (with_reducible repeat (first | refine blk_drewN ?_ _ | refine blk_drew ?_ | refine blk_alloc ?_ _)); exact BK259.out⟩, ⟨by repeat (first | (with_reducible first | exact HB.out | apply below_alloc | apply pw_below_drewN | apply below_drew1 | refine below_set ?_ GE259.out) | exact HB.out)⟩⟩
  ·rw [if_neg c4] at H
   have c4b0 : decide (a0_0 < 1) = false := decide_eq_false c4
   clear c4
   (first | rw [c4b0] | (simp only [i64_w, i32_w]; rw [c4b0]) | skip)
   have H' := Aside0.mk H
   clear H
   have hcz6_0 : w3.cell? ⟨gb259, 0, none⟩ = some (.int .i64 a0_0) := (blk_cell BK259.out 0).trans rfl
   have hcz6_1 : w3.cell? ⟨gb259, 1, none⟩ = some (.int .i64 a0_1) := (blk_cell BK259.out 1).trans rfl
   have hcz6_2 : w3.cell? ⟨gb259, 2, none⟩ = some (.int .i64 a0_2) := (blk_cell BK259.out 2).trans rfl
   have hcz6_3 : w3.cell? ⟨gb259, 3, none⟩ = some (.int .i64 a0_3) := (blk_cell BK259.out 3).trans rfl
   have hcz6_4 : w3.cell? ⟨gb259, 4, none⟩ = some (.int .i64 a0_4) := (blk_cell BK259.out 4).trans rfl
   have hcz6_5 : w3.cell? ⟨gb259, 5, none⟩ = some (.int .i64 a0_5) := (blk_cell BK259.out 5).trans rfl
   have hcz6_6 : w3.cell? ⟨gb259, 6, none⟩ = some (.slice A0_6 l0_6.length c0_6) := (blk_cell BK259.out 6).trans rfl
   have hcz6_7 : w3.cell? ⟨gb259, 7, none⟩ = some (.slice A0_7 l0_7.length c0_7) := (blk_cell BK259.out 7).trans rfl
   have hfz6_0 := blk_frozen BK259.out 0
   have hfz6_1 := blk_frozen BK259.out 1
   have hfz6_2 := blk_frozen BK259.out 2
   have hfz6_3 := blk_frozen BK259.out 3
   have hfz6_4 := blk_frozen BK259.out 4
   have hfz6_5 := blk_frozen BK259.out 5
   have hfz6_6 := blk_frozen BK259.out 6
   have hfz6_7 := blk_frozen BK259.out 7
   go_wp2
   go_meet
   case rel => exact ⟨_, (decide (a0_0 > 8)), (by first | rfl | (simp; done) | (simp [*]; done)), H', ⟨by first | omega | exact Nat.le_refl _⟩, ⟨by (with_reducible repeat (first | refine blk_drewN ?_ _ | refine blk_drew ?_ | refine blk_alloc ?_ _)); exact BK259.out⟩, ⟨by repeat (first | (with_reducible first | exact HB.out | apply below_alloc | apply pw_below_drewN | apply below_drew1 | refine below_set ?_ GE259.out) | exact HB.out)⟩⟩
 case rest =>
  clear HC2
  try clear p2
  try clear c3
  try clear c4
  try clear c4b0
  try clear hcz5_0
  try clear hcz5_1
  try clear hcz5_2
  try clear hcz5_3
  try clear hcz5_4
  try clear hcz5_5
  try clear hcz5_6
  try clear hcz5_7
  try clear hcz6_0
  try clear hcz6_1
  try clear hcz6_2
  try clear hcz6_3
  try clear hcz6_4
  try clear hcz6_5
  try clear hcz6_6
  try clear hcz6_7
  try clear hfz5_0
  try clear hfz5_1
  try clear hfz5_2
  try clear hfz5_3
  try clear hfz5_4
  try clear hfz5_5
  try clear hfz5_6
  try clear hfz5_7
  try clear hfz6_0
  try clear hfz6_1
  try clear hfz6_2
  try clear hfz6_3
  try clear hfz6_4
  try clear hfz6_5
  try clear hfz6_6
  try clear hfz6_7
  obtain ⟨kq, x12_1, rfl, HA, HJ1, BK259, HB⟩ := hcut
  cases kq with
  | zero => exact absurd HA.out (by simp [script_Print.j0])
  | succ kj1 =>
   have H := HA.out
   clear HA
   simp only [script_Print.j0] at H
   by_cases c7 : x12_1 = true
   ·subst c7
    have H1 : (some (⟨#[63]⟩ : ByteArray)) = some r := by rw [if_pos rfl] at H; exact H
    clear H
    have H := H1
    clear H1
    obtain rfl := Option.some.inj H
    go_wp2
    go_ret
    exact ⟨by first | rfl | (simp [errW_none, errW_some] <;> rfl) | (simp [*, errW_none, errW_some] <;> rfl), by repeat (first | (with_reducible first | exact HB.out | apply below_alloc | apply pw_below_drewN | apply below_drew1 | refine below_set ?_ GE259.out) | exact HB.out)⟩
   ·replace c7 := Bool.eq_false_iff.mpr c7
    subst c7
    have H1 : ((script_words.f).bind fun t260 => (if 0 ≤ (wrap64 (a0_0 - 1)) then (if (wrap64 (a0_0 - 1)) < (t260.length : Int) then ((some (([rdOf ByteArray.empty t260 (wrap64 (a0_0 - 1))] : List ByteArray) : List ByteArray)).bind fun y264 => (if a0_0 = 1 then ((script_list.f kj1 (([a0_3, a0_4, a0_5] : List Int)) (⟨#[32]⟩ : ByteArray) (⟨#[]⟩ : ByteArray)).bind fun t271 => ((script_list.f kj1 l0_6 (⟨#[44]⟩ : ByteArray) (⟨#[45]⟩ : ByteArray)).bind fun t272 => ((script_digits.f kj1 l0_7).bind fun t273 => ((some (([t271, t272, t273] : List ByteArray) : List ByteArray)).bind fun y274 => (if y264.length + y274.length < 8796093022208 then ((strings_Join.f (y264 ++ y274) (⟨#[32]⟩ : ByteArray)).bind fun t280 => (some t280)) else (none)))))) else ((script_list.f kj1 (([a0_1, a0_2] : List Int)) (⟨#[32]⟩ : ByteArray) (⟨#[]⟩ : ByteArray)).bind fun t284 => (if y264.length < 8796093022208 then ((strings_Join.f (y264 ++ [t284]) (⟨#[32]⟩ : ByteArray)).bind fun t288 => (some t288)) else (none))))) else (none)) else (none))) = some r := by rw [if_neg (show ¬ (false = true) by decide)] at H; exact H
    clear H
    have H := H1
    clear H1
    replace H := Option.bind_eq_some_iff.mp H
    obtain ⟨t260, A80, H⟩ := H
    replace H : (if 0 ≤ (wrap64 (a0_0 - 1)) then (if (wrap64 (a0_0 - 1)) < (t260.length : Int) then ((some (([rdOf ByteArray.empty t260 (wrap64 (a0_0 - 1))] : List ByteArray) : List ByteArray)).bind fun y264 => (if a0_0 = 1 then ((script_list.f kj1 (([a0_3, a0_4, a0_5] : List Int)) (⟨#[32]⟩ : ByteArray) (⟨#[]⟩ : ByteArray)).bind fun t271 => ((script_list.f kj1 l0_6 (⟨#[44]⟩ : ByteArray) (⟨#[45]⟩ : ByteArray)).bind fun t272 => ((script_digits.f kj1 l0_7).bind fun t273 => ((some (([t271, t272, t273] : List ByteArray) : List ByteArray)).bind fun y274 => (if y264.length + y274.length < 8796093022208 then ((strings_Join.f (y264 ++ y274) (⟨#[32]⟩ : ByteArray)).bind fun t280 => (some t280)) else (none)))))) else ((script_list.f kj1 (([a0_1, a0_2] : List Int)) (⟨#[32]⟩ : ByteArray) (⟨#[]⟩ : ByteArray)).bind fun t284 => (if y264.length < 8796093022208 then ((strings_Join.f (y264 ++ [t284]) (⟨#[32]⟩ : ByteArray)).bind fun t288 => (some t288)) else (none))))) else (none)) else (none)) = some r := H
    have A8 := Aside0.mk A80
    clear A80
    obtain ⟨ji9, hji9⟩ : ∃ j_ : Int, (wrap64 (a0_0 - 1)) = j_ := ⟨_, rfl⟩
    replace H : (if 0 ≤ (ji9) then (if (ji9) < (t260.length : Int) then ((some (([rdOf ByteArray.empty t260 (ji9)] : List ByteArray) : List ByteArray)).bind fun y264 => (if a0_0 = 1 then ((script_list.f kj1 (([a0_3, a0_4, a0_5] : List Int)) (⟨#[32]⟩ : ByteArray) (⟨#[]⟩ : ByteArray)).bind fun t271 => ((script_list.f kj1 l0_6 (⟨#[44]⟩ : ByteArray) (⟨#[45]⟩ : ByteArray)).bind fun t272 => ((script_digits.f kj1 l0_7).bind fun t273 => ((some (([t271, t272, t273] : List ByteArray) : List ByteArray)).bind fun y274 => (if y264.length + y274.length < 8796093022208 then ((strings_Join.f (y264 ++ y274) (⟨#[32]⟩ : ByteArray)).bind fun t280 => (some t280)) else (none)))))) else ((script_list.f kj1 (([a0_1, a0_2] : List Int)) (⟨#[32]⟩ : ByteArray) (⟨#[]⟩ : ByteArray)).bind fun t284 => (if y264.length < 8796093022208 then ((strings_Join.f (y264 ++ [t284]) (⟨#[32]⟩ : ByteArray)).bind fun t288 => (some t288)) else (none))))) else (none)) else (none)) = some r := by first | (rw [hji9] at H; exact H) | (simp only [hji9] at H ⊢; exact H)
    (try rw [hji9] at A8)
    have hji9w : (IntKind.i64.wrap (a0_0 - 1)) = ji9 := (i64_w _).trans hji9
    by_cases c10 : 0 ≤ (ji9)
    ·rw [if_pos c10] at H
     have c10b0 : decide (0 ≤ (ji9)) = true := decide_eq_true c10
     clear c10
     by_cases c11 : (ji9) < (t260.length : Int)
     ·rw [if_pos c11] at H
      have c11b0 : decide ((ji9) < (t260.length : Int)) = true := decide_eq_true c11
      clear c11
      obtain ⟨y264, hy264⟩ : ∃ y_ : List ByteArray, y_ = (([rdOf ByteArray.empty t260 (ji9)] : List ByteArray)) := ⟨_, rfl⟩
      replace H : (if a0_0 = 1 then ((script_list.f kj1 (([a0_3, a0_4, a0_5] : List Int)) (⟨#[32]⟩ : ByteArray) (⟨#[]⟩ : ByteArray)).bind fun t271 => ((script_list.f kj1 l0_6 (⟨#[44]⟩ : ByteArray) (⟨#[45]⟩ : ByteArray)).bind fun t272 => ((script_digits.f kj1 l0_7).bind fun t273 => ((some (([t271, t272, t273] : List ByteArray) : List ByteArray)).bind fun y274 => (if y264.length + y274.length < 8796093022208 then ((strings_Join.f (y264 ++ y274) (⟨#[32]⟩ : ByteArray)).bind fun t280 => (some t280)) else (none)))))) else ((script_list.f kj1 (([a0_1, a0_2] : List Int)) (⟨#[32]⟩ : ByteArray) (⟨#[]⟩ : ByteArray)).bind fun t284 => (if y264.length < 8796093022208 then ((strings_Join.f (y264 ++ [t284]) (⟨#[32]⟩ : ByteArray)).bind fun t288 => (some t288)) else (none)))) = some r := by first | (rw [hy264]; with_reducible exact H) | (have H2_ := (Option.bind_some _ _).symm.trans H; rw [hy264]; with_reducible exact H2_) | (have H2_ := (Option.bind_some _ _).symm.trans H; with_reducible exact H2_) | with_reducible exact H | (rw [hy264]; exact H) | exact H
      have Ny264 := Aside0.mk hy264
      clear hy264
      by_cases c12 : a0_0 = 1
      ·rw [if_pos c12] at H
       have c12b0 : (a0_0 == 1) = true := beq_iff_eq.mpr c12
       have c12b1 : (a0_0 != 1) = false := bne_eq_false_iff_eq.mpr c12
       clear c12
       obtain ⟨y268, hy268⟩ : ∃ y_ : List Int, y_ = (([a0_3, a0_4, a0_5] : List Int)) := ⟨_, rfl⟩
       replace H : ((script_list.f kj1 y268 (⟨#[32]⟩ : ByteArray) (⟨#[]⟩ : ByteArray)).bind fun t271 => ((script_list.f kj1 l0_6 (⟨#[44]⟩ : ByteArray) (⟨#[45]⟩ : ByteArray)).bind fun t272 => ((script_digits.f kj1 l0_7).bind fun t273 => ((some (([t271, t272, t273] : List ByteArray) : List ByteArray)).bind fun y274 => (if y264.length + y274.length < 8796093022208 then ((strings_Join.f (y264 ++ y274) (⟨#[32]⟩ : ByteArray)).bind fun t280 => (some t280)) else (none)))))) = some r := by first | (rw [hy268]; with_reducible exact H) | (have H2_ := (Option.bind_some _ _).symm.trans H; rw [hy268]; with_reducible exact H2_) | (have H2_ := (Option.bind_some _ _).symm.trans H; with_reducible exact H2_) | with_reducible exact H | (rw [hy268]; exact H) | exact H
       have Ny268 := Aside0.mk hy268
       clear hy268
       replace H := Option.bind_eq_some_iff.mp H
       obtain ⟨t271, A130, H⟩ := H
       replace H : ((script_list.f kj1 l0_6 (⟨#[44]⟩ : ByteArray) (⟨#[45]⟩ : ByteArray)).bind fun t272 => ((script_digits.f kj1 l0_7).bind fun t273 => ((some (([t271, t272, t273] : List ByteArray) : List ByteArray)).bind fun y274 => (if y264.length + y274.length < 8796093022208 then ((strings_Join.f (y264 ++ y274) (⟨#[32]⟩ : ByteArray)).bind fun t280 => (some t280)) else (none))))) = some r := H
       have A13 := Aside0.mk A130
       clear A130
       replace H := Option.bind_eq_some_iff.mp H
       obtain ⟨t272, A140, H⟩ := H
       replace H : ((script_digits.f kj1 l0_7).bind fun t273 => ((some (([t271, t272, t273] : List ByteArray) : List ByteArray)).bind fun y274 => (if y264.length + y274.length < 8796093022208 then ((strings_Join.f (y264 ++ y274) (⟨#[32]⟩ : ByteArray)).bind fun t280 => (some t280)) else (none)))) = some r := H
       have A14 := Aside0.mk A140
       clear A140
       replace H := Option.bind_eq_some_iff.mp H
       obtain ⟨t273, A150, H⟩ := H
       replace H : ((some (([t271, t272, t273] : List ByteArray) : List ByteArray)).bind fun y274 => (if y264.length + y274.length < 8796093022208 then ((strings_Join.f (y264 ++ y274) (⟨#[32]⟩ : ByteArray)).bind fun t280 => (some t280)) else (none))) = some r := H
       have A15 := Aside0.mk A150
       clear A150
       obtain ⟨y274, hy274⟩ : ∃ y_ : List ByteArray, y_ = (([t271, t272, t273] : List ByteArray)) := ⟨_, rfl⟩
       replace H : (if y264.length + y274.length < 8796093022208 then ((strings_Join.f (y264 ++ y274) (⟨#[32]⟩ : ByteArray)).bind fun t280 => (some t280)) else (none)) = some r := by first | (rw [hy274]; with_reducible exact H) | (have H2_ := (Option.bind_some _ _).symm.trans H; rw [hy274]; with_reducible exact H2_) | (have H2_ := (Option.bind_some _ _).symm.trans H; with_reducible exact H2_) | with_reducible exact H | (rw [hy274]; exact H) | exact H
       have Ny274 := Aside0.mk hy274
       clear hy274
       by_cases c16 : y264.length + y274.length < 8796093022208
       ·rw [if_pos c16] at H
        have LMc16 := Aside0.mk c16
        clear c16
        obtain ⟨y277, hy277⟩ : ∃ y_ : List ByteArray, y_ = (y264 ++ y274) := ⟨_, rfl⟩
        replace H : ((strings_Join.f y277 (⟨#[32]⟩ : ByteArray)).bind fun t280 => (some t280)) = some r := by first | (rw [hy277]; with_reducible exact H) | (have H2_ := (Option.bind_some _ _).symm.trans H; rw [hy277]; with_reducible exact H2_) | (have H2_ := (Option.bind_some _ _).symm.trans H; with_reducible exact H2_) | with_reducible exact H | (rw [hy277]; exact H) | exact H
        have Ny277 := Aside0.mk hy277
        clear hy277
        replace H := Option.bind_eq_some_iff.mp H
        obtain ⟨t280, A170, H⟩ := H
        replace H : (some t280) = some r := H
        have A17 := Aside0.mk A170
        clear A170
        obtain rfl := Option.some.inj H
        try go_wp2
        have n0_ := Aside0.mk (blk_drew BK259.out)
        have n1_ := Aside0.mk (below_drew1 HB.out)
        clear BK259
        clear HB
        have BK259 := n0_
        have HB := n1_
        clear n0_ n1_
        refine start_ (n := 8) (S := fun w' => w'.cell? ⟨gb259, 0, none⟩ = some (.int .i64 a0_0) ∧ w'.cell? ⟨gb259, 1, none⟩ = some (.int .i64 a0_1) ∧ w'.cell? ⟨gb259, 2, none⟩ = some (.int .i64 a0_2) ∧ w'.cell? ⟨gb259, 3, none⟩ = some (.int .i64 a0_3) ∧ w'.cell? ⟨gb259, 4, none⟩ = some (.int .i64 a0_4) ∧ w'.cell? ⟨gb259, 5, none⟩ = some (.int .i64 a0_5) ∧ w'.cell? ⟨gb259, 6, none⟩ = some (.slice A0_6 l0_6.length c0_6) ∧ w'.cell? ⟨gb259, 7, none⟩ = some (.slice A0_7 l0_7.length c0_7)) (ds := []) #[false, false, false, false, false, false, false, false] (by kernel_rfl) rfl rfl ⟨(blk_cell BK259.out 0).trans rfl, (blk_cell BK259.out 1).trans rfl, (blk_cell BK259.out 2).trans rfl, (blk_cell BK259.out 3).trans rfl, (blk_cell BK259.out 4).trans rfl, (blk_cell BK259.out 5).trans rfl, (blk_cell BK259.out 6).trans rfl, (blk_cell BK259.out 7).trans rfl⟩ (fun hHeld => ?_); refine with_tabW script_Print.tab3 script_Print.bits3 (fun HT_ HW_ => ?_)
        generalize wc.drew = w18 at BK259 HB hHeld ⊢
        refine pure_ (i := 1) (N := some 14) (v := ?_) (a' := ?_) #[false, true, false, false, false, false, false, false] rfl rfl (any_of HT_.out (by kernel_rfl)) (fun _ _ _ h => h) (Or.inl ⟨by rfl, ?_⟩) ?_ ?_
        rotate_left
        ·intro w'
         go_simp
         with_reducible rfl
        rotate_left
        ·simp only [Act.put, List.setIfInBounds_toArray, List.set_cons_zero, List.set_cons_succ, i64_w, i32_w]
         rfl
        refine take_ (i := 2) (N := some 15) (v := ?_) (a' := ?_) #[false, true, true, false, false, false, false, false] rfl rfl (take_ofW HT_.out HW_.out (by kernel_rfl)) (fun _ _ _ h => h) (Or.inl ⟨by rfl, ?_⟩) hHeld ?_ ?_
        rotate_left
        ·rintro w' ⟨s0, s1, s2, s3, s4, s5, s6, s7⟩
         go_simp
         with_reducible rfl
        rotate_left
        ·simp only [Act.put, List.setIfInBounds_toArray, List.set_cons_zero, List.set_cons_succ, i64_w, i32_w]
         rfl
        refine pure_ (i := 3) (N := some 16) (v := ?_) (a' := ?_) #[false, true, true, true, false, false, false, false] rfl rfl (any_of HT_.out (by kernel_rfl)) (fun _ _ _ h => h) (Or.inl ⟨by rfl, ?_⟩) ?_ ?_
        rotate_left
        ·intro w'
         go_simp
         with_reducible rfl
        rotate_left
        ·simp only [Act.put, List.setIfInBounds_toArray, List.set_cons_zero, List.set_cons_succ, i64_w, i32_w]
         rfl
        refine one_ (i := 0) (N := some 13) #[true, true, true, true, false, false, false, false] rfl rfl (one_of HT_.out (by kernel_rfl)) (by decide) (fun K hK => ?_)
        refine goes_ Tryz.func33 (by kernel_rfl) rfl #[] (by rfl) rfl rfl (by (try simp only [List.map_toArray, List.map_cons, List.map_nil]); first | done | rfl | (simp only [List.length_drop, List.length_take]; rfl)) ?_
        with_reducible refine (script_words.calls  t260 _ A8.out).mono ?_
        rintro e w19 ⟨v261, rfl, ho0, hb⟩
        refine ⟨_, rfl, ?_⟩
        have n0_ := Aside0.mk (Kd.R_lower ho0 (below_size (by repeat (first | (with_reducible first | exact HB.out | apply below_alloc | apply pw_below_drewN | apply below_drew1 | refine below_set ?_ GE259.out) | exact HB.out))))
        have n1_ := Aside0.mk (blk_below (g := gb259) (o := .cells #[.int .i64 a0_0, .int .i64 a0_1, .int .i64 a0_2, .int .i64 a0_3, .int .i64 a0_4, .int .i64 a0_5, .slice A0_6 l0_6.length c0_6, .slice A0_7 l0_7.length c0_7] 38 (0, 0)) (by (with_reducible repeat (first | refine blk_drewN ?_ _ | refine blk_drew ?_ | refine blk_alloc ?_ _)); exact BK259.out) hb)
        have n2_ := Aside0.mk (below_step (by repeat (first | (with_reducible first | exact HB.out | apply below_alloc | apply pw_below_drewN | apply below_drew1 | refine below_set ?_ GE259.out) | exact HB.out)) hb)
        clear BK259
        clear HB
        have HO262 := n0_
        have BK259 := n1_
        have HB := n2_
        clear n0_ n1_ n2_
        (try clear hb)
        (try clear hb2)
        (try clear hk)
        (try clear hi)
        (try clear ho0)
        obtain ⟨Ao20, co20, eo20⟩ := Kd.R_slice HO262.out
        (first | subst eo20 | (injection eo20 with f1_ f2_ f3_; have f4_ := f1_.symm; have f5_ := f3_.symm; clear f1_ f2_ f3_; subst f4_; subst f5_))
        have p263 : 0 ≤ ((ji9) : Int) := of_decide_eq_true (by first | (with_reducible assumption) | assumption)
        have q263 : (ji9) < (t260.length : Int) := of_decide_eq_true (by first | (with_reducible assumption) | assumption)
        obtain ⟨ad263, e263, hx263_0⟩ := Kd.at_string (Kd.R_reads' HO262.out).2.2 (ji9) p263 q263
        cases e263
        replace p263 := eq_true p263
        replace q263 := eq_true q263
        refine hK.out _ _ ⟨(blk_cell BK259.out 0).trans rfl, (blk_cell BK259.out 1).trans rfl, (blk_cell BK259.out 2).trans rfl, (blk_cell BK259.out 3).trans rfl, (blk_cell BK259.out 4).trans rfl, (blk_cell BK259.out 5).trans rfl, (blk_cell BK259.out 6).trans rfl, (blk_cell BK259.out 7).trans rfl⟩ (fun hHeld => ?_)
        clear hK K
        refine norm_ (a' := ?_) ?_ ?_
        rotate_left
        ·show Act.put _ (some 13) _ = _
         simp only [Act.put, List.setIfInBounds_toArray, List.set_cons_zero, List.set_cons_succ, i64_w, i32_w]
         rfl
        refine pure_ (i := 4) (N := some 17) (v := ?_) (a' := ?_) #[true, true, true, true, true, false, false, false] rfl rfl (any_of HT_.out (by kernel_rfl)) (fun _ _ _ h => h) (Or.inl ⟨by rfl, ?_⟩) ?_ ?_
        rotate_left
        ·intro w'
         go_simp
         with_reducible rfl
        rotate_left
        ·simp only [Act.put, List.setIfInBounds_toArray, List.set_cons_zero, List.set_cons_succ, i64_w, i32_w]
         rfl
        refine one_ (i := 5) (N := some 18) #[true, true, true, true, true, true, false, false] rfl rfl (one_of HT_.out (by kernel_rfl)) (by decide) (fun K hK => ?_)
        refine run_ ?_ rfl rfl ?hr_ ?_
        case hr_ =>
         go_simp
         with_reducible rfl
        refine hK.out _ _ ⟨(blk_cell BK259.out 0).trans rfl, (blk_cell BK259.out 1).trans rfl, (blk_cell BK259.out 2).trans rfl, (blk_cell BK259.out 3).trans rfl, (blk_cell BK259.out 4).trans rfl, (blk_cell BK259.out 5).trans rfl, (blk_cell BK259.out 6).trans rfl, (blk_cell BK259.out 7).trans rfl⟩ (fun hHeld => ?_)
        clear hK K
        refine norm_ (a' := ?_) ?_ ?_
        rotate_left
        ·show Act.put _ (some 18) _ = _
         simp only [Act.put, List.setIfInBounds_toArray, List.set_cons_zero, List.set_cons_succ, i64_w, i32_w]
         rfl
        refine one_ (i := 6) (N := some 19) #[true, true, true, true, true, true, true, false] rfl rfl (one_of HT_.out (by kernel_rfl)) (by decide) (fun K hK => ?_)
        refine Kd.R_lit_step Kd.string _ 9 ?hg (N := 19) ?hd (xs := ([rdOf ByteArray.empty t260 (ji9)] : List ByteArray)) (inner := [.string (rdOf ByteArray.empty t260 (ji9))]) (ok := fun _ => True) (okp := fun _ => True) ?hr ?hp (fun _ hk => hk) trivial (Below.refl _ _) (Nat.le_refl _) (by simp) ?_; (case hd => rfl); (case hg => rfl); (case hr => first | (go_simp; done) | (go_simp; rfl)); (case hp => exact (Reps.one (show Kd.M Kd.string _ _ _ (rdOf ByteArray.empty t260 (ji9)) [.string (rdOf ByteArray.empty t260 (ji9))] from rfl) (Reps.none _ _)))
        intro v265 w21 ho22 hb hg_ hnew_
        clear hg_ hnew_
        (first | rw [← Ny264.out] at ho22 | (simp only [Int.reduceToNat] at ho22; rw [← Ny264.out] at ho22))
        have n0_ := Aside0.mk (Kd.R_elder' (by (with_reducible repeat (first | apply Kd.R_alloc | apply Kd.R_drewN | apply Kd.R_drew)); exact HO262.out) (Kd.R_base ho22) hb)
        have n1_ := Aside0.mk (Kd.R_lower (Kd.R_new' ho22 (Kd.R_lt (by (with_reducible repeat (first | apply Kd.R_alloc | apply Kd.R_drewN | apply Kd.R_drew)); exact HO262.out))) (below_size (by repeat (first | (with_reducible first | exact HB.out | apply below_alloc | apply pw_below_drewN | apply below_drew1 | refine below_set ?_ GE259.out) | exact HB.out))))
        have n2_ := Aside0.mk (blk_below (g := gb259) (o := .cells #[.int .i64 a0_0, .int .i64 a0_1, .int .i64 a0_2, .int .i64 a0_3, .int .i64 a0_4, .int .i64 a0_5, .slice A0_6 l0_6.length c0_6, .slice A0_7 l0_7.length c0_7] 38 (0, 0)) (by (with_reducible repeat (first | refine blk_drewN ?_ _ | refine blk_drew ?_ | refine blk_alloc ?_ _)); exact BK259.out) hb)
        have n3_ := Aside0.mk (below_step (by repeat (first | (with_reducible first | exact HB.out | apply below_alloc | apply pw_below_drewN | apply below_drew1 | refine below_set ?_ GE259.out) | exact HB.out)) hb)
        clear HO262
        clear BK259
        clear HB
        have HO262 := n0_
        have HO266 := n1_
        have BK259 := n2_
        have HB := n3_
        clear n0_ n1_ n2_ n3_
        clear hb ho22
        refine hK.out _ _ ⟨(blk_cell BK259.out 0).trans rfl, (blk_cell BK259.out 1).trans rfl, (blk_cell BK259.out 2).trans rfl, (blk_cell BK259.out 3).trans rfl, (blk_cell BK259.out 4).trans rfl, (blk_cell BK259.out 5).trans rfl, (blk_cell BK259.out 6).trans rfl, (blk_cell BK259.out 7).trans rfl⟩ (fun hHeld => ?_)
        clear hK K
        refine norm_ (a' := ?_) ?_ ?_
        rotate_left
        ·show Act.put _ (some 19) _ = _
         simp only [Act.put, List.setIfInBounds_toArray, List.set_cons_zero, List.set_cons_succ, i64_w, i32_w]
         rfl
        refine pure_ (i := 7) (N := some 3) (v := ?_) (a' := ?_) #[true, true, true, true, true, true, true, true] rfl rfl (any_of HT_.out (by kernel_rfl)) (fun _ _ _ h => h) (Or.inl ⟨by rfl, ?_⟩) ?_ ?_
        rotate_left
        ·intro w'
         go_simp
         with_reducible rfl
        rotate_left
        ·simp only [Act.put, List.setIfInBounds_toArray, List.set_cons_zero, List.set_cons_succ, i64_w, i32_w]
         rfl
        refine done_ (done_of HT_.out (by kernel_rfl)) ?_
        have hcz23_0 : w21.cell? ⟨gb259, 0, none⟩ = some (.int .i64 a0_0) := (blk_cell BK259.out 0).trans rfl
        have hcz23_1 : w21.cell? ⟨gb259, 1, none⟩ = some (.int .i64 a0_1) := (blk_cell BK259.out 1).trans rfl
        have hcz23_2 : w21.cell? ⟨gb259, 2, none⟩ = some (.int .i64 a0_2) := (blk_cell BK259.out 2).trans rfl
        have hcz23_3 : w21.cell? ⟨gb259, 3, none⟩ = some (.int .i64 a0_3) := (blk_cell BK259.out 3).trans rfl
        have hcz23_4 : w21.cell? ⟨gb259, 4, none⟩ = some (.int .i64 a0_4) := (blk_cell BK259.out 4).trans rfl
        have hcz23_5 : w21.cell? ⟨gb259, 5, none⟩ = some (.int .i64 a0_5) := (blk_cell BK259.out 5).trans rfl
        have hcz23_6 : w21.cell? ⟨gb259, 6, none⟩ = some (.slice A0_6 l0_6.length c0_6) := (blk_cell BK259.out 6).trans rfl
        have hcz23_7 : w21.cell? ⟨gb259, 7, none⟩ = some (.slice A0_7 l0_7.length c0_7) := (blk_cell BK259.out 7).trans rfl
        have hfz23_0 := blk_frozen BK259.out 0
        have hfz23_1 := blk_frozen BK259.out 1
        have hfz23_2 := blk_frozen BK259.out 2
        have hfz23_3 := blk_frozen BK259.out 3
        have hfz23_4 := blk_frozen BK259.out 4
        have hfz23_5 := blk_frozen BK259.out 5
        have hfz23_6 := blk_frozen BK259.out 6
        have hfz23_7 := blk_frozen BK259.out 7
        try go_wp2_with (first | ((with_reducible refine gate_dst (N := 4) rfl ?_); refine box_event ?hg (N := 4) ?hd (cs := #[.int .i64 0, .int .i64 0, .int .i64 0, .slice none 0 0, .slice none 0 0]) (t := 36) ?hr ?_; (case hd => rfl); (case hg => rfl); (case hr => first | (go_simp; done) | (go_simp; rfl)); intro gb267 hg w24 hbox hb; have n0_ := Aside0.mk (Kd.R_below (by (with_reducible repeat (first | apply Kd.R_alloc | apply Kd.R_drewN | apply Kd.R_drew)); exact HO262.out) hb); have n1_ := Aside0.mk (Kd.R_below (by (with_reducible repeat (first | apply Kd.R_alloc | apply Kd.R_drewN | apply Kd.R_drew)); exact HO266.out) hb); have n2_ := Aside0.mk (blk_below (g := gb259) (o := .cells #[.int .i64 a0_0, .int .i64 a0_1, .int .i64 a0_2, .int .i64 a0_3, .int .i64 a0_4, .int .i64 a0_5, .slice A0_6 l0_6.length c0_6, .slice A0_7 l0_7.length c0_7] 38 (0, 0)) (by (with_reducible repeat (first | refine blk_drewN ?_ _ | refine blk_drew ?_ | refine blk_alloc ?_ _)); exact BK259.out) hb); have n3_ := Aside0.mk (below_step (by repeat (first | (with_reducible first | exact HB.out | apply below_alloc | apply pw_below_drewN | apply below_drew1 | refine below_set ?_ GE259.out) | exact HB.out)) hb); have n4_ := Aside0.mk (hbox); have n5_ := Aside0.mk ((by rw [hg]; exact (below_size (by repeat (first | (with_reducible first | exact HB.out | apply below_alloc | apply pw_below_drewN | apply below_drew1 | refine below_set ?_ GE259.out) | exact HB.out))) : w.heap.size ≤ gb267)); have n6_ := Aside0.mk ((by rw [hg]; exact (below_size (by repeat (first | (with_reducible first | exact HB.out | apply below_alloc | apply pw_below_drewN | apply below_drew1 | refine below_set ?_ GE259.out) | exact HB.out))) : w.heap.size ≤ gb267)); have n7_ := Aside0.mk ((by rw [hg]; exact Nat.ne_of_lt (blk_lt (g := gb259) (o := .cells #[.int .i64 a0_0, .int .i64 a0_1, .int .i64 a0_2, .int .i64 a0_3, .int .i64 a0_4, .int .i64 a0_5, .slice A0_6 l0_6.length c0_6, .slice A0_7 l0_7.length c0_7] 38 (0, 0)) (by (with_reducible repeat (first | refine blk_drewN ?_ _ | refine blk_drew ?_ | refine blk_alloc ?_ _)); exact BK259.out)) : gb259 ≠ gb267)); have n8_ := Aside0.mk ((by rw [hg]; exact Nat.ne_of_gt (blk_lt (g := gb259) (o := .cells #[.int .i64 a0_0, .int .i64 a0_1, .int .i64 a0_2, .int .i64 a0_3, .int .i64 a0_4, .int .i64 a0_5, .slice A0_6 l0_6.length c0_6, .slice A0_7 l0_7.length c0_7] 38 (0, 0)) (by (with_reducible repeat (first | refine blk_drewN ?_ _ | refine blk_drew ?_ | refine blk_alloc ?_ _)); exact BK259.out)) : gb267 ≠ gb259)); clear HO262; clear HO266; clear BK259; clear HB; have HO262 := n0_; have HO266 := n1_; have BK259 := n2_; have HB := n3_; have BK267 := n4_; have GW267 := n5_; have GE267 := n6_; have NB259_267 := n7_; have NB267_259 := n8_; clear n0_ n1_ n2_ n3_ n4_ n5_ n6_ n7_ n8_; clear hb hbox hg; have hnb25 := NB267_259.out; have hnc25 := NB259_267.out; have hcz26_0 : w24.cell? ⟨gb267, 0, none⟩ = some (.int .i64 0) := (blk_cell BK267.out 0).trans rfl; have hcz26_1 : w24.cell? ⟨gb267, 1, none⟩ = some (.int .i64 0) := (blk_cell BK267.out 1).trans rfl; have hcz26_2 : w24.cell? ⟨gb267, 2, none⟩ = some (.int .i64 0) := (blk_cell BK267.out 2).trans rfl; have hcz26_3 : w24.cell? ⟨gb267, 3, none⟩ = some (.slice none 0 0) := (blk_cell BK267.out 3).trans rfl; have hcz26_4 : w24.cell? ⟨gb267, 4, none⟩ = some (.slice none 0 0) := (blk_cell BK267.out 4).trans rfl; have hfz26_0 := blk_frozen BK267.out 0; have hfz26_1 := blk_frozen BK267.out 1; have hfz26_2 := blk_frozen BK267.out 2; have hfz26_3 := blk_frozen BK267.out 3; have hfz26_4 := blk_frozen BK267.out 4))
        have n0_ : Aside0 (Kd.R Kd.string 9 (((((w24.setCell ⟨gb267, 0, none⟩ (.int .i64 a0_3)).setCell ⟨gb267, 1, none⟩ (.int .i64 a0_4)).setCell ⟨gb267, 2, none⟩ (.int .i64 a0_5)).setCell ⟨gb267, 3, none⟩ (.slice A0_6 l0_6.length c0_6)).setCell ⟨gb267, 4, none⟩ (.slice A0_7 l0_7.length c0_7)) w.heap.size (fun k_ => some k_ ≠ (v265 : Value).ownBlock) (.slice (some ad263) t260.length co20) t260) := ⟨by (with_reducible repeat (first | apply Kd.R_alloc | apply Kd.R_drewN | apply Kd.R_drew)); exact Kd.R_mono (Kd.R_far (p := ⟨gb267, 4, none⟩) (Kd.R_far (p := ⟨gb267, 3, none⟩) (Kd.R_far (p := ⟨gb267, 2, none⟩) (Kd.R_far (p := ⟨gb267, 1, none⟩) (Kd.R_far (p := ⟨gb267, 0, none⟩) (Kd.R_types HO262.out BK267.out (by decide)) (fun _ hk => hk.2) (.int .i64 a0_3)) (fun _ hk => hk.2) (.int .i64 a0_4)) (fun _ hk => hk.2) (.int .i64 a0_5)) (fun _ hk => hk.2) (.slice A0_6 l0_6.length c0_6)) (fun _ hk => hk.2) (.slice A0_7 l0_7.length c0_7)) (fun _ hk => hk.1.2)⟩
        have n1_ : Aside0 (Kd.R Kd.string 9 (((((w24.setCell ⟨gb267, 0, none⟩ (.int .i64 a0_3)).setCell ⟨gb267, 1, none⟩ (.int .i64 a0_4)).setCell ⟨gb267, 2, none⟩ (.int .i64 a0_5)).setCell ⟨gb267, 3, none⟩ (.slice A0_6 l0_6.length c0_6)).setCell ⟨gb267, 4, none⟩ (.slice A0_7 l0_7.length c0_7)) w.heap.size (fun k_ => some k_ ≠ (.slice (some ad263) t260.length co20 : Value).ownBlock) v265 y264) := ⟨by (with_reducible repeat (first | apply Kd.R_alloc | apply Kd.R_drewN | apply Kd.R_drew)); exact Kd.R_mono (Kd.R_far (p := ⟨gb267, 4, none⟩) (Kd.R_far (p := ⟨gb267, 3, none⟩) (Kd.R_far (p := ⟨gb267, 2, none⟩) (Kd.R_far (p := ⟨gb267, 1, none⟩) (Kd.R_far (p := ⟨gb267, 0, none⟩) (Kd.R_types HO266.out BK267.out (by decide)) (fun _ hk => hk.2) (.int .i64 a0_3)) (fun _ hk => hk.2) (.int .i64 a0_4)) (fun _ hk => hk.2) (.int .i64 a0_5)) (fun _ hk => hk.2) (.slice A0_6 l0_6.length c0_6)) (fun _ hk => hk.2) (.slice A0_7 l0_7.length c0_7)) (fun _ hk => hk.1.2)⟩
        have n2_ : Aside0 ((((((w24.setCell ⟨gb267, 0, none⟩ (.int .i64 a0_3)).setCell ⟨gb267, 1, none⟩ (.int .i64 a0_4)).setCell ⟨gb267, 2, none⟩ (.int .i64 a0_5)).setCell ⟨gb267, 3, none⟩ (.slice A0_6 l0_6.length c0_6)).setCell ⟨gb267, 4, none⟩ (.slice A0_7 l0_7.length c0_7)).heap[gb259]? = some (.cells #[.int .i64 a0_0, .int .i64 a0_1, .int .i64 a0_2, .int .i64 a0_3, .int .i64 a0_4, .int .i64 a0_5, .slice A0_6 l0_6.length c0_6, .slice A0_7 l0_7.length c0_7] 38 (0, 0))) := ⟨by (with_reducible repeat (first | refine blk_drewN ?_ _ | refine blk_drew ?_ | refine blk_alloc ?_ _)); refine blk_far ?_ NB259_267.out _; (with_reducible repeat (first | refine blk_drewN ?_ _ | refine blk_drew ?_ | refine blk_alloc ?_ _)); refine blk_far ?_ NB259_267.out _; (with_reducible repeat (first | refine blk_drewN ?_ _ | refine blk_drew ?_ | refine blk_alloc ?_ _)); refine blk_far ?_ NB259_267.out _; (with_reducible repeat (first | refine blk_drewN ?_ _ | refine blk_drew ?_ | refine blk_alloc ?_ _)); refine blk_far ?_ NB259_267.out _; (with_reducible repeat (first | refine blk_drewN ?_ _ | refine blk_drew ?_ | refine blk_alloc ?_ _)); refine blk_far ?_ NB259_267.out _; (with_reducible repeat (first | refine blk_drewN ?_ _ | refine blk_drew ?_ | refine blk_alloc ?_ _)); exact BK259.out⟩
        have n3_ : Aside0 ((((((w24.setCell ⟨gb267, 0, none⟩ (.int .i64 a0_3)).setCell ⟨gb267, 1, none⟩ (.int .i64 a0_4)).setCell ⟨gb267, 2, none⟩ (.int .i64 a0_5)).setCell ⟨gb267, 3, none⟩ (.slice A0_6 l0_6.length c0_6)).setCell ⟨gb267, 4, none⟩ (.slice A0_7 l0_7.length c0_7)).heap[gb267]? = some (.cells #[.int .i64 a0_3, .int .i64 a0_4, .int .i64 a0_5, .slice A0_6 l0_6.length c0_6, .slice A0_7 l0_7.length c0_7] 36 (0, 0))) := ⟨by (with_reducible repeat (first | refine blk_drewN ?_ _ | refine blk_drew ?_ | refine blk_alloc ?_ _)); refine blk_put (cs := #[.int .i64 a0_3, .int .i64 a0_4, .int .i64 a0_5, .slice A0_6 l0_6.length c0_6, .slice none 0 0]) ?_ 4 _ rfl; (with_reducible repeat (first | refine blk_drewN ?_ _ | refine blk_drew ?_ | refine blk_alloc ?_ _)); refine blk_put (cs := #[.int .i64 a0_3, .int .i64 a0_4, .int .i64 a0_5, .slice none 0 0, .slice none 0 0]) ?_ 3 _ rfl; (with_reducible repeat (first | refine blk_drewN ?_ _ | refine blk_drew ?_ | refine blk_alloc ?_ _)); refine blk_put (cs := #[.int .i64 a0_3, .int .i64 a0_4, .int .i64 0, .slice none 0 0, .slice none 0 0]) ?_ 2 _ rfl; (with_reducible repeat (first | refine blk_drewN ?_ _ | refine blk_drew ?_ | refine blk_alloc ?_ _)); refine blk_put (cs := #[.int .i64 a0_3, .int .i64 0, .int .i64 0, .slice none 0 0, .slice none 0 0]) ?_ 1 _ rfl; (with_reducible repeat (first | refine blk_drewN ?_ _ | refine blk_drew ?_ | refine blk_alloc ?_ _)); refine blk_put (cs := #[.int .i64 0, .int .i64 0, .int .i64 0, .slice none 0 0, .slice none 0 0]) ?_ 0 _ rfl; (with_reducible repeat (first | refine blk_drewN ?_ _ | refine blk_drew ?_ | refine blk_alloc ?_ _)); exact BK267.out⟩
        have n4_ : Aside0 (Below w.heap.size w (((((w24.setCell ⟨gb267, 0, none⟩ (.int .i64 a0_3)).setCell ⟨gb267, 1, none⟩ (.int .i64 a0_4)).setCell ⟨gb267, 2, none⟩ (.int .i64 a0_5)).setCell ⟨gb267, 3, none⟩ (.slice A0_6 l0_6.length c0_6)).setCell ⟨gb267, 4, none⟩ (.slice A0_7 l0_7.length c0_7))) := ⟨by repeat (first | (with_reducible first | exact HB.out | apply below_alloc | apply pw_below_drewN | apply below_drew1 | refine below_set ?_ GE259.out | refine below_set ?_ GE267.out) | exact HB.out)⟩
        (try clear HO262)
        (try clear HO266)
        (try clear BK259)
        (try clear BK267)
        (try clear HB)
        generalize (((((w24.setCell ⟨gb267, 0, none⟩ (.int .i64 a0_3)).setCell ⟨gb267, 1, none⟩ (.int .i64 a0_4)).setCell ⟨gb267, 2, none⟩ (.int .i64 a0_5)).setCell ⟨gb267, 3, none⟩ (.slice A0_6 l0_6.length c0_6)).setCell ⟨gb267, 4, none⟩ (.slice A0_7 l0_7.length c0_7)) = w27 at n0_ n1_ n2_ n3_ n4_ ⊢
        have HO262 := n0_
        have HO266 := n1_
        have BK259 := n2_
        have BK267 := n3_
        have HB := n4_
        clear n0_ n1_ n2_ n3_ n4_
        have n0_ := Aside0.mk (Kd.R_drew HO262.out)
        have n1_ := Aside0.mk (Kd.R_drew HO266.out)
        have n2_ := Aside0.mk (blk_drew BK259.out)
        have n3_ := Aside0.mk (blk_drew BK267.out)
        have n4_ := Aside0.mk (below_drew1 HB.out)
        clear HO262
        clear HO266
        clear BK259
        clear BK267
        clear HB
        have HO262 := n0_
        have HO266 := n1_
        have BK259 := n2_
        have BK267 := n3_
        have HB := n4_
        clear n0_ n1_ n2_ n3_ n4_
        refine start_ (n := 18) (S := fun w' => w'.cell? ⟨gb267, 0, none⟩ = some (.int .i64 a0_3) ∧ w'.cell? ⟨gb267, 1, none⟩ = some (.int .i64 a0_4) ∧ w'.cell? ⟨gb267, 2, none⟩ = some (.int .i64 a0_5) ∧ w'.cell? ⟨gb267, 3, none⟩ = some (.slice A0_6 l0_6.length c0_6) ∧ w'.cell? ⟨gb267, 4, none⟩ = some (.slice A0_7 l0_7.length c0_7)) (ds := []) #[false, false, false, false, false, false, false, false, false, false, false, false, false, false, false, false, false, false] (by kernel_rfl) rfl rfl ⟨(blk_cell BK267.out 0).trans rfl, (blk_cell BK267.out 1).trans rfl, (blk_cell BK267.out 2).trans rfl, (blk_cell BK267.out 3).trans rfl, (blk_cell BK267.out 4).trans rfl⟩ (fun hHeld => ?_); refine with_tabW script_Print.tab6 script_Print.bits6 (fun HT_ HW_ => ?_)
        generalize w27.drew = w28 at HO262 HO266 BK259 BK267 HB hHeld ⊢
        refine pure_ (i := 0) (N := some 25) (v := ?_) (a' := ?_) #[true, false, false, false, false, false, false, false, false, false, false, false, false, false, false, false, false, false] rfl rfl (any_of HT_.out (by kernel_rfl)) (fun _ _ _ h => h) (Or.inl ⟨by rfl, ?_⟩) ?_ ?_
        rotate_left
        ·intro w'
         go_simp
         with_reducible rfl
        rotate_left
        ·simp only [Act.put, List.setIfInBounds_toArray, List.set_cons_zero, List.set_cons_succ, i64_w, i32_w]
         rfl
        refine pure_ (i := 1) (N := some 26) (v := ?_) (a' := ?_) #[true, true, false, false, false, false, false, false, false, false, false, false, false, false, false, false, false, false] rfl rfl (any_of HT_.out (by kernel_rfl)) (fun _ _ _ h => h) (Or.inl ⟨by rfl, ?_⟩) ?_ ?_
        rotate_left
        ·intro w'
         go_simp
         with_reducible rfl
        rotate_left
        ·simp only [Act.put, List.setIfInBounds_toArray, List.set_cons_zero, List.set_cons_succ, i64_w, i32_w]
         rfl
        refine pure_ (i := 3) (N := some 28) (v := ?_) (a' := ?_) #[true, true, false, true, false, false, false, false, false, false, false, false, false, false, false, false, false, false] rfl rfl (any_of HT_.out (by kernel_rfl)) (fun _ _ _ h => h) (Or.inl ⟨by rfl, ?_⟩) ?_ ?_
        rotate_left
        ·intro w'
         go_simp
         with_reducible rfl
        rotate_left
        ·simp only [Act.put, List.setIfInBounds_toArray, List.set_cons_zero, List.set_cons_succ, i64_w, i32_w]
         rfl
        refine pure_ (i := 5) (N := some 30) (v := ?_) (a' := ?_) #[true, true, false, true, false, true, false, false, false, false, false, false, false, false, false, false, false, false] rfl rfl (any_of HT_.out (by kernel_rfl)) (fun _ _ _ h => h) (Or.inl ⟨by rfl, ?_⟩) ?_ ?_
        rotate_left
        ·intro w'
         go_simp
         with_reducible rfl
        rotate_left
        ·simp only [Act.put, List.setIfInBounds_toArray, List.set_cons_zero, List.set_cons_succ, i64_w, i32_w]
         rfl
        refine pure_ (i := 9) (N := some 34) (v := ?_) (a' := ?_) #[true, true, false, true, false, true, false, false, false, true, false, false, false, false, false, false, false, false] rfl rfl (any_of HT_.out (by kernel_rfl)) (fun _ _ _ h => h) (Or.inl ⟨by rfl, ?_⟩) ?_ ?_
        rotate_left
        ·intro w'
         go_simp
         with_reducible rfl
        rotate_left
        ·simp only [Act.put, List.setIfInBounds_toArray, List.set_cons_zero, List.set_cons_succ, i64_w, i32_w]
         rfl
        refine pure_ (i := 12) (N := some 37) (v := ?_) (a' := ?_) #[true, true, false, true, false, true, false, false, false, true, false, false, true, false, false, false, false, false] rfl rfl (any_of HT_.out (by kernel_rfl)) (fun _ _ _ h => h) (Or.inl ⟨by rfl, ?_⟩) ?_ ?_
        rotate_left
        ·intro w'
         go_simp
         with_reducible rfl
        rotate_left
        ·simp only [Act.put, List.setIfInBounds_toArray, List.set_cons_zero, List.set_cons_succ, i64_w, i32_w]
         rfl
        refine take_ (i := 2) (N := some 27) (v := ?_) (a' := ?_) #[true, true, true, true, false, true, false, false, false, true, false, false, true, false, false, false, false, false] rfl rfl (take_ofW HT_.out HW_.out (by kernel_rfl)) (fun _ _ _ h => h) (Or.inl ⟨by rfl, ?_⟩) hHeld ?_ ?_
        rotate_left
        ·rintro w' ⟨s0, s1, s2, s3, s4⟩
         go_simp
         with_reducible rfl
        rotate_left
        ·simp only [Act.put, List.setIfInBounds_toArray, List.set_cons_zero, List.set_cons_succ, i64_w, i32_w]
         rfl
        refine take_ (i := 4) (N := some 29) (v := ?_) (a' := ?_) #[true, true, true, true, true, true, false, false, false, true, false, false, true, false, false, false, false, false] rfl rfl (take_ofW HT_.out HW_.out (by kernel_rfl)) (fun _ _ _ h => h) (Or.inl ⟨by rfl, ?_⟩) hHeld ?_ ?_
        rotate_left
        ·rintro w' ⟨s0, s1, s2, s3, s4⟩
         go_simp
         with_reducible rfl
        rotate_left
        ·simp only [Act.put, List.setIfInBounds_toArray, List.set_cons_zero, List.set_cons_succ, i64_w, i32_w]
         rfl
        refine take_ (i := 6) (N := some 31) (v := ?_) (a' := ?_) #[true, true, true, true, true, true, true, false, false, true, false, false, true, false, false, false, false, false] rfl rfl (take_ofW HT_.out HW_.out (by kernel_rfl)) (fun _ _ _ h => h) (Or.inl ⟨by rfl, ?_⟩) hHeld ?_ ?_
        rotate_left
        ·rintro w' ⟨s0, s1, s2, s3, s4⟩
         go_simp
         with_reducible rfl
        rotate_left
        ·simp only [Act.put, List.setIfInBounds_toArray, List.set_cons_zero, List.set_cons_succ, i64_w, i32_w]
         rfl
        refine take_ (i := 10) (N := some 35) (v := ?_) (a' := ?_) #[true, true, true, true, true, true, true, false, false, true, true, false, true, false, false, false, false, false] rfl rfl (take_ofW HT_.out HW_.out (by kernel_rfl)) (fun _ _ _ h => h) (Or.inl ⟨by rfl, ?_⟩) hHeld ?_ ?_
        rotate_left
        ·rintro w' ⟨s0, s1, s2, s3, s4⟩
         go_simp
         with_reducible rfl
        rotate_left
        ·simp only [Act.put, List.setIfInBounds_toArray, List.set_cons_zero, List.set_cons_succ, i64_w, i32_w]
         rfl
        refine take_ (i := 13) (N := some 38) (v := ?_) (a' := ?_) #[true, true, true, true, true, true, true, false, false, true, true, false, true, true, false, false, false, false] rfl rfl (take_ofW HT_.out HW_.out (by kernel_rfl)) (fun _ _ _ h => h) (Or.inl ⟨by rfl, ?_⟩) hHeld ?_ ?_
        rotate_left
        ·rintro w' ⟨s0, s1, s2, s3, s4⟩
         go_simp
         with_reducible rfl
        rotate_left
        ·simp only [Act.put, List.setIfInBounds_toArray, List.set_cons_zero, List.set_cons_succ, i64_w, i32_w]
         rfl
        refine one_ (i := 7) (N := some 32) #[true, true, true, true, true, true, true, true, false, true, true, false, true, true, false, false, false, false] rfl rfl (one_of HT_.out (by kernel_rfl)) (by decide) (fun K hK => ?_)
        refine Kd.R_lit_step (Kd.int .i64) _ 3 ?hg (N := 32) ?hd (xs := ([a0_3, a0_4, a0_5] : List Int)) (inner := [.int .i64 a0_3, .int .i64 a0_4, .int .i64 a0_5]) (ok := fun _ => True) (okp := fun _ => True) ?hr ?hp (fun _ hk => hk) trivial (Below.refl _ _) (Nat.le_refl _) (by simp) ?_; (case hd => rfl); (case hg => rfl); (case hr => first | (go_simp; done) | (go_simp; rfl)); (case hp => exact (Reps.one (show Kd.M (Kd.int .i64) _ _ _ a0_3 [.int .i64 a0_3] from rfl) (Reps.one (show Kd.M (Kd.int .i64) _ _ _ a0_4 [.int .i64 a0_4] from rfl) (Reps.one (show Kd.M (Kd.int .i64) _ _ _ a0_5 [.int .i64 a0_5] from rfl) (Reps.none _ _)))))
        intro v269 w29 ho30 hb hg_ hnew_
        clear hg_ hnew_
        (first | rw [← Ny268.out] at ho30 | (simp only [Int.reduceToNat] at ho30; rw [← Ny268.out] at ho30))
        have n0_ := Aside0.mk (Kd.R_below (by (with_reducible repeat (first | apply Kd.R_alloc | apply Kd.R_drewN | apply Kd.R_drew)); exact HO262.out) hb)
        have n1_ := Aside0.mk (Kd.R_below (by (with_reducible repeat (first | apply Kd.R_alloc | apply Kd.R_drewN | apply Kd.R_drew)); exact HO266.out) hb)
        have n2_ := Aside0.mk (Kd.R_lower ho30 (below_size (by repeat (first | (with_reducible first | exact HB.out | apply below_alloc | apply pw_below_drewN | apply below_drew1 | refine below_set ?_ GE259.out | refine below_set ?_ GE267.out) | exact HB.out))))
        have n3_ := Aside0.mk (blk_below (g := gb259) (o := .cells #[.int .i64 a0_0, .int .i64 a0_1, .int .i64 a0_2, .int .i64 a0_3, .int .i64 a0_4, .int .i64 a0_5, .slice A0_6 l0_6.length c0_6, .slice A0_7 l0_7.length c0_7] 38 (0, 0)) (by (with_reducible repeat (first | refine blk_drewN ?_ _ | refine blk_drew ?_ | refine blk_alloc ?_ _)); exact BK259.out) hb)
        have n4_ := Aside0.mk (blk_below (g := gb267) (o := .cells #[.int .i64 a0_3, .int .i64 a0_4, .int .i64 a0_5, .slice A0_6 l0_6.length c0_6, .slice A0_7 l0_7.length c0_7] 36 (0, 0)) (by (with_reducible repeat (first | refine blk_drewN ?_ _ | refine blk_drew ?_ | refine blk_alloc ?_ _)); exact BK267.out) hb)
        have n5_ := Aside0.mk (below_step (by repeat (first | (with_reducible first | exact HB.out | apply below_alloc | apply pw_below_drewN | apply below_drew1 | refine below_set ?_ GE259.out | refine below_set ?_ GE267.out) | exact HB.out)) hb)
        clear HO262
        clear HO266
        clear BK259
        clear BK267
        clear HB
        have HO262 := n0_
        have HO266 := n1_
        have HO270 := n2_
        have BK259 := n3_
        have BK267 := n4_
        have HB := n5_
        clear n0_ n1_ n2_ n3_ n4_ n5_
        clear hb ho30
        obtain ⟨Ao31, co31, eo31⟩ := Kd.R_slice HO270.out
        (first | subst eo31 | (injection eo31 with f1_ f2_ f3_; have f4_ := f1_.symm; have f5_ := f3_.symm; clear f1_ f2_ f3_; subst f4_; subst f5_))
        refine hK.out _ _ ⟨(blk_cell BK267.out 0).trans rfl, (blk_cell BK267.out 1).trans rfl, (blk_cell BK267.out 2).trans rfl, (blk_cell BK267.out 3).trans rfl, (blk_cell BK267.out 4).trans rfl⟩ (fun hHeld => ?_)
        clear hK K
        refine norm_ (a' := ?_) ?_ ?_
        rotate_left
        ·show Act.put _ (some 32) _ = _
         simp only [Act.put, List.setIfInBounds_toArray, List.set_cons_zero, List.set_cons_succ, i64_w, i32_w]
         rfl
        refine one_ (i := 8) (N := some 33) #[true, true, true, true, true, true, true, true, true, true, true, false, true, true, false, false, false, false] rfl rfl (one_of HT_.out (by kernel_rfl)) (by decide) (fun K hK => ?_)
        refine goes_ Tryz.func58 (by kernel_rfl) rfl #[.slice Ao31 y268.length co31, .string (⟨#[32]⟩ : ByteArray), .string (⟨#[]⟩ : ByteArray)] (by rfl) rfl rfl (by (try simp only [List.map_toArray, List.map_cons, List.map_nil]); first | done | rfl | (simp only [List.length_drop, List.length_take]; rfl)) ?_
        with_reducible refine (script_list.calls kj1 _ _ y268 (⟨#[32]⟩ : ByteArray) (⟨#[]⟩ : ByteArray) t271 _ ?side1 ?side2 (Glob.below HG.out (by repeat (first | (with_reducible first | exact HB.out | apply below_alloc | apply pw_below_drewN | apply below_drew1 | refine below_set ?_ GE259.out | refine below_set ?_ GE267.out) | exact HB.out))) A13.out).mono ?_
        (case side1 => repeat (first | exact (Kd.R_reads' HO270.out).2.2 | (with_reducible refine Kd.C_alloc ?_ _) | (with_reducible refine Kd.C_drewN ?_ _) | (with_reducible refine Kd.C_drew ?_)))
        (case side2 => exact (Kd.R_reads' HO270.out).2.1)
        rintro e w32 ⟨rfl, hb⟩
        refine ⟨_, rfl, ?_⟩
        have n0_ := Aside0.mk (Kd.R_below (by (with_reducible repeat (first | apply Kd.R_alloc | apply Kd.R_drewN | apply Kd.R_drew)); exact HO262.out) hb)
        have n1_ := Aside0.mk (Kd.R_below (by (with_reducible repeat (first | apply Kd.R_alloc | apply Kd.R_drewN | apply Kd.R_drew)); exact HO266.out) hb)
        have n2_ := Aside0.mk (Kd.R_below (by (with_reducible repeat (first | apply Kd.R_alloc | apply Kd.R_drewN | apply Kd.R_drew)); exact HO270.out) hb)
        have n3_ := Aside0.mk (blk_below (g := gb259) (o := .cells #[.int .i64 a0_0, .int .i64 a0_1, .int .i64 a0_2, .int .i64 a0_3, .int .i64 a0_4, .int .i64 a0_5, .slice A0_6 l0_6.length c0_6, .slice A0_7 l0_7.length c0_7] 38 (0, 0)) (by (with_reducible repeat (first | refine blk_drewN ?_ _ | refine blk_drew ?_ | refine blk_alloc ?_ _)); exact BK259.out) hb)
        have n4_ := Aside0.mk (blk_below (g := gb267) (o := .cells #[.int .i64 a0_3, .int .i64 a0_4, .int .i64 a0_5, .slice A0_6 l0_6.length c0_6, .slice A0_7 l0_7.length c0_7] 36 (0, 0)) (by (with_reducible repeat (first | refine blk_drewN ?_ _ | refine blk_drew ?_ | refine blk_alloc ?_ _)); exact BK267.out) hb)
        have n5_ := Aside0.mk (below_step (by repeat (first | (with_reducible first | exact HB.out | apply below_alloc | apply pw_below_drewN | apply below_drew1 | refine below_set ?_ GE259.out | refine below_set ?_ GE267.out) | exact HB.out)) hb)
        clear HO262
        clear HO266
        clear HO270
        clear BK259
        clear BK267
        clear HB
        have HO262 := n0_
        have HO266 := n1_
        have HO270 := n2_
        have BK259 := n3_
        have BK267 := n4_
        have HB := n5_
        clear n0_ n1_ n2_ n3_ n4_ n5_
        (try clear hb)
        (try clear hb2)
        (try clear hk)
        (try clear hi)
        refine hK.out _ _ ⟨(blk_cell BK267.out 0).trans rfl, (blk_cell BK267.out 1).trans rfl, (blk_cell BK267.out 2).trans rfl, (blk_cell BK267.out 3).trans rfl, (blk_cell BK267.out 4).trans rfl⟩ (fun hHeld => ?_)
        clear hK K
        refine norm_ (a' := ?_) ?_ ?_
        rotate_left
        ·show Act.put _ (some 33) _ = _
         simp only [Act.put, List.setIfInBounds_toArray, List.set_cons_zero, List.set_cons_succ, i64_w, i32_w]
         rfl
        refine one_ (i := 11) (N := some 36) #[true, true, true, true, true, true, true, true, true, true, true, true, true, true, false, false, false, false] rfl rfl (one_of HT_.out (by kernel_rfl)) (by decide) (fun K hK => ?_)
        refine goes_ Tryz.func58 (by kernel_rfl) rfl #[.slice A0_6 l0_6.length c0_6, .string (⟨#[44]⟩ : ByteArray), .string (⟨#[45]⟩ : ByteArray)] (by rfl) rfl rfl (by (try simp only [List.map_toArray, List.map_cons, List.map_nil]); first | done | rfl | (simp only [List.length_drop, List.length_take]; rfl)) ?_
        with_reducible refine (script_list.calls kj1 _ _ l0_6 (⟨#[44]⟩ : ByteArray) (⟨#[45]⟩ : ByteArray) t272 _ ?side1 ?side2 (Glob.below HG.out (by repeat (first | (with_reducible first | exact HB.out | apply below_alloc | apply pw_below_drewN | apply below_drew1 | refine below_set ?_ GE259.out | refine below_set ?_ GE267.out) | exact HB.out))) A14.out).mono ?_
        (case side1 => repeat (first | exact (Kd.C_below HR0_6.out HB.out) | (with_reducible refine Kd.C_alloc ?_ _) | (with_reducible refine Kd.C_drewN ?_ _) | (with_reducible refine Kd.C_drew ?_)))
        (case side2 => exact HC0_6.out)
        rintro e w33 ⟨rfl, hb⟩
        refine ⟨_, rfl, ?_⟩
        have n0_ := Aside0.mk (Kd.R_below (by (with_reducible repeat (first | apply Kd.R_alloc | apply Kd.R_drewN | apply Kd.R_drew)); exact HO262.out) hb)
        have n1_ := Aside0.mk (Kd.R_below (by (with_reducible repeat (first | apply Kd.R_alloc | apply Kd.R_drewN | apply Kd.R_drew)); exact HO266.out) hb)
        have n2_ := Aside0.mk (Kd.R_below (by (with_reducible repeat (first | apply Kd.R_alloc | apply Kd.R_drewN | apply Kd.R_drew)); exact HO270.out) hb)
        have n3_ := Aside0.mk (blk_below (g := gb259) (o := .cells #[.int .i64 a0_0, .int .i64 a0_1, .int .i64 a0_2, .int .i64 a0_3, .int .i64 a0_4, .int .i64 a0_5, .slice A0_6 l0_6.length c0_6, .slice A0_7 l0_7.length c0_7] 38 (0, 0)) (by (with_reducible repeat (first | refine blk_drewN ?_ _ | refine blk_drew ?_ | refine blk_alloc ?_ _)); exact BK259.out) hb)
        have n4_ := Aside0.mk (blk_below (g := gb267) (o := .cells #[.int .i64 a0_3, .int .i64 a0_4, .int .i64 a0_5, .slice A0_6 l0_6.length c0_6, .slice A0_7 l0_7.length c0_7] 36 (0, 0)) (by (with_reducible repeat (first | refine blk_drewN ?_ _ | refine blk_drew ?_ | refine blk_alloc ?_ _)); exact BK267.out) hb)
        have n5_ := Aside0.mk (below_step (by repeat (first | (with_reducible first | exact HB.out | apply below_alloc | apply pw_below_drewN | apply below_drew1 | refine below_set ?_ GE259.out | refine below_set ?_ GE267.out) | exact HB.out)) hb)
        clear HO262
        clear HO266
        clear HO270
        clear BK259
        clear BK267
        clear HB
        have HO262 := n0_
        have HO266 := n1_
        have HO270 := n2_
        have BK259 := n3_
        have BK267 := n4_
        have HB := n5_
        clear n0_ n1_ n2_ n3_ n4_ n5_
        (try clear hb)
        (try clear hb2)
        (try clear hk)
        (try clear hi)
        refine hK.out _ _ ⟨(blk_cell BK267.out 0).trans rfl, (blk_cell BK267.out 1).trans rfl, (blk_cell BK267.out 2).trans rfl, (blk_cell BK267.out 3).trans rfl, (blk_cell BK267.out 4).trans rfl⟩ (fun hHeld => ?_)
        clear hK K
        refine norm_ (a' := ?_) ?_ ?_
        rotate_left
        ·show Act.put _ (some 36) _ = _
         simp only [Act.put, List.setIfInBounds_toArray, List.set_cons_zero, List.set_cons_succ, i64_w, i32_w]
         rfl
        refine one_ (i := 14) (N := some 39) #[true, true, true, true, true, true, true, true, true, true, true, true, true, true, true, false, false, false] rfl rfl (one_of HT_.out (by kernel_rfl)) (by decide) (fun K hK => ?_)
        refine goes_ Tryz.func59 (by kernel_rfl) rfl #[.slice A0_7 l0_7.length c0_7] (by rfl) rfl rfl (by (try simp only [List.map_toArray, List.map_cons, List.map_nil]); first | done | rfl | (simp only [List.length_drop, List.length_take]; rfl)) ?_
        with_reducible refine (script_digits.calls kj1 _ _ l0_7 t273 _ ?side1 ?side2 A15.out).mono ?_
        (case side1 => repeat (first | exact (Kd.C_below HR0_7.out HB.out) | (with_reducible refine Kd.C_alloc ?_ _) | (with_reducible refine Kd.C_drewN ?_ _) | (with_reducible refine Kd.C_drew ?_)))
        (case side2 => exact HC0_7.out)
        rintro e w34 ⟨rfl, hb⟩
        refine ⟨_, rfl, ?_⟩
        have n0_ := Aside0.mk (Kd.R_below (by (with_reducible repeat (first | apply Kd.R_alloc | apply Kd.R_drewN | apply Kd.R_drew)); exact HO262.out) hb)
        have n1_ := Aside0.mk (Kd.R_below (by (with_reducible repeat (first | apply Kd.R_alloc | apply Kd.R_drewN | apply Kd.R_drew)); exact HO266.out) hb)
        have n2_ := Aside0.mk (Kd.R_below (by (with_reducible repeat (first | apply Kd.R_alloc | apply Kd.R_drewN | apply Kd.R_drew)); exact HO270.out) hb)
        have n3_ := Aside0.mk (blk_below (g := gb259) (o := .cells #[.int .i64 a0_0, .int .i64 a0_1, .int .i64 a0_2, .int .i64 a0_3, .int .i64 a0_4, .int .i64 a0_5, .slice A0_6 l0_6.length c0_6, .slice A0_7 l0_7.length c0_7] 38 (0, 0)) (by (with_reducible repeat (first | refine blk_drewN ?_ _ | refine blk_drew ?_ | refine blk_alloc ?_ _)); exact BK259.out) hb)
        have n4_ := Aside0.mk (blk_below (g := gb267) (o := .cells #[.int .i64 a0_3, .int .i64 a0_4, .int .i64 a0_5, .slice A0_6 l0_6.length c0_6, .slice A0_7 l0_7.length c0_7] 36 (0, 0)) (by (with_reducible repeat (first | refine blk_drewN ?_ _ | refine blk_drew ?_ | refine blk_alloc ?_ _)); exact BK267.out) hb)
        have n5_ := Aside0.mk (below_step (by repeat (first | (with_reducible first | exact HB.out | apply below_alloc | apply pw_below_drewN | apply below_drew1 | refine below_set ?_ GE259.out | refine below_set ?_ GE267.out) | exact HB.out)) hb)
        clear HO262
        clear HO266
        clear HO270
        clear BK259
        clear BK267
        clear HB
        have HO262 := n0_
        have HO266 := n1_
        have HO270 := n2_
        have BK259 := n3_
        have BK267 := n4_
        have HB := n5_
        clear n0_ n1_ n2_ n3_ n4_ n5_
        (try clear hb)
        (try clear hb2)
        (try clear hk)
        (try clear hi)
        refine hK.out _ _ ⟨(blk_cell BK267.out 0).trans rfl, (blk_cell BK267.out 1).trans rfl, (blk_cell BK267.out 2).trans rfl, (blk_cell BK267.out 3).trans rfl, (blk_cell BK267.out 4).trans rfl⟩ (fun hHeld => ?_)
        clear hK K
        refine norm_ (a' := ?_) ?_ ?_
        rotate_left
        ·show Act.put _ (some 39) _ = _
         simp only [Act.put, List.setIfInBounds_toArray, List.set_cons_zero, List.set_cons_succ, i64_w, i32_w]
         rfl
        refine one_ (i := 15) (N := some 40) #[true, true, true, true, true, true, true, true, true, true, true, true, true, true, true, true, false, false] rfl rfl (one_of HT_.out (by kernel_rfl)) (by decide) (fun K hK => ?_)
        refine Kd.R_lit_step Kd.string _ 9 ?hg (N := 40) ?hd (xs := ([t271, t272, t273] : List ByteArray)) (inner := [.string t271, .string t272, .string t273]) (ok := fun _ => True) (okp := fun _ => True) ?hr ?hp (fun _ hk => hk) trivial (Below.refl _ _) (Nat.le_refl _) (by simp) ?_; (case hd => rfl); (case hg => rfl); (case hr => first | (go_simp; done) | (go_simp; rfl)); (case hp => exact (Reps.one (show Kd.M Kd.string _ _ _ t271 [.string t271] from rfl) (Reps.one (show Kd.M Kd.string _ _ _ t272 [.string t272] from rfl) (Reps.one (show Kd.M Kd.string _ _ _ t273 [.string t273] from rfl) (Reps.none _ _)))))
        intro v275 w35 ho36 hb hg_ hnew_
        clear hg_ hnew_
        (first | rw [← Ny274.out] at ho36 | (simp only [Int.reduceToNat] at ho36; rw [← Ny274.out] at ho36))
        have n0_ := Aside0.mk (Kd.R_elder' (by (with_reducible repeat (first | apply Kd.R_alloc | apply Kd.R_drewN | apply Kd.R_drew)); exact HO262.out) (Kd.R_base ho36) hb)
        have n1_ := Aside0.mk (Kd.R_elder' (by (with_reducible repeat (first | apply Kd.R_alloc | apply Kd.R_drewN | apply Kd.R_drew)); exact HO266.out) (Kd.R_base ho36) hb)
        have n2_ := Aside0.mk (Kd.R_below (by (with_reducible repeat (first | apply Kd.R_alloc | apply Kd.R_drewN | apply Kd.R_drew)); exact HO270.out) hb)
        have n3_ := Aside0.mk (Kd.R_lower (Kd.R_new' (Kd.R_new' ho36 (Kd.R_lt (by (with_reducible repeat (first | apply Kd.R_alloc | apply Kd.R_drewN | apply Kd.R_drew)); exact HO262.out))) (Kd.R_lt (by (with_reducible repeat (first | apply Kd.R_alloc | apply Kd.R_drewN | apply Kd.R_drew)); exact HO266.out))) (below_size (by repeat (first | (with_reducible first | exact HB.out | apply below_alloc | apply pw_below_drewN | apply below_drew1 | refine below_set ?_ GE259.out | refine below_set ?_ GE267.out) | exact HB.out))))
        have n4_ := Aside0.mk (blk_below (g := gb259) (o := .cells #[.int .i64 a0_0, .int .i64 a0_1, .int .i64 a0_2, .int .i64 a0_3, .int .i64 a0_4, .int .i64 a0_5, .slice A0_6 l0_6.length c0_6, .slice A0_7 l0_7.length c0_7] 38 (0, 0)) (by (with_reducible repeat (first | refine blk_drewN ?_ _ | refine blk_drew ?_ | refine blk_alloc ?_ _)); exact BK259.out) hb)
        have n5_ := Aside0.mk (blk_below (g := gb267) (o := .cells #[.int .i64 a0_3, .int .i64 a0_4, .int .i64 a0_5, .slice A0_6 l0_6.length c0_6, .slice A0_7 l0_7.length c0_7] 36 (0, 0)) (by (with_reducible repeat (first | refine blk_drewN ?_ _ | refine blk_drew ?_ | refine blk_alloc ?_ _)); exact BK267.out) hb)
        have n6_ := Aside0.mk (below_step (by repeat (first | (with_reducible first | exact HB.out | apply below_alloc | apply pw_below_drewN | apply below_drew1 | refine below_set ?_ GE259.out | refine below_set ?_ GE267.out) | exact HB.out)) hb)
        clear HO262
        clear HO266
        clear HO270
        clear BK259
        clear BK267
        clear HB
        have HO262 := n0_
        have HO266 := n1_
        have HO270 := n2_
        have HO276 := n3_
        have BK259 := n4_
        have BK267 := n5_
        have HB := n6_
        clear n0_ n1_ n2_ n3_ n4_ n5_ n6_
        clear hb ho36
        obtain ⟨Ao38, co38, eo38⟩ := Kd.R_slice HO276.out
        (first | subst eo38 | (injection eo38 with f1_ f2_ f3_; have f4_ := f1_.symm; have f5_ := f3_.symm; clear f1_ f2_ f3_; subst f4_; subst f5_))
        refine hK.out _ _ ⟨(blk_cell BK267.out 0).trans rfl, (blk_cell BK267.out 1).trans rfl, (blk_cell BK267.out 2).trans rfl, (blk_cell BK267.out 3).trans rfl, (blk_cell BK267.out 4).trans rfl⟩ (fun hHeld => ?_)
        clear hK K
        refine norm_ (a' := ?_) ?_ ?_
        rotate_left
        ·show Act.put _ (some 40) _ = _
         simp only [Act.put, List.setIfInBounds_toArray, List.set_cons_zero, List.set_cons_succ, i64_w, i32_w]
         rfl
        refine one_ (i := 16) (N := some 41) #[true, true, true, true, true, true, true, true, true, true, true, true, true, true, true, true, true, false] rfl rfl (one_of HT_.out (by kernel_rfl)) (by decide) (fun K hK => ?_)
        refine Kd.R_append_rows_step Kd.string (w0 := w) w.heap.size (by rfl) (.tmp 25) (.tmp 40) 85 9 (.string ⟨#[]⟩) 16 rfl Tryz.underlying85 info9 rfl (by decide) (by omega) v265 y264 y274 _ _ _ (fun k_ => some k_ ≠ (.slice (some ad263) t260.length co20 : Value).ownBlock ∧ some k_ ≠ (.slice Ao38 y274.length co38 : Value).ownBlock) (fun _ => False) rfl rfl ?aO ?aR (fun _ _ h => h) (fun _ h => h.elim) ?aF ?aB ?aS ?aL ?_
        (case aR => repeat (first | exact (Kd.R_reads' HO276.out).2.2 | (with_reducible refine Kd.C_alloc ?_ _) | (with_reducible refine Kd.C_drewN ?_ _) | (with_reducible refine Kd.C_drew ?_)))
        (case aB => exact (by repeat (first | (with_reducible first | exact HB.out | apply below_alloc | apply pw_below_drewN | apply below_drew1 | refine below_set ?_ GE259.out | refine below_set ?_ GE267.out) | exact HB.out)))
        (case aF => exact (fun k_ hk => ⟨Kd.fresh' (Kd.R_lt (by (with_reducible repeat (first | apply Kd.R_alloc | apply Kd.R_drewN | apply Kd.R_drew)); exact HO262.out)) k_ hk, Kd.fresh' (Kd.R_lt (by (with_reducible repeat (first | apply Kd.R_alloc | apply Kd.R_drewN | apply Kd.R_drew)); exact HO276.out)) k_ hk⟩))
        (case aO => exact (by (with_reducible repeat (first | apply Kd.R_alloc | apply Kd.R_drewN | apply Kd.R_drew)); exact HO266.out))
        (case aS => exact (below_size (by repeat (first | (with_reducible first | exact HB.out | apply below_alloc | apply pw_below_drewN | apply below_drew1 | refine below_set ?_ GE259.out | refine below_set ?_ GE267.out) | exact HB.out))))
        (case aL => have := LMc16.out; omega)
        intro v278 w37 ho hb hg hat
        rw [← Ny277.out] at ho
        have n0_ := Aside0.mk (blk_grown (g := gb259) (o := .cells #[.int .i64 a0_0, .int .i64 a0_1, .int .i64 a0_2, .int .i64 a0_3, .int .i64 a0_4, .int .i64 a0_5, .slice A0_6 l0_6.length c0_6, .slice A0_7 l0_7.length c0_7] 38 (0, 0)) (by (with_reducible repeat (first | refine blk_drewN ?_ _ | refine blk_drew ?_ | refine blk_alloc ?_ _)); exact BK259.out) hg (Kd.R_ne HO266.out BK259.out (by decide)))
        have n1_ := Aside0.mk (Kd.R_after (ok := (fun k_ => some k_ ≠ (.slice Ao38 y274.length co38 : Value).ownBlock)) (by (with_reducible repeat (first | apply Kd.R_alloc | apply Kd.R_drewN | apply Kd.R_drew)); exact Kd.R_mono HO262.out (fun _ hk => ⟨hk.2, hk.1⟩)) hg hat)
        have n2_ := Aside0.mk (blk_grown (g := gb267) (o := .cells #[.int .i64 a0_3, .int .i64 a0_4, .int .i64 a0_5, .slice A0_6 l0_6.length c0_6, .slice A0_7 l0_7.length c0_7] 36 (0, 0)) (by (with_reducible repeat (first | refine blk_drewN ?_ _ | refine blk_drew ?_ | refine blk_alloc ?_ _)); exact BK267.out) hg (Kd.R_ne HO266.out BK267.out (by decide)))
        have n3_ := Aside0.mk (Kd.R_over' (by (with_reducible repeat (first | apply Kd.R_alloc | apply Kd.R_drewN | apply Kd.R_drew)); exact HO270.out) (Kd.R_typed (by (with_reducible repeat (first | apply Kd.R_alloc | apply Kd.R_drewN | apply Kd.R_drew)); exact HO266.out)) (by decide) hg)
        have n4_ := Aside0.mk (Kd.R_after (ok := (fun k_ => some k_ ≠ (.slice (some ad263) t260.length co20 : Value).ownBlock)) (by (with_reducible repeat (first | apply Kd.R_alloc | apply Kd.R_drewN | apply Kd.R_drew)); exact Kd.R_mono HO276.out (fun _ hk => ⟨hk.1.2, hk.2⟩)) hg hat)
        have n5_ := Aside0.mk (hb)
        have n6_ := Aside0.mk (ho)
        clear BK259
        clear HO262
        clear BK267
        clear HO270
        clear HO276
        clear HB
        clear HO266
        have BK259 := n0_
        have HO262 := n1_
        have BK267 := n2_
        have HO270 := n3_
        have HO276 := n4_
        have HB := n5_
        have HO279 := n6_
        clear n0_ n1_ n2_ n3_ n4_ n5_ n6_
        clear ho hb hg hat
        refine hK.out _ _ ⟨(blk_cell BK267.out 0).trans rfl, (blk_cell BK267.out 1).trans rfl, (blk_cell BK267.out 2).trans rfl, (blk_cell BK267.out 3).trans rfl, (blk_cell BK267.out 4).trans rfl⟩ (fun hHeld => ?_)
        clear hK K
        refine norm_ (a' := ?_) ?_ ?_
        rotate_left
        ·show Act.put _ (some 41) _ = _
         simp only [Act.put, List.setIfInBounds_toArray, List.set_cons_zero, List.set_cons_succ, i64_w, i32_w]
         rfl
        refine pure_ (i := 17) (N := some 3) (v := ?_) (a' := ?_) #[true, true, true, true, true, true, true, true, true, true, true, true, true, true, true, true, true, true] rfl rfl (any_of HT_.out (by kernel_rfl)) (fun _ _ _ h => h) (Or.inl ⟨by rfl, ?_⟩) ?_ ?_
        rotate_left
        ·intro w'
         go_simp
         with_reducible rfl
        rotate_left
        ·simp only [Act.put, List.setIfInBounds_toArray, List.set_cons_zero, List.set_cons_succ, i64_w, i32_w]
         rfl
        refine done_ (done_of HT_.out (by kernel_rfl)) ?_
        obtain ⟨Ao39, co39, eo39⟩ := Kd.R_slice HO279.out
        subst eo39
        try go_wp2_with (first | ((with_reducible refine gate_callee (f := 60) rfl ?_); refine goesL_ (some 52) rfl rfl Tryz.func60 (by kernel_rfl) rfl #[.slice Ao39 y277.length co39, .string (⟨#[32]⟩ : ByteArray)] rfl (by (try simp only [List.map_toArray, List.map_cons, List.map_nil]); first | done | rfl | (simp only [List.length_drop, List.length_take]; rfl)) ?_; (with_reducible refine (strings_Join.calls _ _ y277 (⟨#[32]⟩ : ByteArray) t280 _ ?side1 ?side2 (Glob.below HG.out (by repeat (first | (with_reducible first | exact HB.out | apply below_alloc | apply pw_below_drewN | apply below_drew1 | refine below_set ?_ GE259.out | refine below_set ?_ GE267.out) | exact HB.out))) A17.out).mono ?_); (case side1 => repeat (first | exact (Kd.R_reads' HO279.out).2.2 | (with_reducible refine Kd.C_alloc ?_ _) | (with_reducible refine Kd.C_drewN ?_ _) | (with_reducible refine Kd.C_drew ?_))); (case side2 => exact (Kd.R_reads' HO279.out).2.1); rintro e w40 ⟨rfl, hb⟩; refine ⟨_, rfl, ?_⟩; have n0_ := Aside0.mk (Kd.R_below (by (with_reducible repeat (first | apply Kd.R_alloc | apply Kd.R_drewN | apply Kd.R_drew)); exact HO262.out) hb); have n1_ := Aside0.mk (Kd.R_below (by (with_reducible repeat (first | apply Kd.R_alloc | apply Kd.R_drewN | apply Kd.R_drew)); exact HO270.out) hb); have n2_ := Aside0.mk (Kd.R_below (by (with_reducible repeat (first | apply Kd.R_alloc | apply Kd.R_drewN | apply Kd.R_drew)); exact HO276.out) hb); have n3_ := Aside0.mk (Kd.R_below (by (with_reducible repeat (first | apply Kd.R_alloc | apply Kd.R_drewN | apply Kd.R_drew)); exact HO279.out) hb); have n4_ := Aside0.mk (blk_below (g := gb259) (o := .cells #[.int .i64 a0_0, .int .i64 a0_1, .int .i64 a0_2, .int .i64 a0_3, .int .i64 a0_4, .int .i64 a0_5, .slice A0_6 l0_6.length c0_6, .slice A0_7 l0_7.length c0_7] 38 (0, 0)) (by (with_reducible repeat (first | refine blk_drewN ?_ _ | refine blk_drew ?_ | refine blk_alloc ?_ _)); exact BK259.out) hb); have n5_ := Aside0.mk (blk_below (g := gb267) (o := .cells #[.int .i64 a0_3, .int .i64 a0_4, .int .i64 a0_5, .slice A0_6 l0_6.length c0_6, .slice A0_7 l0_7.length c0_7] 36 (0, 0)) (by (with_reducible repeat (first | refine blk_drewN ?_ _ | refine blk_drew ?_ | refine blk_alloc ?_ _)); exact BK267.out) hb); have n6_ := Aside0.mk (below_step (by repeat (first | (with_reducible first | exact HB.out | apply below_alloc | apply pw_below_drewN | apply below_drew1 | refine below_set ?_ GE259.out | refine below_set ?_ GE267.out) | exact HB.out)) hb); clear HO262; clear HO270; clear HO276; clear HO279; clear BK259; clear BK267; clear HB; have HO262 := n0_; have HO270 := n1_; have HO276 := n2_; have HO279 := n3_; have BK259 := n4_; have BK267 := n5_; have HB := n6_; clear n0_ n1_ n2_ n3_ n4_ n5_ n6_; (try clear hb); (try clear hb2); (try clear hk); (try clear hi)))
        go_ret
        exact ⟨by first | rfl | (simp [errW_none, errW_some] <;> rfl) | (simp only [← hji9]; first | rfl | (simp [errW_none, errW_some] <;> rfl)) | (simp [*, errW_none, errW_some] <;> rfl), by repeat (first | (with_reducible first | exact HB.out | apply below_alloc | apply pw_below_drewN | apply below_drew1 | refine below_set ?_ GE259.out | refine below_set ?_ GE267.out) | exact HB.out)⟩
       ·rw [if_neg c16] at H
        exact absurd H (by simp)
      ·rw [if_neg c12] at H
       have c12b0 : (a0_0 == 1) = false := beq_eq_false_iff_ne.mpr c12
       have c12b1 : (a0_0 != 1) = true := bne_iff_ne.mpr c12
       obtain ⟨y281, hy281⟩ : ∃ y_ : List Int, y_ = (([a0_1, a0_2] : List Int)) := ⟨_, rfl⟩
       replace H : ((script_list.f kj1 y281 (⟨#[32]⟩ : ByteArray) (⟨#[]⟩ : ByteArray)).bind fun t284 => (if y264.length < 8796093022208 then ((strings_Join.f (y264 ++ [t284]) (⟨#[32]⟩ : ByteArray)).bind fun t288 => (some t288)) else (none))) = some r := by first | (rw [hy281]; with_reducible exact H) | (have H2_ := (Option.bind_some _ _).symm.trans H; rw [hy281]; with_reducible exact H2_) | (have H2_ := (Option.bind_some _ _).symm.trans H; with_reducible exact H2_) | with_reducible exact H | (rw [hy281]; exact H) | exact H
       have Ny281 := Aside0.mk hy281
       clear hy281
       replace H := Option.bind_eq_some_iff.mp H
       obtain ⟨t284, A410, H⟩ := H
       replace H : (if y264.length < 8796093022208 then ((strings_Join.f (y264 ++ [t284]) (⟨#[32]⟩ : ByteArray)).bind fun t288 => (some t288)) else (none)) = some r := H
       have A41 := Aside0.mk A410
       clear A410
       by_cases c42 : y264.length < 8796093022208
       ·rw [if_pos c42] at H
        have LMc42 := Aside0.mk c42
        clear c42
        obtain ⟨y285, hy285⟩ : ∃ y_ : List ByteArray, y_ = (y264 ++ [t284]) := ⟨_, rfl⟩
        replace H : ((strings_Join.f y285 (⟨#[32]⟩ : ByteArray)).bind fun t288 => (some t288)) = some r := by first | (rw [hy285]; with_reducible exact H) | (have H2_ := (Option.bind_some _ _).symm.trans H; rw [hy285]; with_reducible exact H2_) | (have H2_ := (Option.bind_some _ _).symm.trans H; with_reducible exact H2_) | with_reducible exact H | (rw [hy285]; exact H) | exact H
        have Ny285 := Aside0.mk hy285
        clear hy285
        replace H := Option.bind_eq_some_iff.mp H
        obtain ⟨t288, A430, H⟩ := H
        replace H : (some t288) = some r := H
        have A43 := Aside0.mk A430
        clear A430
        obtain rfl := Option.some.inj H
        try go_wp2
        have n0_ := Aside0.mk (blk_drew BK259.out)
        have n1_ := Aside0.mk (below_drew1 HB.out)
        clear BK259
        clear HB
        have BK259 := n0_
        have HB := n1_
        clear n0_ n1_
        refine start_ (n := 8) (S := fun w' => w'.cell? ⟨gb259, 0, none⟩ = some (.int .i64 a0_0) ∧ w'.cell? ⟨gb259, 1, none⟩ = some (.int .i64 a0_1) ∧ w'.cell? ⟨gb259, 2, none⟩ = some (.int .i64 a0_2) ∧ w'.cell? ⟨gb259, 3, none⟩ = some (.int .i64 a0_3) ∧ w'.cell? ⟨gb259, 4, none⟩ = some (.int .i64 a0_4) ∧ w'.cell? ⟨gb259, 5, none⟩ = some (.int .i64 a0_5) ∧ w'.cell? ⟨gb259, 6, none⟩ = some (.slice A0_6 l0_6.length c0_6) ∧ w'.cell? ⟨gb259, 7, none⟩ = some (.slice A0_7 l0_7.length c0_7)) (ds := []) #[false, false, false, false, false, false, false, false] (by kernel_rfl) rfl rfl ⟨(blk_cell BK259.out 0).trans rfl, (blk_cell BK259.out 1).trans rfl, (blk_cell BK259.out 2).trans rfl, (blk_cell BK259.out 3).trans rfl, (blk_cell BK259.out 4).trans rfl, (blk_cell BK259.out 5).trans rfl, (blk_cell BK259.out 6).trans rfl, (blk_cell BK259.out 7).trans rfl⟩ (fun hHeld => ?_); refine with_tabW script_Print.tab3 script_Print.bits3 (fun HT_ HW_ => ?_)
        generalize wc.drew = w44 at BK259 HB hHeld ⊢
        refine pure_ (i := 1) (N := some 14) (v := ?_) (a' := ?_) #[false, true, false, false, false, false, false, false] rfl rfl (any_of HT_.out (by kernel_rfl)) (fun _ _ _ h => h) (Or.inl ⟨by rfl, ?_⟩) ?_ ?_
        rotate_left
        ·intro w'
         go_simp
         with_reducible rfl
        rotate_left
        ·simp only [Act.put, List.setIfInBounds_toArray, List.set_cons_zero, List.set_cons_succ, i64_w, i32_w]
         rfl
        refine take_ (i := 2) (N := some 15) (v := ?_) (a' := ?_) #[false, true, true, false, false, false, false, false] rfl rfl (take_ofW HT_.out HW_.out (by kernel_rfl)) (fun _ _ _ h => h) (Or.inl ⟨by rfl, ?_⟩) hHeld ?_ ?_
        rotate_left
        ·rintro w' ⟨s0, s1, s2, s3, s4, s5, s6, s7⟩
         go_simp
         with_reducible rfl
        rotate_left
        ·simp only [Act.put, List.setIfInBounds_toArray, List.set_cons_zero, List.set_cons_succ, i64_w, i32_w]
         rfl
        refine pure_ (i := 3) (N := some 16) (v := ?_) (a' := ?_) #[false, true, true, true, false, false, false, false] rfl rfl (any_of HT_.out (by kernel_rfl)) (fun _ _ _ h => h) (Or.inl ⟨by rfl, ?_⟩) ?_ ?_
        rotate_left
        ·intro w'
         go_simp
         with_reducible rfl
        rotate_left
        ·simp only [Act.put, List.setIfInBounds_toArray, List.set_cons_zero, List.set_cons_succ, i64_w, i32_w]
         rfl
        refine one_ (i := 0) (N := some 13) #[true, true, true, true, false, false, false, false] rfl rfl (one_of HT_.out (by kernel_rfl)) (by decide) (fun K hK => ?_)
        refine goes_ Tryz.func33 (by kernel_rfl) rfl #[] (by rfl) rfl rfl (by (try simp only [List.map_toArray, List.map_cons, List.map_nil]); first | done | rfl | (simp only [List.length_drop, List.length_take]; rfl)) ?_
        with_reducible refine (script_words.calls  t260 _ A8.out).mono ?_
        rintro e w45 ⟨v261, rfl, ho0, hb⟩
        refine ⟨_, rfl, ?_⟩
        have n0_ := Aside0.mk (Kd.R_lower ho0 (below_size (by repeat (first | (with_reducible first | exact HB.out | apply below_alloc | apply pw_below_drewN | apply below_drew1 | refine below_set ?_ GE259.out) | exact HB.out))))
        have n1_ := Aside0.mk (blk_below (g := gb259) (o := .cells #[.int .i64 a0_0, .int .i64 a0_1, .int .i64 a0_2, .int .i64 a0_3, .int .i64 a0_4, .int .i64 a0_5, .slice A0_6 l0_6.length c0_6, .slice A0_7 l0_7.length c0_7] 38 (0, 0)) (by (with_reducible repeat (first | refine blk_drewN ?_ _ | refine blk_drew ?_ | refine blk_alloc ?_ _)); exact BK259.out) hb)
        have n2_ := Aside0.mk (below_step (by repeat (first | (with_reducible first | exact HB.out | apply below_alloc | apply pw_below_drewN | apply below_drew1 | refine below_set ?_ GE259.out) | exact HB.out)) hb)
        clear BK259
        clear HB
        have HO262 := n0_
        have BK259 := n1_
        have HB := n2_
        clear n0_ n1_ n2_
        (try clear hb)
        (try clear hb2)
        (try clear hk)
        (try clear hi)
        (try clear ho0)
        obtain ⟨Ao46, co46, eo46⟩ := Kd.R_slice HO262.out
        (first | subst eo46 | (injection eo46 with f1_ f2_ f3_; have f4_ := f1_.symm; have f5_ := f3_.symm; clear f1_ f2_ f3_; subst f4_; subst f5_))
        have p263 : 0 ≤ ((ji9) : Int) := of_decide_eq_true (by first | (with_reducible assumption) | assumption)
        have q263 : (ji9) < (t260.length : Int) := of_decide_eq_true (by first | (with_reducible assumption) | assumption)
        obtain ⟨ad263, e263, hx263_0⟩ := Kd.at_string (Kd.R_reads' HO262.out).2.2 (ji9) p263 q263
        cases e263
        replace p263 := eq_true p263
        replace q263 := eq_true q263
        refine hK.out _ _ ⟨(blk_cell BK259.out 0).trans rfl, (blk_cell BK259.out 1).trans rfl, (blk_cell BK259.out 2).trans rfl, (blk_cell BK259.out 3).trans rfl, (blk_cell BK259.out 4).trans rfl, (blk_cell BK259.out 5).trans rfl, (blk_cell BK259.out 6).trans rfl, (blk_cell BK259.out 7).trans rfl⟩ (fun hHeld => ?_)
        clear hK K
        refine norm_ (a' := ?_) ?_ ?_
        rotate_left
        ·show Act.put _ (some 13) _ = _
         simp only [Act.put, List.setIfInBounds_toArray, List.set_cons_zero, List.set_cons_succ, i64_w, i32_w]
         rfl
        refine pure_ (i := 4) (N := some 17) (v := ?_) (a' := ?_) #[true, true, true, true, true, false, false, false] rfl rfl (any_of HT_.out (by kernel_rfl)) (fun _ _ _ h => h) (Or.inl ⟨by rfl, ?_⟩) ?_ ?_
        rotate_left
        ·intro w'
         go_simp
         with_reducible rfl
        rotate_left
        ·simp only [Act.put, List.setIfInBounds_toArray, List.set_cons_zero, List.set_cons_succ, i64_w, i32_w]
         rfl
        refine one_ (i := 5) (N := some 18) #[true, true, true, true, true, true, false, false] rfl rfl (one_of HT_.out (by kernel_rfl)) (by decide) (fun K hK => ?_)
        refine run_ ?_ rfl rfl ?hr_ ?_
        case hr_ =>
         go_simp
         with_reducible rfl
        refine hK.out _ _ ⟨(blk_cell BK259.out 0).trans rfl, (blk_cell BK259.out 1).trans rfl, (blk_cell BK259.out 2).trans rfl, (blk_cell BK259.out 3).trans rfl, (blk_cell BK259.out 4).trans rfl, (blk_cell BK259.out 5).trans rfl, (blk_cell BK259.out 6).trans rfl, (blk_cell BK259.out 7).trans rfl⟩ (fun hHeld => ?_)
        clear hK K
        refine norm_ (a' := ?_) ?_ ?_
        rotate_left
        ·show Act.put _ (some 18) _ = _
         simp only [Act.put, List.setIfInBounds_toArray, List.set_cons_zero, List.set_cons_succ, i64_w, i32_w]
         rfl
        refine one_ (i := 6) (N := some 19) #[true, true, true, true, true, true, true, false] rfl rfl (one_of HT_.out (by kernel_rfl)) (by decide) (fun K hK => ?_)
        refine Kd.R_lit_step Kd.string _ 9 ?hg (N := 19) ?hd (xs := ([rdOf ByteArray.empty t260 (ji9)] : List ByteArray)) (inner := [.string (rdOf ByteArray.empty t260 (ji9))]) (ok := fun _ => True) (okp := fun _ => True) ?hr ?hp (fun _ hk => hk) trivial (Below.refl _ _) (Nat.le_refl _) (by simp) ?_; (case hd => rfl); (case hg => rfl); (case hr => first | (go_simp; done) | (go_simp; rfl)); (case hp => exact (Reps.one (show Kd.M Kd.string _ _ _ (rdOf ByteArray.empty t260 (ji9)) [.string (rdOf ByteArray.empty t260 (ji9))] from rfl) (Reps.none _ _)))
        intro v265 w47 ho48 hb hg_ hnew_
        clear hg_ hnew_
        (first | rw [← Ny264.out] at ho48 | (simp only [Int.reduceToNat] at ho48; rw [← Ny264.out] at ho48))
        have n0_ := Aside0.mk (Kd.R_elder' (by (with_reducible repeat (first | apply Kd.R_alloc | apply Kd.R_drewN | apply Kd.R_drew)); exact HO262.out) (Kd.R_base ho48) hb)
        have n1_ := Aside0.mk (Kd.R_lower (Kd.R_new' ho48 (Kd.R_lt (by (with_reducible repeat (first | apply Kd.R_alloc | apply Kd.R_drewN | apply Kd.R_drew)); exact HO262.out))) (below_size (by repeat (first | (with_reducible first | exact HB.out | apply below_alloc | apply pw_below_drewN | apply below_drew1 | refine below_set ?_ GE259.out) | exact HB.out))))
        have n2_ := Aside0.mk (blk_below (g := gb259) (o := .cells #[.int .i64 a0_0, .int .i64 a0_1, .int .i64 a0_2, .int .i64 a0_3, .int .i64 a0_4, .int .i64 a0_5, .slice A0_6 l0_6.length c0_6, .slice A0_7 l0_7.length c0_7] 38 (0, 0)) (by (with_reducible repeat (first | refine blk_drewN ?_ _ | refine blk_drew ?_ | refine blk_alloc ?_ _)); exact BK259.out) hb)
        have n3_ := Aside0.mk (below_step (by repeat (first | (with_reducible first | exact HB.out | apply below_alloc | apply pw_below_drewN | apply below_drew1 | refine below_set ?_ GE259.out) | exact HB.out)) hb)
        clear HO262
        clear BK259
        clear HB
        have HO262 := n0_
        have HO266 := n1_
        have BK259 := n2_
        have HB := n3_
        clear n0_ n1_ n2_ n3_
        clear hb ho48
        refine hK.out _ _ ⟨(blk_cell BK259.out 0).trans rfl, (blk_cell BK259.out 1).trans rfl, (blk_cell BK259.out 2).trans rfl, (blk_cell BK259.out 3).trans rfl, (blk_cell BK259.out 4).trans rfl, (blk_cell BK259.out 5).trans rfl, (blk_cell BK259.out 6).trans rfl, (blk_cell BK259.out 7).trans rfl⟩ (fun hHeld => ?_)
        clear hK K
        refine norm_ (a' := ?_) ?_ ?_
        rotate_left
        ·show Act.put _ (some 19) _ = _
         simp only [Act.put, List.setIfInBounds_toArray, List.set_cons_zero, List.set_cons_succ, i64_w, i32_w]
         rfl
        refine pure_ (i := 7) (N := some 3) (v := ?_) (a' := ?_) #[true, true, true, true, true, true, true, true] rfl rfl (any_of HT_.out (by kernel_rfl)) (fun _ _ _ h => h) (Or.inl ⟨by rfl, ?_⟩) ?_ ?_
        rotate_left
        ·intro w'
         go_simp
         with_reducible rfl
        rotate_left
        ·simp only [Act.put, List.setIfInBounds_toArray, List.set_cons_zero, List.set_cons_succ, i64_w, i32_w]
         rfl
        refine done_ (done_of HT_.out (by kernel_rfl)) ?_
        have hcz49_0 : w47.cell? ⟨gb259, 0, none⟩ = some (.int .i64 a0_0) := (blk_cell BK259.out 0).trans rfl
        have hcz49_1 : w47.cell? ⟨gb259, 1, none⟩ = some (.int .i64 a0_1) := (blk_cell BK259.out 1).trans rfl
        have hcz49_2 : w47.cell? ⟨gb259, 2, none⟩ = some (.int .i64 a0_2) := (blk_cell BK259.out 2).trans rfl
        have hcz49_3 : w47.cell? ⟨gb259, 3, none⟩ = some (.int .i64 a0_3) := (blk_cell BK259.out 3).trans rfl
        have hcz49_4 : w47.cell? ⟨gb259, 4, none⟩ = some (.int .i64 a0_4) := (blk_cell BK259.out 4).trans rfl
        have hcz49_5 : w47.cell? ⟨gb259, 5, none⟩ = some (.int .i64 a0_5) := (blk_cell BK259.out 5).trans rfl
        have hcz49_6 : w47.cell? ⟨gb259, 6, none⟩ = some (.slice A0_6 l0_6.length c0_6) := (blk_cell BK259.out 6).trans rfl
        have hcz49_7 : w47.cell? ⟨gb259, 7, none⟩ = some (.slice A0_7 l0_7.length c0_7) := (blk_cell BK259.out 7).trans rfl
        have hfz49_0 := blk_frozen BK259.out 0
        have hfz49_1 := blk_frozen BK259.out 1
        have hfz49_2 := blk_frozen BK259.out 2
        have hfz49_3 := blk_frozen BK259.out 3
        have hfz49_4 := blk_frozen BK259.out 4
        have hfz49_5 := blk_frozen BK259.out 5
        have hfz49_6 := blk_frozen BK259.out 6
        have hfz49_7 := blk_frozen BK259.out 7
        try go_wp2_with (first | ((with_reducible refine gate_dst (N := 47) rfl ?_); refine Kd.R_lit (Kd.int .i64) _ 3 ?hg (N := 47) ?hd (xs := ([a0_1, a0_2] : List Int)) (inner := [.int .i64 a0_1, .int .i64 a0_2]) (ok := fun _ => True) (okp := fun _ => True) ?hr ?hp (fun _ hk => hk) trivial (Below.refl _ _) (Nat.le_refl _) (by simp) ?_; (case hd => rfl); (case hg => rfl); (case hr => first | (go_simp; done) | (go_simp; rfl)); (case hp => exact (Reps.one (show Kd.M (Kd.int .i64) _ _ _ a0_1 [.int .i64 a0_1] from rfl) (Reps.one (show Kd.M (Kd.int .i64) _ _ _ a0_2 [.int .i64 a0_2] from rfl) (Reps.none _ _)))); intro v282 w50 ho51 hb hg_ hnew_; clear hg_ hnew_; (first | rw [← Ny281.out] at ho51 | (simp only [Int.reduceToNat] at ho51; rw [← Ny281.out] at ho51)); have n0_ := Aside0.mk (Kd.R_below (by (with_reducible repeat (first | apply Kd.R_alloc | apply Kd.R_drewN | apply Kd.R_drew)); exact HO262.out) hb); have n1_ := Aside0.mk (Kd.R_below (by (with_reducible repeat (first | apply Kd.R_alloc | apply Kd.R_drewN | apply Kd.R_drew)); exact HO266.out) hb); have n2_ := Aside0.mk (Kd.R_lower ho51 (below_size (by repeat (first | (with_reducible first | exact HB.out | apply below_alloc | apply pw_below_drewN | apply below_drew1 | refine below_set ?_ GE259.out) | exact HB.out)))); have n3_ := Aside0.mk (blk_below (g := gb259) (o := .cells #[.int .i64 a0_0, .int .i64 a0_1, .int .i64 a0_2, .int .i64 a0_3, .int .i64 a0_4, .int .i64 a0_5, .slice A0_6 l0_6.length c0_6, .slice A0_7 l0_7.length c0_7] 38 (0, 0)) (by (with_reducible repeat (first | refine blk_drewN ?_ _ | refine blk_drew ?_ | refine blk_alloc ?_ _)); exact BK259.out) hb); have n4_ := Aside0.mk (below_step (by repeat (first | (with_reducible first | exact HB.out | apply below_alloc | apply pw_below_drewN | apply below_drew1 | refine below_set ?_ GE259.out) | exact HB.out)) hb); clear HO262; clear HO266; clear BK259; clear HB; have HO262 := n0_; have HO266 := n1_; have HO283 := n2_; have BK259 := n3_; have HB := n4_; clear n0_ n1_ n2_ n3_ n4_; clear hb ho51; obtain ⟨Ao52, co52, eo52⟩ := Kd.R_slice HO283.out; subst eo52) | ((with_reducible refine gate_callee (f := 58) rfl ?_); refine goesL_ (some 48) rfl rfl Tryz.func58 (by kernel_rfl) rfl #[.slice Ao52 y281.length co52, .string (⟨#[32]⟩ : ByteArray), .string (⟨#[]⟩ : ByteArray)] rfl (by (try simp only [List.map_toArray, List.map_cons, List.map_nil]); first | done | rfl | (simp only [List.length_drop, List.length_take]; rfl)) ?_; (with_reducible refine (script_list.calls kj1 _ _ y281 (⟨#[32]⟩ : ByteArray) (⟨#[]⟩ : ByteArray) t284 _ ?side1 ?side2 (Glob.below HG.out (by repeat (first | (with_reducible first | exact HB.out | apply below_alloc | apply pw_below_drewN | apply below_drew1 | refine below_set ?_ GE259.out | refine below_set ?_ GE267.out) | exact HB.out))) A41.out).mono ?_); (case side1 => repeat (first | exact (Kd.R_reads' HO283.out).2.2 | (with_reducible refine Kd.C_alloc ?_ _) | (with_reducible refine Kd.C_drewN ?_ _) | (with_reducible refine Kd.C_drew ?_))); (case side2 => exact (Kd.R_reads' HO283.out).2.1); rintro e w53 ⟨rfl, hb⟩; refine ⟨_, rfl, ?_⟩; have n0_ := Aside0.mk (Kd.R_below (by (with_reducible repeat (first | apply Kd.R_alloc | apply Kd.R_drewN | apply Kd.R_drew)); exact HO262.out) hb); have n1_ := Aside0.mk (Kd.R_below (by (with_reducible repeat (first | apply Kd.R_alloc | apply Kd.R_drewN | apply Kd.R_drew)); exact HO266.out) hb); have n2_ := Aside0.mk (Kd.R_below (by (with_reducible repeat (first | apply Kd.R_alloc | apply Kd.R_drewN | apply Kd.R_drew)); exact HO283.out) hb); have n3_ := Aside0.mk (blk_below (g := gb259) (o := .cells #[.int .i64 a0_0, .int .i64 a0_1, .int .i64 a0_2, .int .i64 a0_3, .int .i64 a0_4, .int .i64 a0_5, .slice A0_6 l0_6.length c0_6, .slice A0_7 l0_7.length c0_7] 38 (0, 0)) (by (with_reducible repeat (first | refine blk_drewN ?_ _ | refine blk_drew ?_ | refine blk_alloc ?_ _)); exact BK259.out) hb); have n4_ := Aside0.mk (below_step (by repeat (first | (with_reducible first | exact HB.out | apply below_alloc | apply pw_below_drewN | apply below_drew1 | refine below_set ?_ GE259.out) | exact HB.out)) hb); clear HO262; clear HO266; clear HO283; clear BK259; clear HB; have HO262 := n0_; have HO266 := n1_; have HO283 := n2_; have BK259 := n3_; have HB := n4_; clear n0_ n1_ n2_ n3_ n4_; (try clear hb); (try clear hb2); (try clear hk); (try clear hi)) | ((with_reducible refine gate_builtin (b := .append) (xs := #[.tmp 42, .tmp 49]) rfl ?_); at_builtin; refine Kd.R_append Kd.string (w0 := w) w.heap.size rfl (.tmp 42) (.tmp 49) 85 9 (.string ⟨#[]⟩) 16 rfl Tryz.underlying85 info9 rfl (by decide) (by omega) v265 y264 t284 [.string t284] (fun k_ => some k_ ≠ (.slice (some ad263) t260.length co46 : Value).ownBlock) (fun _ => False) rfl rfl ?aP (fun _ hk => hk.elim) ?aF ?aO ?aB ?aS ?aL ?_; (case aP => exact rfl); (case aB => exact (by repeat (first | (with_reducible first | exact HB.out | apply below_alloc | apply pw_below_drewN | apply below_drew1 | refine below_set ?_ GE259.out) | exact HB.out))); (case aF => exact (fun k_ hk => Kd.fresh' (Kd.R_lt (by (with_reducible repeat (first | apply Kd.R_alloc | apply Kd.R_drewN | apply Kd.R_drew)); exact HO262.out)) k_ hk)); (case aO => exact (by (with_reducible repeat (first | apply Kd.R_alloc | apply Kd.R_drewN | apply Kd.R_drew)); exact Kd.R_mono HO266.out (fun _ hk => hk.2))); (case aS => exact (below_size (by repeat (first | (with_reducible first | exact HB.out | apply below_alloc | apply pw_below_drewN | apply below_drew1 | refine below_set ?_ GE259.out) | exact HB.out)))); (case aL => have := LMc42.out; omega); intro v286 w54 ho hb hg hat; rw [← Ny285.out] at ho; have n0_ := Aside0.mk (blk_grown (g := gb259) (o := .cells #[.int .i64 a0_0, .int .i64 a0_1, .int .i64 a0_2, .int .i64 a0_3, .int .i64 a0_4, .int .i64 a0_5, .slice A0_6 l0_6.length c0_6, .slice A0_7 l0_7.length c0_7] 38 (0, 0)) (by (with_reducible repeat (first | refine blk_drewN ?_ _ | refine blk_drew ?_ | refine blk_alloc ?_ _)); exact BK259.out) hg (Kd.R_ne HO266.out BK259.out (by decide))); have n1_ := Aside0.mk (Kd.R_after (ok := (fun _ => True)) (by (with_reducible repeat (first | apply Kd.R_alloc | apply Kd.R_drewN | apply Kd.R_drew)); exact HO262.out) hg hat); have n2_ := Aside0.mk (Kd.R_over' (by (with_reducible repeat (first | apply Kd.R_alloc | apply Kd.R_drewN | apply Kd.R_drew)); exact HO283.out) (Kd.R_typed (by (with_reducible repeat (first | apply Kd.R_alloc | apply Kd.R_drewN | apply Kd.R_drew)); exact HO266.out)) (by decide) hg); have n3_ := Aside0.mk (hb); have n4_ := Aside0.mk (ho); clear BK259; clear HO262; clear HO283; clear HB; clear HO266; have BK259 := n0_; have HO262 := n1_; have HO283 := n2_; have HB := n3_; have HO287 := n4_; clear n0_ n1_ n2_ n3_ n4_; clear ho hb hg hat; obtain ⟨Ao55, co55, eo55⟩ := Kd.R_slice HO287.out; subst eo55) | ((with_reducible refine gate_callee (f := 60) rfl ?_); refine goesL_ (some 52) rfl rfl Tryz.func60 (by kernel_rfl) rfl #[.slice Ao55 y285.length co55, .string (⟨#[32]⟩ : ByteArray)] rfl (by (try simp only [List.map_toArray, List.map_cons, List.map_nil]); first | done | rfl | (simp only [List.length_drop, List.length_take]; rfl)) ?_; (with_reducible refine (strings_Join.calls _ _ y285 (⟨#[32]⟩ : ByteArray) t288 _ ?side1 ?side2 (Glob.below HG.out (by repeat (first | (with_reducible first | exact HB.out | apply below_alloc | apply pw_below_drewN | apply below_drew1 | refine below_set ?_ GE259.out | refine below_set ?_ GE267.out) | exact HB.out))) A43.out).mono ?_); (case side1 => repeat (first | exact (Kd.R_reads' HO287.out).2.2 | (with_reducible refine Kd.C_alloc ?_ _) | (with_reducible refine Kd.C_drewN ?_ _) | (with_reducible refine Kd.C_drew ?_))); (case side2 => exact (Kd.R_reads' HO287.out).2.1); rintro e w56 ⟨rfl, hb⟩; refine ⟨_, rfl, ?_⟩; have n0_ := Aside0.mk (Kd.R_below (by (with_reducible repeat (first | apply Kd.R_alloc | apply Kd.R_drewN | apply Kd.R_drew)); exact HO262.out) hb); have n1_ := Aside0.mk (Kd.R_below (by (with_reducible repeat (first | apply Kd.R_alloc | apply Kd.R_drewN | apply Kd.R_drew)); exact HO283.out) hb); have n2_ := Aside0.mk (Kd.R_below (by (with_reducible repeat (first | apply Kd.R_alloc | apply Kd.R_drewN | apply Kd.R_drew)); exact HO287.out) hb); have n3_ := Aside0.mk (blk_below (g := gb259) (o := .cells #[.int .i64 a0_0, .int .i64 a0_1, .int .i64 a0_2, .int .i64 a0_3, .int .i64 a0_4, .int .i64 a0_5, .slice A0_6 l0_6.length c0_6, .slice A0_7 l0_7.length c0_7] 38 (0, 0)) (by (with_reducible repeat (first | refine blk_drewN ?_ _ | refine blk_drew ?_ | refine blk_alloc ?_ _)); exact BK259.out) hb); have n4_ := Aside0.mk (below_step (by repeat (first | (with_reducible first | exact HB.out | apply below_alloc | apply pw_below_drewN | apply below_drew1 | refine below_set ?_ GE259.out) | exact HB.out)) hb); clear HO262; clear HO283; clear HO287; clear BK259; clear HB; have HO262 := n0_; have HO283 := n1_; have HO287 := n2_; have BK259 := n3_; have HB := n4_; clear n0_ n1_ n2_ n3_ n4_; (try clear hb); (try clear hb2); (try clear hk); (try clear hi)))
        go_ret
        exact ⟨by first | rfl | (simp [errW_none, errW_some] <;> rfl) | (simp only [← hji9]; first | rfl | (simp [errW_none, errW_some] <;> rfl)) | (simp [*, errW_none, errW_some] <;> rfl), by repeat (first | (with_reducible first | exact HB.out | apply below_alloc | apply pw_below_drewN | apply below_drew1 | refine below_set ?_ GE259.out) | exact HB.out)⟩
       ·rw [if_neg c42] at H
        exact absurd H (by simp)
     ·rw [if_neg c11] at H
      exact absurd H (by simp)
    ·rw [if_neg c10] at H
     exact absurd H (by simp)

end Go.Proofs.YtohpimfanplloaaGreatDoor.GC
