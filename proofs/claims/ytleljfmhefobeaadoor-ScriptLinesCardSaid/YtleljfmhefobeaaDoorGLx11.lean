-- laid by a program of this session (print_proof, changed for laws over structs) (packed)
import Derived.Test.YtleljfmhefobeaaDoorGLExt
import Derived.Test.YtleljfmhefobeaaDoorGLx0
import Derived.Test.YtleljfmhefobeaaDoorGLx5
import Derived.Test.YtleljfmhefobeaaDoorGLx6
import Derived.Test.YtleljfmhefobeaaDoorGLx10
namespace Go.Proofs.YtleljfmhefobeaaDoor.GL
open Go.RowKit Go.Proofs.YtleljfmhefobeaaDoorW.PrintWords Go.Proofs.YtleljfmhefobeaaDoorW.PrintLast Go.Proofs.YtleljfmhefobeaaDoorW.PrintMore
attribute [local go_sem] max2_int min2_int max_two min_two max_three min_three max_four min_four   -- for this text's walks alone
set_option linter.unusedVariables false
set_option linter.unusedSimpArgs false

/-! ### vokref25_Print: function 9 -/
def vokref25_Print.j0 : Nat → Bool → Int → Int → Int → Int → Int → Int → List Int → List Int → Option (ByteArray)
 | 0, _, _, _, _, _, _, _, _, _ => none
 | k + 1, x12, x338000, x338001, x338002, x338003, x338004, x338005, x338006, x338007 => if x12 = true then (some (⟨#[63]⟩ : ByteArray)) else ((vokref25_words.f).bind fun t338 => (if 0 ≤ x338000 then (if x338000 < (t338.length : Int) then (if (rdOf ByteArray.empty t338 x338000).size + 1 ≤ 9223372036854775807 then (if x338000 = 1 then ((vokref_Dec.f k x338003).bind fun t343 => (if ((rdOf ByteArray.empty t338 x338000) ++ (⟨#[32]⟩ : ByteArray)).size + t343.size ≤ 9223372036854775807 then (if (((rdOf ByteArray.empty t338 x338000) ++ (⟨#[32]⟩ : ByteArray)) ++ t343).size + 1 ≤ 9223372036854775807 then ((vokref_Dec.f k x338004).bind fun t344 => (if ((((rdOf ByteArray.empty t338 x338000) ++ (⟨#[32]⟩ : ByteArray)) ++ t343) ++ (⟨#[32]⟩ : ByteArray)).size + t344.size ≤ 9223372036854775807 then (if (((((rdOf ByteArray.empty t338 x338000) ++ (⟨#[32]⟩ : ByteArray)) ++ t343) ++ (⟨#[32]⟩ : ByteArray)) ++ t344).size + 1 ≤ 9223372036854775807 then ((vokref_Dec.f k x338005).bind fun t345 => (if ((((((rdOf ByteArray.empty t338 x338000) ++ (⟨#[32]⟩ : ByteArray)) ++ t343) ++ (⟨#[32]⟩ : ByteArray)) ++ t344) ++ (⟨#[32]⟩ : ByteArray)).size + t345.size ≤ 9223372036854775807 then (if (((((((rdOf ByteArray.empty t338 x338000) ++ (⟨#[32]⟩ : ByteArray)) ++ t343) ++ (⟨#[32]⟩ : ByteArray)) ++ t344) ++ (⟨#[32]⟩ : ByteArray)) ++ t345).size + 1 ≤ 9223372036854775807 then ((vokref25_commas.f k x338006).bind fun t346 => (if ((((((((rdOf ByteArray.empty t338 x338000) ++ (⟨#[32]⟩ : ByteArray)) ++ t343) ++ (⟨#[32]⟩ : ByteArray)) ++ t344) ++ (⟨#[32]⟩ : ByteArray)) ++ t345) ++ (⟨#[32]⟩ : ByteArray)).size + t346.size ≤ 9223372036854775807 then (if (((((((((rdOf ByteArray.empty t338 x338000) ++ (⟨#[32]⟩ : ByteArray)) ++ t343) ++ (⟨#[32]⟩ : ByteArray)) ++ t344) ++ (⟨#[32]⟩ : ByteArray)) ++ t345) ++ (⟨#[32]⟩ : ByteArray)) ++ t346).size + 1 ≤ 9223372036854775807 then ((vokref25_hex.f k x338007).bind fun t347 => (if ((((((((((rdOf ByteArray.empty t338 x338000) ++ (⟨#[32]⟩ : ByteArray)) ++ t343) ++ (⟨#[32]⟩ : ByteArray)) ++ t344) ++ (⟨#[32]⟩ : ByteArray)) ++ t345) ++ (⟨#[32]⟩ : ByteArray)) ++ t346) ++ (⟨#[32]⟩ : ByteArray)).size + t347.size ≤ 9223372036854775807 then (some (((((((((((rdOf ByteArray.empty t338 x338000) ++ (⟨#[32]⟩ : ByteArray)) ++ t343) ++ (⟨#[32]⟩ : ByteArray)) ++ t344) ++ (⟨#[32]⟩ : ByteArray)) ++ t345) ++ (⟨#[32]⟩ : ByteArray)) ++ t346) ++ (⟨#[32]⟩ : ByteArray)) ++ t347)) else (none))) else (none)) else (none))) else (none)) else (none))) else (none)) else (none))) else (none)) else (none))) else ((vokref_Dec.f k x338001).bind fun t348 => (if ((rdOf ByteArray.empty t338 x338000) ++ (⟨#[32]⟩ : ByteArray)).size + t348.size ≤ 9223372036854775807 then (if (((rdOf ByteArray.empty t338 x338000) ++ (⟨#[32]⟩ : ByteArray)) ++ t348).size + 1 ≤ 9223372036854775807 then ((vokref_Dec.f k x338002).bind fun t349 => (if ((((rdOf ByteArray.empty t338 x338000) ++ (⟨#[32]⟩ : ByteArray)) ++ t348) ++ (⟨#[32]⟩ : ByteArray)).size + t349.size ≤ 9223372036854775807 then (some (((((rdOf ByteArray.empty t338 x338000) ++ (⟨#[32]⟩ : ByteArray)) ++ t348) ++ (⟨#[32]⟩ : ByteArray)) ++ t349)) else (none))) else (none)) else (none)))) else (none)) else (none)) else (none)))
def vokref25_Print.f (k : Nat) (a0_0 : Int) (a0_1 : Int) (a0_2 : Int) (a0_3 : Int) (a0_4 : Int) (a0_5 : Int) (l0_6 : List Int) (l0_7 : List Int) : Option (ByteArray) := if a0_0 < 1 then (vokref25_Print.j0 k true a0_0 a0_1 a0_2 a0_3 a0_4 a0_5 l0_6 l0_7) else (vokref25_Print.j0 k (decide (a0_0 > 8)) a0_0 a0_1 a0_2 a0_3 a0_4 a0_5 l0_6 l0_7)
theorem vokref25_Print.mono_l : ∀ k, (∀ y0 y1 y2 y3 y4 y5 y6 y7 y8, LeO (vokref25_Print.j0 k y0 y1 y2 y3 y4 y5 y6 y7 y8) (vokref25_Print.j0 (k + 1) y0 y1 y2 y3 y4 y5 y6 y7 y8))
 | 0 => fun _ _ _ _ _ _ _ _ _ r h => by simp [vokref25_Print.j0] at h
 | k + 1 => by
  have ih0 := vokref25_Print.mono_l k
  ·intro y0 y1 y2 y3 y4 y5 y6 y7 y8
   unfold vokref25_Print.j0
   repeat' first
   | (with_reducible exact ih0 _ _ _ _ _ _ _ _ _)
   | (with_reducible exact vokref25_commas.mono _ _)
   | (with_reducible exact vokref25_hex.mono _ _)
   | (with_reducible exact vokref_Dec.mono _ _)
   | (with_reducible exact LeO.refl _)
   | (with_reducible exact LeO.none _)
   | (with_reducible refine LeO.ite ?_ ?_)
   | (with_reducible refine LeO.bind ?_ (fun _ => ?_))
   | exact ih0 _ _ _ _ _ _ _ _ _
   | exact vokref25_commas.mono _ _
   | exact vokref25_hex.mono _ _
   | exact vokref_Dec.mono _ _
   | exact LeO.none _
   | refine LeO.ite ?_ ?_
   | refine LeO.bind ?_ (fun _ => ?_)
theorem vokref25_Print.mono : ∀ a0 a1 a2 a3 a4 a5 a6 a7 k, LeO (vokref25_Print.f k a0 a1 a2 a3 a4 a5 a6 a7) (vokref25_Print.f (k + 1) a0 a1 a2 a3 a4 a5 a6 a7) := by
 intro a0 a1 a2 a3 a4 a5 a6 a7 k
 have ih0 := vokref25_Print.mono_l k
 unfold vokref25_Print.f
 repeat' first
   | (with_reducible exact ih0 _ _ _ _ _ _ _ _ _)
   | (with_reducible exact vokref25_commas.mono _ _)
   | (with_reducible exact vokref25_hex.mono _ _)
   | (with_reducible exact vokref_Dec.mono _ _)
   | (with_reducible exact LeO.refl _)
   | (with_reducible exact LeO.none _)
   | (with_reducible refine LeO.ite ?_ ?_)
   | (with_reducible refine LeO.bind ?_ (fun _ => ?_))
   | exact ih0 _ _ _ _ _ _ _ _ _
   | exact vokref25_commas.mono _ _
   | exact vokref25_hex.mono _ _
   | exact vokref_Dec.mono _ _
   | exact LeO.none _
   | refine LeO.ite ?_ ?_
   | refine LeO.bind ?_ (fun _ => ?_)
def vokref25_Print.T6 : Bool × List (List Nat × List Nat) := (true, [([], []), ([], []), ([1], [1]), ([2], [2]), ([0, 3], [0, 3]), ([4], [4]), ([], []), ([6], [6]), ([7, 3], [7]), ([5, 8], [5, 8]), ([9], [9]), ([], []), ([11], [11]), ([12, 8], [12]), ([10, 13], [10, 13]), ([14], [14]), ([], []), ([16], [16]), ([17, 13], [17]), ([15, 18], [15, 18]), ([19], [19]), ([], []), ([21], [21]), ([22, 18], [22]), ([20, 23], [20, 23]), ([24, 23, 0, 1, 2, 3, 4, 5, 6, 7, 8, 9, 10, 11, 12, 13, 14, 15, 16, 17, 18, 19, 20, 21, 22, 23, 24], [24])])
def vokref25_Print.B6 : List Nat := [0, 0, 2, 6, 15, 31, 0, 64, 206, 511, 1023, 0, 2048, 6606, 16383, 32767, 0, 65536, 211406, 524287, 1048575, 0, 2097152, 6765006, 16777215, 33554431]
theorem vokref25_Print.tab6 : rtab .any (opsOf Tryd.f9 6) = vokref25_Print.T6 := by kernel_rfl
theorem vokref25_Print.bits6 : waitsOk vokref25_Print.T6.2 vokref25_Print.B6 = true := by kernel_rfl
def vokref25_Print.T7 : Bool × List (List Nat × List Nat) := (true, [([], []), ([], []), ([1], [1]), ([2], [2]), ([0, 3], [0, 3]), ([4], [4]), ([], []), ([6], [6]), ([7, 3], [7]), ([5, 8], [5, 8]), ([9, 8, 0, 1, 2, 3, 4, 5, 6, 7, 8, 9], [9])])
def vokref25_Print.B7 : List Nat := [0, 0, 2, 6, 15, 31, 0, 64, 206, 511, 1023]
theorem vokref25_Print.tab7 : rtab .any (opsOf Tryd.f9 7) = vokref25_Print.T7 := by kernel_rfl
theorem vokref25_Print.bits7 : waitsOk vokref25_Print.T7.2 vokref25_Print.B7 = true := by kernel_rfl
set_option maxHeartbeats 8000000 in
set_option maxRecDepth 100000 in
theorem vokref25_Print.calls (k : Nat) (a0_0 : Int) (a0_1 : Int) (a0_2 : Int) (a0_3 : Int) (a0_4 : Int) (a0_5 : Int) (A0_6 : Option Addr) (c0_6 : Nat) (l0_6 : List Int) (A0_7 : Option Addr) (c0_7 : Nat) (l0_7 : List Int) (r : ByteArray) (w : World) (hr0_6 : Kd.C (Kd.int .i64) w A0_6 l0_6.length l0_6) (hc0_6 : l0_6.length ≤ c0_6) (hr0_7 : Kd.C (Kd.int .u8) w A0_7 l0_7.length l0_7) (hc0_7 : l0_7.length ≤ c0_7) (h : vokref25_Print.f k a0_0 a0_1 a0_2 a0_3 a0_4 a0_5 l0_6 l0_7 = some r) :
  Calls Tryd.prog 9 #[.agg #[.int .i64 a0_0, .int .i64 a0_1, .int .i64 a0_2, .int .i64 a0_3, .int .i64 a0_4, .int .i64 a0_5, .slice A0_6 l0_6.length c0_6, .slice A0_7 l0_7.length c0_7]] w fun e w' => e = .returned (.string r) ∧ Below w.heap.size w w' := by
 have hu34 := Tryd.underlying34
 have hu32 := Tryd.underlying32
 have HR0_6 := Aside0.mk hr0_6
 have HC0_6 := Aside0.mk hc0_6
 clear hr0_6 hc0_6
 have HR0_7 := Aside0.mk hr0_7
 have HC0_7 := Aside0.mk hc0_7
 clear hr0_7 hc0_7
 have HB := Aside0.mk (Below.refl w.heap.size w)
 have H : (if a0_0 < 1 then (vokref25_Print.j0 k true a0_0 a0_1 a0_2 a0_3 a0_4 a0_5 l0_6 l0_7) else (vokref25_Print.j0 k (decide (a0_0 > 8)) a0_0 a0_1 a0_2 a0_3 a0_4 a0_5 l0_6 l0_7)) = some r := h
 clear h
 have HC2 := Aside0.mk H
 clear H
 go_enter Tryd.func9, Tryd.ntmps9
 go_upto_region 1 with (first | ((with_reducible refine gate_dst (N := 1) rfl ?_); refine box_event ?hg (N := 1) ?hd (cs := #[.int .i64 a0_0, .int .i64 a0_1, .int .i64 a0_2, .int .i64 a0_3, .int .i64 a0_4, .int .i64 a0_5, .slice A0_6 l0_6.length c0_6, .slice A0_7 l0_7.length c0_7]) (t := 34) ?hr ?_; (case hd => rfl); (case hg => rfl); (case hr => first | (go_simp; done) | (go_simp; rfl)); intro gb337 hg w3 hbox hb; have n0_ := Aside0.mk (below_step (by repeat (first | (with_reducible first | exact HB.out | apply below_alloc | apply pw_below_drewN | apply below_drew1) | exact HB.out)) hb); have n1_ := Aside0.mk (hbox); have n2_ := Aside0.mk ((by rw [hg]; exact (below_size (by repeat (first | (with_reducible first | exact HB.out | apply below_alloc | apply pw_below_drewN | apply below_drew1) | exact HB.out))) : w.heap.size ≤ gb337)); have n3_ := Aside0.mk ((by rw [hg]; exact (below_size (by repeat (first | (with_reducible first | exact HB.out | apply below_alloc | apply pw_below_drewN | apply below_drew1) | exact HB.out))) : w.heap.size ≤ gb337)); clear HB; have HB := n0_; have BK337 := n1_; have GW337 := n2_; have GE337 := n3_; clear n0_ n1_ n2_ n3_; clear hb hbox hg))
 (try simp only [Act.put, List.setIfInBounds_toArray, List.set_cons_zero, List.set_cons_succ])
 go_cut [12] (fun v12 wc => ∃ (kq : Nat) (x12_1 : Bool), v12 = .bool x12_1 ∧ Aside0 (vokref25_Print.j0 kq x12_1 a0_0 a0_1 a0_2 a0_3 a0_4 a0_5 l0_6 l0_7 = some r) ∧ Aside0 (kq ≤ k) ∧ Aside0 (wc.heap[gb337]? = some (.cells #[.int .i64 a0_0, .int .i64 a0_1, .int .i64 a0_2, .int .i64 a0_3, .int .i64 a0_4, .int .i64 a0_5, (.slice A0_6 l0_6.length c0_6), (.slice A0_7 l0_7.length c0_7)] 34 (0, 0))) ∧ Aside0 (Below w.heap.size w wc))
 case first =>
  have H := HC2.out
  clear HC2
  by_cases c4 : a0_0 < 1
  ·rw [if_pos c4] at H
   have c4b0 : decide (a0_0 < 1) = true := decide_eq_true c4
   clear c4
   (first | rw [c4b0] | (simp only [i64_w, i32_w]; rw [c4b0]) | skip)
   have H' := Aside0.mk H
   clear H
   have hcz5_0 : w3.cell? ⟨gb337, 0, none⟩ = some (.int .i64 a0_0) := (blk_cell BK337.out 0).trans rfl
   have hcz5_1 : w3.cell? ⟨gb337, 1, none⟩ = some (.int .i64 a0_1) := (blk_cell BK337.out 1).trans rfl
   have hcz5_2 : w3.cell? ⟨gb337, 2, none⟩ = some (.int .i64 a0_2) := (blk_cell BK337.out 2).trans rfl
   have hcz5_3 : w3.cell? ⟨gb337, 3, none⟩ = some (.int .i64 a0_3) := (blk_cell BK337.out 3).trans rfl
   have hcz5_4 : w3.cell? ⟨gb337, 4, none⟩ = some (.int .i64 a0_4) := (blk_cell BK337.out 4).trans rfl
   have hcz5_5 : w3.cell? ⟨gb337, 5, none⟩ = some (.int .i64 a0_5) := (blk_cell BK337.out 5).trans rfl
   have hcz5_6 : w3.cell? ⟨gb337, 6, none⟩ = some (.slice A0_6 l0_6.length c0_6) := (blk_cell BK337.out 6).trans rfl
   have hcz5_7 : w3.cell? ⟨gb337, 7, none⟩ = some (.slice A0_7 l0_7.length c0_7) := (blk_cell BK337.out 7).trans rfl
   have hfz5_0 := blk_frozen BK337.out 0
   have hfz5_1 := blk_frozen BK337.out 1
   have hfz5_2 := blk_frozen BK337.out 2
   have hfz5_3 := blk_frozen BK337.out 3
   have hfz5_4 := blk_frozen BK337.out 4
   have hfz5_5 := blk_frozen BK337.out 5
   have hfz5_6 := blk_frozen BK337.out 6
   have hfz5_7 := blk_frozen BK337.out 7
   go_wp2
   go_meet
   case rel => exact ⟨_, (true), (by first | rfl | (simp; done) | (simp [*]; done)), H', ⟨by first | omega | exact Nat.le_refl _⟩, ⟨by (with_reducible repeat (first | refine blk_drewN ?_ _ | refine blk_drew ?_ | refine blk_alloc ?_ _)); exact BK337.out⟩, ⟨by repeat (first | (with_reducible first | exact HB.out | apply below_alloc | apply pw_below_drewN | apply below_drew1 | refine below_set ?_ GE337.out) | exact HB.out)⟩⟩
  ·rw [if_neg c4] at H
   have c4b0 : decide (a0_0 < 1) = false := decide_eq_false c4
   clear c4
   (first | rw [c4b0] | (simp only [i64_w, i32_w]; rw [c4b0]) | skip)
   have H' := Aside0.mk H
   clear H
   have hcz6_0 : w3.cell? ⟨gb337, 0, none⟩ = some (.int .i64 a0_0) := (blk_cell BK337.out 0).trans rfl
   have hcz6_1 : w3.cell? ⟨gb337, 1, none⟩ = some (.int .i64 a0_1) := (blk_cell BK337.out 1).trans rfl
   have hcz6_2 : w3.cell? ⟨gb337, 2, none⟩ = some (.int .i64 a0_2) := (blk_cell BK337.out 2).trans rfl
   have hcz6_3 : w3.cell? ⟨gb337, 3, none⟩ = some (.int .i64 a0_3) := (blk_cell BK337.out 3).trans rfl
   have hcz6_4 : w3.cell? ⟨gb337, 4, none⟩ = some (.int .i64 a0_4) := (blk_cell BK337.out 4).trans rfl
   have hcz6_5 : w3.cell? ⟨gb337, 5, none⟩ = some (.int .i64 a0_5) := (blk_cell BK337.out 5).trans rfl
   have hcz6_6 : w3.cell? ⟨gb337, 6, none⟩ = some (.slice A0_6 l0_6.length c0_6) := (blk_cell BK337.out 6).trans rfl
   have hcz6_7 : w3.cell? ⟨gb337, 7, none⟩ = some (.slice A0_7 l0_7.length c0_7) := (blk_cell BK337.out 7).trans rfl
   have hfz6_0 := blk_frozen BK337.out 0
   have hfz6_1 := blk_frozen BK337.out 1
   have hfz6_2 := blk_frozen BK337.out 2
   have hfz6_3 := blk_frozen BK337.out 3
   have hfz6_4 := blk_frozen BK337.out 4
   have hfz6_5 := blk_frozen BK337.out 5
   have hfz6_6 := blk_frozen BK337.out 6
   have hfz6_7 := blk_frozen BK337.out 7
   go_wp2
   go_meet
   case rel => exact ⟨_, (decide (a0_0 > 8)), (by first | rfl | (simp; done) | (simp [*]; done)), H', ⟨by first | omega | exact Nat.le_refl _⟩, ⟨by (with_reducible repeat (first | refine blk_drewN ?_ _ | refine blk_drew ?_ | refine blk_alloc ?_ _)); exact BK337.out⟩, ⟨by repeat (first | (with_reducible first | exact HB.out | apply below_alloc | apply pw_below_drewN | apply below_drew1 | refine below_set ?_ GE337.out) | exact HB.out)⟩⟩
 case rest =>
  clear HC2
  try clear p2
  try clear c4
  try clear c4b0
  try clear hcz5_0
  try clear hcz5_1
  try clear hcz5_2
  try clear hcz5_3
  try clear hcz5_4
  try clear hcz5_5
  try clear hcz5_6
  try clear hcz5_7
  try clear hcz6_0
  try clear hcz6_1
  try clear hcz6_2
  try clear hcz6_3
  try clear hcz6_4
  try clear hcz6_5
  try clear hcz6_6
  try clear hcz6_7
  try clear hfz5_0
  try clear hfz5_1
  try clear hfz5_2
  try clear hfz5_3
  try clear hfz5_4
  try clear hfz5_5
  try clear hfz5_6
  try clear hfz5_7
  try clear hfz6_0
  try clear hfz6_1
  try clear hfz6_2
  try clear hfz6_3
  try clear hfz6_4
  try clear hfz6_5
  try clear hfz6_6
  try clear hfz6_7
  obtain ⟨kq, x12_1, rfl, HA, HJ1, BK337, HB⟩ := hcut
  cases kq with
  | zero => exact absurd HA.out (by simp [vokref25_Print.j0])
  | succ kj1 =>
   have H := HA.out
   clear HA
   simp only [vokref25_Print.j0] at H
   by_cases c7 : x12_1 = true
   ·subst c7
    have H1 : (some (⟨#[63]⟩ : ByteArray)) = some r := by rw [if_pos rfl] at H; exact H
    clear H
    have H := H1
    clear H1
    obtain rfl := Option.some.inj H
    go_wp2
    go_ret
    exact ⟨by first | rfl | (simp [errW_none, errW_some] <;> rfl) | (simp [*, errW_none, errW_some] <;> rfl), by repeat (first | (with_reducible first | exact HB.out | apply below_alloc | apply pw_below_drewN | apply below_drew1 | refine below_set ?_ GE337.out) | exact HB.out)⟩
   ·replace c7 := Bool.eq_false_iff.mpr c7
    subst c7
    have H1 : ((vokref25_words.f).bind fun t338 => (if 0 ≤ a0_0 then (if a0_0 < (t338.length : Int) then (if (rdOf ByteArray.empty t338 a0_0).size + 1 ≤ 9223372036854775807 then (if a0_0 = 1 then ((vokref_Dec.f kj1 a0_3).bind fun t343 => (if ((rdOf ByteArray.empty t338 a0_0) ++ (⟨#[32]⟩ : ByteArray)).size + t343.size ≤ 9223372036854775807 then (if (((rdOf ByteArray.empty t338 a0_0) ++ (⟨#[32]⟩ : ByteArray)) ++ t343).size + 1 ≤ 9223372036854775807 then ((vokref_Dec.f kj1 a0_4).bind fun t344 => (if ((((rdOf ByteArray.empty t338 a0_0) ++ (⟨#[32]⟩ : ByteArray)) ++ t343) ++ (⟨#[32]⟩ : ByteArray)).size + t344.size ≤ 9223372036854775807 then (if (((((rdOf ByteArray.empty t338 a0_0) ++ (⟨#[32]⟩ : ByteArray)) ++ t343) ++ (⟨#[32]⟩ : ByteArray)) ++ t344).size + 1 ≤ 9223372036854775807 then ((vokref_Dec.f kj1 a0_5).bind fun t345 => (if ((((((rdOf ByteArray.empty t338 a0_0) ++ (⟨#[32]⟩ : ByteArray)) ++ t343) ++ (⟨#[32]⟩ : ByteArray)) ++ t344) ++ (⟨#[32]⟩ : ByteArray)).size + t345.size ≤ 9223372036854775807 then (if (((((((rdOf ByteArray.empty t338 a0_0) ++ (⟨#[32]⟩ : ByteArray)) ++ t343) ++ (⟨#[32]⟩ : ByteArray)) ++ t344) ++ (⟨#[32]⟩ : ByteArray)) ++ t345).size + 1 ≤ 9223372036854775807 then ((vokref25_commas.f kj1 l0_6).bind fun t346 => (if ((((((((rdOf ByteArray.empty t338 a0_0) ++ (⟨#[32]⟩ : ByteArray)) ++ t343) ++ (⟨#[32]⟩ : ByteArray)) ++ t344) ++ (⟨#[32]⟩ : ByteArray)) ++ t345) ++ (⟨#[32]⟩ : ByteArray)).size + t346.size ≤ 9223372036854775807 then (if (((((((((rdOf ByteArray.empty t338 a0_0) ++ (⟨#[32]⟩ : ByteArray)) ++ t343) ++ (⟨#[32]⟩ : ByteArray)) ++ t344) ++ (⟨#[32]⟩ : ByteArray)) ++ t345) ++ (⟨#[32]⟩ : ByteArray)) ++ t346).size + 1 ≤ 9223372036854775807 then ((vokref25_hex.f kj1 l0_7).bind fun t347 => (if ((((((((((rdOf ByteArray.empty t338 a0_0) ++ (⟨#[32]⟩ : ByteArray)) ++ t343) ++ (⟨#[32]⟩ : ByteArray)) ++ t344) ++ (⟨#[32]⟩ : ByteArray)) ++ t345) ++ (⟨#[32]⟩ : ByteArray)) ++ t346) ++ (⟨#[32]⟩ : ByteArray)).size + t347.size ≤ 9223372036854775807 then (some (((((((((((rdOf ByteArray.empty t338 a0_0) ++ (⟨#[32]⟩ : ByteArray)) ++ t343) ++ (⟨#[32]⟩ : ByteArray)) ++ t344) ++ (⟨#[32]⟩ : ByteArray)) ++ t345) ++ (⟨#[32]⟩ : ByteArray)) ++ t346) ++ (⟨#[32]⟩ : ByteArray)) ++ t347)) else (none))) else (none)) else (none))) else (none)) else (none))) else (none)) else (none))) else (none)) else (none))) else ((vokref_Dec.f kj1 a0_1).bind fun t348 => (if ((rdOf ByteArray.empty t338 a0_0) ++ (⟨#[32]⟩ : ByteArray)).size + t348.size ≤ 9223372036854775807 then (if (((rdOf ByteArray.empty t338 a0_0) ++ (⟨#[32]⟩ : ByteArray)) ++ t348).size + 1 ≤ 9223372036854775807 then ((vokref_Dec.f kj1 a0_2).bind fun t349 => (if ((((rdOf ByteArray.empty t338 a0_0) ++ (⟨#[32]⟩ : ByteArray)) ++ t348) ++ (⟨#[32]⟩ : ByteArray)).size + t349.size ≤ 9223372036854775807 then (some (((((rdOf ByteArray.empty t338 a0_0) ++ (⟨#[32]⟩ : ByteArray)) ++ t348) ++ (⟨#[32]⟩ : ByteArray)) ++ t349)) else (none))) else (none)) else (none)))) else (none)) else (none)) else (none))) = some r := by rw [if_neg (show ¬ (false = true) by decide)] at H; exact H
    clear H
    have H := H1
    clear H1
    replace H := Option.bind_eq_some_iff.mp H
    obtain ⟨t338, A80, H⟩ := H
    replace H : (if 0 ≤ a0_0 then (if a0_0 < (t338.length : Int) then (if (rdOf ByteArray.empty t338 a0_0).size + 1 ≤ 9223372036854775807 then (if a0_0 = 1 then ((vokref_Dec.f kj1 a0_3).bind fun t343 => (if ((rdOf ByteArray.empty t338 a0_0) ++ (⟨#[32]⟩ : ByteArray)).size + t343.size ≤ 9223372036854775807 then (if (((rdOf ByteArray.empty t338 a0_0) ++ (⟨#[32]⟩ : ByteArray)) ++ t343).size + 1 ≤ 9223372036854775807 then ((vokref_Dec.f kj1 a0_4).bind fun t344 => (if ((((rdOf ByteArray.empty t338 a0_0) ++ (⟨#[32]⟩ : ByteArray)) ++ t343) ++ (⟨#[32]⟩ : ByteArray)).size + t344.size ≤ 9223372036854775807 then (if (((((rdOf ByteArray.empty t338 a0_0) ++ (⟨#[32]⟩ : ByteArray)) ++ t343) ++ (⟨#[32]⟩ : ByteArray)) ++ t344).size + 1 ≤ 9223372036854775807 then ((vokref_Dec.f kj1 a0_5).bind fun t345 => (if ((((((rdOf ByteArray.empty t338 a0_0) ++ (⟨#[32]⟩ : ByteArray)) ++ t343) ++ (⟨#[32]⟩ : ByteArray)) ++ t344) ++ (⟨#[32]⟩ : ByteArray)).size + t345.size ≤ 9223372036854775807 then (if (((((((rdOf ByteArray.empty t338 a0_0) ++ (⟨#[32]⟩ : ByteArray)) ++ t343) ++ (⟨#[32]⟩ : ByteArray)) ++ t344) ++ (⟨#[32]⟩ : ByteArray)) ++ t345).size + 1 ≤ 9223372036854775807 then ((vokref25_commas.f kj1 l0_6).bind fun t346 => (if ((((((((rdOf ByteArray.empty t338 a0_0) ++ (⟨#[32]⟩ : ByteArray)) ++ t343) ++ (⟨#[32]⟩ : ByteArray)) ++ t344) ++ (⟨#[32]⟩ : ByteArray)) ++ t345) ++ (⟨#[32]⟩ : ByteArray)).size + t346.size ≤ 9223372036854775807 then (if (((((((((rdOf ByteArray.empty t338 a0_0) ++ (⟨#[32]⟩ : ByteArray)) ++ t343) ++ (⟨#[32]⟩ : ByteArray)) ++ t344) ++ (⟨#[32]⟩ : ByteArray)) ++ t345) ++ (⟨#[32]⟩ : ByteArray)) ++ t346).size + 1 ≤ 9223372036854775807 then ((vokref25_hex.f kj1 l0_7).bind fun t347 => (if ((((((((((rdOf ByteArray.empty t338 a0_0) ++ (⟨#[32]⟩ : ByteArray)) ++ t343) ++ (⟨#[32]⟩ : ByteArray)) ++ t344) ++ (⟨#[32]⟩ : ByteArray)) ++ t345) ++ (⟨#[32]⟩ : ByteArray)) ++ t346) ++ (⟨#[32]⟩ : ByteArray)).size + t347.size ≤ 9223372036854775807 then (some (((((((((((rdOf ByteArray.empty t338 a0_0) ++ (⟨#[32]⟩ : ByteArray)) ++ t343) ++ (⟨#[32]⟩ : ByteArray)) ++ t344) ++ (⟨#[32]⟩ : ByteArray)) ++ t345) ++ (⟨#[32]⟩ : ByteArray)) ++ t346) ++ (⟨#[32]⟩ : ByteArray)) ++ t347)) else (none))) else (none)) else (none))) else (none)) else (none))) else (none)) else (none))) else (none)) else (none))) else ((vokref_Dec.f kj1 a0_1).bind fun t348 => (if ((rdOf ByteArray.empty t338 a0_0) ++ (⟨#[32]⟩ : ByteArray)).size + t348.size ≤ 9223372036854775807 then (if (((rdOf ByteArray.empty t338 a0_0) ++ (⟨#[32]⟩ : ByteArray)) ++ t348).size + 1 ≤ 9223372036854775807 then ((vokref_Dec.f kj1 a0_2).bind fun t349 => (if ((((rdOf ByteArray.empty t338 a0_0) ++ (⟨#[32]⟩ : ByteArray)) ++ t348) ++ (⟨#[32]⟩ : ByteArray)).size + t349.size ≤ 9223372036854775807 then (some (((((rdOf ByteArray.empty t338 a0_0) ++ (⟨#[32]⟩ : ByteArray)) ++ t348) ++ (⟨#[32]⟩ : ByteArray)) ++ t349)) else (none))) else (none)) else (none)))) else (none)) else (none)) else (none)) = some r := H
    have A8 := Aside0.mk A80
    clear A80
    by_cases c9 : 0 ≤ a0_0
    ·rw [if_pos c9] at H
     have c9b0 : decide (0 ≤ a0_0) = true := decide_eq_true c9
     clear c9
     by_cases c10 : a0_0 < (t338.length : Int)
     ·rw [if_pos c10] at H
      have c10b0 : decide (a0_0 < (t338.length : Int)) = true := decide_eq_true c10
      clear c10
      by_cases c11 : (rdOf ByteArray.empty t338 a0_0).size + 1 ≤ 9223372036854775807
      ·rw [if_pos c11] at H
       have c11b0 := eq_true c11
       have c11b1 : decide ((rdOf ByteArray.empty t338 a0_0).size + 1 ≤ 9223372036854775807) = true := decide_eq_true c11
       try have c11b2 : (9223372036854775807 < (rdOf ByteArray.empty t338 a0_0).size + 1) = False := eq_false (Nat.not_lt.2 c11)
       by_cases c12 : a0_0 = 1
       ·rw [if_pos c12] at H
        have c12b0 : (a0_0 == 1) = true := beq_iff_eq.mpr c12
        have c12b1 : (a0_0 != 1) = false := bne_eq_false_iff_eq.mpr c12
        clear c12
        replace H := Option.bind_eq_some_iff.mp H
        obtain ⟨t343, A130, H⟩ := H
        replace H : (if ((rdOf ByteArray.empty t338 a0_0) ++ (⟨#[32]⟩ : ByteArray)).size + t343.size ≤ 9223372036854775807 then (if (((rdOf ByteArray.empty t338 a0_0) ++ (⟨#[32]⟩ : ByteArray)) ++ t343).size + 1 ≤ 9223372036854775807 then ((vokref_Dec.f kj1 a0_4).bind fun t344 => (if ((((rdOf ByteArray.empty t338 a0_0) ++ (⟨#[32]⟩ : ByteArray)) ++ t343) ++ (⟨#[32]⟩ : ByteArray)).size + t344.size ≤ 9223372036854775807 then (if (((((rdOf ByteArray.empty t338 a0_0) ++ (⟨#[32]⟩ : ByteArray)) ++ t343) ++ (⟨#[32]⟩ : ByteArray)) ++ t344).size + 1 ≤ 9223372036854775807 then ((vokref_Dec.f kj1 a0_5).bind fun t345 => (if ((((((rdOf ByteArray.empty t338 a0_0) ++ (⟨#[32]⟩ : ByteArray)) ++ t343) ++ (⟨#[32]⟩ : ByteArray)) ++ t344) ++ (⟨#[32]⟩ : ByteArray)).size + t345.size ≤ 9223372036854775807 then (if (((((((rdOf ByteArray.empty t338 a0_0) ++ (⟨#[32]⟩ : ByteArray)) ++ t343) ++ (⟨#[32]⟩ : ByteArray)) ++ t344) ++ (⟨#[32]⟩ : ByteArray)) ++ t345).size + 1 ≤ 9223372036854775807 then ((vokref25_commas.f kj1 l0_6).bind fun t346 => (if ((((((((rdOf ByteArray.empty t338 a0_0) ++ (⟨#[32]⟩ : ByteArray)) ++ t343) ++ (⟨#[32]⟩ : ByteArray)) ++ t344) ++ (⟨#[32]⟩ : ByteArray)) ++ t345) ++ (⟨#[32]⟩ : ByteArray)).size + t346.size ≤ 9223372036854775807 then (if (((((((((rdOf ByteArray.empty t338 a0_0) ++ (⟨#[32]⟩ : ByteArray)) ++ t343) ++ (⟨#[32]⟩ : ByteArray)) ++ t344) ++ (⟨#[32]⟩ : ByteArray)) ++ t345) ++ (⟨#[32]⟩ : ByteArray)) ++ t346).size + 1 ≤ 9223372036854775807 then ((vokref25_hex.f kj1 l0_7).bind fun t347 => (if ((((((((((rdOf ByteArray.empty t338 a0_0) ++ (⟨#[32]⟩ : ByteArray)) ++ t343) ++ (⟨#[32]⟩ : ByteArray)) ++ t344) ++ (⟨#[32]⟩ : ByteArray)) ++ t345) ++ (⟨#[32]⟩ : ByteArray)) ++ t346) ++ (⟨#[32]⟩ : ByteArray)).size + t347.size ≤ 9223372036854775807 then (some (((((((((((rdOf ByteArray.empty t338 a0_0) ++ (⟨#[32]⟩ : ByteArray)) ++ t343) ++ (⟨#[32]⟩ : ByteArray)) ++ t344) ++ (⟨#[32]⟩ : ByteArray)) ++ t345) ++ (⟨#[32]⟩ : ByteArray)) ++ t346) ++ (⟨#[32]⟩ : ByteArray)) ++ t347)) else (none))) else (none)) else (none))) else (none)) else (none))) else (none)) else (none))) else (none)) else (none)) = some r := H
        have A13 := Aside0.mk A130
        clear A130
        by_cases c14 : ((rdOf ByteArray.empty t338 a0_0) ++ (⟨#[32]⟩ : ByteArray)).size + t343.size ≤ 9223372036854775807
        ·rw [if_pos c14] at H
         have c14b0 := eq_true c14
         have c14b1 : decide (((rdOf ByteArray.empty t338 a0_0) ++ (⟨#[32]⟩ : ByteArray)).size + t343.size ≤ 9223372036854775807) = true := decide_eq_true c14
         try have c14b2 : (9223372036854775807 < ((rdOf ByteArray.empty t338 a0_0) ++ (⟨#[32]⟩ : ByteArray)).size + t343.size) = False := eq_false (Nat.not_lt.2 c14)
         try have c14b3 : (9223372036854775807 < (rdOf ByteArray.empty t338 a0_0).size + 1 + t343.size) = False := by have hz_ := c14b2; simp only [ByteArray.size_append] at hz_; exact hz_
         by_cases c15 : (((rdOf ByteArray.empty t338 a0_0) ++ (⟨#[32]⟩ : ByteArray)) ++ t343).size + 1 ≤ 9223372036854775807
         ·rw [if_pos c15] at H
          have c15b0 := eq_true c15
          have c15b1 : decide ((((rdOf ByteArray.empty t338 a0_0) ++ (⟨#[32]⟩ : ByteArray)) ++ t343).size + 1 ≤ 9223372036854775807) = true := decide_eq_true c15
          try have c15b2 : (9223372036854775807 < (((rdOf ByteArray.empty t338 a0_0) ++ (⟨#[32]⟩ : ByteArray)) ++ t343).size + 1) = False := eq_false (Nat.not_lt.2 c15)
          try have c15b3 : (9223372036854775807 < (rdOf ByteArray.empty t338 a0_0).size + 1 + t343.size + 1) = False := by have hz_ := c15b2; simp only [ByteArray.size_append] at hz_; exact hz_
          replace H := Option.bind_eq_some_iff.mp H
          obtain ⟨t344, A160, H⟩ := H
          replace H : (if ((((rdOf ByteArray.empty t338 a0_0) ++ (⟨#[32]⟩ : ByteArray)) ++ t343) ++ (⟨#[32]⟩ : ByteArray)).size + t344.size ≤ 9223372036854775807 then (if (((((rdOf ByteArray.empty t338 a0_0) ++ (⟨#[32]⟩ : ByteArray)) ++ t343) ++ (⟨#[32]⟩ : ByteArray)) ++ t344).size + 1 ≤ 9223372036854775807 then ((vokref_Dec.f kj1 a0_5).bind fun t345 => (if ((((((rdOf ByteArray.empty t338 a0_0) ++ (⟨#[32]⟩ : ByteArray)) ++ t343) ++ (⟨#[32]⟩ : ByteArray)) ++ t344) ++ (⟨#[32]⟩ : ByteArray)).size + t345.size ≤ 9223372036854775807 then (if (((((((rdOf ByteArray.empty t338 a0_0) ++ (⟨#[32]⟩ : ByteArray)) ++ t343) ++ (⟨#[32]⟩ : ByteArray)) ++ t344) ++ (⟨#[32]⟩ : ByteArray)) ++ t345).size + 1 ≤ 9223372036854775807 then ((vokref25_commas.f kj1 l0_6).bind fun t346 => (if ((((((((rdOf ByteArray.empty t338 a0_0) ++ (⟨#[32]⟩ : ByteArray)) ++ t343) ++ (⟨#[32]⟩ : ByteArray)) ++ t344) ++ (⟨#[32]⟩ : ByteArray)) ++ t345) ++ (⟨#[32]⟩ : ByteArray)).size + t346.size ≤ 9223372036854775807 then (if (((((((((rdOf ByteArray.empty t338 a0_0) ++ (⟨#[32]⟩ : ByteArray)) ++ t343) ++ (⟨#[32]⟩ : ByteArray)) ++ t344) ++ (⟨#[32]⟩ : ByteArray)) ++ t345) ++ (⟨#[32]⟩ : ByteArray)) ++ t346).size + 1 ≤ 9223372036854775807 then ((vokref25_hex.f kj1 l0_7).bind fun t347 => (if ((((((((((rdOf ByteArray.empty t338 a0_0) ++ (⟨#[32]⟩ : ByteArray)) ++ t343) ++ (⟨#[32]⟩ : ByteArray)) ++ t344) ++ (⟨#[32]⟩ : ByteArray)) ++ t345) ++ (⟨#[32]⟩ : ByteArray)) ++ t346) ++ (⟨#[32]⟩ : ByteArray)).size + t347.size ≤ 9223372036854775807 then (some (((((((((((rdOf ByteArray.empty t338 a0_0) ++ (⟨#[32]⟩ : ByteArray)) ++ t343) ++ (⟨#[32]⟩ : ByteArray)) ++ t344) ++ (⟨#[32]⟩ : ByteArray)) ++ t345) ++ (⟨#[32]⟩ : ByteArray)) ++ t346) ++ (⟨#[32]⟩ : ByteArray)) ++ t347)) else (none))) else (none)) else (none))) else (none)) else (none))) else (none)) else (none)) = some r := H
          have A16 := Aside0.mk A160
          clear A160
          by_cases c17 : ((((rdOf ByteArray.empty t338 a0_0) ++ (⟨#[32]⟩ : ByteArray)) ++ t343) ++ (⟨#[32]⟩ : ByteArray)).size + t344.size ≤ 9223372036854775807
          ·rw [if_pos c17] at H
           have c17b0 := eq_true c17
           have c17b1 : decide (((((rdOf ByteArray.empty t338 a0_0) ++ (⟨#[32]⟩ : ByteArray)) ++ t343) ++ (⟨#[32]⟩ : ByteArray)).size + t344.size ≤ 9223372036854775807) = true := decide_eq_true c17
           try have c17b2 : (9223372036854775807 < ((((rdOf ByteArray.empty t338 a0_0) ++ (⟨#[32]⟩ : ByteArray)) ++ t343) ++ (⟨#[32]⟩ : ByteArray)).size + t344.size) = False := eq_false (Nat.not_lt.2 c17)
           try have c17b3 : (9223372036854775807 < (rdOf ByteArray.empty t338 a0_0).size + 1 + t343.size + 1 + t344.size) = False := by have hz_ := c17b2; simp only [ByteArray.size_append] at hz_; exact hz_
           by_cases c18 : (((((rdOf ByteArray.empty t338 a0_0) ++ (⟨#[32]⟩ : ByteArray)) ++ t343) ++ (⟨#[32]⟩ : ByteArray)) ++ t344).size + 1 ≤ 9223372036854775807
           ·rw [if_pos c18] at H
            have c18b0 := eq_true c18
            have c18b1 : decide ((((((rdOf ByteArray.empty t338 a0_0) ++ (⟨#[32]⟩ : ByteArray)) ++ t343) ++ (⟨#[32]⟩ : ByteArray)) ++ t344).size + 1 ≤ 9223372036854775807) = true := decide_eq_true c18
            try have c18b2 : (9223372036854775807 < (((((rdOf ByteArray.empty t338 a0_0) ++ (⟨#[32]⟩ : ByteArray)) ++ t343) ++ (⟨#[32]⟩ : ByteArray)) ++ t344).size + 1) = False := eq_false (Nat.not_lt.2 c18)
            try have c18b3 : (9223372036854775807 < (rdOf ByteArray.empty t338 a0_0).size + 1 + t343.size + 1 + t344.size + 1) = False := by have hz_ := c18b2; simp only [ByteArray.size_append] at hz_; exact hz_
            replace H := Option.bind_eq_some_iff.mp H
            obtain ⟨t345, A190, H⟩ := H
            replace H : (if ((((((rdOf ByteArray.empty t338 a0_0) ++ (⟨#[32]⟩ : ByteArray)) ++ t343) ++ (⟨#[32]⟩ : ByteArray)) ++ t344) ++ (⟨#[32]⟩ : ByteArray)).size + t345.size ≤ 9223372036854775807 then (if (((((((rdOf ByteArray.empty t338 a0_0) ++ (⟨#[32]⟩ : ByteArray)) ++ t343) ++ (⟨#[32]⟩ : ByteArray)) ++ t344) ++ (⟨#[32]⟩ : ByteArray)) ++ t345).size + 1 ≤ 9223372036854775807 then ((vokref25_commas.f kj1 l0_6).bind fun t346 => (if ((((((((rdOf ByteArray.empty t338 a0_0) ++ (⟨#[32]⟩ : ByteArray)) ++ t343) ++ (⟨#[32]⟩ : ByteArray)) ++ t344) ++ (⟨#[32]⟩ : ByteArray)) ++ t345) ++ (⟨#[32]⟩ : ByteArray)).size + t346.size ≤ 9223372036854775807 then (if (((((((((rdOf ByteArray.empty t338 a0_0) ++ (⟨#[32]⟩ : ByteArray)) ++ t343) ++ (⟨#[32]⟩ : ByteArray)) ++ t344) ++ (⟨#[32]⟩ : ByteArray)) ++ t345) ++ (⟨#[32]⟩ : ByteArray)) ++ t346).size + 1 ≤ 9223372036854775807 then ((vokref25_hex.f kj1 l0_7).bind fun t347 => (if ((((((((((rdOf ByteArray.empty t338 a0_0) ++ (⟨#[32]⟩ : ByteArray)) ++ t343) ++ (⟨#[32]⟩ : ByteArray)) ++ t344) ++ (⟨#[32]⟩ : ByteArray)) ++ t345) ++ (⟨#[32]⟩ : ByteArray)) ++ t346) ++ (⟨#[32]⟩ : ByteArray)).size + t347.size ≤ 9223372036854775807 then (some (((((((((((rdOf ByteArray.empty t338 a0_0) ++ (⟨#[32]⟩ : ByteArray)) ++ t343) ++ (⟨#[32]⟩ : ByteArray)) ++ t344) ++ (⟨#[32]⟩ : ByteArray)) ++ t345) ++ (⟨#[32]⟩ : ByteArray)) ++ t346) ++ (⟨#[32]⟩ : ByteArray)) ++ t347)) else (none))) else (none)) else (none))) else (none)) else (none)) = some r := H
            have A19 := Aside0.mk A190
            clear A190
            by_cases c20 : ((((((rdOf ByteArray.empty t338 a0_0) ++ (⟨#[32]⟩ : ByteArray)) ++ t343) ++ (⟨#[32]⟩ : ByteArray)) ++ t344) ++ (⟨#[32]⟩ : ByteArray)).size + t345.size ≤ 9223372036854775807
            ·rw [if_pos c20] at H
             have c20b0 := eq_true c20
             have c20b1 : decide (((((((rdOf ByteArray.empty t338 a0_0) ++ (⟨#[32]⟩ : ByteArray)) ++ t343) ++ (⟨#[32]⟩ : ByteArray)) ++ t344) ++ (⟨#[32]⟩ : ByteArray)).size + t345.size ≤ 9223372036854775807) = true := decide_eq_true c20
             try have c20b2 : (9223372036854775807 < ((((((rdOf ByteArray.empty t338 a0_0) ++ (⟨#[32]⟩ : ByteArray)) ++ t343) ++ (⟨#[32]⟩ : ByteArray)) ++ t344) ++ (⟨#[32]⟩ : ByteArray)).size + t345.size) = False := eq_false (Nat.not_lt.2 c20)
             try have c20b3 : (9223372036854775807 < (rdOf ByteArray.empty t338 a0_0).size + 1 + t343.size + 1 + t344.size + 1 + t345.size) = False := by have hz_ := c20b2; simp only [ByteArray.size_append] at hz_; exact hz_
             by_cases c21 : (((((((rdOf ByteArray.empty t338 a0_0) ++ (⟨#[32]⟩ : ByteArray)) ++ t343) ++ (⟨#[32]⟩ : ByteArray)) ++ t344) ++ (⟨#[32]⟩ : ByteArray)) ++ t345).size + 1 ≤ 9223372036854775807
             ·rw [if_pos c21] at H
              have c21b0 := eq_true c21
              have c21b1 : decide ((((((((rdOf ByteArray.empty t338 a0_0) ++ (⟨#[32]⟩ : ByteArray)) ++ t343) ++ (⟨#[32]⟩ : ByteArray)) ++ t344) ++ (⟨#[32]⟩ : ByteArray)) ++ t345).size + 1 ≤ 9223372036854775807) = true := decide_eq_true c21
              try have c21b2 : (9223372036854775807 < (((((((rdOf ByteArray.empty t338 a0_0) ++ (⟨#[32]⟩ : ByteArray)) ++ t343) ++ (⟨#[32]⟩ : ByteArray)) ++ t344) ++ (⟨#[32]⟩ : ByteArray)) ++ t345).size + 1) = False := eq_false (Nat.not_lt.2 c21)
              try have c21b3 : (9223372036854775807 < (rdOf ByteArray.empty t338 a0_0).size + 1 + t343.size + 1 + t344.size + 1 + t345.size + 1) = False := by have hz_ := c21b2; simp only [ByteArray.size_append] at hz_; exact hz_
              replace H := Option.bind_eq_some_iff.mp H
              obtain ⟨t346, A220, H⟩ := H
              replace H : (if ((((((((rdOf ByteArray.empty t338 a0_0) ++ (⟨#[32]⟩ : ByteArray)) ++ t343) ++ (⟨#[32]⟩ : ByteArray)) ++ t344) ++ (⟨#[32]⟩ : ByteArray)) ++ t345) ++ (⟨#[32]⟩ : ByteArray)).size + t346.size ≤ 9223372036854775807 then (if (((((((((rdOf ByteArray.empty t338 a0_0) ++ (⟨#[32]⟩ : ByteArray)) ++ t343) ++ (⟨#[32]⟩ : ByteArray)) ++ t344) ++ (⟨#[32]⟩ : ByteArray)) ++ t345) ++ (⟨#[32]⟩ : ByteArray)) ++ t346).size + 1 ≤ 9223372036854775807 then ((vokref25_hex.f kj1 l0_7).bind fun t347 => (if ((((((((((rdOf ByteArray.empty t338 a0_0) ++ (⟨#[32]⟩ : ByteArray)) ++ t343) ++ (⟨#[32]⟩ : ByteArray)) ++ t344) ++ (⟨#[32]⟩ : ByteArray)) ++ t345) ++ (⟨#[32]⟩ : ByteArray)) ++ t346) ++ (⟨#[32]⟩ : ByteArray)).size + t347.size ≤ 9223372036854775807 then (some (((((((((((rdOf ByteArray.empty t338 a0_0) ++ (⟨#[32]⟩ : ByteArray)) ++ t343) ++ (⟨#[32]⟩ : ByteArray)) ++ t344) ++ (⟨#[32]⟩ : ByteArray)) ++ t345) ++ (⟨#[32]⟩ : ByteArray)) ++ t346) ++ (⟨#[32]⟩ : ByteArray)) ++ t347)) else (none))) else (none)) else (none)) = some r := H
              have A22 := Aside0.mk A220
              clear A220
              by_cases c23 : ((((((((rdOf ByteArray.empty t338 a0_0) ++ (⟨#[32]⟩ : ByteArray)) ++ t343) ++ (⟨#[32]⟩ : ByteArray)) ++ t344) ++ (⟨#[32]⟩ : ByteArray)) ++ t345) ++ (⟨#[32]⟩ : ByteArray)).size + t346.size ≤ 9223372036854775807
              ·rw [if_pos c23] at H
               have c23b0 := eq_true c23
               have c23b1 : decide (((((((((rdOf ByteArray.empty t338 a0_0) ++ (⟨#[32]⟩ : ByteArray)) ++ t343) ++ (⟨#[32]⟩ : ByteArray)) ++ t344) ++ (⟨#[32]⟩ : ByteArray)) ++ t345) ++ (⟨#[32]⟩ : ByteArray)).size + t346.size ≤ 9223372036854775807) = true := decide_eq_true c23
               try have c23b2 : (9223372036854775807 < ((((((((rdOf ByteArray.empty t338 a0_0) ++ (⟨#[32]⟩ : ByteArray)) ++ t343) ++ (⟨#[32]⟩ : ByteArray)) ++ t344) ++ (⟨#[32]⟩ : ByteArray)) ++ t345) ++ (⟨#[32]⟩ : ByteArray)).size + t346.size) = False := eq_false (Nat.not_lt.2 c23)
               try have c23b3 : (9223372036854775807 < (rdOf ByteArray.empty t338 a0_0).size + 1 + t343.size + 1 + t344.size + 1 + t345.size + 1 + t346.size) = False := by have hz_ := c23b2; simp only [ByteArray.size_append] at hz_; exact hz_
               by_cases c24 : (((((((((rdOf ByteArray.empty t338 a0_0) ++ (⟨#[32]⟩ : ByteArray)) ++ t343) ++ (⟨#[32]⟩ : ByteArray)) ++ t344) ++ (⟨#[32]⟩ : ByteArray)) ++ t345) ++ (⟨#[32]⟩ : ByteArray)) ++ t346).size + 1 ≤ 9223372036854775807
               ·rw [if_pos c24] at H
                have c24b0 := eq_true c24
                have c24b1 : decide ((((((((((rdOf ByteArray.empty t338 a0_0) ++ (⟨#[32]⟩ : ByteArray)) ++ t343) ++ (⟨#[32]⟩ : ByteArray)) ++ t344) ++ (⟨#[32]⟩ : ByteArray)) ++ t345) ++ (⟨#[32]⟩ : ByteArray)) ++ t346).size + 1 ≤ 9223372036854775807) = true := decide_eq_true c24
                try have c24b2 : (9223372036854775807 < (((((((((rdOf ByteArray.empty t338 a0_0) ++ (⟨#[32]⟩ : ByteArray)) ++ t343) ++ (⟨#[32]⟩ : ByteArray)) ++ t344) ++ (⟨#[32]⟩ : ByteArray)) ++ t345) ++ (⟨#[32]⟩ : ByteArray)) ++ t346).size + 1) = False := eq_false (Nat.not_lt.2 c24)
                try have c24b3 : (9223372036854775807 < (rdOf ByteArray.empty t338 a0_0).size + 1 + t343.size + 1 + t344.size + 1 + t345.size + 1 + t346.size + 1) = False := by have hz_ := c24b2; simp only [ByteArray.size_append] at hz_; exact hz_
                replace H := Option.bind_eq_some_iff.mp H
                obtain ⟨t347, A250, H⟩ := H
                replace H : (if ((((((((((rdOf ByteArray.empty t338 a0_0) ++ (⟨#[32]⟩ : ByteArray)) ++ t343) ++ (⟨#[32]⟩ : ByteArray)) ++ t344) ++ (⟨#[32]⟩ : ByteArray)) ++ t345) ++ (⟨#[32]⟩ : ByteArray)) ++ t346) ++ (⟨#[32]⟩ : ByteArray)).size + t347.size ≤ 9223372036854775807 then (some (((((((((((rdOf ByteArray.empty t338 a0_0) ++ (⟨#[32]⟩ : ByteArray)) ++ t343) ++ (⟨#[32]⟩ : ByteArray)) ++ t344) ++ (⟨#[32]⟩ : ByteArray)) ++ t345) ++ (⟨#[32]⟩ : ByteArray)) ++ t346) ++ (⟨#[32]⟩ : ByteArray)) ++ t347)) else (none)) = some r := H
                have A25 := Aside0.mk A250
                clear A250
                by_cases c26 : ((((((((((rdOf ByteArray.empty t338 a0_0) ++ (⟨#[32]⟩ : ByteArray)) ++ t343) ++ (⟨#[32]⟩ : ByteArray)) ++ t344) ++ (⟨#[32]⟩ : ByteArray)) ++ t345) ++ (⟨#[32]⟩ : ByteArray)) ++ t346) ++ (⟨#[32]⟩ : ByteArray)).size + t347.size ≤ 9223372036854775807
                ·rw [if_pos c26] at H
                 have c26b0 := eq_true c26
                 have c26b1 : decide (((((((((((rdOf ByteArray.empty t338 a0_0) ++ (⟨#[32]⟩ : ByteArray)) ++ t343) ++ (⟨#[32]⟩ : ByteArray)) ++ t344) ++ (⟨#[32]⟩ : ByteArray)) ++ t345) ++ (⟨#[32]⟩ : ByteArray)) ++ t346) ++ (⟨#[32]⟩ : ByteArray)).size + t347.size ≤ 9223372036854775807) = true := decide_eq_true c26
                 try have c26b2 : (9223372036854775807 < ((((((((((rdOf ByteArray.empty t338 a0_0) ++ (⟨#[32]⟩ : ByteArray)) ++ t343) ++ (⟨#[32]⟩ : ByteArray)) ++ t344) ++ (⟨#[32]⟩ : ByteArray)) ++ t345) ++ (⟨#[32]⟩ : ByteArray)) ++ t346) ++ (⟨#[32]⟩ : ByteArray)).size + t347.size) = False := eq_false (Nat.not_lt.2 c26)
                 try have c26b3 : (9223372036854775807 < (rdOf ByteArray.empty t338 a0_0).size + 1 + t343.size + 1 + t344.size + 1 + t345.size + 1 + t346.size + 1 + t347.size) = False := by have hz_ := c26b2; simp only [ByteArray.size_append] at hz_; exact hz_
                 obtain rfl := Option.some.inj H
                 try go_wp2
                 have n0_ := Aside0.mk (blk_drew BK337.out)
                 have n1_ := Aside0.mk (below_drew1 HB.out)
                 clear BK337
                 clear HB
                 have BK337 := n0_
                 have HB := n1_
                 clear n0_ n1_
                 refine start_ (n := 7) (S := fun w' => w'.cell? ⟨gb337, 0, none⟩ = some (.int .i64 a0_0) ∧ w'.cell? ⟨gb337, 1, none⟩ = some (.int .i64 a0_1) ∧ w'.cell? ⟨gb337, 2, none⟩ = some (.int .i64 a0_2) ∧ w'.cell? ⟨gb337, 3, none⟩ = some (.int .i64 a0_3) ∧ w'.cell? ⟨gb337, 4, none⟩ = some (.int .i64 a0_4) ∧ w'.cell? ⟨gb337, 5, none⟩ = some (.int .i64 a0_5) ∧ w'.cell? ⟨gb337, 6, none⟩ = some (.slice A0_6 l0_6.length c0_6) ∧ w'.cell? ⟨gb337, 7, none⟩ = some (.slice A0_7 l0_7.length c0_7)) (ds := []) #[false, false, false, false, false, false, false] (by kernel_rfl) rfl rfl ⟨(blk_cell BK337.out 0).trans rfl, (blk_cell BK337.out 1).trans rfl, (blk_cell BK337.out 2).trans rfl, (blk_cell BK337.out 3).trans rfl, (blk_cell BK337.out 4).trans rfl, (blk_cell BK337.out 5).trans rfl, (blk_cell BK337.out 6).trans rfl, (blk_cell BK337.out 7).trans rfl⟩ (fun hHeld => ?_)
                 generalize wc.drew = w27 at BK337 HB hHeld ⊢
                 refine pure_ (i := 1) (N := some 14) (v := ?_) (a' := ?_) #[false, true, false, false, false, false, false] rfl rfl (by kernel_rfl) (fun _ _ _ h => h) (Or.inl ⟨by rfl, ?_⟩) ?_ ?_
                 rotate_left
                 ·intro w'
                  go_simp
                  with_reducible rfl
                 rotate_left
                 ·simp only [Act.put, List.setIfInBounds_toArray, List.set_cons_zero, List.set_cons_succ, i64_w, i32_w]
                  rfl
                 refine take_ (i := 2) (N := some 15) (v := ?_) (a' := ?_) #[false, true, true, false, false, false, false] rfl rfl (by kernel_rfl) (fun _ _ _ h => h) (Or.inl ⟨by rfl, ?_⟩) hHeld ?_ ?_
                 rotate_left
                 ·rintro w' ⟨s0, s1, s2, s3, s4, s5, s6, s7⟩
                  go_simp
                  with_reducible rfl
                 rotate_left
                 ·simp only [Act.put, List.setIfInBounds_toArray, List.set_cons_zero, List.set_cons_succ, i64_w, i32_w]
                  rfl
                 refine one_ (i := 0) (N := some 13) #[true, true, true, false, false, false, false] rfl rfl (by kernel_rfl) (by decide) (fun K hK => ?_)
                 refine goes_ Tryd.func16 (by kernel_rfl) rfl #[] (by rfl) rfl rfl (by (try simp only [List.map_toArray, List.map_cons, List.map_nil]); first | done | rfl | (simp only [List.length_drop, List.length_take]; rfl)) ?_
                 with_reducible refine (vokref25_words.calls  t338 _ A8.out).mono ?_
                 rintro e w28 ⟨v339, rfl, ho0, hb⟩
                 refine ⟨_, rfl, ?_⟩
                 have n0_ := Aside0.mk (Kd.R_lower ho0 (below_size (by repeat (first | (with_reducible first | exact HB.out | apply below_alloc | apply pw_below_drewN | apply below_drew1 | refine below_set ?_ GE337.out) | exact HB.out))))
                 have n1_ := Aside0.mk (blk_below (g := gb337) (o := .cells #[.int .i64 a0_0, .int .i64 a0_1, .int .i64 a0_2, .int .i64 a0_3, .int .i64 a0_4, .int .i64 a0_5, .slice A0_6 l0_6.length c0_6, .slice A0_7 l0_7.length c0_7] 34 (0, 0)) (by (with_reducible repeat (first | refine blk_drewN ?_ _ | refine blk_drew ?_ | refine blk_alloc ?_ _)); exact BK337.out) hb)
                 have n2_ := Aside0.mk (below_step (by repeat (first | (with_reducible first | exact HB.out | apply below_alloc | apply pw_below_drewN | apply below_drew1 | refine below_set ?_ GE337.out) | exact HB.out)) hb)
                 clear BK337
                 clear HB
                 have HO340 := n0_
                 have BK337 := n1_
                 have HB := n2_
                 clear n0_ n1_ n2_
                 (try clear hb)
                 (try clear hb2)
                 (try clear hk)
                 (try clear hi)
                 (try clear ho0)
                 obtain ⟨Ao29, co29, eo29⟩ := Kd.R_slice HO340.out
                 (first | subst eo29 | (injection eo29 with f1_ f2_ f3_; have f4_ := f1_.symm; have f5_ := f3_.symm; clear f1_ f2_ f3_; subst f4_; subst f5_))
                 have p341 : 0 ≤ (a0_0 : Int) := of_decide_eq_true (by first | (with_reducible assumption) | assumption)
                 have q341 : a0_0 < (t338.length : Int) := of_decide_eq_true (by first | (with_reducible assumption) | assumption)
                 obtain ⟨ad341, e341, hx341_0⟩ := Kd.at_string (Kd.R_reads' HO340.out).2.2 a0_0 p341 q341
                 cases e341
                 replace p341 := eq_true p341
                 replace q341 := eq_true q341
                 refine hK.out _ _ ⟨(blk_cell BK337.out 0).trans rfl, (blk_cell BK337.out 1).trans rfl, (blk_cell BK337.out 2).trans rfl, (blk_cell BK337.out 3).trans rfl, (blk_cell BK337.out 4).trans rfl, (blk_cell BK337.out 5).trans rfl, (blk_cell BK337.out 6).trans rfl, (blk_cell BK337.out 7).trans rfl⟩ (fun hHeld => ?_)
                 clear hK K
                 refine norm_ (a' := ?_) ?_ ?_
                 rotate_left
                 ·show Act.put _ (some 13) _ = _
                  simp only [Act.put, List.setIfInBounds_toArray, List.set_cons_zero, List.set_cons_succ, i64_w, i32_w]
                  rfl
                 refine pure_ (i := 3) (N := some 16) (v := ?_) (a' := ?_) #[true, true, true, true, false, false, false] rfl rfl (by kernel_rfl) (fun _ _ _ h => h) (Or.inl ⟨by rfl, ?_⟩) ?_ ?_
                 rotate_left
                 ·intro w'
                  go_simp
                  with_reducible rfl
                 rotate_left
                 ·simp only [Act.put, List.setIfInBounds_toArray, List.set_cons_zero, List.set_cons_succ, i64_w, i32_w]
                  rfl
                 refine one_ (i := 4) (N := some 17) #[true, true, true, true, true, false, false] rfl rfl (by kernel_rfl) (by decide) (fun K hK => ?_)
                 refine run_ ?_ rfl rfl ?hr_ ?_
                 case hr_ =>
                  go_simp
                  with_reducible rfl
                 refine hK.out _ _ ⟨(blk_cell BK337.out 0).trans rfl, (blk_cell BK337.out 1).trans rfl, (blk_cell BK337.out 2).trans rfl, (blk_cell BK337.out 3).trans rfl, (blk_cell BK337.out 4).trans rfl, (blk_cell BK337.out 5).trans rfl, (blk_cell BK337.out 6).trans rfl, (blk_cell BK337.out 7).trans rfl⟩ (fun hHeld => ?_)
                 clear hK K
                 refine norm_ (a' := ?_) ?_ ?_
                 rotate_left
                 ·show Act.put _ (some 17) _ = _
                  simp only [Act.put, List.setIfInBounds_toArray, List.set_cons_zero, List.set_cons_succ, i64_w, i32_w]
                  rfl
                 refine pure_ (i := 5) (N := some 18) (v := ?_) (a' := ?_) #[true, true, true, true, true, true, false] rfl rfl (by kernel_rfl) (fun _ _ _ h => h) (Or.inl ⟨by rfl, ?_⟩) ?_ ?_
                 rotate_left
                 ·intro w'
                  go_simp
                  with_reducible rfl
                 rotate_left
                 ·simp only [Act.put, List.setIfInBounds_toArray, List.set_cons_zero, List.set_cons_succ, i64_w, i32_w]
                  rfl
                 refine pure_ (i := 6) (N := some 3) (v := ?_) (a' := ?_) #[true, true, true, true, true, true, true] rfl rfl (by kernel_rfl) (fun _ _ _ h => h) (Or.inl ⟨by rfl, ?_⟩) ?_ ?_
                 rotate_left
                 ·intro w'
                  go_simp
                  with_reducible rfl
                 rotate_left
                 ·simp only [Act.put, List.setIfInBounds_toArray, List.set_cons_zero, List.set_cons_succ, i64_w, i32_w]
                  rfl
                 refine done_ (by kernel_rfl) ?_
                 have hcz30_0 : w28.cell? ⟨gb337, 0, none⟩ = some (.int .i64 a0_0) := (blk_cell BK337.out 0).trans rfl
                 have hcz30_1 : w28.cell? ⟨gb337, 1, none⟩ = some (.int .i64 a0_1) := (blk_cell BK337.out 1).trans rfl
                 have hcz30_2 : w28.cell? ⟨gb337, 2, none⟩ = some (.int .i64 a0_2) := (blk_cell BK337.out 2).trans rfl
                 have hcz30_3 : w28.cell? ⟨gb337, 3, none⟩ = some (.int .i64 a0_3) := (blk_cell BK337.out 3).trans rfl
                 have hcz30_4 : w28.cell? ⟨gb337, 4, none⟩ = some (.int .i64 a0_4) := (blk_cell BK337.out 4).trans rfl
                 have hcz30_5 : w28.cell? ⟨gb337, 5, none⟩ = some (.int .i64 a0_5) := (blk_cell BK337.out 5).trans rfl
                 have hcz30_6 : w28.cell? ⟨gb337, 6, none⟩ = some (.slice A0_6 l0_6.length c0_6) := (blk_cell BK337.out 6).trans rfl
                 have hcz30_7 : w28.cell? ⟨gb337, 7, none⟩ = some (.slice A0_7 l0_7.length c0_7) := (blk_cell BK337.out 7).trans rfl
                 have hfz30_0 := blk_frozen BK337.out 0
                 have hfz30_1 := blk_frozen BK337.out 1
                 have hfz30_2 := blk_frozen BK337.out 2
                 have hfz30_3 := blk_frozen BK337.out 3
                 have hfz30_4 := blk_frozen BK337.out 4
                 have hfz30_5 := blk_frozen BK337.out 5
                 have hfz30_6 := blk_frozen BK337.out 6
                 have hfz30_7 := blk_frozen BK337.out 7
                 try go_wp2_with (first | ((with_reducible refine gate_dst (N := 4) rfl ?_); refine box_event ?hg (N := 4) ?hd (cs := #[.int .i64 0, .int .i64 0, .int .i64 0, .slice none 0 0, .slice none 0 0]) (t := 32) ?hr ?_; (case hd => rfl); (case hg => rfl); (case hr => first | (go_simp; done) | (go_simp; rfl)); intro gb342 hg w31 hbox hb; have n0_ := Aside0.mk (Kd.R_below (by (with_reducible repeat (first | apply Kd.R_alloc | apply Kd.R_drewN | apply Kd.R_drew)); exact HO340.out) hb); have n1_ := Aside0.mk (blk_below (g := gb337) (o := .cells #[.int .i64 a0_0, .int .i64 a0_1, .int .i64 a0_2, .int .i64 a0_3, .int .i64 a0_4, .int .i64 a0_5, .slice A0_6 l0_6.length c0_6, .slice A0_7 l0_7.length c0_7] 34 (0, 0)) (by (with_reducible repeat (first | refine blk_drewN ?_ _ | refine blk_drew ?_ | refine blk_alloc ?_ _)); exact BK337.out) hb); have n2_ := Aside0.mk (below_step (by repeat (first | (with_reducible first | exact HB.out | apply below_alloc | apply pw_below_drewN | apply below_drew1 | refine below_set ?_ GE337.out) | exact HB.out)) hb); have n3_ := Aside0.mk (hbox); have n4_ := Aside0.mk ((by rw [hg]; exact (below_size (by repeat (first | (with_reducible first | exact HB.out | apply below_alloc | apply pw_below_drewN | apply below_drew1 | refine below_set ?_ GE337.out) | exact HB.out))) : w.heap.size ≤ gb342)); have n5_ := Aside0.mk ((by rw [hg]; exact (below_size (by repeat (first | (with_reducible first | exact HB.out | apply below_alloc | apply pw_below_drewN | apply below_drew1 | refine below_set ?_ GE337.out) | exact HB.out))) : w.heap.size ≤ gb342)); have n6_ := Aside0.mk ((by rw [hg]; exact Nat.ne_of_lt (blk_lt (g := gb337) (o := .cells #[.int .i64 a0_0, .int .i64 a0_1, .int .i64 a0_2, .int .i64 a0_3, .int .i64 a0_4, .int .i64 a0_5, .slice A0_6 l0_6.length c0_6, .slice A0_7 l0_7.length c0_7] 34 (0, 0)) (by (with_reducible repeat (first | refine blk_drewN ?_ _ | refine blk_drew ?_ | refine blk_alloc ?_ _)); exact BK337.out)) : gb337 ≠ gb342)); have n7_ := Aside0.mk ((by rw [hg]; exact Nat.ne_of_gt (blk_lt (g := gb337) (o := .cells #[.int .i64 a0_0, .int .i64 a0_1, .int .i64 a0_2, .int .i64 a0_3, .int .i64 a0_4, .int .i64 a0_5, .slice A0_6 l0_6.length c0_6, .slice A0_7 l0_7.length c0_7] 34 (0, 0)) (by (with_reducible repeat (first | refine blk_drewN ?_ _ | refine blk_drew ?_ | refine blk_alloc ?_ _)); exact BK337.out)) : gb342 ≠ gb337)); clear HO340; clear BK337; clear HB; have HO340 := n0_; have BK337 := n1_; have HB := n2_; have BK342 := n3_; have GW342 := n4_; have GE342 := n5_; have NB337_342 := n6_; have NB342_337 := n7_; clear n0_ n1_ n2_ n3_ n4_ n5_ n6_ n7_; clear hb hbox hg; have hnb32 := NB342_337.out; have hnc32 := NB337_342.out; have hcz33_0 : w31.cell? ⟨gb342, 0, none⟩ = some (.int .i64 0) := (blk_cell BK342.out 0).trans rfl; have hcz33_1 : w31.cell? ⟨gb342, 1, none⟩ = some (.int .i64 0) := (blk_cell BK342.out 1).trans rfl; have hcz33_2 : w31.cell? ⟨gb342, 2, none⟩ = some (.int .i64 0) := (blk_cell BK342.out 2).trans rfl; have hcz33_3 : w31.cell? ⟨gb342, 3, none⟩ = some (.slice none 0 0) := (blk_cell BK342.out 3).trans rfl; have hcz33_4 : w31.cell? ⟨gb342, 4, none⟩ = some (.slice none 0 0) := (blk_cell BK342.out 4).trans rfl; have hfz33_0 := blk_frozen BK342.out 0; have hfz33_1 := blk_frozen BK342.out 1; have hfz33_2 := blk_frozen BK342.out 2; have hfz33_3 := blk_frozen BK342.out 3; have hfz33_4 := blk_frozen BK342.out 4))
                 have n0_ : Aside0 (Kd.R Kd.string 9 (((((w31.setCell ⟨gb342, 0, none⟩ (.int .i64 a0_3)).setCell ⟨gb342, 1, none⟩ (.int .i64 a0_4)).setCell ⟨gb342, 2, none⟩ (.int .i64 a0_5)).setCell ⟨gb342, 3, none⟩ (.slice A0_6 l0_6.length c0_6)).setCell ⟨gb342, 4, none⟩ (.slice A0_7 l0_7.length c0_7)) w.heap.size (fun _ => True) (.slice (some ad341) t338.length co29) t338) := ⟨by (with_reducible repeat (first | apply Kd.R_alloc | apply Kd.R_drewN | apply Kd.R_drew)); exact Kd.R_mono (Kd.R_far (p := ⟨gb342, 4, none⟩) (Kd.R_far (p := ⟨gb342, 3, none⟩) (Kd.R_far (p := ⟨gb342, 2, none⟩) (Kd.R_far (p := ⟨gb342, 1, none⟩) (Kd.R_far (p := ⟨gb342, 0, none⟩) (Kd.R_types HO340.out BK342.out (by decide)) (fun _ hk => hk.2) (.int .i64 a0_3)) (fun _ hk => hk.2) (.int .i64 a0_4)) (fun _ hk => hk.2) (.int .i64 a0_5)) (fun _ hk => hk.2) (.slice A0_6 l0_6.length c0_6)) (fun _ hk => hk.2) (.slice A0_7 l0_7.length c0_7)) (fun _ hk => trivial)⟩
                 have n1_ : Aside0 ((((((w31.setCell ⟨gb342, 0, none⟩ (.int .i64 a0_3)).setCell ⟨gb342, 1, none⟩ (.int .i64 a0_4)).setCell ⟨gb342, 2, none⟩ (.int .i64 a0_5)).setCell ⟨gb342, 3, none⟩ (.slice A0_6 l0_6.length c0_6)).setCell ⟨gb342, 4, none⟩ (.slice A0_7 l0_7.length c0_7)).heap[gb337]? = some (.cells #[.int .i64 a0_0, .int .i64 a0_1, .int .i64 a0_2, .int .i64 a0_3, .int .i64 a0_4, .int .i64 a0_5, .slice A0_6 l0_6.length c0_6, .slice A0_7 l0_7.length c0_7] 34 (0, 0))) := ⟨by (with_reducible repeat (first | refine blk_drewN ?_ _ | refine blk_drew ?_ | refine blk_alloc ?_ _)); refine blk_far ?_ NB337_342.out _; (with_reducible repeat (first | refine blk_drewN ?_ _ | refine blk_drew ?_ | refine blk_alloc ?_ _)); refine blk_far ?_ NB337_342.out _; (with_reducible repeat (first | refine blk_drewN ?_ _ | refine blk_drew ?_ | refine blk_alloc ?_ _)); refine blk_far ?_ NB337_342.out _; (with_reducible repeat (first | refine blk_drewN ?_ _ | refine blk_drew ?_ | refine blk_alloc ?_ _)); refine blk_far ?_ NB337_342.out _; (with_reducible repeat (first | refine blk_drewN ?_ _ | refine blk_drew ?_ | refine blk_alloc ?_ _)); refine blk_far ?_ NB337_342.out _; (with_reducible repeat (first | refine blk_drewN ?_ _ | refine blk_drew ?_ | refine blk_alloc ?_ _)); exact BK337.out⟩
                 have n2_ : Aside0 ((((((w31.setCell ⟨gb342, 0, none⟩ (.int .i64 a0_3)).setCell ⟨gb342, 1, none⟩ (.int .i64 a0_4)).setCell ⟨gb342, 2, none⟩ (.int .i64 a0_5)).setCell ⟨gb342, 3, none⟩ (.slice A0_6 l0_6.length c0_6)).setCell ⟨gb342, 4, none⟩ (.slice A0_7 l0_7.length c0_7)).heap[gb342]? = some (.cells #[.int .i64 a0_3, .int .i64 a0_4, .int .i64 a0_5, .slice A0_6 l0_6.length c0_6, .slice A0_7 l0_7.length c0_7] 32 (0, 0))) := ⟨by (with_reducible repeat (first | refine blk_drewN ?_ _ | refine blk_drew ?_ | refine blk_alloc ?_ _)); refine blk_put (cs := #[.int .i64 a0_3, .int .i64 a0_4, .int .i64 a0_5, .slice A0_6 l0_6.length c0_6, .slice none 0 0]) ?_ 4 _ rfl; (with_reducible repeat (first | refine blk_drewN ?_ _ | refine blk_drew ?_ | refine blk_alloc ?_ _)); refine blk_put (cs := #[.int .i64 a0_3, .int .i64 a0_4, .int .i64 a0_5, .slice none 0 0, .slice none 0 0]) ?_ 3 _ rfl; (with_reducible repeat (first | refine blk_drewN ?_ _ | refine blk_drew ?_ | refine blk_alloc ?_ _)); refine blk_put (cs := #[.int .i64 a0_3, .int .i64 a0_4, .int .i64 0, .slice none 0 0, .slice none 0 0]) ?_ 2 _ rfl; (with_reducible repeat (first | refine blk_drewN ?_ _ | refine blk_drew ?_ | refine blk_alloc ?_ _)); refine blk_put (cs := #[.int .i64 a0_3, .int .i64 0, .int .i64 0, .slice none 0 0, .slice none 0 0]) ?_ 1 _ rfl; (with_reducible repeat (first | refine blk_drewN ?_ _ | refine blk_drew ?_ | refine blk_alloc ?_ _)); refine blk_put (cs := #[.int .i64 0, .int .i64 0, .int .i64 0, .slice none 0 0, .slice none 0 0]) ?_ 0 _ rfl; (with_reducible repeat (first | refine blk_drewN ?_ _ | refine blk_drew ?_ | refine blk_alloc ?_ _)); exact BK342.out⟩
                 have n3_ : Aside0 (Below w.heap.size w (((((w31.setCell ⟨gb342, 0, none⟩ (.int .i64 a0_3)).setCell ⟨gb342, 1, none⟩ (.int .i64 a0_4)).setCell ⟨gb342, 2, none⟩ (.int .i64 a0_5)).setCell ⟨gb342, 3, none⟩ (.slice A0_6 l0_6.length c0_6)).setCell ⟨gb342, 4, none⟩ (.slice A0_7 l0_7.length c0_7))) := ⟨by repeat (first | (with_reducible first | exact HB.out | apply below_alloc | apply pw_below_drewN | apply below_drew1 | refine below_set ?_ GE337.out | refine below_set ?_ GE342.out) | exact HB.out)⟩
                 (try clear HO340)
                 (try clear BK337)
                 (try clear BK342)
                 (try clear HB)
                 generalize (((((w31.setCell ⟨gb342, 0, none⟩ (.int .i64 a0_3)).setCell ⟨gb342, 1, none⟩ (.int .i64 a0_4)).setCell ⟨gb342, 2, none⟩ (.int .i64 a0_5)).setCell ⟨gb342, 3, none⟩ (.slice A0_6 l0_6.length c0_6)).setCell ⟨gb342, 4, none⟩ (.slice A0_7 l0_7.length c0_7)) = w34 at n0_ n1_ n2_ n3_ ⊢
                 have HO340 := n0_
                 have BK337 := n1_
                 have BK342 := n2_
                 have HB := n3_
                 clear n0_ n1_ n2_ n3_
                 have n0_ := Aside0.mk (Kd.R_drew HO340.out)
                 have n1_ := Aside0.mk (blk_drew BK337.out)
                 have n2_ := Aside0.mk (blk_drew BK342.out)
                 have n3_ := Aside0.mk (below_drew1 HB.out)
                 clear HO340
                 clear BK337
                 clear BK342
                 clear HB
                 have HO340 := n0_
                 have BK337 := n1_
                 have BK342 := n2_
                 have HB := n3_
                 clear n0_ n1_ n2_ n3_
                 refine start_ (n := 26) (S := fun w' => w'.cell? ⟨gb342, 0, none⟩ = some (.int .i64 a0_3) ∧ w'.cell? ⟨gb342, 1, none⟩ = some (.int .i64 a0_4) ∧ w'.cell? ⟨gb342, 2, none⟩ = some (.int .i64 a0_5) ∧ w'.cell? ⟨gb342, 3, none⟩ = some (.slice A0_6 l0_6.length c0_6) ∧ w'.cell? ⟨gb342, 4, none⟩ = some (.slice A0_7 l0_7.length c0_7)) (ds := []) #[false, false, false, false, false, false, false, false, false, false, false, false, false, false, false, false, false, false, false, false, false, false, false, false, false, false] (by kernel_rfl) rfl rfl ⟨(blk_cell BK342.out 0).trans rfl, (blk_cell BK342.out 1).trans rfl, (blk_cell BK342.out 2).trans rfl, (blk_cell BK342.out 3).trans rfl, (blk_cell BK342.out 4).trans rfl⟩ (fun hHeld => ?_); refine with_tabW vokref25_Print.tab6 vokref25_Print.bits6 (fun HT_ HW_ => ?_)
                 generalize w34.drew = w35 at HO340 BK337 BK342 HB hHeld ⊢
                 refine pure_ (i := 0) (N := some 24) (v := ?_) (a' := ?_) #[true, false, false, false, false, false, false, false, false, false, false, false, false, false, false, false, false, false, false, false, false, false, false, false, false, false] rfl rfl (any_of HT_.out (by kernel_rfl)) (fun _ _ _ h => h) (Or.inl ⟨by rfl, ?_⟩) ?_ ?_
                 rotate_left
                 ·intro w'
                  go_simp
                  with_reducible rfl
                 rotate_left
                 ·simp only [Act.put, List.setIfInBounds_toArray, List.set_cons_zero, List.set_cons_succ, i64_w, i32_w]
                  rfl
                 refine pure_ (i := 1) (N := some 25) (v := ?_) (a' := ?_) #[true, true, false, false, false, false, false, false, false, false, false, false, false, false, false, false, false, false, false, false, false, false, false, false, false, false] rfl rfl (any_of HT_.out (by kernel_rfl)) (fun _ _ _ h => h) (Or.inl ⟨by rfl, ?_⟩) ?_ ?_
                 rotate_left
                 ·intro w'
                  go_simp
                  with_reducible rfl
                 rotate_left
                 ·simp only [Act.put, List.setIfInBounds_toArray, List.set_cons_zero, List.set_cons_succ, i64_w, i32_w]
                  rfl
                 refine pure_ (i := 6) (N := some 30) (v := ?_) (a' := ?_) #[true, true, false, false, false, false, true, false, false, false, false, false, false, false, false, false, false, false, false, false, false, false, false, false, false, false] rfl rfl (any_of HT_.out (by kernel_rfl)) (fun _ _ _ h => h) (Or.inl ⟨by rfl, ?_⟩) ?_ ?_
                 rotate_left
                 ·intro w'
                  go_simp
                  with_reducible rfl
                 rotate_left
                 ·simp only [Act.put, List.setIfInBounds_toArray, List.set_cons_zero, List.set_cons_succ, i64_w, i32_w]
                  rfl
                 refine pure_ (i := 11) (N := some 35) (v := ?_) (a' := ?_) #[true, true, false, false, false, false, true, false, false, false, false, true, false, false, false, false, false, false, false, false, false, false, false, false, false, false] rfl rfl (any_of HT_.out (by kernel_rfl)) (fun _ _ _ h => h) (Or.inl ⟨by rfl, ?_⟩) ?_ ?_
                 rotate_left
                 ·intro w'
                  go_simp
                  with_reducible rfl
                 rotate_left
                 ·simp only [Act.put, List.setIfInBounds_toArray, List.set_cons_zero, List.set_cons_succ, i64_w, i32_w]
                  rfl
                 refine pure_ (i := 16) (N := some 40) (v := ?_) (a' := ?_) #[true, true, false, false, false, false, true, false, false, false, false, true, false, false, false, false, true, false, false, false, false, false, false, false, false, false] rfl rfl (any_of HT_.out (by kernel_rfl)) (fun _ _ _ h => h) (Or.inl ⟨by rfl, ?_⟩) ?_ ?_
                 rotate_left
                 ·intro w'
                  go_simp
                  with_reducible rfl
                 rotate_left
                 ·simp only [Act.put, List.setIfInBounds_toArray, List.set_cons_zero, List.set_cons_succ, i64_w, i32_w]
                  rfl
                 refine pure_ (i := 21) (N := some 45) (v := ?_) (a' := ?_) #[true, true, false, false, false, false, true, false, false, false, false, true, false, false, false, false, true, false, false, false, false, true, false, false, false, false] rfl rfl (any_of HT_.out (by kernel_rfl)) (fun _ _ _ h => h) (Or.inl ⟨by rfl, ?_⟩) ?_ ?_
                 rotate_left
                 ·intro w'
                  go_simp
                  with_reducible rfl
                 rotate_left
                 ·simp only [Act.put, List.setIfInBounds_toArray, List.set_cons_zero, List.set_cons_succ, i64_w, i32_w]
                  rfl
                 refine take_ (i := 2) (N := some 26) (v := ?_) (a' := ?_) #[true, true, true, false, false, false, true, false, false, false, false, true, false, false, false, false, true, false, false, false, false, true, false, false, false, false] rfl rfl (take_ofW HT_.out HW_.out (by kernel_rfl)) (fun _ _ _ h => h) (Or.inl ⟨by rfl, ?_⟩) hHeld ?_ ?_
                 rotate_left
                 ·rintro w' ⟨s0, s1, s2, s3, s4⟩
                  go_simp
                  with_reducible rfl
                 rotate_left
                 ·simp only [Act.put, List.setIfInBounds_toArray, List.set_cons_zero, List.set_cons_succ, i64_w, i32_w]
                  rfl
                 refine take_ (i := 7) (N := some 31) (v := ?_) (a' := ?_) #[true, true, true, false, false, false, true, true, false, false, false, true, false, false, false, false, true, false, false, false, false, true, false, false, false, false] rfl rfl (take_ofW HT_.out HW_.out (by kernel_rfl)) (fun _ _ _ h => h) (Or.inl ⟨by rfl, ?_⟩) hHeld ?_ ?_
                 rotate_left
                 ·rintro w' ⟨s0, s1, s2, s3, s4⟩
                  go_simp
                  with_reducible rfl
                 rotate_left
                 ·simp only [Act.put, List.setIfInBounds_toArray, List.set_cons_zero, List.set_cons_succ, i64_w, i32_w]
                  rfl
                 refine take_ (i := 12) (N := some 36) (v := ?_) (a' := ?_) #[true, true, true, false, false, false, true, true, false, false, false, true, true, false, false, false, true, false, false, false, false, true, false, false, false, false] rfl rfl (take_ofW HT_.out HW_.out (by kernel_rfl)) (fun _ _ _ h => h) (Or.inl ⟨by rfl, ?_⟩) hHeld ?_ ?_
                 rotate_left
                 ·rintro w' ⟨s0, s1, s2, s3, s4⟩
                  go_simp
                  with_reducible rfl
                 rotate_left
                 ·simp only [Act.put, List.setIfInBounds_toArray, List.set_cons_zero, List.set_cons_succ, i64_w, i32_w]
                  rfl
                 refine take_ (i := 17) (N := some 41) (v := ?_) (a' := ?_) #[true, true, true, false, false, false, true, true, false, false, false, true, true, false, false, false, true, true, false, false, false, true, false, false, false, false] rfl rfl (take_ofW HT_.out HW_.out (by kernel_rfl)) (fun _ _ _ h => h) (Or.inl ⟨by rfl, ?_⟩) hHeld ?_ ?_
                 rotate_left
                 ·rintro w' ⟨s0, s1, s2, s3, s4⟩
                  go_simp
                  with_reducible rfl
                 rotate_left
                 ·simp only [Act.put, List.setIfInBounds_toArray, List.set_cons_zero, List.set_cons_succ, i64_w, i32_w]
                  rfl
                 refine take_ (i := 22) (N := some 46) (v := ?_) (a' := ?_) #[true, true, true, false, false, false, true, true, false, false, false, true, true, false, false, false, true, true, false, false, false, true, true, false, false, false] rfl rfl (take_ofW HT_.out HW_.out (by kernel_rfl)) (fun _ _ _ h => h) (Or.inl ⟨by rfl, ?_⟩) hHeld ?_ ?_
                 rotate_left
                 ·rintro w' ⟨s0, s1, s2, s3, s4⟩
                  go_simp
                  with_reducible rfl
                 rotate_left
                 ·simp only [Act.put, List.setIfInBounds_toArray, List.set_cons_zero, List.set_cons_succ, i64_w, i32_w]
                  rfl
                 refine one_ (i := 3) (N := some 27) #[true, true, true, true, false, false, true, true, false, false, false, true, true, false, false, false, true, true, false, false, false, true, true, false, false, false] rfl rfl (one_of HT_.out (by kernel_rfl)) (by decide) (fun K hK => ?_)
                 refine goes_ Tryd.func23 (by kernel_rfl) rfl #[.int .i64 a0_3] (by rfl) rfl rfl (by (try simp only [List.map_toArray, List.map_cons, List.map_nil]); first | done | rfl | (simp only [List.length_drop, List.length_take]; rfl)) ?_
                 with_reducible refine (vokref_Dec.calls kj1 a0_3 t343 _ A13.out).mono ?_
                 rintro e w36 ⟨rfl, hb⟩
                 refine ⟨_, rfl, ?_⟩
                 have n0_ := Aside0.mk (Kd.R_below (by (with_reducible repeat (first | apply Kd.R_alloc | apply Kd.R_drewN | apply Kd.R_drew)); exact HO340.out) hb)
                 have n1_ := Aside0.mk (blk_below (g := gb337) (o := .cells #[.int .i64 a0_0, .int .i64 a0_1, .int .i64 a0_2, .int .i64 a0_3, .int .i64 a0_4, .int .i64 a0_5, .slice A0_6 l0_6.length c0_6, .slice A0_7 l0_7.length c0_7] 34 (0, 0)) (by (with_reducible repeat (first | refine blk_drewN ?_ _ | refine blk_drew ?_ | refine blk_alloc ?_ _)); exact BK337.out) hb)
                 have n2_ := Aside0.mk (blk_below (g := gb342) (o := .cells #[.int .i64 a0_3, .int .i64 a0_4, .int .i64 a0_5, .slice A0_6 l0_6.length c0_6, .slice A0_7 l0_7.length c0_7] 32 (0, 0)) (by (with_reducible repeat (first | refine blk_drewN ?_ _ | refine blk_drew ?_ | refine blk_alloc ?_ _)); exact BK342.out) hb)
                 have n3_ := Aside0.mk (below_step (by repeat (first | (with_reducible first | exact HB.out | apply below_alloc | apply pw_below_drewN | apply below_drew1 | refine below_set ?_ GE337.out | refine below_set ?_ GE342.out) | exact HB.out)) hb)
                 clear HO340
                 clear BK337
                 clear BK342
                 clear HB
                 have HO340 := n0_
                 have BK337 := n1_
                 have BK342 := n2_
                 have HB := n3_
                 clear n0_ n1_ n2_ n3_
                 (try clear hb)
                 (try clear hb2)
                 (try clear hk)
                 (try clear hi)
                 refine hK.out _ _ ⟨(blk_cell BK342.out 0).trans rfl, (blk_cell BK342.out 1).trans rfl, (blk_cell BK342.out 2).trans rfl, (blk_cell BK342.out 3).trans rfl, (blk_cell BK342.out 4).trans rfl⟩ (fun hHeld => ?_)
                 clear hK K
                 refine norm_ (a' := ?_) ?_ ?_
                 rotate_left
                 ·show Act.put _ (some 27) _ = _
                  simp only [Act.put, List.setIfInBounds_toArray, List.set_cons_zero, List.set_cons_succ, i64_w, i32_w]
                  rfl
                 refine pure_ (i := 4) (N := some 28) (v := ?_) (a' := ?_) #[true, true, true, true, true, false, true, true, false, false, false, true, true, false, false, false, true, true, false, false, false, true, true, false, false, false] rfl rfl (any_of HT_.out (by kernel_rfl)) (fun _ _ _ h => h) (Or.inl ⟨by rfl, ?_⟩) ?_ ?_
                 rotate_left
                 ·intro w'
                  go_simp
                  with_reducible rfl
                 rotate_left
                 ·simp only [Act.put, List.setIfInBounds_toArray, List.set_cons_zero, List.set_cons_succ, i64_w, i32_w]
                  rfl
                 refine pure_ (i := 5) (N := some 29) (v := ?_) (a' := ?_) #[true, true, true, true, true, true, true, true, false, false, false, true, true, false, false, false, true, true, false, false, false, true, true, false, false, false] rfl rfl (any_of HT_.out (by kernel_rfl)) (fun _ _ _ h => h) (Or.inl ⟨by rfl, ?_⟩) ?_ ?_
                 rotate_left
                 ·intro w'
                  go_simp
                  with_reducible rfl
                 rotate_left
                 ·simp only [Act.put, List.setIfInBounds_toArray, List.set_cons_zero, List.set_cons_succ, i64_w, i32_w]
                  rfl
                 refine one_ (i := 8) (N := some 32) #[true, true, true, true, true, true, true, true, true, false, false, true, true, false, false, false, true, true, false, false, false, true, true, false, false, false] rfl rfl (one_of HT_.out (by kernel_rfl)) (by decide) (fun K hK => ?_)
                 refine goes_ Tryd.func23 (by kernel_rfl) rfl #[.int .i64 a0_4] (by rfl) rfl rfl (by (try simp only [List.map_toArray, List.map_cons, List.map_nil]); first | done | rfl | (simp only [List.length_drop, List.length_take]; rfl)) ?_
                 with_reducible refine (vokref_Dec.calls kj1 a0_4 t344 _ A16.out).mono ?_
                 rintro e w37 ⟨rfl, hb⟩
                 refine ⟨_, rfl, ?_⟩
                 have n0_ := Aside0.mk (Kd.R_below (by (with_reducible repeat (first | apply Kd.R_alloc | apply Kd.R_drewN | apply Kd.R_drew)); exact HO340.out) hb)
                 have n1_ := Aside0.mk (blk_below (g := gb337) (o := .cells #[.int .i64 a0_0, .int .i64 a0_1, .int .i64 a0_2, .int .i64 a0_3, .int .i64 a0_4, .int .i64 a0_5, .slice A0_6 l0_6.length c0_6, .slice A0_7 l0_7.length c0_7] 34 (0, 0)) (by (with_reducible repeat (first | refine blk_drewN ?_ _ | refine blk_drew ?_ | refine blk_alloc ?_ _)); exact BK337.out) hb)
                 have n2_ := Aside0.mk (blk_below (g := gb342) (o := .cells #[.int .i64 a0_3, .int .i64 a0_4, .int .i64 a0_5, .slice A0_6 l0_6.length c0_6, .slice A0_7 l0_7.length c0_7] 32 (0, 0)) (by (with_reducible repeat (first | refine blk_drewN ?_ _ | refine blk_drew ?_ | refine blk_alloc ?_ _)); exact BK342.out) hb)
                 have n3_ := Aside0.mk (below_step (by repeat (first | (with_reducible first | exact HB.out | apply below_alloc | apply pw_below_drewN | apply below_drew1 | refine below_set ?_ GE337.out | refine below_set ?_ GE342.out) | exact HB.out)) hb)
                 clear HO340
                 clear BK337
                 clear BK342
                 clear HB
                 have HO340 := n0_
                 have BK337 := n1_
                 have BK342 := n2_
                 have HB := n3_
                 clear n0_ n1_ n2_ n3_
                 (try clear hb)
                 (try clear hb2)
                 (try clear hk)
                 (try clear hi)
                 refine hK.out _ _ ⟨(blk_cell BK342.out 0).trans rfl, (blk_cell BK342.out 1).trans rfl, (blk_cell BK342.out 2).trans rfl, (blk_cell BK342.out 3).trans rfl, (blk_cell BK342.out 4).trans rfl⟩ (fun hHeld => ?_)
                 clear hK K
                 refine norm_ (a' := ?_) ?_ ?_
                 rotate_left
                 ·show Act.put _ (some 32) _ = _
                  simp only [Act.put, List.setIfInBounds_toArray, List.set_cons_zero, List.set_cons_succ, i64_w, i32_w]
                  rfl
                 refine pure_ (i := 9) (N := some 33) (v := ?_) (a' := ?_) #[true, true, true, true, true, true, true, true, true, true, false, true, true, false, false, false, true, true, false, false, false, true, true, false, false, false] rfl rfl (any_of HT_.out (by kernel_rfl)) (fun _ _ _ h => h) (Or.inl ⟨by rfl, ?_⟩) ?_ ?_
                 rotate_left
                 ·intro w'
                  go_simp
                  with_reducible rfl
                 rotate_left
                 ·simp only [Act.put, List.setIfInBounds_toArray, List.set_cons_zero, List.set_cons_succ, i64_w, i32_w]
                  rfl
                 refine pure_ (i := 10) (N := some 34) (v := ?_) (a' := ?_) #[true, true, true, true, true, true, true, true, true, true, true, true, true, false, false, false, true, true, false, false, false, true, true, false, false, false] rfl rfl (any_of HT_.out (by kernel_rfl)) (fun _ _ _ h => h) (Or.inl ⟨by rfl, ?_⟩) ?_ ?_
                 rotate_left
                 ·intro w'
                  go_simp
                  with_reducible rfl
                 rotate_left
                 ·simp only [Act.put, List.setIfInBounds_toArray, List.set_cons_zero, List.set_cons_succ, i64_w, i32_w]
                  rfl
                 refine one_ (i := 13) (N := some 37) #[true, true, true, true, true, true, true, true, true, true, true, true, true, true, false, false, true, true, false, false, false, true, true, false, false, false] rfl rfl (one_of HT_.out (by kernel_rfl)) (by decide) (fun K hK => ?_)
                 refine goes_ Tryd.func23 (by kernel_rfl) rfl #[.int .i64 a0_5] (by rfl) rfl rfl (by (try simp only [List.map_toArray, List.map_cons, List.map_nil]); first | done | rfl | (simp only [List.length_drop, List.length_take]; rfl)) ?_
                 with_reducible refine (vokref_Dec.calls kj1 a0_5 t345 _ A19.out).mono ?_
                 rintro e w38 ⟨rfl, hb⟩
                 refine ⟨_, rfl, ?_⟩
                 have n0_ := Aside0.mk (Kd.R_below (by (with_reducible repeat (first | apply Kd.R_alloc | apply Kd.R_drewN | apply Kd.R_drew)); exact HO340.out) hb)
                 have n1_ := Aside0.mk (blk_below (g := gb337) (o := .cells #[.int .i64 a0_0, .int .i64 a0_1, .int .i64 a0_2, .int .i64 a0_3, .int .i64 a0_4, .int .i64 a0_5, .slice A0_6 l0_6.length c0_6, .slice A0_7 l0_7.length c0_7] 34 (0, 0)) (by (with_reducible repeat (first | refine blk_drewN ?_ _ | refine blk_drew ?_ | refine blk_alloc ?_ _)); exact BK337.out) hb)
                 have n2_ := Aside0.mk (blk_below (g := gb342) (o := .cells #[.int .i64 a0_3, .int .i64 a0_4, .int .i64 a0_5, .slice A0_6 l0_6.length c0_6, .slice A0_7 l0_7.length c0_7] 32 (0, 0)) (by (with_reducible repeat (first | refine blk_drewN ?_ _ | refine blk_drew ?_ | refine blk_alloc ?_ _)); exact BK342.out) hb)
                 have n3_ := Aside0.mk (below_step (by repeat (first | (with_reducible first | exact HB.out | apply below_alloc | apply pw_below_drewN | apply below_drew1 | refine below_set ?_ GE337.out | refine below_set ?_ GE342.out) | exact HB.out)) hb)
                 clear HO340
                 clear BK337
                 clear BK342
                 clear HB
                 have HO340 := n0_
                 have BK337 := n1_
                 have BK342 := n2_
                 have HB := n3_
                 clear n0_ n1_ n2_ n3_
                 (try clear hb)
                 (try clear hb2)
                 (try clear hk)
                 (try clear hi)
                 refine hK.out _ _ ⟨(blk_cell BK342.out 0).trans rfl, (blk_cell BK342.out 1).trans rfl, (blk_cell BK342.out 2).trans rfl, (blk_cell BK342.out 3).trans rfl, (blk_cell BK342.out 4).trans rfl⟩ (fun hHeld => ?_)
                 clear hK K
                 refine norm_ (a' := ?_) ?_ ?_
                 rotate_left
                 ·show Act.put _ (some 37) _ = _
                  simp only [Act.put, List.setIfInBounds_toArray, List.set_cons_zero, List.set_cons_succ, i64_w, i32_w]
                  rfl
                 refine pure_ (i := 14) (N := some 38) (v := ?_) (a' := ?_) #[true, true, true, true, true, true, true, true, true, true, true, true, true, true, true, false, true, true, false, false, false, true, true, false, false, false] rfl rfl (any_of HT_.out (by kernel_rfl)) (fun _ _ _ h => h) (Or.inl ⟨by rfl, ?_⟩) ?_ ?_
                 rotate_left
                 ·intro w'
                  go_simp
                  with_reducible rfl
                 rotate_left
                 ·simp only [Act.put, List.setIfInBounds_toArray, List.set_cons_zero, List.set_cons_succ, i64_w, i32_w]
                  rfl
                 refine pure_ (i := 15) (N := some 39) (v := ?_) (a' := ?_) #[true, true, true, true, true, true, true, true, true, true, true, true, true, true, true, true, true, true, false, false, false, true, true, false, false, false] rfl rfl (any_of HT_.out (by kernel_rfl)) (fun _ _ _ h => h) (Or.inl ⟨by rfl, ?_⟩) ?_ ?_
                 rotate_left
                 ·intro w'
                  go_simp
                  with_reducible rfl
                 rotate_left
                 ·simp only [Act.put, List.setIfInBounds_toArray, List.set_cons_zero, List.set_cons_succ, i64_w, i32_w]
                  rfl
                 refine one_ (i := 18) (N := some 42) #[true, true, true, true, true, true, true, true, true, true, true, true, true, true, true, true, true, true, true, false, false, true, true, false, false, false] rfl rfl (one_of HT_.out (by kernel_rfl)) (by decide) (fun K hK => ?_)
                 refine goes_ Tryd.func24 (by kernel_rfl) rfl #[.slice A0_6 l0_6.length c0_6] (by rfl) rfl rfl (by (try simp only [List.map_toArray, List.map_cons, List.map_nil]); first | done | rfl | (simp only [List.length_drop, List.length_take]; rfl)) ?_
                 with_reducible refine (vokref25_commas.calls kj1 _ _ l0_6 t346 _ ?side1 ?side2 A22.out).mono ?_
                 (case side1 => repeat (first | exact (Kd.C_below HR0_6.out HB.out) | (with_reducible refine Kd.C_alloc ?_ _) | (with_reducible refine Kd.C_drewN ?_ _) | (with_reducible refine Kd.C_drew ?_)))
                 (case side2 => exact HC0_6.out)
                 rintro e w39 ⟨rfl, hb⟩
                 refine ⟨_, rfl, ?_⟩
                 have n0_ := Aside0.mk (Kd.R_below (by (with_reducible repeat (first | apply Kd.R_alloc | apply Kd.R_drewN | apply Kd.R_drew)); exact HO340.out) hb)
                 have n1_ := Aside0.mk (blk_below (g := gb337) (o := .cells #[.int .i64 a0_0, .int .i64 a0_1, .int .i64 a0_2, .int .i64 a0_3, .int .i64 a0_4, .int .i64 a0_5, .slice A0_6 l0_6.length c0_6, .slice A0_7 l0_7.length c0_7] 34 (0, 0)) (by (with_reducible repeat (first | refine blk_drewN ?_ _ | refine blk_drew ?_ | refine blk_alloc ?_ _)); exact BK337.out) hb)
                 have n2_ := Aside0.mk (blk_below (g := gb342) (o := .cells #[.int .i64 a0_3, .int .i64 a0_4, .int .i64 a0_5, .slice A0_6 l0_6.length c0_6, .slice A0_7 l0_7.length c0_7] 32 (0, 0)) (by (with_reducible repeat (first | refine blk_drewN ?_ _ | refine blk_drew ?_ | refine blk_alloc ?_ _)); exact BK342.out) hb)
                 have n3_ := Aside0.mk (below_step (by repeat (first | (with_reducible first | exact HB.out | apply below_alloc | apply pw_below_drewN | apply below_drew1 | refine below_set ?_ GE337.out | refine below_set ?_ GE342.out) | exact HB.out)) hb)
                 clear HO340
                 clear BK337
                 clear BK342
                 clear HB
                 have HO340 := n0_
                 have BK337 := n1_
                 have BK342 := n2_
                 have HB := n3_
                 clear n0_ n1_ n2_ n3_
                 (try clear hb)
                 (try clear hb2)
                 (try clear hk)
                 (try clear hi)
                 refine hK.out _ _ ⟨(blk_cell BK342.out 0).trans rfl, (blk_cell BK342.out 1).trans rfl, (blk_cell BK342.out 2).trans rfl, (blk_cell BK342.out 3).trans rfl, (blk_cell BK342.out 4).trans rfl⟩ (fun hHeld => ?_)
                 clear hK K
                 refine norm_ (a' := ?_) ?_ ?_
                 rotate_left
                 ·show Act.put _ (some 42) _ = _
                  simp only [Act.put, List.setIfInBounds_toArray, List.set_cons_zero, List.set_cons_succ, i64_w, i32_w]
                  rfl
                 refine pure_ (i := 19) (N := some 43) (v := ?_) (a' := ?_) #[true, true, true, true, true, true, true, true, true, true, true, true, true, true, true, true, true, true, true, true, false, true, true, false, false, false] rfl rfl (any_of HT_.out (by kernel_rfl)) (fun _ _ _ h => h) (Or.inl ⟨by rfl, ?_⟩) ?_ ?_
                 rotate_left
                 ·intro w'
                  go_simp
                  with_reducible rfl
                 rotate_left
                 ·simp only [Act.put, List.setIfInBounds_toArray, List.set_cons_zero, List.set_cons_succ, i64_w, i32_w]
                  rfl
                 refine pure_ (i := 20) (N := some 44) (v := ?_) (a' := ?_) #[true, true, true, true, true, true, true, true, true, true, true, true, true, true, true, true, true, true, true, true, true, true, true, false, false, false] rfl rfl (any_of HT_.out (by kernel_rfl)) (fun _ _ _ h => h) (Or.inl ⟨by rfl, ?_⟩) ?_ ?_
                 rotate_left
                 ·intro w'
                  go_simp
                  with_reducible rfl
                 rotate_left
                 ·simp only [Act.put, List.setIfInBounds_toArray, List.set_cons_zero, List.set_cons_succ, i64_w, i32_w]
                  rfl
                 refine one_ (i := 23) (N := some 47) #[true, true, true, true, true, true, true, true, true, true, true, true, true, true, true, true, true, true, true, true, true, true, true, true, false, false] rfl rfl (one_of HT_.out (by kernel_rfl)) (by decide) (fun K hK => ?_)
                 refine goes_ Tryd.func25 (by kernel_rfl) rfl #[.slice A0_7 l0_7.length c0_7] (by rfl) rfl rfl (by (try simp only [List.map_toArray, List.map_cons, List.map_nil]); first | done | rfl | (simp only [List.length_drop, List.length_take]; rfl)) ?_
                 with_reducible refine (vokref25_hex.calls kj1 _ _ l0_7 t347 _ ?side1 ?side2 A25.out).mono ?_
                 (case side1 => repeat (first | exact (Kd.C_below HR0_7.out HB.out) | (with_reducible refine Kd.C_alloc ?_ _) | (with_reducible refine Kd.C_drewN ?_ _) | (with_reducible refine Kd.C_drew ?_)))
                 (case side2 => exact HC0_7.out)
                 rintro e w40 ⟨rfl, hb⟩
                 refine ⟨_, rfl, ?_⟩
                 have n0_ := Aside0.mk (Kd.R_below (by (with_reducible repeat (first | apply Kd.R_alloc | apply Kd.R_drewN | apply Kd.R_drew)); exact HO340.out) hb)
                 have n1_ := Aside0.mk (blk_below (g := gb337) (o := .cells #[.int .i64 a0_0, .int .i64 a0_1, .int .i64 a0_2, .int .i64 a0_3, .int .i64 a0_4, .int .i64 a0_5, .slice A0_6 l0_6.length c0_6, .slice A0_7 l0_7.length c0_7] 34 (0, 0)) (by (with_reducible repeat (first | refine blk_drewN ?_ _ | refine blk_drew ?_ | refine blk_alloc ?_ _)); exact BK337.out) hb)
                 have n2_ := Aside0.mk (blk_below (g := gb342) (o := .cells #[.int .i64 a0_3, .int .i64 a0_4, .int .i64 a0_5, .slice A0_6 l0_6.length c0_6, .slice A0_7 l0_7.length c0_7] 32 (0, 0)) (by (with_reducible repeat (first | refine blk_drewN ?_ _ | refine blk_drew ?_ | refine blk_alloc ?_ _)); exact BK342.out) hb)
                 have n3_ := Aside0.mk (below_step (by repeat (first | (with_reducible first | exact HB.out | apply below_alloc | apply pw_below_drewN | apply below_drew1 | refine below_set ?_ GE337.out | refine below_set ?_ GE342.out) | exact HB.out)) hb)
                 clear HO340
                 clear BK337
                 clear BK342
                 clear HB
                 have HO340 := n0_
                 have BK337 := n1_
                 have BK342 := n2_
                 have HB := n3_
                 clear n0_ n1_ n2_ n3_
                 (try clear hb)
                 (try clear hb2)
                 (try clear hk)
                 (try clear hi)
                 refine hK.out _ _ ⟨(blk_cell BK342.out 0).trans rfl, (blk_cell BK342.out 1).trans rfl, (blk_cell BK342.out 2).trans rfl, (blk_cell BK342.out 3).trans rfl, (blk_cell BK342.out 4).trans rfl⟩ (fun hHeld => ?_)
                 clear hK K
                 refine norm_ (a' := ?_) ?_ ?_
                 rotate_left
                 ·show Act.put _ (some 47) _ = _
                  simp only [Act.put, List.setIfInBounds_toArray, List.set_cons_zero, List.set_cons_succ, i64_w, i32_w]
                  rfl
                 refine pure_ (i := 24) (N := some 48) (v := ?_) (a' := ?_) #[true, true, true, true, true, true, true, true, true, true, true, true, true, true, true, true, true, true, true, true, true, true, true, true, true, false] rfl rfl (any_of HT_.out (by kernel_rfl)) (fun _ _ _ h => h) (Or.inl ⟨by rfl, ?_⟩) ?_ ?_
                 rotate_left
                 ·intro w'
                  go_simp
                  with_reducible rfl
                 rotate_left
                 ·simp only [Act.put, List.setIfInBounds_toArray, List.set_cons_zero, List.set_cons_succ, i64_w, i32_w]
                  rfl
                 refine pure_ (i := 25) (N := some 2) (v := ?_) (a' := ?_) #[true, true, true, true, true, true, true, true, true, true, true, true, true, true, true, true, true, true, true, true, true, true, true, true, true, true] rfl rfl (any_of HT_.out (by kernel_rfl)) (fun _ _ _ h => h) (Or.inl ⟨by rfl, ?_⟩) ?_ ?_
                 rotate_left
                 ·intro w'
                  go_simp
                  with_reducible rfl
                 rotate_left
                 ·simp only [Act.put, List.setIfInBounds_toArray, List.set_cons_zero, List.set_cons_succ, i64_w, i32_w]
                  rfl
                 refine done_ (done_of HT_.out (by kernel_rfl)) ?_
                 try go_wp2
                 go_ret
                 exact ⟨by first | rfl | (simp [errW_none, errW_some] <;> rfl) | (simp [*, errW_none, errW_some] <;> rfl), by repeat (first | (with_reducible first | exact HB.out | apply below_alloc | apply pw_below_drewN | apply below_drew1 | refine below_set ?_ GE337.out | refine below_set ?_ GE342.out) | exact HB.out)⟩
                ·rw [if_neg c26] at H
                 exact absurd H (by simp)
               ·rw [if_neg c24] at H
                exact absurd H (by simp)
              ·rw [if_neg c23] at H
               exact absurd H (by simp)
             ·rw [if_neg c21] at H
              exact absurd H (by simp)
            ·rw [if_neg c20] at H
             exact absurd H (by simp)
           ·rw [if_neg c18] at H
            exact absurd H (by simp)
          ·rw [if_neg c17] at H
           exact absurd H (by simp)
         ·rw [if_neg c15] at H
          exact absurd H (by simp)
        ·rw [if_neg c14] at H
         exact absurd H (by simp)
       ·rw [if_neg c12] at H
        have c12b0 : (a0_0 == 1) = false := beq_eq_false_iff_ne.mpr c12
        have c12b1 : (a0_0 != 1) = true := bne_iff_ne.mpr c12
        replace H := Option.bind_eq_some_iff.mp H
        obtain ⟨t348, A410, H⟩ := H
        replace H : (if ((rdOf ByteArray.empty t338 a0_0) ++ (⟨#[32]⟩ : ByteArray)).size + t348.size ≤ 9223372036854775807 then (if (((rdOf ByteArray.empty t338 a0_0) ++ (⟨#[32]⟩ : ByteArray)) ++ t348).size + 1 ≤ 9223372036854775807 then ((vokref_Dec.f kj1 a0_2).bind fun t349 => (if ((((rdOf ByteArray.empty t338 a0_0) ++ (⟨#[32]⟩ : ByteArray)) ++ t348) ++ (⟨#[32]⟩ : ByteArray)).size + t349.size ≤ 9223372036854775807 then (some (((((rdOf ByteArray.empty t338 a0_0) ++ (⟨#[32]⟩ : ByteArray)) ++ t348) ++ (⟨#[32]⟩ : ByteArray)) ++ t349)) else (none))) else (none)) else (none)) = some r := H
        have A41 := Aside0.mk A410
        clear A410
        by_cases c42 : ((rdOf ByteArray.empty t338 a0_0) ++ (⟨#[32]⟩ : ByteArray)).size + t348.size ≤ 9223372036854775807
        ·rw [if_pos c42] at H
         have c42b0 := eq_true c42
         have c42b1 : decide (((rdOf ByteArray.empty t338 a0_0) ++ (⟨#[32]⟩ : ByteArray)).size + t348.size ≤ 9223372036854775807) = true := decide_eq_true c42
         try have c42b2 : (9223372036854775807 < ((rdOf ByteArray.empty t338 a0_0) ++ (⟨#[32]⟩ : ByteArray)).size + t348.size) = False := eq_false (Nat.not_lt.2 c42)
         try have c42b3 : (9223372036854775807 < (rdOf ByteArray.empty t338 a0_0).size + 1 + t348.size) = False := by have hz_ := c42b2; simp only [ByteArray.size_append] at hz_; exact hz_
         by_cases c43 : (((rdOf ByteArray.empty t338 a0_0) ++ (⟨#[32]⟩ : ByteArray)) ++ t348).size + 1 ≤ 9223372036854775807
         ·rw [if_pos c43] at H
          have c43b0 := eq_true c43
          have c43b1 : decide ((((rdOf ByteArray.empty t338 a0_0) ++ (⟨#[32]⟩ : ByteArray)) ++ t348).size + 1 ≤ 9223372036854775807) = true := decide_eq_true c43
          try have c43b2 : (9223372036854775807 < (((rdOf ByteArray.empty t338 a0_0) ++ (⟨#[32]⟩ : ByteArray)) ++ t348).size + 1) = False := eq_false (Nat.not_lt.2 c43)
          try have c43b3 : (9223372036854775807 < (rdOf ByteArray.empty t338 a0_0).size + 1 + t348.size + 1) = False := by have hz_ := c43b2; simp only [ByteArray.size_append] at hz_; exact hz_
          replace H := Option.bind_eq_some_iff.mp H
          obtain ⟨t349, A440, H⟩ := H
          replace H : (if ((((rdOf ByteArray.empty t338 a0_0) ++ (⟨#[32]⟩ : ByteArray)) ++ t348) ++ (⟨#[32]⟩ : ByteArray)).size + t349.size ≤ 9223372036854775807 then (some (((((rdOf ByteArray.empty t338 a0_0) ++ (⟨#[32]⟩ : ByteArray)) ++ t348) ++ (⟨#[32]⟩ : ByteArray)) ++ t349)) else (none)) = some r := H
          have A44 := Aside0.mk A440
          clear A440
          by_cases c45 : ((((rdOf ByteArray.empty t338 a0_0) ++ (⟨#[32]⟩ : ByteArray)) ++ t348) ++ (⟨#[32]⟩ : ByteArray)).size + t349.size ≤ 9223372036854775807
          ·rw [if_pos c45] at H
           have c45b0 := eq_true c45
           have c45b1 : decide (((((rdOf ByteArray.empty t338 a0_0) ++ (⟨#[32]⟩ : ByteArray)) ++ t348) ++ (⟨#[32]⟩ : ByteArray)).size + t349.size ≤ 9223372036854775807) = true := decide_eq_true c45
           try have c45b2 : (9223372036854775807 < ((((rdOf ByteArray.empty t338 a0_0) ++ (⟨#[32]⟩ : ByteArray)) ++ t348) ++ (⟨#[32]⟩ : ByteArray)).size + t349.size) = False := eq_false (Nat.not_lt.2 c45)
           try have c45b3 : (9223372036854775807 < (rdOf ByteArray.empty t338 a0_0).size + 1 + t348.size + 1 + t349.size) = False := by have hz_ := c45b2; simp only [ByteArray.size_append] at hz_; exact hz_
           obtain rfl := Option.some.inj H
           try go_wp2
           have n0_ := Aside0.mk (blk_drew BK337.out)
           have n1_ := Aside0.mk (below_drew1 HB.out)
           clear BK337
           clear HB
           have BK337 := n0_
           have HB := n1_
           clear n0_ n1_
           refine start_ (n := 7) (S := fun w' => w'.cell? ⟨gb337, 0, none⟩ = some (.int .i64 a0_0) ∧ w'.cell? ⟨gb337, 1, none⟩ = some (.int .i64 a0_1) ∧ w'.cell? ⟨gb337, 2, none⟩ = some (.int .i64 a0_2) ∧ w'.cell? ⟨gb337, 3, none⟩ = some (.int .i64 a0_3) ∧ w'.cell? ⟨gb337, 4, none⟩ = some (.int .i64 a0_4) ∧ w'.cell? ⟨gb337, 5, none⟩ = some (.int .i64 a0_5) ∧ w'.cell? ⟨gb337, 6, none⟩ = some (.slice A0_6 l0_6.length c0_6) ∧ w'.cell? ⟨gb337, 7, none⟩ = some (.slice A0_7 l0_7.length c0_7)) (ds := []) #[false, false, false, false, false, false, false] (by kernel_rfl) rfl rfl ⟨(blk_cell BK337.out 0).trans rfl, (blk_cell BK337.out 1).trans rfl, (blk_cell BK337.out 2).trans rfl, (blk_cell BK337.out 3).trans rfl, (blk_cell BK337.out 4).trans rfl, (blk_cell BK337.out 5).trans rfl, (blk_cell BK337.out 6).trans rfl, (blk_cell BK337.out 7).trans rfl⟩ (fun hHeld => ?_)
           generalize wc.drew = w46 at BK337 HB hHeld ⊢
           refine pure_ (i := 1) (N := some 14) (v := ?_) (a' := ?_) #[false, true, false, false, false, false, false] rfl rfl (by kernel_rfl) (fun _ _ _ h => h) (Or.inl ⟨by rfl, ?_⟩) ?_ ?_
           rotate_left
           ·intro w'
            go_simp
            with_reducible rfl
           rotate_left
           ·simp only [Act.put, List.setIfInBounds_toArray, List.set_cons_zero, List.set_cons_succ, i64_w, i32_w]
            rfl
           refine take_ (i := 2) (N := some 15) (v := ?_) (a' := ?_) #[false, true, true, false, false, false, false] rfl rfl (by kernel_rfl) (fun _ _ _ h => h) (Or.inl ⟨by rfl, ?_⟩) hHeld ?_ ?_
           rotate_left
           ·rintro w' ⟨s0, s1, s2, s3, s4, s5, s6, s7⟩
            go_simp
            with_reducible rfl
           rotate_left
           ·simp only [Act.put, List.setIfInBounds_toArray, List.set_cons_zero, List.set_cons_succ, i64_w, i32_w]
            rfl
           refine one_ (i := 0) (N := some 13) #[true, true, true, false, false, false, false] rfl rfl (by kernel_rfl) (by decide) (fun K hK => ?_)
           refine goes_ Tryd.func16 (by kernel_rfl) rfl #[] (by rfl) rfl rfl (by (try simp only [List.map_toArray, List.map_cons, List.map_nil]); first | done | rfl | (simp only [List.length_drop, List.length_take]; rfl)) ?_
           with_reducible refine (vokref25_words.calls  t338 _ A8.out).mono ?_
           rintro e w47 ⟨v339, rfl, ho0, hb⟩
           refine ⟨_, rfl, ?_⟩
           have n0_ := Aside0.mk (Kd.R_lower ho0 (below_size (by repeat (first | (with_reducible first | exact HB.out | apply below_alloc | apply pw_below_drewN | apply below_drew1 | refine below_set ?_ GE337.out) | exact HB.out))))
           have n1_ := Aside0.mk (blk_below (g := gb337) (o := .cells #[.int .i64 a0_0, .int .i64 a0_1, .int .i64 a0_2, .int .i64 a0_3, .int .i64 a0_4, .int .i64 a0_5, .slice A0_6 l0_6.length c0_6, .slice A0_7 l0_7.length c0_7] 34 (0, 0)) (by (with_reducible repeat (first | refine blk_drewN ?_ _ | refine blk_drew ?_ | refine blk_alloc ?_ _)); exact BK337.out) hb)
           have n2_ := Aside0.mk (below_step (by repeat (first | (with_reducible first | exact HB.out | apply below_alloc | apply pw_below_drewN | apply below_drew1 | refine below_set ?_ GE337.out) | exact HB.out)) hb)
           clear BK337
           clear HB
           have HO340 := n0_
           have BK337 := n1_
           have HB := n2_
           clear n0_ n1_ n2_
           (try clear hb)
           (try clear hb2)
           (try clear hk)
           (try clear hi)
           (try clear ho0)
           obtain ⟨Ao48, co48, eo48⟩ := Kd.R_slice HO340.out
           (first | subst eo48 | (injection eo48 with f1_ f2_ f3_; have f4_ := f1_.symm; have f5_ := f3_.symm; clear f1_ f2_ f3_; subst f4_; subst f5_))
           have p341 : 0 ≤ (a0_0 : Int) := of_decide_eq_true (by first | (with_reducible assumption) | assumption)
           have q341 : a0_0 < (t338.length : Int) := of_decide_eq_true (by first | (with_reducible assumption) | assumption)
           obtain ⟨ad341, e341, hx341_0⟩ := Kd.at_string (Kd.R_reads' HO340.out).2.2 a0_0 p341 q341
           cases e341
           replace p341 := eq_true p341
           replace q341 := eq_true q341
           refine hK.out _ _ ⟨(blk_cell BK337.out 0).trans rfl, (blk_cell BK337.out 1).trans rfl, (blk_cell BK337.out 2).trans rfl, (blk_cell BK337.out 3).trans rfl, (blk_cell BK337.out 4).trans rfl, (blk_cell BK337.out 5).trans rfl, (blk_cell BK337.out 6).trans rfl, (blk_cell BK337.out 7).trans rfl⟩ (fun hHeld => ?_)
           clear hK K
           refine norm_ (a' := ?_) ?_ ?_
           rotate_left
           ·show Act.put _ (some 13) _ = _
            simp only [Act.put, List.setIfInBounds_toArray, List.set_cons_zero, List.set_cons_succ, i64_w, i32_w]
            rfl
           refine pure_ (i := 3) (N := some 16) (v := ?_) (a' := ?_) #[true, true, true, true, false, false, false] rfl rfl (by kernel_rfl) (fun _ _ _ h => h) (Or.inl ⟨by rfl, ?_⟩) ?_ ?_
           rotate_left
           ·intro w'
            go_simp
            with_reducible rfl
           rotate_left
           ·simp only [Act.put, List.setIfInBounds_toArray, List.set_cons_zero, List.set_cons_succ, i64_w, i32_w]
            rfl
           refine one_ (i := 4) (N := some 17) #[true, true, true, true, true, false, false] rfl rfl (by kernel_rfl) (by decide) (fun K hK => ?_)
           refine run_ ?_ rfl rfl ?hr_ ?_
           case hr_ =>
            go_simp
            with_reducible rfl
           refine hK.out _ _ ⟨(blk_cell BK337.out 0).trans rfl, (blk_cell BK337.out 1).trans rfl, (blk_cell BK337.out 2).trans rfl, (blk_cell BK337.out 3).trans rfl, (blk_cell BK337.out 4).trans rfl, (blk_cell BK337.out 5).trans rfl, (blk_cell BK337.out 6).trans rfl, (blk_cell BK337.out 7).trans rfl⟩ (fun hHeld => ?_)
           clear hK K
           refine norm_ (a' := ?_) ?_ ?_
           rotate_left
           ·show Act.put _ (some 17) _ = _
            simp only [Act.put, List.setIfInBounds_toArray, List.set_cons_zero, List.set_cons_succ, i64_w, i32_w]
            rfl
           refine pure_ (i := 5) (N := some 18) (v := ?_) (a' := ?_) #[true, true, true, true, true, true, false] rfl rfl (by kernel_rfl) (fun _ _ _ h => h) (Or.inl ⟨by rfl, ?_⟩) ?_ ?_
           rotate_left
           ·intro w'
            go_simp
            with_reducible rfl
           rotate_left
           ·simp only [Act.put, List.setIfInBounds_toArray, List.set_cons_zero, List.set_cons_succ, i64_w, i32_w]
            rfl
           refine pure_ (i := 6) (N := some 3) (v := ?_) (a' := ?_) #[true, true, true, true, true, true, true] rfl rfl (by kernel_rfl) (fun _ _ _ h => h) (Or.inl ⟨by rfl, ?_⟩) ?_ ?_
           rotate_left
           ·intro w'
            go_simp
            with_reducible rfl
           rotate_left
           ·simp only [Act.put, List.setIfInBounds_toArray, List.set_cons_zero, List.set_cons_succ, i64_w, i32_w]
            rfl
           refine done_ (by kernel_rfl) ?_
           have hcz49_0 : w47.cell? ⟨gb337, 0, none⟩ = some (.int .i64 a0_0) := (blk_cell BK337.out 0).trans rfl
           have hcz49_1 : w47.cell? ⟨gb337, 1, none⟩ = some (.int .i64 a0_1) := (blk_cell BK337.out 1).trans rfl
           have hcz49_2 : w47.cell? ⟨gb337, 2, none⟩ = some (.int .i64 a0_2) := (blk_cell BK337.out 2).trans rfl
           have hcz49_3 : w47.cell? ⟨gb337, 3, none⟩ = some (.int .i64 a0_3) := (blk_cell BK337.out 3).trans rfl
           have hcz49_4 : w47.cell? ⟨gb337, 4, none⟩ = some (.int .i64 a0_4) := (blk_cell BK337.out 4).trans rfl
           have hcz49_5 : w47.cell? ⟨gb337, 5, none⟩ = some (.int .i64 a0_5) := (blk_cell BK337.out 5).trans rfl
           have hcz49_6 : w47.cell? ⟨gb337, 6, none⟩ = some (.slice A0_6 l0_6.length c0_6) := (blk_cell BK337.out 6).trans rfl
           have hcz49_7 : w47.cell? ⟨gb337, 7, none⟩ = some (.slice A0_7 l0_7.length c0_7) := (blk_cell BK337.out 7).trans rfl
           have hfz49_0 := blk_frozen BK337.out 0
           have hfz49_1 := blk_frozen BK337.out 1
           have hfz49_2 := blk_frozen BK337.out 2
           have hfz49_3 := blk_frozen BK337.out 3
           have hfz49_4 := blk_frozen BK337.out 4
           have hfz49_5 := blk_frozen BK337.out 5
           have hfz49_6 := blk_frozen BK337.out 6
           have hfz49_7 := blk_frozen BK337.out 7
           try go_wp2
           have n0_ := Aside0.mk (Kd.R_drew HO340.out)
           have n1_ := Aside0.mk (blk_drew BK337.out)
           have n2_ := Aside0.mk (below_drew1 HB.out)
           clear HO340
           clear BK337
           clear HB
           have HO340 := n0_
           have BK337 := n1_
           have HB := n2_
           clear n0_ n1_ n2_
           refine start_ (n := 11) (S := fun w' => w'.cell? ⟨gb337, 0, none⟩ = some (.int .i64 a0_0) ∧ w'.cell? ⟨gb337, 1, none⟩ = some (.int .i64 a0_1) ∧ w'.cell? ⟨gb337, 2, none⟩ = some (.int .i64 a0_2) ∧ w'.cell? ⟨gb337, 3, none⟩ = some (.int .i64 a0_3) ∧ w'.cell? ⟨gb337, 4, none⟩ = some (.int .i64 a0_4) ∧ w'.cell? ⟨gb337, 5, none⟩ = some (.int .i64 a0_5) ∧ w'.cell? ⟨gb337, 6, none⟩ = some (.slice A0_6 l0_6.length c0_6) ∧ w'.cell? ⟨gb337, 7, none⟩ = some (.slice A0_7 l0_7.length c0_7)) (ds := []) #[false, false, false, false, false, false, false, false, false, false, false] (by kernel_rfl) rfl rfl ⟨(blk_cell BK337.out 0).trans rfl, (blk_cell BK337.out 1).trans rfl, (blk_cell BK337.out 2).trans rfl, (blk_cell BK337.out 3).trans rfl, (blk_cell BK337.out 4).trans rfl, (blk_cell BK337.out 5).trans rfl, (blk_cell BK337.out 6).trans rfl, (blk_cell BK337.out 7).trans rfl⟩ (fun hHeld => ?_); refine with_tabW vokref25_Print.tab7 vokref25_Print.bits7 (fun HT_ HW_ => ?_)
           generalize w47.drew = w50 at HO340 BK337 HB hHeld ⊢
           refine pure_ (i := 0) (N := some 49) (v := ?_) (a' := ?_) #[true, false, false, false, false, false, false, false, false, false, false] rfl rfl (any_of HT_.out (by kernel_rfl)) (fun _ _ _ h => h) (Or.inl ⟨by rfl, ?_⟩) ?_ ?_
           rotate_left
           ·intro w'
            go_simp
            with_reducible rfl
           rotate_left
           ·simp only [Act.put, List.setIfInBounds_toArray, List.set_cons_zero, List.set_cons_succ, i64_w, i32_w]
            rfl
           refine pure_ (i := 1) (N := some 50) (v := ?_) (a' := ?_) #[true, true, false, false, false, false, false, false, false, false, false] rfl rfl (any_of HT_.out (by kernel_rfl)) (fun _ _ _ h => h) (Or.inl ⟨by rfl, ?_⟩) ?_ ?_
           rotate_left
           ·intro w'
            go_simp
            with_reducible rfl
           rotate_left
           ·simp only [Act.put, List.setIfInBounds_toArray, List.set_cons_zero, List.set_cons_succ, i64_w, i32_w]
            rfl
           refine pure_ (i := 6) (N := some 55) (v := ?_) (a' := ?_) #[true, true, false, false, false, false, true, false, false, false, false] rfl rfl (any_of HT_.out (by kernel_rfl)) (fun _ _ _ h => h) (Or.inl ⟨by rfl, ?_⟩) ?_ ?_
           rotate_left
           ·intro w'
            go_simp
            with_reducible rfl
           rotate_left
           ·simp only [Act.put, List.setIfInBounds_toArray, List.set_cons_zero, List.set_cons_succ, i64_w, i32_w]
            rfl
           refine take_ (i := 2) (N := some 51) (v := ?_) (a' := ?_) #[true, true, true, false, false, false, true, false, false, false, false] rfl rfl (take_ofW HT_.out HW_.out (by kernel_rfl)) (fun _ _ _ h => h) (Or.inl ⟨by rfl, ?_⟩) hHeld ?_ ?_
           rotate_left
           ·rintro w' ⟨s0, s1, s2, s3, s4, s5, s6, s7⟩
            go_simp
            with_reducible rfl
           rotate_left
           ·simp only [Act.put, List.setIfInBounds_toArray, List.set_cons_zero, List.set_cons_succ, i64_w, i32_w]
            rfl
           refine take_ (i := 7) (N := some 56) (v := ?_) (a' := ?_) #[true, true, true, false, false, false, true, true, false, false, false] rfl rfl (take_ofW HT_.out HW_.out (by kernel_rfl)) (fun _ _ _ h => h) (Or.inl ⟨by rfl, ?_⟩) hHeld ?_ ?_
           rotate_left
           ·rintro w' ⟨s0, s1, s2, s3, s4, s5, s6, s7⟩
            go_simp
            with_reducible rfl
           rotate_left
           ·simp only [Act.put, List.setIfInBounds_toArray, List.set_cons_zero, List.set_cons_succ, i64_w, i32_w]
            rfl
           refine one_ (i := 3) (N := some 52) #[true, true, true, true, false, false, true, true, false, false, false] rfl rfl (one_of HT_.out (by kernel_rfl)) (by decide) (fun K hK => ?_)
           refine goes_ Tryd.func23 (by kernel_rfl) rfl #[.int .i64 a0_1] (by rfl) rfl rfl (by (try simp only [List.map_toArray, List.map_cons, List.map_nil]); first | done | rfl | (simp only [List.length_drop, List.length_take]; rfl)) ?_
           with_reducible refine (vokref_Dec.calls kj1 a0_1 t348 _ A41.out).mono ?_
           rintro e w51 ⟨rfl, hb⟩
           refine ⟨_, rfl, ?_⟩
           have n0_ := Aside0.mk (Kd.R_below (by (with_reducible repeat (first | apply Kd.R_alloc | apply Kd.R_drewN | apply Kd.R_drew)); exact HO340.out) hb)
           have n1_ := Aside0.mk (blk_below (g := gb337) (o := .cells #[.int .i64 a0_0, .int .i64 a0_1, .int .i64 a0_2, .int .i64 a0_3, .int .i64 a0_4, .int .i64 a0_5, .slice A0_6 l0_6.length c0_6, .slice A0_7 l0_7.length c0_7] 34 (0, 0)) (by (with_reducible repeat (first | refine blk_drewN ?_ _ | refine blk_drew ?_ | refine blk_alloc ?_ _)); exact BK337.out) hb)
           have n2_ := Aside0.mk (below_step (by repeat (first | (with_reducible first | exact HB.out | apply below_alloc | apply pw_below_drewN | apply below_drew1 | refine below_set ?_ GE337.out) | exact HB.out)) hb)
           clear HO340
           clear BK337
           clear HB
           have HO340 := n0_
           have BK337 := n1_
           have HB := n2_
           clear n0_ n1_ n2_
           (try clear hb)
           (try clear hb2)
           (try clear hk)
           (try clear hi)
           refine hK.out _ _ ⟨(blk_cell BK337.out 0).trans rfl, (blk_cell BK337.out 1).trans rfl, (blk_cell BK337.out 2).trans rfl, (blk_cell BK337.out 3).trans rfl, (blk_cell BK337.out 4).trans rfl, (blk_cell BK337.out 5).trans rfl, (blk_cell BK337.out 6).trans rfl, (blk_cell BK337.out 7).trans rfl⟩ (fun hHeld => ?_)
           clear hK K
           refine norm_ (a' := ?_) ?_ ?_
           rotate_left
           ·show Act.put _ (some 52) _ = _
            simp only [Act.put, List.setIfInBounds_toArray, List.set_cons_zero, List.set_cons_succ, i64_w, i32_w]
            rfl
           refine pure_ (i := 4) (N := some 53) (v := ?_) (a' := ?_) #[true, true, true, true, true, false, true, true, false, false, false] rfl rfl (any_of HT_.out (by kernel_rfl)) (fun _ _ _ h => h) (Or.inl ⟨by rfl, ?_⟩) ?_ ?_
           rotate_left
           ·intro w'
            go_simp
            with_reducible rfl
           rotate_left
           ·simp only [Act.put, List.setIfInBounds_toArray, List.set_cons_zero, List.set_cons_succ, i64_w, i32_w]
            rfl
           refine pure_ (i := 5) (N := some 54) (v := ?_) (a' := ?_) #[true, true, true, true, true, true, true, true, false, false, false] rfl rfl (any_of HT_.out (by kernel_rfl)) (fun _ _ _ h => h) (Or.inl ⟨by rfl, ?_⟩) ?_ ?_
           rotate_left
           ·intro w'
            go_simp
            with_reducible rfl
           rotate_left
           ·simp only [Act.put, List.setIfInBounds_toArray, List.set_cons_zero, List.set_cons_succ, i64_w, i32_w]
            rfl
           refine one_ (i := 8) (N := some 57) #[true, true, true, true, true, true, true, true, true, false, false] rfl rfl (one_of HT_.out (by kernel_rfl)) (by decide) (fun K hK => ?_)
           refine goes_ Tryd.func23 (by kernel_rfl) rfl #[.int .i64 a0_2] (by rfl) rfl rfl (by (try simp only [List.map_toArray, List.map_cons, List.map_nil]); first | done | rfl | (simp only [List.length_drop, List.length_take]; rfl)) ?_
           with_reducible refine (vokref_Dec.calls kj1 a0_2 t349 _ A44.out).mono ?_
           rintro e w52 ⟨rfl, hb⟩
           refine ⟨_, rfl, ?_⟩
           have n0_ := Aside0.mk (Kd.R_below (by (with_reducible repeat (first | apply Kd.R_alloc | apply Kd.R_drewN | apply Kd.R_drew)); exact HO340.out) hb)
           have n1_ := Aside0.mk (blk_below (g := gb337) (o := .cells #[.int .i64 a0_0, .int .i64 a0_1, .int .i64 a0_2, .int .i64 a0_3, .int .i64 a0_4, .int .i64 a0_5, .slice A0_6 l0_6.length c0_6, .slice A0_7 l0_7.length c0_7] 34 (0, 0)) (by (with_reducible repeat (first | refine blk_drewN ?_ _ | refine blk_drew ?_ | refine blk_alloc ?_ _)); exact BK337.out) hb)
           have n2_ := Aside0.mk (below_step (by repeat (first | (with_reducible first | exact HB.out | apply below_alloc | apply pw_below_drewN | apply below_drew1 | refine below_set ?_ GE337.out) | exact HB.out)) hb)
           clear HO340
           clear BK337
           clear HB
           have HO340 := n0_
           have BK337 := n1_
           have HB := n2_
           clear n0_ n1_ n2_
           (try clear hb)
           (try clear hb2)
           (try clear hk)
           (try clear hi)
           refine hK.out _ _ ⟨(blk_cell BK337.out 0).trans rfl, (blk_cell BK337.out 1).trans rfl, (blk_cell BK337.out 2).trans rfl, (blk_cell BK337.out 3).trans rfl, (blk_cell BK337.out 4).trans rfl, (blk_cell BK337.out 5).trans rfl, (blk_cell BK337.out 6).trans rfl, (blk_cell BK337.out 7).trans rfl⟩ (fun hHeld => ?_)
           clear hK K
           refine norm_ (a' := ?_) ?_ ?_
           rotate_left
           ·show Act.put _ (some 57) _ = _
            simp only [Act.put, List.setIfInBounds_toArray, List.set_cons_zero, List.set_cons_succ, i64_w, i32_w]
            rfl
           refine pure_ (i := 9) (N := some 58) (v := ?_) (a' := ?_) #[true, true, true, true, true, true, true, true, true, true, false] rfl rfl (any_of HT_.out (by kernel_rfl)) (fun _ _ _ h => h) (Or.inl ⟨by rfl, ?_⟩) ?_ ?_
           rotate_left
           ·intro w'
            go_simp
            with_reducible rfl
           rotate_left
           ·simp only [Act.put, List.setIfInBounds_toArray, List.set_cons_zero, List.set_cons_succ, i64_w, i32_w]
            rfl
           refine pure_ (i := 10) (N := some 2) (v := ?_) (a' := ?_) #[true, true, true, true, true, true, true, true, true, true, true] rfl rfl (any_of HT_.out (by kernel_rfl)) (fun _ _ _ h => h) (Or.inl ⟨by rfl, ?_⟩) ?_ ?_
           rotate_left
           ·intro w'
            go_simp
            with_reducible rfl
           rotate_left
           ·simp only [Act.put, List.setIfInBounds_toArray, List.set_cons_zero, List.set_cons_succ, i64_w, i32_w]
            rfl
           refine done_ (done_of HT_.out (by kernel_rfl)) ?_
           try go_wp2
           go_ret
           exact ⟨by first | rfl | (simp [errW_none, errW_some] <;> rfl) | (simp [*, errW_none, errW_some] <;> rfl), by repeat (first | (with_reducible first | exact HB.out | apply below_alloc | apply pw_below_drewN | apply below_drew1 | refine below_set ?_ GE337.out) | exact HB.out)⟩
          ·rw [if_neg c45] at H
           exact absurd H (by simp)
         ·rw [if_neg c43] at H
          exact absurd H (by simp)
        ·rw [if_neg c42] at H
         exact absurd H (by simp)
      ·rw [if_neg c11] at H
       exact absurd H (by simp)
     ·rw [if_neg c10] at H
      exact absurd H (by simp)
    ·rw [if_neg c9] at H
     exact absurd H (by simp)

end Go.Proofs.YtleljfmhefobeaaDoor.GL
