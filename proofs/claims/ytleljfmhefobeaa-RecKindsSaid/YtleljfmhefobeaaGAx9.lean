-- laid by a program of this session (print_proof, changed for laws over structs)
import Derived.Test.YtleljfmhefobeaaGAx0
import Derived.Test.YtleljfmhefobeaaGAx7
import Derived.Test.YtleljfmhefobeaaGAx8
namespace Go.Proofs.Ytleljfmhefobeaa.GA
open Go.RowKit Go.Proofs.YtleljfmhefobeaaW.PrintWords Go.Proofs.YtleljfmhefobeaaW.PrintLast Go.Proofs.YtleljfmhefobeaaW.PrintMore
attribute [local go_sem] max2_int min2_int max_two min_two max_three min_three max_four min_four   -- for this text's walks alone
set_option linter.unusedVariables false
set_option linter.unusedSimpArgs false

/-! ### voklaw16_RecKinds: function 4 -/
mutual
def voklaw16_RecKinds.j0 : Nat → Int → Bool → Int → Int → Int → Int → Int → Bool → List Int → List Int → List Int → Option (Bool)
  | 0, _, _, _, _, _, _, _, _, _, _, _ => none
  | k + 1, x1, x19, x229000, x229001, x229002, x229003, x229004, x229005, x229006, x229007, x229008 => if x19 = true then ((voklaw16_first.f k).bind fun t232 => (some t232)) else (if x229000 = 2 then (voklaw16_RecKinds.j1 k x1 true x229000 x229001 x229002 x229003 x229004 x229005 x229006 x229007 x229008 x229000 x229001 x229002 x229003 x229004 x229005 x229006 x229007 x229008) else (voklaw16_RecKinds.j1 k x1 (x229000 == 5) x229000 x229001 x229002 x229003 x229004 x229005 x229006 x229007 x229008 x229000 x229001 x229002 x229003 x229004 x229005 x229006 x229007 x229008))
def voklaw16_RecKinds.j1 : Nat → Int → Bool → Int → Int → Int → Int → Int → Bool → List Int → List Int → List Int → Int → Int → Int → Int → Int → Bool → List Int → List Int → List Int → Option (Bool)
  | 0, _, _, _, _, _, _, _, _, _, _, _, _, _, _, _, _, _, _, _, _ => none
  | k + 1, x1, x6, x229000, x229001, x229002, x229003, x229004, x229005, x229006, x229007, x229008, x234000, x234001, x234002, x234003, x234004, x234005, x234006, x234007, x234008 => if x1 = 0 then ((rec_Encode.f k x234000 x234001 5 x234003 x234004 x234005 x234006 x234007 x234008).bind fun bt234 => ((voklaw16_first.f k).bind fun t238 => (if t238 = true then ((rec_May.f k x234000 x234001 5 x234003 x234004 x234005 x234006 x234007 x234008).bind fun t239 => (if (t239 == (!(x229000 != 5))) = true then (some ((bt234.2 == 0) == (!(x229000 != 5)))) else (some false))) else (some false)))) else (if x1 = 1 then ((rec_Encode.f k x234000 x234001 x234002 4 x234004 x234005 x234006 x234007 x234008).bind fun bt240 => ((voklaw16_first.f k).bind fun t244 => (if t244 = true then ((rec_May.f k x234000 x234001 x234002 4 x234004 x234005 x234006 x234007 x234008).bind fun t245 => (if (t245 == (!true)) = true then (some ((bt240.2 == 0) == (!true))) else (some false))) else (some false)))) else (if x1 = 2 then (if x6 = true then ((rec_Encode.f k x234000 x234001 x234002 x234003 7 x234005 x234006 x234007 x234008).bind fun bt246 => ((voklaw16_first.f k).bind fun t250 => (if t250 = true then ((rec_May.f k x234000 x234001 x234002 x234003 7 x234005 x234006 x234007 x234008).bind fun t251 => (if (t251 == (!(x229003 == 1))) = true then (some ((bt246.2 == 0) == (!(x229003 == 1)))) else (some false))) else (some false)))) else ((rec_Encode.f k x234000 x234001 x234002 x234003 7 x234005 x234006 x234007 x234008).bind fun bt252 => ((voklaw16_first.f k).bind fun t256 => (if t256 = true then ((rec_May.f k x234000 x234001 x234002 x234003 7 x234005 x234006 x234007 x234008).bind fun t257 => (if (t257 == (!true)) = true then (some ((bt252.2 == 0) == (!true))) else (some false))) else (some false))))) else (if x1 = 3 then ((rec_Encode.f k x234000 x234001 x234002 x234003 x234004 true x234006 x234007 x234008).bind fun bt258 => ((voklaw16_first.f k).bind fun t262 => (if t262 = true then ((rec_May.f k x234000 x234001 x234002 x234003 x234004 true x234006 x234007 x234008).bind fun t263 => (if (t263 == (!(x229000 != 4))) = true then (some ((bt258.2 == 0) == (!(x229000 != 4)))) else (some false))) else (some false)))) else (if x1 = 4 then ((some (([3] : List Int) : List Int)).bind fun y264 => ((rec_Encode.f k x234000 x234001 x234002 x234003 x234004 x234005 y264 x234007 x234008).bind fun bt267 => ((voklaw16_first.f k).bind fun t271 => (if t271 = true then ((rec_May.f k x234000 x234001 x234002 x234003 x234004 x234005 y264 x234007 x234008).bind fun t272 => (if (t272 == (!(!x6))) = true then (some ((bt267.2 == 0) == (!(!x6)))) else (some false))) else (some false))))) else (if x1 = 5 then ((some (([9] : List Int) : List Int)).bind fun y273 => ((rec_Encode.f k x234000 x234001 x234002 x234003 x234004 x234005 x234006 x234007 y273).bind fun bt276 => ((voklaw16_first.f k).bind fun t280 => (if t280 = true then ((rec_May.f k x234000 x234001 x234002 x234003 x234004 x234005 x234006 x234007 y273).bind fun t281 => (if (t281 == (!(!x6))) = true then (some ((bt276.2 == 0) == (!(!x6)))) else (some false))) else (some false))))) else ((rec_Encode.f k 7 x234001 x234002 x234003 x234004 x234005 x234006 x234007 x234008).bind fun bt282 => ((voklaw16_first.f k).bind fun t286 => (if t286 = true then ((rec_May.f k 7 x234001 x234002 x234003 x234004 x234005 x234006 x234007 x234008).bind fun t287 => (if (t287 == (!true)) = true then (some ((bt282.2 == 0) == (!true))) else (some false))) else (some false)))))))))
end
def voklaw16_RecKinds.f (k : Nat) (a0_0 : Int) (a0_1 : Int) (a0_2 : Int) (a0_3 : Int) (a0_4 : Int) (a0_5 : Bool) (l0_6 : List Int) (l0_7 : List Int) (l0_8 : List Int) (a1 : Int) : Option (Bool) := (voklaw16_first.f k).bind fun t229 => (if t229 = true then ((voklaw16_Few.f a0_0 a0_1 a0_2 a0_3 a0_4 a0_5 l0_6 l0_7 l0_8).bind fun t230 => (if t230 = true then ((rec_May.f k a0_0 a0_1 a0_2 a0_3 a0_4 a0_5 l0_6 l0_7 l0_8).bind fun t231 => (voklaw16_RecKinds.j0 k a1 (!t231) a0_0 a0_1 a0_2 a0_3 a0_4 a0_5 l0_6 l0_7 l0_8)) else (voklaw16_RecKinds.j0 k a1 true a0_0 a0_1 a0_2 a0_3 a0_4 a0_5 l0_6 l0_7 l0_8))) else (some false))
theorem voklaw16_RecKinds.mono_l : ∀ k, (∀ y0 y1 y2 y3 y4 y5 y6 y7 y8 y9 y10, LeO (voklaw16_RecKinds.j0 k y0 y1 y2 y3 y4 y5 y6 y7 y8 y9 y10) (voklaw16_RecKinds.j0 (k + 1) y0 y1 y2 y3 y4 y5 y6 y7 y8 y9 y10)) ∧ (∀ y0 y1 y2 y3 y4 y5 y6 y7 y8 y9 y10 y11 y12 y13 y14 y15 y16 y17 y18 y19, LeO (voklaw16_RecKinds.j1 k y0 y1 y2 y3 y4 y5 y6 y7 y8 y9 y10 y11 y12 y13 y14 y15 y16 y17 y18 y19) (voklaw16_RecKinds.j1 (k + 1) y0 y1 y2 y3 y4 y5 y6 y7 y8 y9 y10 y11 y12 y13 y14 y15 y16 y17 y18 y19))
  | 0 => ⟨fun _ _ _ _ _ _ _ _ _ _ _ r h => by simp [voklaw16_RecKinds.j0] at h, fun _ _ _ _ _ _ _ _ _ _ _ _ _ _ _ _ _ _ _ _ r h => by simp [voklaw16_RecKinds.j1] at h⟩
  | k + 1 => by
    obtain ⟨ih0, ih1⟩ := voklaw16_RecKinds.mono_l k
    refine ⟨?_, ?_⟩
    · intro y0 y1 y2 y3 y4 y5 y6 y7 y8 y9 y10
      unfold voklaw16_RecKinds.j0
      repeat' first
      | (with_reducible exact ih0 _ _ _ _ _ _ _ _ _ _ _)
      | (with_reducible exact ih1 _ _ _ _ _ _ _ _ _ _ _ _ _ _ _ _ _ _ _ _)
      | (with_reducible exact rec_Encode.mono _ _ _ _ _ _ _ _ _ _)
      | (with_reducible exact rec_May.mono _ _ _ _ _ _ _ _ _ _)
      | (with_reducible exact voklaw16_first.mono _)
      | (with_reducible exact LeO.refl _)
      | (with_reducible exact LeO.none _)
      | (with_reducible refine LeO.ite ?_ ?_)
      | (with_reducible refine LeO.bind ?_ (fun _ => ?_))
      | exact ih0 _ _ _ _ _ _ _ _ _ _ _
      | exact ih1 _ _ _ _ _ _ _ _ _ _ _ _ _ _ _ _ _ _ _ _
      | exact rec_Encode.mono _ _ _ _ _ _ _ _ _ _
      | exact rec_May.mono _ _ _ _ _ _ _ _ _ _
      | exact voklaw16_first.mono _
      | exact LeO.none _
      | refine LeO.ite ?_ ?_
      | refine LeO.bind ?_ (fun _ => ?_)
    · intro y0 y1 y2 y3 y4 y5 y6 y7 y8 y9 y10 y11 y12 y13 y14 y15 y16 y17 y18 y19
      unfold voklaw16_RecKinds.j1
      repeat' first
      | (with_reducible exact ih0 _ _ _ _ _ _ _ _ _ _ _)
      | (with_reducible exact ih1 _ _ _ _ _ _ _ _ _ _ _ _ _ _ _ _ _ _ _ _)
      | (with_reducible exact rec_Encode.mono _ _ _ _ _ _ _ _ _ _)
      | (with_reducible exact rec_May.mono _ _ _ _ _ _ _ _ _ _)
      | (with_reducible exact voklaw16_first.mono _)
      | (with_reducible exact LeO.refl _)
      | (with_reducible exact LeO.none _)
      | (with_reducible refine LeO.ite ?_ ?_)
      | (with_reducible refine LeO.bind ?_ (fun _ => ?_))
      | exact ih0 _ _ _ _ _ _ _ _ _ _ _
      | exact ih1 _ _ _ _ _ _ _ _ _ _ _ _ _ _ _ _ _ _ _ _
      | exact rec_Encode.mono _ _ _ _ _ _ _ _ _ _
      | exact rec_May.mono _ _ _ _ _ _ _ _ _ _
      | exact voklaw16_first.mono _
      | exact LeO.none _
      | refine LeO.ite ?_ ?_
      | refine LeO.bind ?_ (fun _ => ?_)
theorem voklaw16_RecKinds.mono : ∀ a0 a1 a2 a3 a4 a5 a6 a7 a8 a9 k, LeO (voklaw16_RecKinds.f k a0 a1 a2 a3 a4 a5 a6 a7 a8 a9) (voklaw16_RecKinds.f (k + 1) a0 a1 a2 a3 a4 a5 a6 a7 a8 a9) := by
  intro a0 a1 a2 a3 a4 a5 a6 a7 a8 a9 k
  obtain ⟨ih0, ih1⟩ := voklaw16_RecKinds.mono_l k
  unfold voklaw16_RecKinds.f
  repeat' first
      | (with_reducible exact ih0 _ _ _ _ _ _ _ _ _ _ _)
      | (with_reducible exact ih1 _ _ _ _ _ _ _ _ _ _ _ _ _ _ _ _ _ _ _ _)
      | (with_reducible exact rec_Encode.mono _ _ _ _ _ _ _ _ _ _)
      | (with_reducible exact rec_May.mono _ _ _ _ _ _ _ _ _ _)
      | (with_reducible exact voklaw16_first.mono _)
      | (with_reducible exact LeO.refl _)
      | (with_reducible exact LeO.none _)
      | (with_reducible refine LeO.ite ?_ ?_)
      | (with_reducible refine LeO.bind ?_ (fun _ => ?_))
      | exact ih0 _ _ _ _ _ _ _ _ _ _ _
      | exact ih1 _ _ _ _ _ _ _ _ _ _ _ _ _ _ _ _ _ _ _ _
      | exact rec_Encode.mono _ _ _ _ _ _ _ _ _ _
      | exact rec_May.mono _ _ _ _ _ _ _ _ _ _
      | exact voklaw16_first.mono _
      | exact LeO.none _
      | refine LeO.ite ?_ ?_
      | refine LeO.bind ?_ (fun _ => ?_)
def voklaw16_RecKinds.T15 : Bool × List (List Nat × List Nat) := (true, [([], []), ([0], [0]), ([1], [1]), ([2], [2]), ([3, 2], [2, 3]), ([4, 2], [2, 4]), ([2, 5], [2, 5]), ([], []), ([7, 2], [7]), ([6, 8, 0, 1, 2, 3, 4, 5, 6, 7, 8], [6])])
def voklaw16_RecKinds.B15 : List Nat := [0, 1, 3, 7, 15, 31, 63, 0, 135, 511]
theorem voklaw16_RecKinds.tab15 : rtab .any (opsOf Try.f4 15) = voklaw16_RecKinds.T15 := by kernel_rfl
theorem voklaw16_RecKinds.bits15 : waitsOk voklaw16_RecKinds.T15.2 voklaw16_RecKinds.B15 = true := by kernel_rfl
set_option maxHeartbeats 8000000 in
set_option maxRecDepth 100000 in
theorem voklaw16_RecKinds.calls (k : Nat) (a0_0 : Int) (a0_1 : Int) (a0_2 : Int) (a0_3 : Int) (a0_4 : Int) (a0_5 : Bool) (A0_6 : Option Addr) (c0_6 : Nat) (l0_6 : List Int) (A0_7 : Option Addr) (c0_7 : Nat) (l0_7 : List Int) (A0_8 : Option Addr) (c0_8 : Nat) (l0_8 : List Int) (a1 : Int) (r : Bool) (w : World) (hr0_6 : Kd.C (Kd.int .i64) w A0_6 l0_6.length l0_6) (hc0_6 : l0_6.length ≤ c0_6) (hr0_7 : Kd.C (Kd.int .i64) w A0_7 l0_7.length l0_7) (hc0_7 : l0_7.length ≤ c0_7) (hr0_8 : Kd.C (Kd.int .u8) w A0_8 l0_8.length l0_8) (hc0_8 : l0_8.length ≤ c0_8) (h : voklaw16_RecKinds.f k a0_0 a0_1 a0_2 a0_3 a0_4 a0_5 l0_6 l0_7 l0_8 a1 = some r) (hT_ : Aside0 (r = true)) :
    Calls Try.prog 4 #[.agg #[.int .i64 a0_0, .int .i64 a0_1, .int .i64 a0_2, .int .i64 a0_3, .int .i64 a0_4, .bool a0_5, .slice A0_6 l0_6.length c0_6, .slice A0_7 l0_7.length c0_7, .slice A0_8 l0_8.length c0_8], .int .i64 a1] w fun e w' => e = .returned (.bool r) ∧ Below w.heap.size w w' := by
  have hu34 := Try.underlying34
  have HR0_6 := Aside0.mk hr0_6
  have HC0_6 := Aside0.mk hc0_6
  clear hr0_6 hc0_6
  have HR0_7 := Aside0.mk hr0_7
  have HC0_7 := Aside0.mk hc0_7
  clear hr0_7 hc0_7
  have HR0_8 := Aside0.mk hr0_8
  have HC0_8 := Aside0.mk hc0_8
  clear hr0_8 hc0_8
  have HB := Aside0.mk (Below.refl w.heap.size w)
  have H : ((voklaw16_first.f k).bind fun t229 => (if t229 = true then ((voklaw16_Few.f a0_0 a0_1 a0_2 a0_3 a0_4 a0_5 l0_6 l0_7 l0_8).bind fun t230 => (if t230 = true then ((rec_May.f k a0_0 a0_1 a0_2 a0_3 a0_4 a0_5 l0_6 l0_7 l0_8).bind fun t231 => (voklaw16_RecKinds.j0 k a1 (!t231) a0_0 a0_1 a0_2 a0_3 a0_4 a0_5 l0_6 l0_7 l0_8)) else (voklaw16_RecKinds.j0 k a1 true a0_0 a0_1 a0_2 a0_3 a0_4 a0_5 l0_6 l0_7 l0_8))) else (some false))) = some r := h
  clear h
  replace H := Option.bind_eq_some_iff.mp H
  obtain ⟨t229, A30, H⟩ := H
  replace H : (if t229 = true then ((voklaw16_Few.f a0_0 a0_1 a0_2 a0_3 a0_4 a0_5 l0_6 l0_7 l0_8).bind fun t230 => (if t230 = true then ((rec_May.f k a0_0 a0_1 a0_2 a0_3 a0_4 a0_5 l0_6 l0_7 l0_8).bind fun t231 => (voklaw16_RecKinds.j0 k a1 (!t231) a0_0 a0_1 a0_2 a0_3 a0_4 a0_5 l0_6 l0_7 l0_8)) else (voklaw16_RecKinds.j0 k a1 true a0_0 a0_1 a0_2 a0_3 a0_4 a0_5 l0_6 l0_7 l0_8))) else (some false)) = some r := H
  have A3 := Aside0.mk A30
  clear A30
  by_cases c4 : t229 = true
  · subst c4
    have H1 : ((voklaw16_Few.f a0_0 a0_1 a0_2 a0_3 a0_4 a0_5 l0_6 l0_7 l0_8).bind fun t230 => (if t230 = true then ((rec_May.f k a0_0 a0_1 a0_2 a0_3 a0_4 a0_5 l0_6 l0_7 l0_8).bind fun t231 => (voklaw16_RecKinds.j0 k a1 (!t231) a0_0 a0_1 a0_2 a0_3 a0_4 a0_5 l0_6 l0_7 l0_8)) else (voklaw16_RecKinds.j0 k a1 true a0_0 a0_1 a0_2 a0_3 a0_4 a0_5 l0_6 l0_7 l0_8))) = some r := by rw [if_pos rfl] at H; exact H
    clear H
    have H := H1
    clear H1
    have HC5 := Aside0.mk H
    clear H
    go_enter Try.func4, Try.ntmps4
    go_upto_region 3 with (first | ((with_reducible refine gate_dst (N := 2) rfl ?_); refine box_event ?hg (N := 2) ?hd (cs := #[.int .i64 a0_0, .int .i64 a0_1, .int .i64 a0_2, .int .i64 a0_3, .int .i64 a0_4, .bool a0_5, .slice A0_6 l0_6.length c0_6, .slice A0_7 l0_7.length c0_7, .slice A0_8 l0_8.length c0_8]) (t := 34) ?hr ?_; (case hd => rfl); (case hg => rfl); (case hr => first | (go_simp; done) | (go_simp; rfl)); intro gb228 hg w6 hbox hb; have n0_ := Aside0.mk (below_step (by repeat (first | (with_reducible first | exact HB.out | apply below_alloc | apply pw_below_drewN | apply below_drew1) | exact HB.out)) hb); have n1_ := Aside0.mk (hbox); have n2_ := Aside0.mk ((by rw [hg]; exact (below_size (by repeat (first | (with_reducible first | exact HB.out | apply below_alloc | apply pw_below_drewN | apply below_drew1) | exact HB.out))) : w.heap.size ≤ gb228)); have n3_ := Aside0.mk ((by rw [hg]; exact (below_size (by repeat (first | (with_reducible first | exact HB.out | apply below_alloc | apply pw_below_drewN | apply below_drew1) | exact HB.out))) : w.heap.size ≤ gb228)); clear HB; have HB := n0_; have BK228 := n1_; have GW228 := n2_; have GE228 := n3_; clear n0_ n1_ n2_ n3_; clear hb hbox hg) | ((with_reducible refine gate_callee (f := 16) rfl ?_); refine goesL_ (some 10) rfl rfl Try.func16 (by kernel_rfl) rfl #[] rfl (by (try simp only [List.map_toArray, List.map_cons, List.map_nil]); first | done | rfl | (simp only [List.length_drop, List.length_take]; rfl)) ?_; (with_reducible refine (voklaw16_first.calls k  true _ A3.out).mono ?_); rintro e w7 ⟨rfl, hb⟩; refine ⟨_, rfl, ?_⟩; have n0_ := Aside0.mk (blk_below (g := gb228) (o := .cells #[.int .i64 a0_0, .int .i64 a0_1, .int .i64 a0_2, .int .i64 a0_3, .int .i64 a0_4, .bool a0_5, .slice A0_6 l0_6.length c0_6, .slice A0_7 l0_7.length c0_7, .slice A0_8 l0_8.length c0_8] 34 (0, 0)) (by (with_reducible repeat (first | refine blk_drewN ?_ _ | refine blk_drew ?_ | refine blk_alloc ?_ _)); exact BK228.out) hb); have n1_ := Aside0.mk (below_step (by repeat (first | (with_reducible first | exact HB.out | apply below_alloc | apply pw_below_drewN | apply below_drew1 | refine below_set ?_ GE228.out) | exact HB.out)) hb); clear BK228; clear HB; have BK228 := n0_; have HB := n1_; clear n0_ n1_; (try clear hb); (try clear hb2); (try clear hk); (try clear hi)))
    (try simp only [Act.put, List.setIfInBounds_toArray, List.set_cons_zero, List.set_cons_succ])
    go_cut [19] (fun v19 wc => ∃ (kq : Nat) (x19_4 : Bool), v19 = .bool x19_4 ∧ Aside0 (voklaw16_RecKinds.j0 kq a1 x19_4 a0_0 a0_1 a0_2 a0_3 a0_4 a0_5 l0_6 l0_7 l0_8 = some r) ∧ Aside0 (kq ≤ k) ∧ Aside0 (wc.heap[gb228]? = some (.cells #[.int .i64 a0_0, .int .i64 a0_1, .int .i64 a0_2, .int .i64 a0_3, .int .i64 a0_4, .bool a0_5, (.slice A0_6 l0_6.length c0_6), (.slice A0_7 l0_7.length c0_7), (.slice A0_8 l0_8.length c0_8)] 34 (0, 0))) ∧ Aside0 (Below w.heap.size w wc))
    case first =>
      have H := HC5.out
      clear HC5
      replace H := Option.bind_eq_some_iff.mp H
      obtain ⟨t230, A80, H⟩ := H
      replace H : (if t230 = true then ((rec_May.f k a0_0 a0_1 a0_2 a0_3 a0_4 a0_5 l0_6 l0_7 l0_8).bind fun t231 => (voklaw16_RecKinds.j0 k a1 (!t231) a0_0 a0_1 a0_2 a0_3 a0_4 a0_5 l0_6 l0_7 l0_8)) else (voklaw16_RecKinds.j0 k a1 true a0_0 a0_1 a0_2 a0_3 a0_4 a0_5 l0_6 l0_7 l0_8)) = some r := H
      have A8 := Aside0.mk A80
      clear A80
      by_cases c9 : t230 = true
      · subst c9
        have H1 : ((rec_May.f k a0_0 a0_1 a0_2 a0_3 a0_4 a0_5 l0_6 l0_7 l0_8).bind fun t231 => (voklaw16_RecKinds.j0 k a1 (!t231) a0_0 a0_1 a0_2 a0_3 a0_4 a0_5 l0_6 l0_7 l0_8)) = some r := by rw [if_pos rfl] at H; exact H
        clear H
        have H := H1
        clear H1
        replace H := Option.bind_eq_some_iff.mp H
        obtain ⟨t231, A100, H⟩ := H
        replace H : (voklaw16_RecKinds.j0 k a1 (!t231) a0_0 a0_1 a0_2 a0_3 a0_4 a0_5 l0_6 l0_7 l0_8) = some r := H
        have A10 := Aside0.mk A100
        clear A100
        have H' := Aside0.mk H
        clear H
        have hcz11_0 : w7.cell? ⟨gb228, 0, none⟩ = some (.int .i64 a0_0) := (blk_cell BK228.out 0).trans rfl
        have hcz11_1 : w7.cell? ⟨gb228, 1, none⟩ = some (.int .i64 a0_1) := (blk_cell BK228.out 1).trans rfl
        have hcz11_2 : w7.cell? ⟨gb228, 2, none⟩ = some (.int .i64 a0_2) := (blk_cell BK228.out 2).trans rfl
        have hcz11_3 : w7.cell? ⟨gb228, 3, none⟩ = some (.int .i64 a0_3) := (blk_cell BK228.out 3).trans rfl
        have hcz11_4 : w7.cell? ⟨gb228, 4, none⟩ = some (.int .i64 a0_4) := (blk_cell BK228.out 4).trans rfl
        have hcz11_5 : w7.cell? ⟨gb228, 5, none⟩ = some (.bool a0_5) := (blk_cell BK228.out 5).trans rfl
        have hcz11_6 : w7.cell? ⟨gb228, 6, none⟩ = some (.slice A0_6 l0_6.length c0_6) := (blk_cell BK228.out 6).trans rfl
        have hcz11_7 : w7.cell? ⟨gb228, 7, none⟩ = some (.slice A0_7 l0_7.length c0_7) := (blk_cell BK228.out 7).trans rfl
        have hcz11_8 : w7.cell? ⟨gb228, 8, none⟩ = some (.slice A0_8 l0_8.length c0_8) := (blk_cell BK228.out 8).trans rfl
        have hfz11_0 := blk_frozen BK228.out 0
        have hfz11_1 := blk_frozen BK228.out 1
        have hfz11_2 := blk_frozen BK228.out 2
        have hfz11_3 := blk_frozen BK228.out 3
        have hfz11_4 := blk_frozen BK228.out 4
        have hfz11_5 := blk_frozen BK228.out 5
        have hfz11_6 := blk_frozen BK228.out 6
        have hfz11_7 := blk_frozen BK228.out 7
        have hfz11_8 := blk_frozen BK228.out 8
        go_wp2_with (first | ((with_reducible refine gate_callee (f := 17) rfl ?_); refine goesL_ (some 13) rfl rfl Try.func17 (by kernel_rfl) rfl #[.agg #[.int .i64 a0_0, .int .i64 a0_1, .int .i64 a0_2, .int .i64 a0_3, .int .i64 a0_4, .bool a0_5, .slice A0_6 l0_6.length c0_6, .slice A0_7 l0_7.length c0_7, .slice A0_8 l0_8.length c0_8]] rfl (by (try simp only [List.map_toArray, List.map_cons, List.map_nil]); first | done | rfl | (simp only [List.length_drop, List.length_take]; rfl)) ?_; (with_reducible refine (voklaw16_Few.calls a0_0 a0_1 a0_2 a0_3 a0_4 a0_5 _ _ l0_6 _ _ l0_7 _ _ l0_8 true _ ?side1 ?side2 ?side3 ?side4 ?side5 ?side6 A8.out).mono ?_); (case side1 => repeat (first | exact (Kd.C_below HR0_6.out HB.out) | (with_reducible refine Kd.C_alloc ?_ _) | (with_reducible refine Kd.C_drewN ?_ _) | (with_reducible refine Kd.C_drew ?_))); (case side2 => exact HC0_6.out); (case side3 => repeat (first | exact (Kd.C_below HR0_7.out HB.out) | (with_reducible refine Kd.C_alloc ?_ _) | (with_reducible refine Kd.C_drewN ?_ _) | (with_reducible refine Kd.C_drew ?_))); (case side4 => exact HC0_7.out); (case side5 => repeat (first | exact (Kd.C_below HR0_8.out HB.out) | (with_reducible refine Kd.C_alloc ?_ _) | (with_reducible refine Kd.C_drewN ?_ _) | (with_reducible refine Kd.C_drew ?_))); (case side6 => exact HC0_8.out); rintro e w12 ⟨rfl, hb⟩; refine ⟨_, rfl, ?_⟩; have n0_ := Aside0.mk (blk_below (g := gb228) (o := .cells #[.int .i64 a0_0, .int .i64 a0_1, .int .i64 a0_2, .int .i64 a0_3, .int .i64 a0_4, .bool a0_5, .slice A0_6 l0_6.length c0_6, .slice A0_7 l0_7.length c0_7, .slice A0_8 l0_8.length c0_8] 34 (0, 0)) (by (with_reducible repeat (first | refine blk_drewN ?_ _ | refine blk_drew ?_ | refine blk_alloc ?_ _)); exact BK228.out) hb); have n1_ := Aside0.mk (below_step (by repeat (first | (with_reducible first | exact HB.out | apply below_alloc | apply pw_below_drewN | apply below_drew1 | refine below_set ?_ GE228.out) | exact HB.out)) hb); clear BK228; clear HB; have BK228 := n0_; have HB := n1_; clear n0_ n1_; (try clear hb); (try clear hb2); (try clear hk); (try clear hi); have hcz13_0 : w12.cell? ⟨gb228, 0, none⟩ = some (.int .i64 a0_0) := (blk_cell BK228.out 0).trans rfl; have hcz13_1 : w12.cell? ⟨gb228, 1, none⟩ = some (.int .i64 a0_1) := (blk_cell BK228.out 1).trans rfl; have hcz13_2 : w12.cell? ⟨gb228, 2, none⟩ = some (.int .i64 a0_2) := (blk_cell BK228.out 2).trans rfl; have hcz13_3 : w12.cell? ⟨gb228, 3, none⟩ = some (.int .i64 a0_3) := (blk_cell BK228.out 3).trans rfl; have hcz13_4 : w12.cell? ⟨gb228, 4, none⟩ = some (.int .i64 a0_4) := (blk_cell BK228.out 4).trans rfl; have hcz13_5 : w12.cell? ⟨gb228, 5, none⟩ = some (.bool a0_5) := (blk_cell BK228.out 5).trans rfl; have hcz13_6 : w12.cell? ⟨gb228, 6, none⟩ = some (.slice A0_6 l0_6.length c0_6) := (blk_cell BK228.out 6).trans rfl; have hcz13_7 : w12.cell? ⟨gb228, 7, none⟩ = some (.slice A0_7 l0_7.length c0_7) := (blk_cell BK228.out 7).trans rfl; have hcz13_8 : w12.cell? ⟨gb228, 8, none⟩ = some (.slice A0_8 l0_8.length c0_8) := (blk_cell BK228.out 8).trans rfl; have hfz13_0 := blk_frozen BK228.out 0; have hfz13_1 := blk_frozen BK228.out 1; have hfz13_2 := blk_frozen BK228.out 2; have hfz13_3 := blk_frozen BK228.out 3; have hfz13_4 := blk_frozen BK228.out 4; have hfz13_5 := blk_frozen BK228.out 5; have hfz13_6 := blk_frozen BK228.out 6; have hfz13_7 := blk_frozen BK228.out 7; have hfz13_8 := blk_frozen BK228.out 8) | (go_at_call 18; (with_reducible refine (rec_May.calls k a0_0 a0_1 a0_2 a0_3 a0_4 a0_5 _ _ l0_6 _ _ l0_7 _ _ l0_8 t231 _ ?side1 ?side2 ?side3 ?side4 ?side5 ?side6 A10.out).mono ?_); (case side1 => repeat (first | exact (Kd.C_below HR0_6.out HB.out) | (with_reducible refine Kd.C_alloc ?_ _) | (with_reducible refine Kd.C_drewN ?_ _) | (with_reducible refine Kd.C_drew ?_))); (case side2 => exact HC0_6.out); (case side3 => repeat (first | exact (Kd.C_below HR0_7.out HB.out) | (with_reducible refine Kd.C_alloc ?_ _) | (with_reducible refine Kd.C_drewN ?_ _) | (with_reducible refine Kd.C_drew ?_))); (case side4 => exact HC0_7.out); (case side5 => repeat (first | exact (Kd.C_below HR0_8.out HB.out) | (with_reducible refine Kd.C_alloc ?_ _) | (with_reducible refine Kd.C_drewN ?_ _) | (with_reducible refine Kd.C_drew ?_))); (case side6 => exact HC0_8.out); rintro e w14 ⟨rfl, hb⟩; have n0_ := Aside0.mk (blk_below (g := gb228) (o := .cells #[.int .i64 a0_0, .int .i64 a0_1, .int .i64 a0_2, .int .i64 a0_3, .int .i64 a0_4, .bool a0_5, .slice A0_6 l0_6.length c0_6, .slice A0_7 l0_7.length c0_7, .slice A0_8 l0_8.length c0_8] 34 (0, 0)) (by (with_reducible repeat (first | refine blk_drewN ?_ _ | refine blk_drew ?_ | refine blk_alloc ?_ _)); exact BK228.out) hb); have n1_ := Aside0.mk (below_step (by repeat (first | (with_reducible first | exact HB.out | apply below_alloc | apply pw_below_drewN | apply below_drew1 | refine below_set ?_ GE228.out) | exact HB.out)) hb); clear BK228; clear HB; have BK228 := n0_; have HB := n1_; clear n0_ n1_; (try clear hb); (try clear hb2); (try clear hk); (try clear hi)))
        go_meet
        case rel => exact ⟨_, (!t231), (by first | rfl | (simp; done) | (simp [*]; done)), H', ⟨by first | omega | exact Nat.le_refl _⟩, ⟨by (with_reducible repeat (first | refine blk_drewN ?_ _ | refine blk_drew ?_ | refine blk_alloc ?_ _)); exact BK228.out⟩, ⟨by repeat (first | (with_reducible first | exact HB.out | apply below_alloc | apply pw_below_drewN | apply below_drew1 | refine below_set ?_ GE228.out) | exact HB.out)⟩⟩
      · replace c9 := Bool.eq_false_iff.mpr c9
        subst c9
        have H1 : (voklaw16_RecKinds.j0 k a1 true a0_0 a0_1 a0_2 a0_3 a0_4 a0_5 l0_6 l0_7 l0_8) = some r := by rw [if_neg (show ¬ (false = true) by decide)] at H; exact H
        clear H
        have H := H1
        clear H1
        have H' := Aside0.mk H
        clear H
        have hcz15_0 : w7.cell? ⟨gb228, 0, none⟩ = some (.int .i64 a0_0) := (blk_cell BK228.out 0).trans rfl
        have hcz15_1 : w7.cell? ⟨gb228, 1, none⟩ = some (.int .i64 a0_1) := (blk_cell BK228.out 1).trans rfl
        have hcz15_2 : w7.cell? ⟨gb228, 2, none⟩ = some (.int .i64 a0_2) := (blk_cell BK228.out 2).trans rfl
        have hcz15_3 : w7.cell? ⟨gb228, 3, none⟩ = some (.int .i64 a0_3) := (blk_cell BK228.out 3).trans rfl
        have hcz15_4 : w7.cell? ⟨gb228, 4, none⟩ = some (.int .i64 a0_4) := (blk_cell BK228.out 4).trans rfl
        have hcz15_5 : w7.cell? ⟨gb228, 5, none⟩ = some (.bool a0_5) := (blk_cell BK228.out 5).trans rfl
        have hcz15_6 : w7.cell? ⟨gb228, 6, none⟩ = some (.slice A0_6 l0_6.length c0_6) := (blk_cell BK228.out 6).trans rfl
        have hcz15_7 : w7.cell? ⟨gb228, 7, none⟩ = some (.slice A0_7 l0_7.length c0_7) := (blk_cell BK228.out 7).trans rfl
        have hcz15_8 : w7.cell? ⟨gb228, 8, none⟩ = some (.slice A0_8 l0_8.length c0_8) := (blk_cell BK228.out 8).trans rfl
        have hfz15_0 := blk_frozen BK228.out 0
        have hfz15_1 := blk_frozen BK228.out 1
        have hfz15_2 := blk_frozen BK228.out 2
        have hfz15_3 := blk_frozen BK228.out 3
        have hfz15_4 := blk_frozen BK228.out 4
        have hfz15_5 := blk_frozen BK228.out 5
        have hfz15_6 := blk_frozen BK228.out 6
        have hfz15_7 := blk_frozen BK228.out 7
        have hfz15_8 := blk_frozen BK228.out 8
        go_wp2_with (first | ((with_reducible refine gate_callee (f := 17) rfl ?_); refine goesL_ (some 13) rfl rfl Try.func17 (by kernel_rfl) rfl #[.agg #[.int .i64 a0_0, .int .i64 a0_1, .int .i64 a0_2, .int .i64 a0_3, .int .i64 a0_4, .bool a0_5, .slice A0_6 l0_6.length c0_6, .slice A0_7 l0_7.length c0_7, .slice A0_8 l0_8.length c0_8]] rfl (by (try simp only [List.map_toArray, List.map_cons, List.map_nil]); first | done | rfl | (simp only [List.length_drop, List.length_take]; rfl)) ?_; (with_reducible refine (voklaw16_Few.calls a0_0 a0_1 a0_2 a0_3 a0_4 a0_5 _ _ l0_6 _ _ l0_7 _ _ l0_8 false _ ?side1 ?side2 ?side3 ?side4 ?side5 ?side6 A8.out).mono ?_); (case side1 => repeat (first | exact (Kd.C_below HR0_6.out HB.out) | (with_reducible refine Kd.C_alloc ?_ _) | (with_reducible refine Kd.C_drewN ?_ _) | (with_reducible refine Kd.C_drew ?_))); (case side2 => exact HC0_6.out); (case side3 => repeat (first | exact (Kd.C_below HR0_7.out HB.out) | (with_reducible refine Kd.C_alloc ?_ _) | (with_reducible refine Kd.C_drewN ?_ _) | (with_reducible refine Kd.C_drew ?_))); (case side4 => exact HC0_7.out); (case side5 => repeat (first | exact (Kd.C_below HR0_8.out HB.out) | (with_reducible refine Kd.C_alloc ?_ _) | (with_reducible refine Kd.C_drewN ?_ _) | (with_reducible refine Kd.C_drew ?_))); (case side6 => exact HC0_8.out); rintro e w16 ⟨rfl, hb⟩; refine ⟨_, rfl, ?_⟩; have n0_ := Aside0.mk (blk_below (g := gb228) (o := .cells #[.int .i64 a0_0, .int .i64 a0_1, .int .i64 a0_2, .int .i64 a0_3, .int .i64 a0_4, .bool a0_5, .slice A0_6 l0_6.length c0_6, .slice A0_7 l0_7.length c0_7, .slice A0_8 l0_8.length c0_8] 34 (0, 0)) (by (with_reducible repeat (first | refine blk_drewN ?_ _ | refine blk_drew ?_ | refine blk_alloc ?_ _)); exact BK228.out) hb); have n1_ := Aside0.mk (below_step (by repeat (first | (with_reducible first | exact HB.out | apply below_alloc | apply pw_below_drewN | apply below_drew1 | refine below_set ?_ GE228.out) | exact HB.out)) hb); clear BK228; clear HB; have BK228 := n0_; have HB := n1_; clear n0_ n1_; (try clear hb); (try clear hb2); (try clear hk); (try clear hi)))
        go_meet
        case rel => exact ⟨_, (true), (by first | rfl | (simp; done) | (simp [*]; done)), H', ⟨by first | omega | exact Nat.le_refl _⟩, ⟨by (with_reducible repeat (first | refine blk_drewN ?_ _ | refine blk_drew ?_ | refine blk_alloc ?_ _)); exact BK228.out⟩, ⟨by repeat (first | (with_reducible first | exact HB.out | apply below_alloc | apply pw_below_drewN | apply below_drew1 | refine below_set ?_ GE228.out) | exact HB.out)⟩⟩
    case rest =>
      clear HC5
      try clear c1
      try clear p2
      try clear c4
      try clear c9
      try clear c16
      try clear hcz11_0
      try clear hcz11_1
      try clear hcz11_2
      try clear hcz11_3
      try clear hcz11_4
      try clear hcz11_5
      try clear hcz11_6
      try clear hcz11_7
      try clear hcz11_8
      try clear hcz13_0
      try clear hcz13_1
      try clear hcz13_2
      try clear hcz13_3
      try clear hcz13_4
      try clear hcz13_5
      try clear hcz13_6
      try clear hcz13_7
      try clear hcz13_8
      try clear hcz15_0
      try clear hcz15_1
      try clear hcz15_2
      try clear hcz15_3
      try clear hcz15_4
      try clear hcz15_5
      try clear hcz15_6
      try clear hcz15_7
      try clear hcz15_8
      try clear hfz11_0
      try clear hfz11_1
      try clear hfz11_2
      try clear hfz11_3
      try clear hfz11_4
      try clear hfz11_5
      try clear hfz11_6
      try clear hfz11_7
      try clear hfz11_8
      try clear hfz13_0
      try clear hfz13_1
      try clear hfz13_2
      try clear hfz13_3
      try clear hfz13_4
      try clear hfz13_5
      try clear hfz13_6
      try clear hfz13_7
      try clear hfz13_8
      try clear hfz15_0
      try clear hfz15_1
      try clear hfz15_2
      try clear hfz15_3
      try clear hfz15_4
      try clear hfz15_5
      try clear hfz15_6
      try clear hfz15_7
      try clear hfz15_8
      obtain ⟨kq, x19_4, rfl, HA, HJ4, BK228, HB⟩ := hcut
      cases kq with
      | zero => exact absurd HA.out (by simp [voklaw16_RecKinds.j0])
      | succ kj4 =>
        have H := HA.out
        clear HA
        simp only [voklaw16_RecKinds.j0] at H
        by_cases c17 : x19_4 = true
        · subst c17
          have H1 : ((voklaw16_first.f kj4).bind fun t232 => (some t232)) = some r := by rw [if_pos rfl] at H; exact H
          clear H
          have H := H1
          clear H1
          replace H := Option.bind_eq_some_iff.mp H
          obtain ⟨t232, A180, H⟩ := H
          replace H : (some t232) = some r := H
          have A18 := Aside0.mk A180
          clear A180
          obtain rfl := Option.some.inj H
          go_wp2_with (first | ((with_reducible refine gate_callee (f := 16) rfl ?_); refine goesL_ (some 20) rfl rfl Try.func16 (by kernel_rfl) rfl #[] rfl (by (try simp only [List.map_toArray, List.map_cons, List.map_nil]); first | done | rfl | (simp only [List.length_drop, List.length_take]; rfl)) ?_; (with_reducible refine (voklaw16_first.calls kj4  t232 _ A18.out).mono ?_); rintro e w19 ⟨rfl, hb⟩; refine ⟨_, rfl, ?_⟩; have n0_ := Aside0.mk (blk_below (g := gb228) (o := .cells #[.int .i64 a0_0, .int .i64 a0_1, .int .i64 a0_2, .int .i64 a0_3, .int .i64 a0_4, .bool a0_5, .slice A0_6 l0_6.length c0_6, .slice A0_7 l0_7.length c0_7, .slice A0_8 l0_8.length c0_8] 34 (0, 0)) (by (with_reducible repeat (first | refine blk_drewN ?_ _ | refine blk_drew ?_ | refine blk_alloc ?_ _)); exact BK228.out) hb); have n1_ := Aside0.mk (below_step (by repeat (first | (with_reducible first | exact HB.out | apply below_alloc | apply pw_below_drewN | apply below_drew1 | refine below_set ?_ GE228.out) | exact HB.out)) hb); clear BK228; clear HB; have BK228 := n0_; have HB := n1_; clear n0_ n1_; (try clear hb); (try clear hb2); (try clear hk); (try clear hi)))
          go_ret
          exact ⟨by first | rfl | (simp [errW_none, errW_some] <;> rfl) | (simp [*, errW_none, errW_some] <;> rfl), by repeat (first | (with_reducible first | exact HB.out | apply below_alloc | apply pw_below_drewN | apply below_drew1 | refine below_set ?_ GE228.out) | exact HB.out)⟩
        · replace c17 := Bool.eq_false_iff.mpr c17
          subst c17
          have H1 : (if a0_0 = 2 then (voklaw16_RecKinds.j1 kj4 a1 true a0_0 a0_1 a0_2 a0_3 a0_4 a0_5 l0_6 l0_7 l0_8 a0_0 a0_1 a0_2 a0_3 a0_4 a0_5 l0_6 l0_7 l0_8) else (voklaw16_RecKinds.j1 kj4 a1 (a0_0 == 5) a0_0 a0_1 a0_2 a0_3 a0_4 a0_5 l0_6 l0_7 l0_8 a0_0 a0_1 a0_2 a0_3 a0_4 a0_5 l0_6 l0_7 l0_8)) = some r := by rw [if_neg (show ¬ (false = true) by decide)] at H; exact H
          clear H
          have H := H1
          clear H1
          have HC20 := Aside0.mk H
          clear H
          have hcz21_0 : wc.cell? ⟨gb228, 0, none⟩ = some (.int .i64 a0_0) := (blk_cell BK228.out 0).trans rfl
          have hcz21_1 : wc.cell? ⟨gb228, 1, none⟩ = some (.int .i64 a0_1) := (blk_cell BK228.out 1).trans rfl
          have hcz21_2 : wc.cell? ⟨gb228, 2, none⟩ = some (.int .i64 a0_2) := (blk_cell BK228.out 2).trans rfl
          have hcz21_3 : wc.cell? ⟨gb228, 3, none⟩ = some (.int .i64 a0_3) := (blk_cell BK228.out 3).trans rfl
          have hcz21_4 : wc.cell? ⟨gb228, 4, none⟩ = some (.int .i64 a0_4) := (blk_cell BK228.out 4).trans rfl
          have hcz21_5 : wc.cell? ⟨gb228, 5, none⟩ = some (.bool a0_5) := (blk_cell BK228.out 5).trans rfl
          have hcz21_6 : wc.cell? ⟨gb228, 6, none⟩ = some (.slice A0_6 l0_6.length c0_6) := (blk_cell BK228.out 6).trans rfl
          have hcz21_7 : wc.cell? ⟨gb228, 7, none⟩ = some (.slice A0_7 l0_7.length c0_7) := (blk_cell BK228.out 7).trans rfl
          have hcz21_8 : wc.cell? ⟨gb228, 8, none⟩ = some (.slice A0_8 l0_8.length c0_8) := (blk_cell BK228.out 8).trans rfl
          have hfz21_0 := blk_frozen BK228.out 0
          have hfz21_1 := blk_frozen BK228.out 1
          have hfz21_2 := blk_frozen BK228.out 2
          have hfz21_3 := blk_frozen BK228.out 3
          have hfz21_4 := blk_frozen BK228.out 4
          have hfz21_5 := blk_frozen BK228.out 5
          have hfz21_6 := blk_frozen BK228.out 6
          have hfz21_7 := blk_frozen BK228.out 7
          have hfz21_8 := blk_frozen BK228.out 8
          go_upto_region 6 with (first | ((with_reducible refine gate_dst (N := 5) rfl ?_); refine box_event ?hg (N := 5) ?hd (cs := #[.int .i64 0, .int .i64 0, .int .i64 0, .int .i64 0, .int .i64 0, .bool false, .slice none 0 0, .slice none 0 0, .slice none 0 0]) (t := 34) ?hr ?_; (case hd => rfl); (case hg => rfl); (case hr => first | (go_simp; done) | (go_simp; rfl)); intro gb233 hg w22 hbox hb; have n0_ := Aside0.mk (blk_below (g := gb228) (o := .cells #[.int .i64 a0_0, .int .i64 a0_1, .int .i64 a0_2, .int .i64 a0_3, .int .i64 a0_4, .bool a0_5, .slice A0_6 l0_6.length c0_6, .slice A0_7 l0_7.length c0_7, .slice A0_8 l0_8.length c0_8] 34 (0, 0)) (by (with_reducible repeat (first | refine blk_drewN ?_ _ | refine blk_drew ?_ | refine blk_alloc ?_ _)); exact BK228.out) hb); have n1_ := Aside0.mk (below_step (by repeat (first | (with_reducible first | exact HB.out | apply below_alloc | apply pw_below_drewN | apply below_drew1 | refine below_set ?_ GE228.out) | exact HB.out)) hb); have n2_ := Aside0.mk (hbox); have n3_ := Aside0.mk ((by rw [hg]; exact (below_size (by repeat (first | (with_reducible first | exact HB.out | apply below_alloc | apply pw_below_drewN | apply below_drew1 | refine below_set ?_ GE228.out) | exact HB.out))) : w.heap.size ≤ gb233)); have n4_ := Aside0.mk ((by rw [hg]; exact (below_size (by repeat (first | (with_reducible first | exact HB.out | apply below_alloc | apply pw_below_drewN | apply below_drew1 | refine below_set ?_ GE228.out) | exact HB.out))) : w.heap.size ≤ gb233)); have n5_ := Aside0.mk ((by rw [hg]; exact Nat.ne_of_lt (blk_lt (g := gb228) (o := .cells #[.int .i64 a0_0, .int .i64 a0_1, .int .i64 a0_2, .int .i64 a0_3, .int .i64 a0_4, .bool a0_5, .slice A0_6 l0_6.length c0_6, .slice A0_7 l0_7.length c0_7, .slice A0_8 l0_8.length c0_8] 34 (0, 0)) (by (with_reducible repeat (first | refine blk_drewN ?_ _ | refine blk_drew ?_ | refine blk_alloc ?_ _)); exact BK228.out)) : gb228 ≠ gb233)); have n6_ := Aside0.mk ((by rw [hg]; exact Nat.ne_of_gt (blk_lt (g := gb228) (o := .cells #[.int .i64 a0_0, .int .i64 a0_1, .int .i64 a0_2, .int .i64 a0_3, .int .i64 a0_4, .bool a0_5, .slice A0_6 l0_6.length c0_6, .slice A0_7 l0_7.length c0_7, .slice A0_8 l0_8.length c0_8] 34 (0, 0)) (by (with_reducible repeat (first | refine blk_drewN ?_ _ | refine blk_drew ?_ | refine blk_alloc ?_ _)); exact BK228.out)) : gb233 ≠ gb228)); clear BK228; clear HB; have BK228 := n0_; have HB := n1_; have BK233 := n2_; have GW233 := n3_; have GE233 := n4_; have NB228_233 := n5_; have NB233_228 := n6_; clear n0_ n1_ n2_ n3_ n4_ n5_ n6_; clear hb hbox hg; have hnb23 := NB233_228.out; have hnc23 := NB228_233.out; have hcz24_0 : w22.cell? ⟨gb233, 0, none⟩ = some (.int .i64 0) := (blk_cell BK233.out 0).trans rfl; have hcz24_1 : w22.cell? ⟨gb233, 1, none⟩ = some (.int .i64 0) := (blk_cell BK233.out 1).trans rfl; have hcz24_2 : w22.cell? ⟨gb233, 2, none⟩ = some (.int .i64 0) := (blk_cell BK233.out 2).trans rfl; have hcz24_3 : w22.cell? ⟨gb233, 3, none⟩ = some (.int .i64 0) := (blk_cell BK233.out 3).trans rfl; have hcz24_4 : w22.cell? ⟨gb233, 4, none⟩ = some (.int .i64 0) := (blk_cell BK233.out 4).trans rfl; have hcz24_5 : w22.cell? ⟨gb233, 5, none⟩ = some (.bool false) := (blk_cell BK233.out 5).trans rfl; have hcz24_6 : w22.cell? ⟨gb233, 6, none⟩ = some (.slice none 0 0) := (blk_cell BK233.out 6).trans rfl; have hcz24_7 : w22.cell? ⟨gb233, 7, none⟩ = some (.slice none 0 0) := (blk_cell BK233.out 7).trans rfl; have hcz24_8 : w22.cell? ⟨gb233, 8, none⟩ = some (.slice none 0 0) := (blk_cell BK233.out 8).trans rfl; have hfz24_0 := blk_frozen BK233.out 0; have hfz24_1 := blk_frozen BK233.out 1; have hfz24_2 := blk_frozen BK233.out 2; have hfz24_3 := blk_frozen BK233.out 3; have hfz24_4 := blk_frozen BK233.out 4; have hfz24_5 := blk_frozen BK233.out 5; have hfz24_6 := blk_frozen BK233.out 6; have hfz24_7 := blk_frozen BK233.out 7; have hfz24_8 := blk_frozen BK233.out 8))
          (try simp only [Act.put, List.setIfInBounds_toArray, List.set_cons_zero, List.set_cons_succ])
          go_cut [6] (fun v6 wc => ∃ (kq : Nat) (x6_19 : Bool), v6 = .bool x6_19 ∧ Aside0 (voklaw16_RecKinds.j1 kq a1 x6_19 a0_0 a0_1 a0_2 a0_3 a0_4 a0_5 l0_6 l0_7 l0_8 a0_0 a0_1 a0_2 a0_3 a0_4 a0_5 l0_6 l0_7 l0_8 = some r) ∧ Aside0 (kq ≤ kj4) ∧ Aside0 (wc.heap[gb228]? = some (.cells #[.int .i64 a0_0, .int .i64 a0_1, .int .i64 a0_2, .int .i64 a0_3, .int .i64 a0_4, .bool a0_5, (.slice A0_6 l0_6.length c0_6), (.slice A0_7 l0_7.length c0_7), (.slice A0_8 l0_8.length c0_8)] 34 (0, 0))) ∧ Aside0 (wc.heap[gb233]? = some (.cells #[.int .i64 a0_0, .int .i64 a0_1, .int .i64 a0_2, .int .i64 a0_3, .int .i64 a0_4, .bool a0_5, (.slice A0_6 l0_6.length c0_6), (.slice A0_7 l0_7.length c0_7), (.slice A0_8 l0_8.length c0_8)] 34 (0, 0))) ∧ Aside0 (Below w.heap.size w wc))
          case first =>
            have H := HC20.out
            clear HC20
            by_cases c25 : a0_0 = 2
            · rw [if_pos c25] at H
              have c25b0 : (a0_0 == 2) = true := beq_iff_eq.mpr c25
              have c25b1 : (a0_0 != 2) = false := bne_eq_false_iff_eq.mpr c25
              clear c25
              (first | rw [c25b0] | (simp only [i64_w, i32_w]; rw [c25b0]) | skip)
              have H' := Aside0.mk H
              clear H
              have hnb26 := NB228_233.out
              have hnc26 := NB233_228.out
              have hcz27_0 : w22.cell? ⟨gb228, 0, none⟩ = some (.int .i64 a0_0) := (blk_cell BK228.out 0).trans rfl
              have hcz27_1 : w22.cell? ⟨gb228, 1, none⟩ = some (.int .i64 a0_1) := (blk_cell BK228.out 1).trans rfl
              have hcz27_2 : w22.cell? ⟨gb228, 2, none⟩ = some (.int .i64 a0_2) := (blk_cell BK228.out 2).trans rfl
              have hcz27_3 : w22.cell? ⟨gb228, 3, none⟩ = some (.int .i64 a0_3) := (blk_cell BK228.out 3).trans rfl
              have hcz27_4 : w22.cell? ⟨gb228, 4, none⟩ = some (.int .i64 a0_4) := (blk_cell BK228.out 4).trans rfl
              have hcz27_5 : w22.cell? ⟨gb228, 5, none⟩ = some (.bool a0_5) := (blk_cell BK228.out 5).trans rfl
              have hcz27_6 : w22.cell? ⟨gb228, 6, none⟩ = some (.slice A0_6 l0_6.length c0_6) := (blk_cell BK228.out 6).trans rfl
              have hcz27_7 : w22.cell? ⟨gb228, 7, none⟩ = some (.slice A0_7 l0_7.length c0_7) := (blk_cell BK228.out 7).trans rfl
              have hcz27_8 : w22.cell? ⟨gb228, 8, none⟩ = some (.slice A0_8 l0_8.length c0_8) := (blk_cell BK228.out 8).trans rfl
              have hfz27_0 := blk_frozen BK228.out 0
              have hfz27_1 := blk_frozen BK228.out 1
              have hfz27_2 := blk_frozen BK228.out 2
              have hfz27_3 := blk_frozen BK228.out 3
              have hfz27_4 := blk_frozen BK228.out 4
              have hfz27_5 := blk_frozen BK228.out 5
              have hfz27_6 := blk_frozen BK228.out 6
              have hfz27_7 := blk_frozen BK228.out 7
              have hfz27_8 := blk_frozen BK228.out 8
              go_wp2
              go_meet
              case rel => exact ⟨_, (true), (by first | rfl | (simp; done) | (simp [*]; done)), H', ⟨by have := HJ4.out; first | omega | exact Nat.le_refl _⟩, ⟨by (with_reducible repeat (first | refine blk_drewN ?_ _ | refine blk_drew ?_ | refine blk_alloc ?_ _)); refine blk_far ?_ NB228_233.out _; (with_reducible repeat (first | refine blk_drewN ?_ _ | refine blk_drew ?_ | refine blk_alloc ?_ _)); refine blk_far ?_ NB228_233.out _; (with_reducible repeat (first | refine blk_drewN ?_ _ | refine blk_drew ?_ | refine blk_alloc ?_ _)); refine blk_far ?_ NB228_233.out _; (with_reducible repeat (first | refine blk_drewN ?_ _ | refine blk_drew ?_ | refine blk_alloc ?_ _)); refine blk_far ?_ NB228_233.out _; (with_reducible repeat (first | refine blk_drewN ?_ _ | refine blk_drew ?_ | refine blk_alloc ?_ _)); refine blk_far ?_ NB228_233.out _; (with_reducible repeat (first | refine blk_drewN ?_ _ | refine blk_drew ?_ | refine blk_alloc ?_ _)); refine blk_far ?_ NB228_233.out _; (with_reducible repeat (first | refine blk_drewN ?_ _ | refine blk_drew ?_ | refine blk_alloc ?_ _)); refine blk_far ?_ NB228_233.out _; (with_reducible repeat (first | refine blk_drewN ?_ _ | refine blk_drew ?_ | refine blk_alloc ?_ _)); refine blk_far ?_ NB228_233.out _; (with_reducible repeat (first | refine blk_drewN ?_ _ | refine blk_drew ?_ | refine blk_alloc ?_ _)); refine blk_far ?_ NB228_233.out _; (with_reducible repeat (first | refine blk_drewN ?_ _ | refine blk_drew ?_ | refine blk_alloc ?_ _)); exact BK228.out⟩, ⟨by (with_reducible repeat (first | refine blk_drewN ?_ _ | refine blk_drew ?_ | refine blk_alloc ?_ _)); refine blk_put (cs := #[.int .i64 a0_0, .int .i64 a0_1, .int .i64 a0_2, .int .i64 a0_3, .int .i64 a0_4, .bool a0_5, .slice A0_6 l0_6.length c0_6, .slice A0_7 l0_7.length c0_7, .slice none 0 0]) ?_ 8 _ rfl; (with_reducible repeat (first | refine blk_drewN ?_ _ | refine blk_drew ?_ | refine blk_alloc ?_ _)); refine blk_put (cs := #[.int .i64 a0_0, .int .i64 a0_1, .int .i64 a0_2, .int .i64 a0_3, .int .i64 a0_4, .bool a0_5, .slice A0_6 l0_6.length c0_6, .slice none 0 0, .slice none 0 0]) ?_ 7 _ rfl; (with_reducible repeat (first | refine blk_drewN ?_ _ | refine blk_drew ?_ | refine blk_alloc ?_ _)); refine blk_put (cs := #[.int .i64 a0_0, .int .i64 a0_1, .int .i64 a0_2, .int .i64 a0_3, .int .i64 a0_4, .bool a0_5, .slice none 0 0, .slice none 0 0, .slice none 0 0]) ?_ 6 _ rfl; (with_reducible repeat (first | refine blk_drewN ?_ _ | refine blk_drew ?_ | refine blk_alloc ?_ _)); refine blk_put (cs := #[.int .i64 a0_0, .int .i64 a0_1, .int .i64 a0_2, .int .i64 a0_3, .int .i64 a0_4, .bool false, .slice none 0 0, .slice none 0 0, .slice none 0 0]) ?_ 5 _ rfl; (with_reducible repeat (first | refine blk_drewN ?_ _ | refine blk_drew ?_ | refine blk_alloc ?_ _)); refine blk_put (cs := #[.int .i64 a0_0, .int .i64 a0_1, .int .i64 a0_2, .int .i64 a0_3, .int .i64 0, .bool false, .slice none 0 0, .slice none 0 0, .slice none 0 0]) ?_ 4 _ rfl; (with_reducible repeat (first | refine blk_drewN ?_ _ | refine blk_drew ?_ | refine blk_alloc ?_ _)); refine blk_put (cs := #[.int .i64 a0_0, .int .i64 a0_1, .int .i64 a0_2, .int .i64 0, .int .i64 0, .bool false, .slice none 0 0, .slice none 0 0, .slice none 0 0]) ?_ 3 _ rfl; (with_reducible repeat (first | refine blk_drewN ?_ _ | refine blk_drew ?_ | refine blk_alloc ?_ _)); refine blk_put (cs := #[.int .i64 a0_0, .int .i64 a0_1, .int .i64 0, .int .i64 0, .int .i64 0, .bool false, .slice none 0 0, .slice none 0 0, .slice none 0 0]) ?_ 2 _ rfl; (with_reducible repeat (first | refine blk_drewN ?_ _ | refine blk_drew ?_ | refine blk_alloc ?_ _)); refine blk_put (cs := #[.int .i64 a0_0, .int .i64 0, .int .i64 0, .int .i64 0, .int .i64 0, .bool false, .slice none 0 0, .slice none 0 0, .slice none 0 0]) ?_ 1 _ rfl; (with_reducible repeat (first | refine blk_drewN ?_ _ | refine blk_drew ?_ | refine blk_alloc ?_ _)); refine blk_put (cs := #[.int .i64 0, .int .i64 0, .int .i64 0, .int .i64 0, .int .i64 0, .bool false, .slice none 0 0, .slice none 0 0, .slice none 0 0]) ?_ 0 _ rfl; (with_reducible repeat (first | refine blk_drewN ?_ _ | refine blk_drew ?_ | refine blk_alloc ?_ _)); exact BK233.out⟩, ⟨by repeat (first | (with_reducible first | exact HB.out | apply below_alloc | apply pw_below_drewN | apply below_drew1 | refine below_set ?_ GE228.out | refine below_set ?_ GE233.out) | exact HB.out)⟩⟩
            · rw [if_neg c25] at H
              have c25b0 : (a0_0 == 2) = false := beq_eq_false_iff_ne.mpr c25
              have c25b1 : (a0_0 != 2) = true := bne_iff_ne.mpr c25
              (first | rw [c25b0] | (simp only [i64_w, i32_w]; rw [c25b0]) | skip)
              have H' := Aside0.mk H
              clear H
              have hnb28 := NB228_233.out
              have hnc28 := NB233_228.out
              have hcz29_0 : w22.cell? ⟨gb228, 0, none⟩ = some (.int .i64 a0_0) := (blk_cell BK228.out 0).trans rfl
              have hcz29_1 : w22.cell? ⟨gb228, 1, none⟩ = some (.int .i64 a0_1) := (blk_cell BK228.out 1).trans rfl
              have hcz29_2 : w22.cell? ⟨gb228, 2, none⟩ = some (.int .i64 a0_2) := (blk_cell BK228.out 2).trans rfl
              have hcz29_3 : w22.cell? ⟨gb228, 3, none⟩ = some (.int .i64 a0_3) := (blk_cell BK228.out 3).trans rfl
              have hcz29_4 : w22.cell? ⟨gb228, 4, none⟩ = some (.int .i64 a0_4) := (blk_cell BK228.out 4).trans rfl
              have hcz29_5 : w22.cell? ⟨gb228, 5, none⟩ = some (.bool a0_5) := (blk_cell BK228.out 5).trans rfl
              have hcz29_6 : w22.cell? ⟨gb228, 6, none⟩ = some (.slice A0_6 l0_6.length c0_6) := (blk_cell BK228.out 6).trans rfl
              have hcz29_7 : w22.cell? ⟨gb228, 7, none⟩ = some (.slice A0_7 l0_7.length c0_7) := (blk_cell BK228.out 7).trans rfl
              have hcz29_8 : w22.cell? ⟨gb228, 8, none⟩ = some (.slice A0_8 l0_8.length c0_8) := (blk_cell BK228.out 8).trans rfl
              have hfz29_0 := blk_frozen BK228.out 0
              have hfz29_1 := blk_frozen BK228.out 1
              have hfz29_2 := blk_frozen BK228.out 2
              have hfz29_3 := blk_frozen BK228.out 3
              have hfz29_4 := blk_frozen BK228.out 4
              have hfz29_5 := blk_frozen BK228.out 5
              have hfz29_6 := blk_frozen BK228.out 6
              have hfz29_7 := blk_frozen BK228.out 7
              have hfz29_8 := blk_frozen BK228.out 8
              go_wp2
              go_meet
              case rel => exact ⟨_, ((a0_0 == 5)), (by first | rfl | (simp; done) | (simp [*]; done)), H', ⟨by have := HJ4.out; first | omega | exact Nat.le_refl _⟩, ⟨by (with_reducible repeat (first | refine blk_drewN ?_ _ | refine blk_drew ?_ | refine blk_alloc ?_ _)); refine blk_far ?_ NB228_233.out _; (with_reducible repeat (first | refine blk_drewN ?_ _ | refine blk_drew ?_ | refine blk_alloc ?_ _)); refine blk_far ?_ NB228_233.out _; (with_reducible repeat (first | refine blk_drewN ?_ _ | refine blk_drew ?_ | refine blk_alloc ?_ _)); refine blk_far ?_ NB228_233.out _; (with_reducible repeat (first | refine blk_drewN ?_ _ | refine blk_drew ?_ | refine blk_alloc ?_ _)); refine blk_far ?_ NB228_233.out _; (with_reducible repeat (first | refine blk_drewN ?_ _ | refine blk_drew ?_ | refine blk_alloc ?_ _)); refine blk_far ?_ NB228_233.out _; (with_reducible repeat (first | refine blk_drewN ?_ _ | refine blk_drew ?_ | refine blk_alloc ?_ _)); refine blk_far ?_ NB228_233.out _; (with_reducible repeat (first | refine blk_drewN ?_ _ | refine blk_drew ?_ | refine blk_alloc ?_ _)); refine blk_far ?_ NB228_233.out _; (with_reducible repeat (first | refine blk_drewN ?_ _ | refine blk_drew ?_ | refine blk_alloc ?_ _)); refine blk_far ?_ NB228_233.out _; (with_reducible repeat (first | refine blk_drewN ?_ _ | refine blk_drew ?_ | refine blk_alloc ?_ _)); refine blk_far ?_ NB228_233.out _; (with_reducible repeat (first | refine blk_drewN ?_ _ | refine blk_drew ?_ | refine blk_alloc ?_ _)); exact BK228.out⟩, ⟨by (with_reducible repeat (first | refine blk_drewN ?_ _ | refine blk_drew ?_ | refine blk_alloc ?_ _)); refine blk_put (cs := #[.int .i64 a0_0, .int .i64 a0_1, .int .i64 a0_2, .int .i64 a0_3, .int .i64 a0_4, .bool a0_5, .slice A0_6 l0_6.length c0_6, .slice A0_7 l0_7.length c0_7, .slice none 0 0]) ?_ 8 _ rfl; (with_reducible repeat (first | refine blk_drewN ?_ _ | refine blk_drew ?_ | refine blk_alloc ?_ _)); refine blk_put (cs := #[.int .i64 a0_0, .int .i64 a0_1, .int .i64 a0_2, .int .i64 a0_3, .int .i64 a0_4, .bool a0_5, .slice A0_6 l0_6.length c0_6, .slice none 0 0, .slice none 0 0]) ?_ 7 _ rfl; (with_reducible repeat (first | refine blk_drewN ?_ _ | refine blk_drew ?_ | refine blk_alloc ?_ _)); refine blk_put (cs := #[.int .i64 a0_0, .int .i64 a0_1, .int .i64 a0_2, .int .i64 a0_3, .int .i64 a0_4, .bool a0_5, .slice none 0 0, .slice none 0 0, .slice none 0 0]) ?_ 6 _ rfl; (with_reducible repeat (first | refine blk_drewN ?_ _ | refine blk_drew ?_ | refine blk_alloc ?_ _)); refine blk_put (cs := #[.int .i64 a0_0, .int .i64 a0_1, .int .i64 a0_2, .int .i64 a0_3, .int .i64 a0_4, .bool false, .slice none 0 0, .slice none 0 0, .slice none 0 0]) ?_ 5 _ rfl; (with_reducible repeat (first | refine blk_drewN ?_ _ | refine blk_drew ?_ | refine blk_alloc ?_ _)); refine blk_put (cs := #[.int .i64 a0_0, .int .i64 a0_1, .int .i64 a0_2, .int .i64 a0_3, .int .i64 0, .bool false, .slice none 0 0, .slice none 0 0, .slice none 0 0]) ?_ 4 _ rfl; (with_reducible repeat (first | refine blk_drewN ?_ _ | refine blk_drew ?_ | refine blk_alloc ?_ _)); refine blk_put (cs := #[.int .i64 a0_0, .int .i64 a0_1, .int .i64 a0_2, .int .i64 0, .int .i64 0, .bool false, .slice none 0 0, .slice none 0 0, .slice none 0 0]) ?_ 3 _ rfl; (with_reducible repeat (first | refine blk_drewN ?_ _ | refine blk_drew ?_ | refine blk_alloc ?_ _)); refine blk_put (cs := #[.int .i64 a0_0, .int .i64 a0_1, .int .i64 0, .int .i64 0, .int .i64 0, .bool false, .slice none 0 0, .slice none 0 0, .slice none 0 0]) ?_ 2 _ rfl; (with_reducible repeat (first | refine blk_drewN ?_ _ | refine blk_drew ?_ | refine blk_alloc ?_ _)); refine blk_put (cs := #[.int .i64 a0_0, .int .i64 0, .int .i64 0, .int .i64 0, .int .i64 0, .bool false, .slice none 0 0, .slice none 0 0, .slice none 0 0]) ?_ 1 _ rfl; (with_reducible repeat (first | refine blk_drewN ?_ _ | refine blk_drew ?_ | refine blk_alloc ?_ _)); refine blk_put (cs := #[.int .i64 0, .int .i64 0, .int .i64 0, .int .i64 0, .int .i64 0, .bool false, .slice none 0 0, .slice none 0 0, .slice none 0 0]) ?_ 0 _ rfl; (with_reducible repeat (first | refine blk_drewN ?_ _ | refine blk_drew ?_ | refine blk_alloc ?_ _)); exact BK233.out⟩, ⟨by repeat (first | (with_reducible first | exact HB.out | apply below_alloc | apply pw_below_drewN | apply below_drew1 | refine below_set ?_ GE228.out | refine below_set ?_ GE233.out) | exact HB.out)⟩⟩
          case rest =>
            clear HC20
            try clear c1
            try clear c2
            try clear p2
            try clear c4
            try clear c9
            try clear c16
            try clear c17
            try clear c23
            try clear c25
            try clear c25b0
            try clear c25b1
            try clear c26
            try clear c28
            try clear hcz11_0
            try clear hcz11_1
            try clear hcz11_2
            try clear hcz11_3
            try clear hcz11_4
            try clear hcz11_5
            try clear hcz11_6
            try clear hcz11_7
            try clear hcz11_8
            try clear hcz13_0
            try clear hcz13_1
            try clear hcz13_2
            try clear hcz13_3
            try clear hcz13_4
            try clear hcz13_5
            try clear hcz13_6
            try clear hcz13_7
            try clear hcz13_8
            try clear hcz15_0
            try clear hcz15_1
            try clear hcz15_2
            try clear hcz15_3
            try clear hcz15_4
            try clear hcz15_5
            try clear hcz15_6
            try clear hcz15_7
            try clear hcz15_8
            try clear hcz21_0
            try clear hcz21_1
            try clear hcz21_2
            try clear hcz21_3
            try clear hcz21_4
            try clear hcz21_5
            try clear hcz21_6
            try clear hcz21_7
            try clear hcz21_8
            try clear hcz24_0
            try clear hcz24_1
            try clear hcz24_2
            try clear hcz24_3
            try clear hcz24_4
            try clear hcz24_5
            try clear hcz24_6
            try clear hcz24_7
            try clear hcz24_8
            try clear hcz27_0
            try clear hcz27_1
            try clear hcz27_2
            try clear hcz27_3
            try clear hcz27_4
            try clear hcz27_5
            try clear hcz27_6
            try clear hcz27_7
            try clear hcz27_8
            try clear hcz29_0
            try clear hcz29_1
            try clear hcz29_2
            try clear hcz29_3
            try clear hcz29_4
            try clear hcz29_5
            try clear hcz29_6
            try clear hcz29_7
            try clear hcz29_8
            try clear hfz11_0
            try clear hfz11_1
            try clear hfz11_2
            try clear hfz11_3
            try clear hfz11_4
            try clear hfz11_5
            try clear hfz11_6
            try clear hfz11_7
            try clear hfz11_8
            try clear hfz13_0
            try clear hfz13_1
            try clear hfz13_2
            try clear hfz13_3
            try clear hfz13_4
            try clear hfz13_5
            try clear hfz13_6
            try clear hfz13_7
            try clear hfz13_8
            try clear hfz15_0
            try clear hfz15_1
            try clear hfz15_2
            try clear hfz15_3
            try clear hfz15_4
            try clear hfz15_5
            try clear hfz15_6
            try clear hfz15_7
            try clear hfz15_8
            try clear hfz21_0
            try clear hfz21_1
            try clear hfz21_2
            try clear hfz21_3
            try clear hfz21_4
            try clear hfz21_5
            try clear hfz21_6
            try clear hfz21_7
            try clear hfz21_8
            try clear hfz24_0
            try clear hfz24_1
            try clear hfz24_2
            try clear hfz24_3
            try clear hfz24_4
            try clear hfz24_5
            try clear hfz24_6
            try clear hfz24_7
            try clear hfz24_8
            try clear hfz27_0
            try clear hfz27_1
            try clear hfz27_2
            try clear hfz27_3
            try clear hfz27_4
            try clear hfz27_5
            try clear hfz27_6
            try clear hfz27_7
            try clear hfz27_8
            try clear hfz29_0
            try clear hfz29_1
            try clear hfz29_2
            try clear hfz29_3
            try clear hfz29_4
            try clear hfz29_5
            try clear hfz29_6
            try clear hfz29_7
            try clear hfz29_8
            try clear p2
            obtain ⟨kq, x6_19, rfl, HA, HJ19, BK228, BK233, HB⟩ := hcut
            cases kq with
            | zero => exact absurd HA.out (by simp [voklaw16_RecKinds.j1])
            | succ kj19 =>
              have H := HA.out
              clear HA
              simp only [voklaw16_RecKinds.j1] at H
              by_cases c30 : a1 = 0
              · rw [if_pos c30] at H
                have c30b0 : (a1 == 0) = true := beq_iff_eq.mpr c30
                have c30b1 : (a1 != 0) = false := bne_eq_false_iff_eq.mpr c30
                clear c30
                replace H := Option.bind_eq_some_iff.mp H
                obtain ⟨⟨t234, t237⟩, A310, H⟩ := H
                replace H : ((voklaw16_first.f kj19).bind fun t238 => (if t238 = true then ((rec_May.f kj19 a0_0 a0_1 5 a0_3 a0_4 a0_5 l0_6 l0_7 l0_8).bind fun t239 => (if (t239 == (!(a0_0 != 5))) = true then (some ((t237 == 0) == (!(a0_0 != 5)))) else (some false))) else (some false))) = some r := H
                have A31 := Aside0.mk A310
                clear A310
                replace H := Option.bind_eq_some_iff.mp H
                obtain ⟨t238, A320, H⟩ := H
                replace H : (if t238 = true then ((rec_May.f kj19 a0_0 a0_1 5 a0_3 a0_4 a0_5 l0_6 l0_7 l0_8).bind fun t239 => (if (t239 == (!(a0_0 != 5))) = true then (some ((t237 == 0) == (!(a0_0 != 5)))) else (some false))) else (some false)) = some r := H
                have A32 := Aside0.mk A320
                clear A320
                by_cases c33 : t238 = true
                · subst c33
                  have H1 : ((rec_May.f kj19 a0_0 a0_1 5 a0_3 a0_4 a0_5 l0_6 l0_7 l0_8).bind fun t239 => (if (t239 == (!(a0_0 != 5))) = true then (some ((t237 == 0) == (!(a0_0 != 5)))) else (some false))) = some r := by rw [if_pos rfl] at H; exact H
                  clear H
                  have H := H1
                  clear H1
                  replace H := Option.bind_eq_some_iff.mp H
                  obtain ⟨t239, A340, H⟩ := H
                  replace H : (if (t239 == (!(a0_0 != 5))) = true then (some ((t237 == 0) == (!(a0_0 != 5)))) else (some false)) = some r := H
                  have A34 := Aside0.mk A340
                  clear A340
                  by_cases c35 : (t239 == (!(a0_0 != 5))) = true
                  · rw [if_pos c35] at H
                    have c35b0 : (t239 == (!(a0_0 != 5))) = true := c35
                    (try (have c35b1 : decide (t239 = (!(a0_0 != 5))) = true := by simpa using c35))
                    (try (have c35b2 : (t239 == (!(a0_0 != 5))) = true := by simpa using c35))
                    clear c35
                    obtain rfl := Option.some.inj H
                    try go_wp2
                    have n0_ := Aside0.mk (blk_drew BK228.out)
                    have n1_ := Aside0.mk (blk_drew BK233.out)
                    have n2_ := Aside0.mk (below_drew1 HB.out)
                    clear BK228
                    clear BK233
                    clear HB
                    have BK228 := n0_
                    have BK233 := n1_
                    have HB := n2_
                    clear n0_ n1_ n2_
                    refine start_ (n := 6) (S := fun w' => w'.cell? ⟨gb228, 0, none⟩ = some (.int .i64 a0_0) ∧ w'.cell? ⟨gb228, 1, none⟩ = some (.int .i64 a0_1) ∧ w'.cell? ⟨gb228, 2, none⟩ = some (.int .i64 a0_2) ∧ w'.cell? ⟨gb228, 3, none⟩ = some (.int .i64 a0_3) ∧ w'.cell? ⟨gb228, 4, none⟩ = some (.int .i64 a0_4) ∧ w'.cell? ⟨gb228, 5, none⟩ = some (.bool a0_5) ∧ w'.cell? ⟨gb228, 6, none⟩ = some (.slice A0_6 l0_6.length c0_6) ∧ w'.cell? ⟨gb228, 7, none⟩ = some (.slice A0_7 l0_7.length c0_7) ∧ w'.cell? ⟨gb228, 8, none⟩ = some (.slice A0_8 l0_8.length c0_8)) (ds := []) #[false, false, false, false, false, false] (by kernel_rfl) rfl rfl ⟨(blk_cell BK228.out 0).trans rfl, (blk_cell BK228.out 1).trans rfl, (blk_cell BK228.out 2).trans rfl, (blk_cell BK228.out 3).trans rfl, (blk_cell BK228.out 4).trans rfl, (blk_cell BK228.out 5).trans rfl, (blk_cell BK228.out 6).trans rfl, (blk_cell BK228.out 7).trans rfl, (blk_cell BK228.out 8).trans rfl⟩ (fun hHeld => ?_)
                    generalize wc.drew = w36 at BK228 BK233 HB hHeld ⊢
                    refine pure_ (i := 0) (N := some 34) (v := ?_) (a' := ?_) #[true, false, false, false, false, false] rfl rfl (by kernel_rfl) (fun _ _ _ h => h) (Or.inl ⟨by rfl, ?_⟩) ?_ ?_
                    rotate_left
                    · intro w'
                      go_simp
                      with_reducible rfl
                    rotate_left
                    · simp only [Act.put, List.setIfInBounds_toArray, List.set_cons_zero, List.set_cons_succ, i64_w, i32_w]
                      rfl
                    refine pure_ (i := 3) (N := some 37) (v := ?_) (a' := ?_) #[true, false, false, true, false, false] rfl rfl (by kernel_rfl) (fun _ _ _ h => h) (Or.inl ⟨by rfl, ?_⟩) ?_ ?_
                    rotate_left
                    · intro w'
                      go_simp
                      with_reducible rfl
                    rotate_left
                    · simp only [Act.put, List.setIfInBounds_toArray, List.set_cons_zero, List.set_cons_succ, i64_w, i32_w]
                      rfl
                    refine take_ (i := 1) (N := some 35) (v := ?_) (a' := ?_) #[true, true, false, true, false, false] rfl rfl (by kernel_rfl) (fun _ _ _ h => h) (Or.inl ⟨by rfl, ?_⟩) hHeld ?_ ?_
                    rotate_left
                    · rintro w' ⟨s0, s1, s2, s3, s4, s5, s6, s7, s8⟩
                      go_simp
                      with_reducible rfl
                    rotate_left
                    · simp only [Act.put, List.setIfInBounds_toArray, List.set_cons_zero, List.set_cons_succ, i64_w, i32_w]
                      rfl
                    refine pure_ (i := 2) (N := some 36) (v := ?_) (a' := ?_) #[true, true, true, true, false, false] rfl rfl (by kernel_rfl) (fun _ _ _ h => h) (Or.inl ⟨by rfl, ?_⟩) ?_ ?_
                    rotate_left
                    · intro w'
                      go_simp
                      with_reducible rfl
                    rotate_left
                    · simp only [Act.put, List.setIfInBounds_toArray, List.set_cons_zero, List.set_cons_succ, i64_w, i32_w]
                      rfl
                    refine one_ (i := 4) (N := none) #[true, true, true, true, true, false] rfl rfl (by kernel_rfl) (by decide) (fun K hK => ?_)
                    have hs37 : w36.cell? ⟨gb233, 2, none⟩ = some (.int .i64 a0_2) := (blk_cell BK233.out 2).trans rfl
                    have hfs37 := blk_frozen BK233.out 2
                    have hns37_0 := NB228_233.out
                    have hms37_0 := NB233_228.out
                    refine skip_ (w1 := ?_) (by rfl) rfl ?_ ?_
                    rotate_left
                    · go_simp
                      rfl
                    refine hK.out _ _ ⟨((cell_far (p := ⟨gb233, _, none⟩) NB228_233.out _).trans (hHeld.1)), ((cell_far (p := ⟨gb233, _, none⟩) NB228_233.out _).trans (hHeld.2.1)), ((cell_far (p := ⟨gb233, _, none⟩) NB228_233.out _).trans (hHeld.2.2.1)), ((cell_far (p := ⟨gb233, _, none⟩) NB228_233.out _).trans (hHeld.2.2.2.1)), ((cell_far (p := ⟨gb233, _, none⟩) NB228_233.out _).trans (hHeld.2.2.2.2.1)), ((cell_far (p := ⟨gb233, _, none⟩) NB228_233.out _).trans (hHeld.2.2.2.2.2.1)), ((cell_far (p := ⟨gb233, _, none⟩) NB228_233.out _).trans (hHeld.2.2.2.2.2.2.1)), ((cell_far (p := ⟨gb233, _, none⟩) NB228_233.out _).trans (hHeld.2.2.2.2.2.2.2.1)), ((cell_far (p := ⟨gb233, _, none⟩) NB228_233.out _).trans (hHeld.2.2.2.2.2.2.2.2))⟩ (fun hHeld => ?_)
                    clear hK K
                    refine pure_ (i := 5) (N := some 7) (v := ?_) (a' := ?_) #[true, true, true, true, true, true] rfl rfl (by kernel_rfl) (fun _ _ _ h => h) (Or.inl ⟨by rfl, ?_⟩) ?_ ?_
                    rotate_left
                    · intro w'
                      go_simp
                      with_reducible rfl
                    rotate_left
                    · simp only [Act.put, List.setIfInBounds_toArray, List.set_cons_zero, List.set_cons_succ, i64_w, i32_w]
                      rfl
                    refine done_ (by kernel_rfl) ?_
                    have hnb38 := NB233_228.out
                    have hnc38 := NB228_233.out
                    have hcz39_0 : w36.cell? ⟨gb233, 0, none⟩ = some (.int .i64 a0_0) := (blk_cell BK233.out 0).trans rfl
                    have hcz39_1 : w36.cell? ⟨gb233, 1, none⟩ = some (.int .i64 a0_1) := (blk_cell BK233.out 1).trans rfl
                    have hcz39_2 : w36.cell? ⟨gb233, 2, none⟩ = some (.int .i64 a0_2) := (blk_cell BK233.out 2).trans rfl
                    have hcz39_3 : w36.cell? ⟨gb233, 3, none⟩ = some (.int .i64 a0_3) := (blk_cell BK233.out 3).trans rfl
                    have hcz39_4 : w36.cell? ⟨gb233, 4, none⟩ = some (.int .i64 a0_4) := (blk_cell BK233.out 4).trans rfl
                    have hcz39_5 : w36.cell? ⟨gb233, 5, none⟩ = some (.bool a0_5) := (blk_cell BK233.out 5).trans rfl
                    have hcz39_6 : w36.cell? ⟨gb233, 6, none⟩ = some (.slice A0_6 l0_6.length c0_6) := (blk_cell BK233.out 6).trans rfl
                    have hcz39_7 : w36.cell? ⟨gb233, 7, none⟩ = some (.slice A0_7 l0_7.length c0_7) := (blk_cell BK233.out 7).trans rfl
                    have hcz39_8 : w36.cell? ⟨gb233, 8, none⟩ = some (.slice A0_8 l0_8.length c0_8) := (blk_cell BK233.out 8).trans rfl
                    have hfz39_0 := blk_frozen BK233.out 0
                    have hfz39_1 := blk_frozen BK233.out 1
                    have hfz39_2 := blk_frozen BK233.out 2
                    have hfz39_3 := blk_frozen BK233.out 3
                    have hfz39_4 := blk_frozen BK233.out 4
                    have hfz39_5 := blk_frozen BK233.out 5
                    have hfz39_6 := blk_frozen BK233.out 6
                    have hfz39_7 := blk_frozen BK233.out 7
                    have hfz39_8 := blk_frozen BK233.out 8
                    try go_wp2_with (first | ((with_reducible refine gate_callee (f := 19) rfl ?_); refine goesL_ (some 71) rfl rfl Try.func19 (by kernel_rfl) rfl #[.agg #[.int .i64 a0_0, .int .i64 a0_1, .int .i64 5, .int .i64 a0_3, .int .i64 a0_4, .bool a0_5, .slice A0_6 l0_6.length c0_6, .slice A0_7 l0_7.length c0_7, .slice A0_8 l0_8.length c0_8]] rfl (by (try simp only [List.map_toArray, List.map_cons, List.map_nil]); first | done | rfl | (simp only [List.length_drop, List.length_take]; rfl)) ?_; (with_reducible refine (rec_Encode.calls kj19 a0_0 a0_1 5 a0_3 a0_4 a0_5 _ _ l0_6 _ _ l0_7 _ _ l0_8 t234 t237 _ ?side1 ?side2 ?side3 ?side4 ?side5 ?side6 A31.out).mono ?_); (case side1 => exact Kd.C_below HR0_6.out (by repeat (first | (with_reducible first | exact HB.out | apply below_alloc | apply pw_below_drewN | apply below_drew1 | refine below_set ?_ GE228.out | refine below_set ?_ GE233.out) | exact HB.out))); (case side2 => exact HC0_6.out); (case side3 => exact Kd.C_below HR0_7.out (by repeat (first | (with_reducible first | exact HB.out | apply below_alloc | apply pw_below_drewN | apply below_drew1 | refine below_set ?_ GE228.out | refine below_set ?_ GE233.out) | exact HB.out))); (case side4 => exact HC0_7.out); (case side5 => exact Kd.C_below HR0_8.out (by repeat (first | (with_reducible first | exact HB.out | apply below_alloc | apply pw_below_drewN | apply below_drew1 | refine below_set ?_ GE228.out | refine below_set ?_ GE233.out) | exact HB.out))); (case side6 => exact HC0_8.out); rintro e w40 ⟨v235, rfl, ho0, hb⟩; refine ⟨_, rfl, ?_⟩; have n0_ := Aside0.mk (Kd.R_lower ho0 (below_size (by repeat (first | (with_reducible first | exact HB.out | apply below_alloc | apply pw_below_drewN | apply below_drew1 | refine below_set ?_ GE228.out | refine below_set ?_ GE233.out) | exact HB.out)))); have n1_ := Aside0.mk (blk_below (g := gb228) (o := .cells #[.int .i64 a0_0, .int .i64 a0_1, .int .i64 a0_2, .int .i64 a0_3, .int .i64 a0_4, .bool a0_5, .slice A0_6 l0_6.length c0_6, .slice A0_7 l0_7.length c0_7, .slice A0_8 l0_8.length c0_8] 34 (0, 0)) (by (with_reducible repeat (first | refine blk_drewN ?_ _ | refine blk_drew ?_ | refine blk_alloc ?_ _)); refine blk_far ?_ NB228_233.out _; (with_reducible repeat (first | refine blk_drewN ?_ _ | refine blk_drew ?_ | refine blk_alloc ?_ _)); exact BK228.out) hb); have n2_ := Aside0.mk (blk_below (g := gb233) (o := .cells #[.int .i64 a0_0, .int .i64 a0_1, .int .i64 5, .int .i64 a0_3, .int .i64 a0_4, .bool a0_5, .slice A0_6 l0_6.length c0_6, .slice A0_7 l0_7.length c0_7, .slice A0_8 l0_8.length c0_8] 34 (0, 0)) (by (with_reducible repeat (first | refine blk_drewN ?_ _ | refine blk_drew ?_ | refine blk_alloc ?_ _)); refine blk_put (cs := #[.int .i64 a0_0, .int .i64 a0_1, .int .i64 a0_2, .int .i64 a0_3, .int .i64 a0_4, .bool a0_5, .slice A0_6 l0_6.length c0_6, .slice A0_7 l0_7.length c0_7, .slice A0_8 l0_8.length c0_8]) ?_ 2 _ rfl; (with_reducible repeat (first | refine blk_drewN ?_ _ | refine blk_drew ?_ | refine blk_alloc ?_ _)); exact BK233.out) hb); have n3_ := Aside0.mk (below_step (by repeat (first | (with_reducible first | exact HB.out | apply below_alloc | apply pw_below_drewN | apply below_drew1 | refine below_set ?_ GE228.out | refine below_set ?_ GE233.out) | exact HB.out)) hb); clear BK228; clear BK233; clear HB; have HO236 := n0_; have BK228 := n1_; have BK233 := n2_; have HB := n3_; clear n0_ n1_ n2_ n3_; (try clear hb); (try clear hb2); (try clear hk); (try clear hi); (try clear ho0)) | ((with_reducible refine gate_callee (f := 16) rfl ?_); refine goesL_ (some 74) rfl rfl Try.func16 (by kernel_rfl) rfl #[] rfl (by (try simp only [List.map_toArray, List.map_cons, List.map_nil]); first | done | rfl | (simp only [List.length_drop, List.length_take]; rfl)) ?_; (with_reducible refine (voklaw16_first.calls kj19  true _ A32.out).mono ?_); rintro e w41 ⟨rfl, hb⟩; refine ⟨_, rfl, ?_⟩; have n0_ := Aside0.mk (Kd.R_below (by (with_reducible repeat (first | apply Kd.R_alloc | apply Kd.R_drewN | apply Kd.R_drew)); exact HO236.out) hb); have n1_ := Aside0.mk (blk_below (g := gb228) (o := .cells #[.int .i64 a0_0, .int .i64 a0_1, .int .i64 a0_2, .int .i64 a0_3, .int .i64 a0_4, .bool a0_5, .slice A0_6 l0_6.length c0_6, .slice A0_7 l0_7.length c0_7, .slice A0_8 l0_8.length c0_8] 34 (0, 0)) (by (with_reducible repeat (first | refine blk_drewN ?_ _ | refine blk_drew ?_ | refine blk_alloc ?_ _)); exact BK228.out) hb); have n2_ := Aside0.mk (blk_below (g := gb233) (o := .cells #[.int .i64 a0_0, .int .i64 a0_1, .int .i64 5, .int .i64 a0_3, .int .i64 a0_4, .bool a0_5, .slice A0_6 l0_6.length c0_6, .slice A0_7 l0_7.length c0_7, .slice A0_8 l0_8.length c0_8] 34 (0, 0)) (by (with_reducible repeat (first | refine blk_drewN ?_ _ | refine blk_drew ?_ | refine blk_alloc ?_ _)); exact BK233.out) hb); have n3_ := Aside0.mk (below_step (by repeat (first | (with_reducible first | exact HB.out | apply below_alloc | apply pw_below_drewN | apply below_drew1 | refine below_set ?_ GE228.out | refine below_set ?_ GE233.out) | exact HB.out)) hb); clear HO236; clear BK228; clear BK233; clear HB; have HO236 := n0_; have BK228 := n1_; have BK233 := n2_; have HB := n3_; clear n0_ n1_ n2_ n3_; (try clear hb); (try clear hb2); (try clear hk); (try clear hi); have hcz42_0 : w41.cell? ⟨gb233, 0, none⟩ = some (.int .i64 a0_0) := (blk_cell BK233.out 0).trans rfl; have hcz42_1 : w41.cell? ⟨gb233, 1, none⟩ = some (.int .i64 a0_1) := (blk_cell BK233.out 1).trans rfl; have hcz42_2 : w41.cell? ⟨gb233, 2, none⟩ = some (.int .i64 5) := (blk_cell BK233.out 2).trans rfl; have hcz42_3 : w41.cell? ⟨gb233, 3, none⟩ = some (.int .i64 a0_3) := (blk_cell BK233.out 3).trans rfl; have hcz42_4 : w41.cell? ⟨gb233, 4, none⟩ = some (.int .i64 a0_4) := (blk_cell BK233.out 4).trans rfl; have hcz42_5 : w41.cell? ⟨gb233, 5, none⟩ = some (.bool a0_5) := (blk_cell BK233.out 5).trans rfl; have hcz42_6 : w41.cell? ⟨gb233, 6, none⟩ = some (.slice A0_6 l0_6.length c0_6) := (blk_cell BK233.out 6).trans rfl; have hcz42_7 : w41.cell? ⟨gb233, 7, none⟩ = some (.slice A0_7 l0_7.length c0_7) := (blk_cell BK233.out 7).trans rfl; have hcz42_8 : w41.cell? ⟨gb233, 8, none⟩ = some (.slice A0_8 l0_8.length c0_8) := (blk_cell BK233.out 8).trans rfl; have hfz42_0 := blk_frozen BK233.out 0; have hfz42_1 := blk_frozen BK233.out 1; have hfz42_2 := blk_frozen BK233.out 2; have hfz42_3 := blk_frozen BK233.out 3; have hfz42_4 := blk_frozen BK233.out 4; have hfz42_5 := blk_frozen BK233.out 5; have hfz42_6 := blk_frozen BK233.out 6; have hfz42_7 := blk_frozen BK233.out 7; have hfz42_8 := blk_frozen BK233.out 8) | (go_at_call 18; (with_reducible refine (rec_May.calls kj19 a0_0 a0_1 5 a0_3 a0_4 a0_5 _ _ l0_6 _ _ l0_7 _ _ l0_8 t239 _ ?side1 ?side2 ?side3 ?side4 ?side5 ?side6 A34.out).mono ?_); (case side1 => repeat (first | exact (Kd.C_below HR0_6.out HB.out) | (with_reducible refine Kd.C_alloc ?_ _) | (with_reducible refine Kd.C_drewN ?_ _) | (with_reducible refine Kd.C_drew ?_))); (case side2 => exact HC0_6.out); (case side3 => repeat (first | exact (Kd.C_below HR0_7.out HB.out) | (with_reducible refine Kd.C_alloc ?_ _) | (with_reducible refine Kd.C_drewN ?_ _) | (with_reducible refine Kd.C_drew ?_))); (case side4 => exact HC0_7.out); (case side5 => repeat (first | exact (Kd.C_below HR0_8.out HB.out) | (with_reducible refine Kd.C_alloc ?_ _) | (with_reducible refine Kd.C_drewN ?_ _) | (with_reducible refine Kd.C_drew ?_))); (case side6 => exact HC0_8.out); rintro e w43 ⟨rfl, hb⟩; have n0_ := Aside0.mk (Kd.R_below (by (with_reducible repeat (first | apply Kd.R_alloc | apply Kd.R_drewN | apply Kd.R_drew)); exact HO236.out) hb); have n1_ := Aside0.mk (blk_below (g := gb228) (o := .cells #[.int .i64 a0_0, .int .i64 a0_1, .int .i64 a0_2, .int .i64 a0_3, .int .i64 a0_4, .bool a0_5, .slice A0_6 l0_6.length c0_6, .slice A0_7 l0_7.length c0_7, .slice A0_8 l0_8.length c0_8] 34 (0, 0)) (by (with_reducible repeat (first | refine blk_drewN ?_ _ | refine blk_drew ?_ | refine blk_alloc ?_ _)); exact BK228.out) hb); have n2_ := Aside0.mk (blk_below (g := gb233) (o := .cells #[.int .i64 a0_0, .int .i64 a0_1, .int .i64 5, .int .i64 a0_3, .int .i64 a0_4, .bool a0_5, .slice A0_6 l0_6.length c0_6, .slice A0_7 l0_7.length c0_7, .slice A0_8 l0_8.length c0_8] 34 (0, 0)) (by (with_reducible repeat (first | refine blk_drewN ?_ _ | refine blk_drew ?_ | refine blk_alloc ?_ _)); exact BK233.out) hb); have n3_ := Aside0.mk (below_step (by repeat (first | (with_reducible first | exact HB.out | apply below_alloc | apply pw_below_drewN | apply below_drew1 | refine below_set ?_ GE228.out | refine below_set ?_ GE233.out) | exact HB.out)) hb); clear HO236; clear BK228; clear BK233; clear HB; have HO236 := n0_; have BK228 := n1_; have BK233 := n2_; have HB := n3_; clear n0_ n1_ n2_ n3_; (try clear hb); (try clear hb2); (try clear hk); (try clear hi)))
                    all_goals go_ret
                    all_goals first | (exfalso; rename_i hz_; rw [hz_] at c35b0; exact absurd c35b0 (by decide)) | (exfalso; rename_i hz_; exact hz_ (by simpa using c35b0)) | exact ⟨by first | rfl | (simp [errW_none, errW_some] <;> rfl) | (simp [*, errW_none, errW_some] <;> rfl), by repeat (first | (with_reducible first | exact HB.out | apply below_alloc | apply pw_below_drewN | apply below_drew1 | refine below_set ?_ GE228.out | refine below_set ?_ GE233.out) | exact HB.out)⟩
                  · rw [if_neg c35] at H
                    have c35b0 : (t239 == (!(a0_0 != 5))) = false := by simpa using c35
                    (try (have c35b1 : decide (t239 = (!(a0_0 != 5))) = false := by simpa using c35))
                    (try (have c35b2 : (t239 == (!(a0_0 != 5))) = false := by simpa using c35))
                    (try (have c35b3 : ¬ (t239 = (!(a0_0 != 5))) := by simpa using c35))
                    clear c35
                    exact absurd ((Option.some.inj H).trans hT_.out) (by decide)
                · replace c33 := Bool.eq_false_iff.mpr c33
                  subst c33
                  have H1 : (some false) = some r := by rw [if_neg (show ¬ (false = true) by decide)] at H; exact H
                  clear H
                  have H := H1
                  clear H1
                  exact absurd ((Option.some.inj H).trans hT_.out) (by decide)
              · rw [if_neg c30] at H
                have c30b0 : (a1 == 0) = false := beq_eq_false_iff_ne.mpr c30
                have c30b1 : (a1 != 0) = true := bne_iff_ne.mpr c30
                by_cases c44 : a1 = 1
                · rw [if_pos c44] at H
                  have c44b0 : (a1 == 1) = true := beq_iff_eq.mpr c44
                  have c44b1 : (a1 != 1) = false := bne_eq_false_iff_eq.mpr c44
                  clear c44
                  replace H := Option.bind_eq_some_iff.mp H
                  obtain ⟨⟨t240, t243⟩, A450, H⟩ := H
                  replace H : ((voklaw16_first.f kj19).bind fun t244 => (if t244 = true then ((rec_May.f kj19 a0_0 a0_1 a0_2 4 a0_4 a0_5 l0_6 l0_7 l0_8).bind fun t245 => (if (t245 == (!true)) = true then (some ((t243 == 0) == (!true))) else (some false))) else (some false))) = some r := H
                  have A45 := Aside0.mk A450
                  clear A450
                  replace H := Option.bind_eq_some_iff.mp H
                  obtain ⟨t244, A460, H⟩ := H
                  replace H : (if t244 = true then ((rec_May.f kj19 a0_0 a0_1 a0_2 4 a0_4 a0_5 l0_6 l0_7 l0_8).bind fun t245 => (if (t245 == (!true)) = true then (some ((t243 == 0) == (!true))) else (some false))) else (some false)) = some r := H
                  have A46 := Aside0.mk A460
                  clear A460
                  by_cases c47 : t244 = true
                  · subst c47
                    have H1 : ((rec_May.f kj19 a0_0 a0_1 a0_2 4 a0_4 a0_5 l0_6 l0_7 l0_8).bind fun t245 => (if (t245 == (!true)) = true then (some ((t243 == 0) == (!true))) else (some false))) = some r := by rw [if_pos rfl] at H; exact H
                    clear H
                    have H := H1
                    clear H1
                    replace H := Option.bind_eq_some_iff.mp H
                    obtain ⟨t245, A480, H⟩ := H
                    replace H : (if (t245 == (!true)) = true then (some ((t243 == 0) == (!true))) else (some false)) = some r := H
                    have A48 := Aside0.mk A480
                    clear A480
                    by_cases c49 : (t245 == (!true)) = true
                    · rw [if_pos c49] at H
                      have c49b0 : (t245 == (!true)) = true := c49
                      (try (have c49b1 : decide (t245 = (!true)) = true := by simpa using c49))
                      (try (have c49b2 : (t245 == (!true)) = true := by simpa using c49))
                      clear c49
                      obtain rfl := Option.some.inj H
                      have hnb50 := NB233_228.out
                      have hnc50 := NB228_233.out
                      have hcz51_0 : wc.cell? ⟨gb233, 0, none⟩ = some (.int .i64 a0_0) := (blk_cell BK233.out 0).trans rfl
                      have hcz51_1 : wc.cell? ⟨gb233, 1, none⟩ = some (.int .i64 a0_1) := (blk_cell BK233.out 1).trans rfl
                      have hcz51_2 : wc.cell? ⟨gb233, 2, none⟩ = some (.int .i64 a0_2) := (blk_cell BK233.out 2).trans rfl
                      have hcz51_3 : wc.cell? ⟨gb233, 3, none⟩ = some (.int .i64 a0_3) := (blk_cell BK233.out 3).trans rfl
                      have hcz51_4 : wc.cell? ⟨gb233, 4, none⟩ = some (.int .i64 a0_4) := (blk_cell BK233.out 4).trans rfl
                      have hcz51_5 : wc.cell? ⟨gb233, 5, none⟩ = some (.bool a0_5) := (blk_cell BK233.out 5).trans rfl
                      have hcz51_6 : wc.cell? ⟨gb233, 6, none⟩ = some (.slice A0_6 l0_6.length c0_6) := (blk_cell BK233.out 6).trans rfl
                      have hcz51_7 : wc.cell? ⟨gb233, 7, none⟩ = some (.slice A0_7 l0_7.length c0_7) := (blk_cell BK233.out 7).trans rfl
                      have hcz51_8 : wc.cell? ⟨gb233, 8, none⟩ = some (.slice A0_8 l0_8.length c0_8) := (blk_cell BK233.out 8).trans rfl
                      have hfz51_0 := blk_frozen BK233.out 0
                      have hfz51_1 := blk_frozen BK233.out 1
                      have hfz51_2 := blk_frozen BK233.out 2
                      have hfz51_3 := blk_frozen BK233.out 3
                      have hfz51_4 := blk_frozen BK233.out 4
                      have hfz51_5 := blk_frozen BK233.out 5
                      have hfz51_6 := blk_frozen BK233.out 6
                      have hfz51_7 := blk_frozen BK233.out 7
                      have hfz51_8 := blk_frozen BK233.out 8
                      go_wp2_with (first | ((with_reducible refine gate_callee (f := 19) rfl ?_); refine goesL_ (some 71) rfl rfl Try.func19 (by kernel_rfl) rfl #[.agg #[.int .i64 a0_0, .int .i64 a0_1, .int .i64 a0_2, .int .i64 4, .int .i64 a0_4, .bool a0_5, .slice A0_6 l0_6.length c0_6, .slice A0_7 l0_7.length c0_7, .slice A0_8 l0_8.length c0_8]] rfl (by (try simp only [List.map_toArray, List.map_cons, List.map_nil]); first | done | rfl | (simp only [List.length_drop, List.length_take]; rfl)) ?_; (with_reducible refine (rec_Encode.calls kj19 a0_0 a0_1 a0_2 4 a0_4 a0_5 _ _ l0_6 _ _ l0_7 _ _ l0_8 t240 t243 _ ?side1 ?side2 ?side3 ?side4 ?side5 ?side6 A45.out).mono ?_); (case side1 => exact Kd.C_below HR0_6.out (by repeat (first | (with_reducible first | exact HB.out | apply below_alloc | apply pw_below_drewN | apply below_drew1 | refine below_set ?_ GE228.out | refine below_set ?_ GE233.out) | exact HB.out))); (case side2 => exact HC0_6.out); (case side3 => exact Kd.C_below HR0_7.out (by repeat (first | (with_reducible first | exact HB.out | apply below_alloc | apply pw_below_drewN | apply below_drew1 | refine below_set ?_ GE228.out | refine below_set ?_ GE233.out) | exact HB.out))); (case side4 => exact HC0_7.out); (case side5 => exact Kd.C_below HR0_8.out (by repeat (first | (with_reducible first | exact HB.out | apply below_alloc | apply pw_below_drewN | apply below_drew1 | refine below_set ?_ GE228.out | refine below_set ?_ GE233.out) | exact HB.out))); (case side6 => exact HC0_8.out); rintro e w52 ⟨v241, rfl, ho0, hb⟩; refine ⟨_, rfl, ?_⟩; have n0_ := Aside0.mk (Kd.R_lower ho0 (below_size (by repeat (first | (with_reducible first | exact HB.out | apply below_alloc | apply pw_below_drewN | apply below_drew1 | refine below_set ?_ GE228.out | refine below_set ?_ GE233.out) | exact HB.out)))); have n1_ := Aside0.mk (blk_below (g := gb228) (o := .cells #[.int .i64 a0_0, .int .i64 a0_1, .int .i64 a0_2, .int .i64 a0_3, .int .i64 a0_4, .bool a0_5, .slice A0_6 l0_6.length c0_6, .slice A0_7 l0_7.length c0_7, .slice A0_8 l0_8.length c0_8] 34 (0, 0)) (by (with_reducible repeat (first | refine blk_drewN ?_ _ | refine blk_drew ?_ | refine blk_alloc ?_ _)); refine blk_far ?_ NB228_233.out _; (with_reducible repeat (first | refine blk_drewN ?_ _ | refine blk_drew ?_ | refine blk_alloc ?_ _)); exact BK228.out) hb); have n2_ := Aside0.mk (blk_below (g := gb233) (o := .cells #[.int .i64 a0_0, .int .i64 a0_1, .int .i64 a0_2, .int .i64 4, .int .i64 a0_4, .bool a0_5, .slice A0_6 l0_6.length c0_6, .slice A0_7 l0_7.length c0_7, .slice A0_8 l0_8.length c0_8] 34 (0, 0)) (by (with_reducible repeat (first | refine blk_drewN ?_ _ | refine blk_drew ?_ | refine blk_alloc ?_ _)); refine blk_put (cs := #[.int .i64 a0_0, .int .i64 a0_1, .int .i64 a0_2, .int .i64 a0_3, .int .i64 a0_4, .bool a0_5, .slice A0_6 l0_6.length c0_6, .slice A0_7 l0_7.length c0_7, .slice A0_8 l0_8.length c0_8]) ?_ 3 _ rfl; (with_reducible repeat (first | refine blk_drewN ?_ _ | refine blk_drew ?_ | refine blk_alloc ?_ _)); exact BK233.out) hb); have n3_ := Aside0.mk (below_step (by repeat (first | (with_reducible first | exact HB.out | apply below_alloc | apply pw_below_drewN | apply below_drew1 | refine below_set ?_ GE228.out | refine below_set ?_ GE233.out) | exact HB.out)) hb); clear BK228; clear BK233; clear HB; have HO242 := n0_; have BK228 := n1_; have BK233 := n2_; have HB := n3_; clear n0_ n1_ n2_ n3_; (try clear hb); (try clear hb2); (try clear hk); (try clear hi); (try clear ho0)) | ((with_reducible refine gate_callee (f := 16) rfl ?_); refine goesL_ (some 74) rfl rfl Try.func16 (by kernel_rfl) rfl #[] rfl (by (try simp only [List.map_toArray, List.map_cons, List.map_nil]); first | done | rfl | (simp only [List.length_drop, List.length_take]; rfl)) ?_; (with_reducible refine (voklaw16_first.calls kj19  true _ A46.out).mono ?_); rintro e w53 ⟨rfl, hb⟩; refine ⟨_, rfl, ?_⟩; have n0_ := Aside0.mk (Kd.R_below (by (with_reducible repeat (first | apply Kd.R_alloc | apply Kd.R_drewN | apply Kd.R_drew)); exact HO242.out) hb); have n1_ := Aside0.mk (blk_below (g := gb228) (o := .cells #[.int .i64 a0_0, .int .i64 a0_1, .int .i64 a0_2, .int .i64 a0_3, .int .i64 a0_4, .bool a0_5, .slice A0_6 l0_6.length c0_6, .slice A0_7 l0_7.length c0_7, .slice A0_8 l0_8.length c0_8] 34 (0, 0)) (by (with_reducible repeat (first | refine blk_drewN ?_ _ | refine blk_drew ?_ | refine blk_alloc ?_ _)); exact BK228.out) hb); have n2_ := Aside0.mk (blk_below (g := gb233) (o := .cells #[.int .i64 a0_0, .int .i64 a0_1, .int .i64 a0_2, .int .i64 4, .int .i64 a0_4, .bool a0_5, .slice A0_6 l0_6.length c0_6, .slice A0_7 l0_7.length c0_7, .slice A0_8 l0_8.length c0_8] 34 (0, 0)) (by (with_reducible repeat (first | refine blk_drewN ?_ _ | refine blk_drew ?_ | refine blk_alloc ?_ _)); exact BK233.out) hb); have n3_ := Aside0.mk (below_step (by repeat (first | (with_reducible first | exact HB.out | apply below_alloc | apply pw_below_drewN | apply below_drew1 | refine below_set ?_ GE228.out | refine below_set ?_ GE233.out) | exact HB.out)) hb); clear HO242; clear BK228; clear BK233; clear HB; have HO242 := n0_; have BK228 := n1_; have BK233 := n2_; have HB := n3_; clear n0_ n1_ n2_ n3_; (try clear hb); (try clear hb2); (try clear hk); (try clear hi); have hcz54_0 : w53.cell? ⟨gb233, 0, none⟩ = some (.int .i64 a0_0) := (blk_cell BK233.out 0).trans rfl; have hcz54_1 : w53.cell? ⟨gb233, 1, none⟩ = some (.int .i64 a0_1) := (blk_cell BK233.out 1).trans rfl; have hcz54_2 : w53.cell? ⟨gb233, 2, none⟩ = some (.int .i64 a0_2) := (blk_cell BK233.out 2).trans rfl; have hcz54_3 : w53.cell? ⟨gb233, 3, none⟩ = some (.int .i64 4) := (blk_cell BK233.out 3).trans rfl; have hcz54_4 : w53.cell? ⟨gb233, 4, none⟩ = some (.int .i64 a0_4) := (blk_cell BK233.out 4).trans rfl; have hcz54_5 : w53.cell? ⟨gb233, 5, none⟩ = some (.bool a0_5) := (blk_cell BK233.out 5).trans rfl; have hcz54_6 : w53.cell? ⟨gb233, 6, none⟩ = some (.slice A0_6 l0_6.length c0_6) := (blk_cell BK233.out 6).trans rfl; have hcz54_7 : w53.cell? ⟨gb233, 7, none⟩ = some (.slice A0_7 l0_7.length c0_7) := (blk_cell BK233.out 7).trans rfl; have hcz54_8 : w53.cell? ⟨gb233, 8, none⟩ = some (.slice A0_8 l0_8.length c0_8) := (blk_cell BK233.out 8).trans rfl; have hfz54_0 := blk_frozen BK233.out 0; have hfz54_1 := blk_frozen BK233.out 1; have hfz54_2 := blk_frozen BK233.out 2; have hfz54_3 := blk_frozen BK233.out 3; have hfz54_4 := blk_frozen BK233.out 4; have hfz54_5 := blk_frozen BK233.out 5; have hfz54_6 := blk_frozen BK233.out 6; have hfz54_7 := blk_frozen BK233.out 7; have hfz54_8 := blk_frozen BK233.out 8) | (go_at_call 18; (with_reducible refine (rec_May.calls kj19 a0_0 a0_1 a0_2 4 a0_4 a0_5 _ _ l0_6 _ _ l0_7 _ _ l0_8 t245 _ ?side1 ?side2 ?side3 ?side4 ?side5 ?side6 A48.out).mono ?_); (case side1 => repeat (first | exact (Kd.C_below HR0_6.out HB.out) | (with_reducible refine Kd.C_alloc ?_ _) | (with_reducible refine Kd.C_drewN ?_ _) | (with_reducible refine Kd.C_drew ?_))); (case side2 => exact HC0_6.out); (case side3 => repeat (first | exact (Kd.C_below HR0_7.out HB.out) | (with_reducible refine Kd.C_alloc ?_ _) | (with_reducible refine Kd.C_drewN ?_ _) | (with_reducible refine Kd.C_drew ?_))); (case side4 => exact HC0_7.out); (case side5 => repeat (first | exact (Kd.C_below HR0_8.out HB.out) | (with_reducible refine Kd.C_alloc ?_ _) | (with_reducible refine Kd.C_drewN ?_ _) | (with_reducible refine Kd.C_drew ?_))); (case side6 => exact HC0_8.out); rintro e w55 ⟨rfl, hb⟩; have n0_ := Aside0.mk (Kd.R_below (by (with_reducible repeat (first | apply Kd.R_alloc | apply Kd.R_drewN | apply Kd.R_drew)); exact HO242.out) hb); have n1_ := Aside0.mk (blk_below (g := gb228) (o := .cells #[.int .i64 a0_0, .int .i64 a0_1, .int .i64 a0_2, .int .i64 a0_3, .int .i64 a0_4, .bool a0_5, .slice A0_6 l0_6.length c0_6, .slice A0_7 l0_7.length c0_7, .slice A0_8 l0_8.length c0_8] 34 (0, 0)) (by (with_reducible repeat (first | refine blk_drewN ?_ _ | refine blk_drew ?_ | refine blk_alloc ?_ _)); exact BK228.out) hb); have n2_ := Aside0.mk (blk_below (g := gb233) (o := .cells #[.int .i64 a0_0, .int .i64 a0_1, .int .i64 a0_2, .int .i64 4, .int .i64 a0_4, .bool a0_5, .slice A0_6 l0_6.length c0_6, .slice A0_7 l0_7.length c0_7, .slice A0_8 l0_8.length c0_8] 34 (0, 0)) (by (with_reducible repeat (first | refine blk_drewN ?_ _ | refine blk_drew ?_ | refine blk_alloc ?_ _)); exact BK233.out) hb); have n3_ := Aside0.mk (below_step (by repeat (first | (with_reducible first | exact HB.out | apply below_alloc | apply pw_below_drewN | apply below_drew1 | refine below_set ?_ GE228.out | refine below_set ?_ GE233.out) | exact HB.out)) hb); clear HO242; clear BK228; clear BK233; clear HB; have HO242 := n0_; have BK228 := n1_; have BK233 := n2_; have HB := n3_; clear n0_ n1_ n2_ n3_; (try clear hb); (try clear hb2); (try clear hk); (try clear hi)))
                      all_goals go_ret
                      all_goals first | (exfalso; rename_i hz_; rw [hz_] at c49b0; exact absurd c49b0 (by decide)) | (exfalso; rename_i hz_; exact hz_ (by simpa using c49b0)) | exact ⟨by first | rfl | (simp [errW_none, errW_some] <;> rfl) | (simp [*, errW_none, errW_some] <;> rfl), by repeat (first | (with_reducible first | exact HB.out | apply below_alloc | apply pw_below_drewN | apply below_drew1 | refine below_set ?_ GE228.out | refine below_set ?_ GE233.out) | exact HB.out)⟩
                    · rw [if_neg c49] at H
                      have c49b0 : (t245 == (!true)) = false := by simpa using c49
                      (try (have c49b1 : decide (t245 = (!true)) = false := by simpa using c49))
                      (try (have c49b2 : (t245 == (!true)) = false := by simpa using c49))
                      (try (have c49b3 : ¬ (t245 = (!true)) := by simpa using c49))
                      clear c49
                      exact absurd ((Option.some.inj H).trans hT_.out) (by decide)
                  · replace c47 := Bool.eq_false_iff.mpr c47
                    subst c47
                    have H1 : (some false) = some r := by rw [if_neg (show ¬ (false = true) by decide)] at H; exact H
                    clear H
                    have H := H1
                    clear H1
                    exact absurd ((Option.some.inj H).trans hT_.out) (by decide)
                · rw [if_neg c44] at H
                  have c44b0 : (a1 == 1) = false := beq_eq_false_iff_ne.mpr c44
                  have c44b1 : (a1 != 1) = true := bne_iff_ne.mpr c44
                  by_cases c56 : a1 = 2
                  · rw [if_pos c56] at H
                    have c56b0 : (a1 == 2) = true := beq_iff_eq.mpr c56
                    have c56b1 : (a1 != 2) = false := bne_eq_false_iff_eq.mpr c56
                    clear c56
                    by_cases c57 : x6_19 = true
                    · subst c57
                      have H1 : ((rec_Encode.f kj19 a0_0 a0_1 a0_2 a0_3 7 a0_5 l0_6 l0_7 l0_8).bind fun bt246 => ((voklaw16_first.f kj19).bind fun t250 => (if t250 = true then ((rec_May.f kj19 a0_0 a0_1 a0_2 a0_3 7 a0_5 l0_6 l0_7 l0_8).bind fun t251 => (if (t251 == (!(a0_3 == 1))) = true then (some ((bt246.2 == 0) == (!(a0_3 == 1)))) else (some false))) else (some false)))) = some r := by rw [if_pos rfl] at H; exact H
                      clear H
                      have H := H1
                      clear H1
                      replace H := Option.bind_eq_some_iff.mp H
                      obtain ⟨⟨t246, t249⟩, A580, H⟩ := H
                      replace H : ((voklaw16_first.f kj19).bind fun t250 => (if t250 = true then ((rec_May.f kj19 a0_0 a0_1 a0_2 a0_3 7 a0_5 l0_6 l0_7 l0_8).bind fun t251 => (if (t251 == (!(a0_3 == 1))) = true then (some ((t249 == 0) == (!(a0_3 == 1)))) else (some false))) else (some false))) = some r := H
                      have A58 := Aside0.mk A580
                      clear A580
                      replace H := Option.bind_eq_some_iff.mp H
                      obtain ⟨t250, A590, H⟩ := H
                      replace H : (if t250 = true then ((rec_May.f kj19 a0_0 a0_1 a0_2 a0_3 7 a0_5 l0_6 l0_7 l0_8).bind fun t251 => (if (t251 == (!(a0_3 == 1))) = true then (some ((t249 == 0) == (!(a0_3 == 1)))) else (some false))) else (some false)) = some r := H
                      have A59 := Aside0.mk A590
                      clear A590
                      by_cases c60 : t250 = true
                      · subst c60
                        have H1 : ((rec_May.f kj19 a0_0 a0_1 a0_2 a0_3 7 a0_5 l0_6 l0_7 l0_8).bind fun t251 => (if (t251 == (!(a0_3 == 1))) = true then (some ((t249 == 0) == (!(a0_3 == 1)))) else (some false))) = some r := by rw [if_pos rfl] at H; exact H
                        clear H
                        have H := H1
                        clear H1
                        replace H := Option.bind_eq_some_iff.mp H
                        obtain ⟨t251, A610, H⟩ := H
                        replace H : (if (t251 == (!(a0_3 == 1))) = true then (some ((t249 == 0) == (!(a0_3 == 1)))) else (some false)) = some r := H
                        have A61 := Aside0.mk A610
                        clear A610
                        by_cases c62 : (t251 == (!(a0_3 == 1))) = true
                        · rw [if_pos c62] at H
                          have c62b0 : (t251 == (!(a0_3 == 1))) = true := c62
                          (try (have c62b1 : decide (t251 = (!(a0_3 == 1))) = true := by simpa using c62))
                          (try (have c62b2 : (t251 == (!(a0_3 == 1))) = true := by simpa using c62))
                          clear c62
                          obtain rfl := Option.some.inj H
                          try go_wp2
                          have n0_ := Aside0.mk (blk_drew BK228.out)
                          have n1_ := Aside0.mk (blk_drew BK233.out)
                          have n2_ := Aside0.mk (below_drew1 HB.out)
                          clear BK228
                          clear BK233
                          clear HB
                          have BK228 := n0_
                          have BK233 := n1_
                          have HB := n2_
                          clear n0_ n1_ n2_
                          refine start_ (n := 10) (S := fun w' => w'.cell? ⟨gb228, 0, none⟩ = some (.int .i64 a0_0) ∧ w'.cell? ⟨gb228, 1, none⟩ = some (.int .i64 a0_1) ∧ w'.cell? ⟨gb228, 2, none⟩ = some (.int .i64 a0_2) ∧ w'.cell? ⟨gb228, 3, none⟩ = some (.int .i64 a0_3) ∧ w'.cell? ⟨gb228, 4, none⟩ = some (.int .i64 a0_4) ∧ w'.cell? ⟨gb228, 5, none⟩ = some (.bool a0_5) ∧ w'.cell? ⟨gb228, 6, none⟩ = some (.slice A0_6 l0_6.length c0_6) ∧ w'.cell? ⟨gb228, 7, none⟩ = some (.slice A0_7 l0_7.length c0_7) ∧ w'.cell? ⟨gb228, 8, none⟩ = some (.slice A0_8 l0_8.length c0_8)) (ds := []) #[false, false, false, false, false, false, false, false, false, false] (by kernel_rfl) rfl rfl ⟨(blk_cell BK228.out 0).trans rfl, (blk_cell BK228.out 1).trans rfl, (blk_cell BK228.out 2).trans rfl, (blk_cell BK228.out 3).trans rfl, (blk_cell BK228.out 4).trans rfl, (blk_cell BK228.out 5).trans rfl, (blk_cell BK228.out 6).trans rfl, (blk_cell BK228.out 7).trans rfl, (blk_cell BK228.out 8).trans rfl⟩ (fun hHeld => ?_); refine with_tabW voklaw16_RecKinds.tab15 voklaw16_RecKinds.bits15 (fun HT_ HW_ => ?_)
                          generalize wc.drew = w63 at BK228 BK233 HB hHeld ⊢
                          refine pure_ (i := 0) (N := some 43) (v := ?_) (a' := ?_) #[true, false, false, false, false, false, false, false, false, false] rfl rfl (any_of HT_.out (by kernel_rfl)) (fun _ _ _ h => h) (Or.inl ⟨by rfl, ?_⟩) ?_ ?_
                          rotate_left
                          · intro w'
                            go_simp
                            with_reducible rfl
                          rotate_left
                          · simp only [Act.put, List.setIfInBounds_toArray, List.set_cons_zero, List.set_cons_succ, i64_w, i32_w]
                            rfl
                          refine pure_ (i := 1) (N := some 44) (v := ?_) (a' := ?_) #[true, true, false, false, false, false, false, false, false, false] rfl rfl (any_of HT_.out (by kernel_rfl)) (fun _ _ _ h => h) (Or.inl ⟨by rfl, ?_⟩) ?_ ?_
                          rotate_left
                          · intro w'
                            go_simp
                            with_reducible rfl
                          rotate_left
                          · simp only [Act.put, List.setIfInBounds_toArray, List.set_cons_zero, List.set_cons_succ, i64_w, i32_w]
                            rfl
                          refine pure_ (i := 2) (N := some 45) (v := ?_) (a' := ?_) #[true, true, true, false, false, false, false, false, false, false] rfl rfl (any_of HT_.out (by kernel_rfl)) (fun _ _ _ h => h) (Or.inl ⟨by rfl, ?_⟩) ?_ ?_
                          rotate_left
                          · intro w'
                            go_simp
                            with_reducible rfl
                          rotate_left
                          · simp only [Act.put, List.setIfInBounds_toArray, List.set_cons_zero, List.set_cons_succ, i64_w, i32_w]
                            rfl
                          refine pure_ (i := 3) (N := some 46) (v := ?_) (a' := ?_) #[true, true, true, true, false, false, false, false, false, false] rfl rfl (any_of HT_.out (by kernel_rfl)) (fun _ _ _ h => h) (Or.inl ⟨by rfl, ?_⟩) ?_ ?_
                          rotate_left
                          · intro w'
                            go_simp
                            with_reducible rfl
                          rotate_left
                          · simp only [Act.put, List.setIfInBounds_toArray, List.set_cons_zero, List.set_cons_succ, i64_w, i32_w]
                            rfl
                          refine pure_ (i := 7) (N := some 50) (v := ?_) (a' := ?_) #[true, true, true, true, false, false, false, true, false, false] rfl rfl (any_of HT_.out (by kernel_rfl)) (fun _ _ _ h => h) (Or.inl ⟨by rfl, ?_⟩) ?_ ?_
                          rotate_left
                          · intro w'
                            go_simp
                            with_reducible rfl
                          rotate_left
                          · simp only [Act.put, List.setIfInBounds_toArray, List.set_cons_zero, List.set_cons_succ, i64_w, i32_w]
                            rfl
                          refine take_ (i := 4) (N := some 47) (v := ?_) (a' := ?_) #[true, true, true, true, true, false, false, true, false, false] rfl rfl (take_ofW HT_.out HW_.out (by kernel_rfl)) (fun _ _ _ h => h) (Or.inl ⟨by rfl, ?_⟩) hHeld ?_ ?_
                          rotate_left
                          · rintro w' ⟨s0, s1, s2, s3, s4, s5, s6, s7, s8⟩
                            go_simp
                            with_reducible rfl
                          rotate_left
                          · simp only [Act.put, List.setIfInBounds_toArray, List.set_cons_zero, List.set_cons_succ, i64_w, i32_w]
                            rfl
                          refine pure_ (i := 5) (N := some 48) (v := ?_) (a' := ?_) #[true, true, true, true, true, true, false, true, false, false] rfl rfl (any_of HT_.out (by kernel_rfl)) (fun _ _ _ h => h) (Or.inl ⟨by rfl, ?_⟩) ?_ ?_
                          rotate_left
                          · intro w'
                            go_simp
                            with_reducible rfl
                          rotate_left
                          · simp only [Act.put, List.setIfInBounds_toArray, List.set_cons_zero, List.set_cons_succ, i64_w, i32_w]
                            rfl
                          refine pure_ (i := 6) (N := some 49) (v := ?_) (a' := ?_) #[true, true, true, true, true, true, true, true, false, false] rfl rfl (any_of HT_.out (by kernel_rfl)) (fun _ _ _ h => h) (Or.inl ⟨by rfl, ?_⟩) ?_ ?_
                          rotate_left
                          · intro w'
                            go_simp
                            with_reducible rfl
                          rotate_left
                          · simp only [Act.put, List.setIfInBounds_toArray, List.set_cons_zero, List.set_cons_succ, i64_w, i32_w]
                            rfl
                          refine one_ (i := 8) (N := none) #[true, true, true, true, true, true, true, true, true, false] rfl rfl (one_of HT_.out (by kernel_rfl)) (by decide) (fun K hK => ?_)
                          have hs64 : w63.cell? ⟨gb233, 4, none⟩ = some (.int .i64 a0_4) := (blk_cell BK233.out 4).trans rfl
                          have hfs64 := blk_frozen BK233.out 4
                          have hns64_0 := NB228_233.out
                          have hms64_0 := NB233_228.out
                          refine skip_ (w1 := ?_) (by rfl) rfl ?_ ?_
                          rotate_left
                          · go_simp
                            rfl
                          refine hK.out _ _ ⟨((cell_far (p := ⟨gb233, _, none⟩) NB228_233.out _).trans (hHeld.1)), ((cell_far (p := ⟨gb233, _, none⟩) NB228_233.out _).trans (hHeld.2.1)), ((cell_far (p := ⟨gb233, _, none⟩) NB228_233.out _).trans (hHeld.2.2.1)), ((cell_far (p := ⟨gb233, _, none⟩) NB228_233.out _).trans (hHeld.2.2.2.1)), ((cell_far (p := ⟨gb233, _, none⟩) NB228_233.out _).trans (hHeld.2.2.2.2.1)), ((cell_far (p := ⟨gb233, _, none⟩) NB228_233.out _).trans (hHeld.2.2.2.2.2.1)), ((cell_far (p := ⟨gb233, _, none⟩) NB228_233.out _).trans (hHeld.2.2.2.2.2.2.1)), ((cell_far (p := ⟨gb233, _, none⟩) NB228_233.out _).trans (hHeld.2.2.2.2.2.2.2.1)), ((cell_far (p := ⟨gb233, _, none⟩) NB228_233.out _).trans (hHeld.2.2.2.2.2.2.2.2))⟩ (fun hHeld => ?_)
                          clear hK K
                          refine pure_ (i := 9) (N := some 7) (v := ?_) (a' := ?_) #[true, true, true, true, true, true, true, true, true, true] rfl rfl (any_of HT_.out (by kernel_rfl)) (fun _ _ _ h => h) (Or.inl ⟨by rfl, ?_⟩) ?_ ?_
                          rotate_left
                          · intro w'
                            go_simp
                            with_reducible rfl
                          rotate_left
                          · simp only [Act.put, List.setIfInBounds_toArray, List.set_cons_zero, List.set_cons_succ, i64_w, i32_w]
                            rfl
                          refine done_ (done_of HT_.out (by kernel_rfl)) ?_
                          have hnb65 := NB233_228.out
                          have hnc65 := NB228_233.out
                          have hcz66_0 : w63.cell? ⟨gb233, 0, none⟩ = some (.int .i64 a0_0) := (blk_cell BK233.out 0).trans rfl
                          have hcz66_1 : w63.cell? ⟨gb233, 1, none⟩ = some (.int .i64 a0_1) := (blk_cell BK233.out 1).trans rfl
                          have hcz66_2 : w63.cell? ⟨gb233, 2, none⟩ = some (.int .i64 a0_2) := (blk_cell BK233.out 2).trans rfl
                          have hcz66_3 : w63.cell? ⟨gb233, 3, none⟩ = some (.int .i64 a0_3) := (blk_cell BK233.out 3).trans rfl
                          have hcz66_4 : w63.cell? ⟨gb233, 4, none⟩ = some (.int .i64 a0_4) := (blk_cell BK233.out 4).trans rfl
                          have hcz66_5 : w63.cell? ⟨gb233, 5, none⟩ = some (.bool a0_5) := (blk_cell BK233.out 5).trans rfl
                          have hcz66_6 : w63.cell? ⟨gb233, 6, none⟩ = some (.slice A0_6 l0_6.length c0_6) := (blk_cell BK233.out 6).trans rfl
                          have hcz66_7 : w63.cell? ⟨gb233, 7, none⟩ = some (.slice A0_7 l0_7.length c0_7) := (blk_cell BK233.out 7).trans rfl
                          have hcz66_8 : w63.cell? ⟨gb233, 8, none⟩ = some (.slice A0_8 l0_8.length c0_8) := (blk_cell BK233.out 8).trans rfl
                          have hfz66_0 := blk_frozen BK233.out 0
                          have hfz66_1 := blk_frozen BK233.out 1
                          have hfz66_2 := blk_frozen BK233.out 2
                          have hfz66_3 := blk_frozen BK233.out 3
                          have hfz66_4 := blk_frozen BK233.out 4
                          have hfz66_5 := blk_frozen BK233.out 5
                          have hfz66_6 := blk_frozen BK233.out 6
                          have hfz66_7 := blk_frozen BK233.out 7
                          have hfz66_8 := blk_frozen BK233.out 8
                          try go_wp2_with (first | ((with_reducible refine gate_callee (f := 19) rfl ?_); refine goesL_ (some 71) rfl rfl Try.func19 (by kernel_rfl) rfl #[.agg #[.int .i64 a0_0, .int .i64 a0_1, .int .i64 a0_2, .int .i64 a0_3, .int .i64 7, .bool a0_5, .slice A0_6 l0_6.length c0_6, .slice A0_7 l0_7.length c0_7, .slice A0_8 l0_8.length c0_8]] rfl (by (try simp only [List.map_toArray, List.map_cons, List.map_nil]); first | done | rfl | (simp only [List.length_drop, List.length_take]; rfl)) ?_; (with_reducible refine (rec_Encode.calls kj19 a0_0 a0_1 a0_2 a0_3 7 a0_5 _ _ l0_6 _ _ l0_7 _ _ l0_8 t246 t249 _ ?side1 ?side2 ?side3 ?side4 ?side5 ?side6 A58.out).mono ?_); (case side1 => exact Kd.C_below HR0_6.out (by repeat (first | (with_reducible first | exact HB.out | apply below_alloc | apply pw_below_drewN | apply below_drew1 | refine below_set ?_ GE228.out | refine below_set ?_ GE233.out) | exact HB.out))); (case side2 => exact HC0_6.out); (case side3 => exact Kd.C_below HR0_7.out (by repeat (first | (with_reducible first | exact HB.out | apply below_alloc | apply pw_below_drewN | apply below_drew1 | refine below_set ?_ GE228.out | refine below_set ?_ GE233.out) | exact HB.out))); (case side4 => exact HC0_7.out); (case side5 => exact Kd.C_below HR0_8.out (by repeat (first | (with_reducible first | exact HB.out | apply below_alloc | apply pw_below_drewN | apply below_drew1 | refine below_set ?_ GE228.out | refine below_set ?_ GE233.out) | exact HB.out))); (case side6 => exact HC0_8.out); rintro e w67 ⟨v247, rfl, ho0, hb⟩; refine ⟨_, rfl, ?_⟩; have n0_ := Aside0.mk (Kd.R_lower ho0 (below_size (by repeat (first | (with_reducible first | exact HB.out | apply below_alloc | apply pw_below_drewN | apply below_drew1 | refine below_set ?_ GE228.out | refine below_set ?_ GE233.out) | exact HB.out)))); have n1_ := Aside0.mk (blk_below (g := gb228) (o := .cells #[.int .i64 a0_0, .int .i64 a0_1, .int .i64 a0_2, .int .i64 a0_3, .int .i64 a0_4, .bool a0_5, .slice A0_6 l0_6.length c0_6, .slice A0_7 l0_7.length c0_7, .slice A0_8 l0_8.length c0_8] 34 (0, 0)) (by (with_reducible repeat (first | refine blk_drewN ?_ _ | refine blk_drew ?_ | refine blk_alloc ?_ _)); refine blk_far ?_ NB228_233.out _; (with_reducible repeat (first | refine blk_drewN ?_ _ | refine blk_drew ?_ | refine blk_alloc ?_ _)); exact BK228.out) hb); have n2_ := Aside0.mk (blk_below (g := gb233) (o := .cells #[.int .i64 a0_0, .int .i64 a0_1, .int .i64 a0_2, .int .i64 a0_3, .int .i64 7, .bool a0_5, .slice A0_6 l0_6.length c0_6, .slice A0_7 l0_7.length c0_7, .slice A0_8 l0_8.length c0_8] 34 (0, 0)) (by (with_reducible repeat (first | refine blk_drewN ?_ _ | refine blk_drew ?_ | refine blk_alloc ?_ _)); refine blk_put (cs := #[.int .i64 a0_0, .int .i64 a0_1, .int .i64 a0_2, .int .i64 a0_3, .int .i64 a0_4, .bool a0_5, .slice A0_6 l0_6.length c0_6, .slice A0_7 l0_7.length c0_7, .slice A0_8 l0_8.length c0_8]) ?_ 4 _ rfl; (with_reducible repeat (first | refine blk_drewN ?_ _ | refine blk_drew ?_ | refine blk_alloc ?_ _)); exact BK233.out) hb); have n3_ := Aside0.mk (below_step (by repeat (first | (with_reducible first | exact HB.out | apply below_alloc | apply pw_below_drewN | apply below_drew1 | refine below_set ?_ GE228.out | refine below_set ?_ GE233.out) | exact HB.out)) hb); clear BK228; clear BK233; clear HB; have HO248 := n0_; have BK228 := n1_; have BK233 := n2_; have HB := n3_; clear n0_ n1_ n2_ n3_; (try clear hb); (try clear hb2); (try clear hk); (try clear hi); (try clear ho0)) | ((with_reducible refine gate_callee (f := 16) rfl ?_); refine goesL_ (some 74) rfl rfl Try.func16 (by kernel_rfl) rfl #[] rfl (by (try simp only [List.map_toArray, List.map_cons, List.map_nil]); first | done | rfl | (simp only [List.length_drop, List.length_take]; rfl)) ?_; (with_reducible refine (voklaw16_first.calls kj19  true _ A59.out).mono ?_); rintro e w68 ⟨rfl, hb⟩; refine ⟨_, rfl, ?_⟩; have n0_ := Aside0.mk (Kd.R_below (by (with_reducible repeat (first | apply Kd.R_alloc | apply Kd.R_drewN | apply Kd.R_drew)); exact HO248.out) hb); have n1_ := Aside0.mk (blk_below (g := gb228) (o := .cells #[.int .i64 a0_0, .int .i64 a0_1, .int .i64 a0_2, .int .i64 a0_3, .int .i64 a0_4, .bool a0_5, .slice A0_6 l0_6.length c0_6, .slice A0_7 l0_7.length c0_7, .slice A0_8 l0_8.length c0_8] 34 (0, 0)) (by (with_reducible repeat (first | refine blk_drewN ?_ _ | refine blk_drew ?_ | refine blk_alloc ?_ _)); exact BK228.out) hb); have n2_ := Aside0.mk (blk_below (g := gb233) (o := .cells #[.int .i64 a0_0, .int .i64 a0_1, .int .i64 a0_2, .int .i64 a0_3, .int .i64 7, .bool a0_5, .slice A0_6 l0_6.length c0_6, .slice A0_7 l0_7.length c0_7, .slice A0_8 l0_8.length c0_8] 34 (0, 0)) (by (with_reducible repeat (first | refine blk_drewN ?_ _ | refine blk_drew ?_ | refine blk_alloc ?_ _)); exact BK233.out) hb); have n3_ := Aside0.mk (below_step (by repeat (first | (with_reducible first | exact HB.out | apply below_alloc | apply pw_below_drewN | apply below_drew1 | refine below_set ?_ GE228.out | refine below_set ?_ GE233.out) | exact HB.out)) hb); clear HO248; clear BK228; clear BK233; clear HB; have HO248 := n0_; have BK228 := n1_; have BK233 := n2_; have HB := n3_; clear n0_ n1_ n2_ n3_; (try clear hb); (try clear hb2); (try clear hk); (try clear hi); have hcz69_0 : w68.cell? ⟨gb233, 0, none⟩ = some (.int .i64 a0_0) := (blk_cell BK233.out 0).trans rfl; have hcz69_1 : w68.cell? ⟨gb233, 1, none⟩ = some (.int .i64 a0_1) := (blk_cell BK233.out 1).trans rfl; have hcz69_2 : w68.cell? ⟨gb233, 2, none⟩ = some (.int .i64 a0_2) := (blk_cell BK233.out 2).trans rfl; have hcz69_3 : w68.cell? ⟨gb233, 3, none⟩ = some (.int .i64 a0_3) := (blk_cell BK233.out 3).trans rfl; have hcz69_4 : w68.cell? ⟨gb233, 4, none⟩ = some (.int .i64 7) := (blk_cell BK233.out 4).trans rfl; have hcz69_5 : w68.cell? ⟨gb233, 5, none⟩ = some (.bool a0_5) := (blk_cell BK233.out 5).trans rfl; have hcz69_6 : w68.cell? ⟨gb233, 6, none⟩ = some (.slice A0_6 l0_6.length c0_6) := (blk_cell BK233.out 6).trans rfl; have hcz69_7 : w68.cell? ⟨gb233, 7, none⟩ = some (.slice A0_7 l0_7.length c0_7) := (blk_cell BK233.out 7).trans rfl; have hcz69_8 : w68.cell? ⟨gb233, 8, none⟩ = some (.slice A0_8 l0_8.length c0_8) := (blk_cell BK233.out 8).trans rfl; have hfz69_0 := blk_frozen BK233.out 0; have hfz69_1 := blk_frozen BK233.out 1; have hfz69_2 := blk_frozen BK233.out 2; have hfz69_3 := blk_frozen BK233.out 3; have hfz69_4 := blk_frozen BK233.out 4; have hfz69_5 := blk_frozen BK233.out 5; have hfz69_6 := blk_frozen BK233.out 6; have hfz69_7 := blk_frozen BK233.out 7; have hfz69_8 := blk_frozen BK233.out 8) | (go_at_call 18; (with_reducible refine (rec_May.calls kj19 a0_0 a0_1 a0_2 a0_3 7 a0_5 _ _ l0_6 _ _ l0_7 _ _ l0_8 t251 _ ?side1 ?side2 ?side3 ?side4 ?side5 ?side6 A61.out).mono ?_); (case side1 => repeat (first | exact (Kd.C_below HR0_6.out HB.out) | (with_reducible refine Kd.C_alloc ?_ _) | (with_reducible refine Kd.C_drewN ?_ _) | (with_reducible refine Kd.C_drew ?_))); (case side2 => exact HC0_6.out); (case side3 => repeat (first | exact (Kd.C_below HR0_7.out HB.out) | (with_reducible refine Kd.C_alloc ?_ _) | (with_reducible refine Kd.C_drewN ?_ _) | (with_reducible refine Kd.C_drew ?_))); (case side4 => exact HC0_7.out); (case side5 => repeat (first | exact (Kd.C_below HR0_8.out HB.out) | (with_reducible refine Kd.C_alloc ?_ _) | (with_reducible refine Kd.C_drewN ?_ _) | (with_reducible refine Kd.C_drew ?_))); (case side6 => exact HC0_8.out); rintro e w70 ⟨rfl, hb⟩; have n0_ := Aside0.mk (Kd.R_below (by (with_reducible repeat (first | apply Kd.R_alloc | apply Kd.R_drewN | apply Kd.R_drew)); exact HO248.out) hb); have n1_ := Aside0.mk (blk_below (g := gb228) (o := .cells #[.int .i64 a0_0, .int .i64 a0_1, .int .i64 a0_2, .int .i64 a0_3, .int .i64 a0_4, .bool a0_5, .slice A0_6 l0_6.length c0_6, .slice A0_7 l0_7.length c0_7, .slice A0_8 l0_8.length c0_8] 34 (0, 0)) (by (with_reducible repeat (first | refine blk_drewN ?_ _ | refine blk_drew ?_ | refine blk_alloc ?_ _)); exact BK228.out) hb); have n2_ := Aside0.mk (blk_below (g := gb233) (o := .cells #[.int .i64 a0_0, .int .i64 a0_1, .int .i64 a0_2, .int .i64 a0_3, .int .i64 7, .bool a0_5, .slice A0_6 l0_6.length c0_6, .slice A0_7 l0_7.length c0_7, .slice A0_8 l0_8.length c0_8] 34 (0, 0)) (by (with_reducible repeat (first | refine blk_drewN ?_ _ | refine blk_drew ?_ | refine blk_alloc ?_ _)); exact BK233.out) hb); have n3_ := Aside0.mk (below_step (by repeat (first | (with_reducible first | exact HB.out | apply below_alloc | apply pw_below_drewN | apply below_drew1 | refine below_set ?_ GE228.out | refine below_set ?_ GE233.out) | exact HB.out)) hb); clear HO248; clear BK228; clear BK233; clear HB; have HO248 := n0_; have BK228 := n1_; have BK233 := n2_; have HB := n3_; clear n0_ n1_ n2_ n3_; (try clear hb); (try clear hb2); (try clear hk); (try clear hi)))
                          all_goals go_ret
                          all_goals first | (exfalso; rename_i hz_; rw [hz_] at c62b0; exact absurd c62b0 (by decide)) | (exfalso; rename_i hz_; exact hz_ (by simpa using c62b0)) | exact ⟨by first | rfl | (simp [errW_none, errW_some] <;> rfl) | (simp [*, errW_none, errW_some] <;> rfl), by repeat (first | (with_reducible first | exact HB.out | apply below_alloc | apply pw_below_drewN | apply below_drew1 | refine below_set ?_ GE228.out | refine below_set ?_ GE233.out) | exact HB.out)⟩
                        · rw [if_neg c62] at H
                          have c62b0 : (t251 == (!(a0_3 == 1))) = false := by simpa using c62
                          (try (have c62b1 : decide (t251 = (!(a0_3 == 1))) = false := by simpa using c62))
                          (try (have c62b2 : (t251 == (!(a0_3 == 1))) = false := by simpa using c62))
                          (try (have c62b3 : ¬ (t251 = (!(a0_3 == 1))) := by simpa using c62))
                          clear c62
                          exact absurd ((Option.some.inj H).trans hT_.out) (by decide)
                      · replace c60 := Bool.eq_false_iff.mpr c60
                        subst c60
                        have H1 : (some false) = some r := by rw [if_neg (show ¬ (false = true) by decide)] at H; exact H
                        clear H
                        have H := H1
                        clear H1
                        exact absurd ((Option.some.inj H).trans hT_.out) (by decide)
                    · replace c57 := Bool.eq_false_iff.mpr c57
                      subst c57
                      have H1 : ((rec_Encode.f kj19 a0_0 a0_1 a0_2 a0_3 7 a0_5 l0_6 l0_7 l0_8).bind fun bt252 => ((voklaw16_first.f kj19).bind fun t256 => (if t256 = true then ((rec_May.f kj19 a0_0 a0_1 a0_2 a0_3 7 a0_5 l0_6 l0_7 l0_8).bind fun t257 => (if (t257 == (!true)) = true then (some ((bt252.2 == 0) == (!true))) else (some false))) else (some false)))) = some r := by rw [if_neg (show ¬ (false = true) by decide)] at H; exact H
                      clear H
                      have H := H1
                      clear H1
                      replace H := Option.bind_eq_some_iff.mp H
                      obtain ⟨⟨t252, t255⟩, A710, H⟩ := H
                      replace H : ((voklaw16_first.f kj19).bind fun t256 => (if t256 = true then ((rec_May.f kj19 a0_0 a0_1 a0_2 a0_3 7 a0_5 l0_6 l0_7 l0_8).bind fun t257 => (if (t257 == (!true)) = true then (some ((t255 == 0) == (!true))) else (some false))) else (some false))) = some r := H
                      have A71 := Aside0.mk A710
                      clear A710
                      replace H := Option.bind_eq_some_iff.mp H
                      obtain ⟨t256, A720, H⟩ := H
                      replace H : (if t256 = true then ((rec_May.f kj19 a0_0 a0_1 a0_2 a0_3 7 a0_5 l0_6 l0_7 l0_8).bind fun t257 => (if (t257 == (!true)) = true then (some ((t255 == 0) == (!true))) else (some false))) else (some false)) = some r := H
                      have A72 := Aside0.mk A720
                      clear A720
                      by_cases c73 : t256 = true
                      · subst c73
                        have H1 : ((rec_May.f kj19 a0_0 a0_1 a0_2 a0_3 7 a0_5 l0_6 l0_7 l0_8).bind fun t257 => (if (t257 == (!true)) = true then (some ((t255 == 0) == (!true))) else (some false))) = some r := by rw [if_pos rfl] at H; exact H
                        clear H
                        have H := H1
                        clear H1
                        replace H := Option.bind_eq_some_iff.mp H
                        obtain ⟨t257, A740, H⟩ := H
                        replace H : (if (t257 == (!true)) = true then (some ((t255 == 0) == (!true))) else (some false)) = some r := H
                        have A74 := Aside0.mk A740
                        clear A740
                        by_cases c75 : (t257 == (!true)) = true
                        · rw [if_pos c75] at H
                          have c75b0 : (t257 == (!true)) = true := c75
                          (try (have c75b1 : decide (t257 = (!true)) = true := by simpa using c75))
                          (try (have c75b2 : (t257 == (!true)) = true := by simpa using c75))
                          clear c75
                          obtain rfl := Option.some.inj H
                          try go_wp2
                          have n0_ := Aside0.mk (blk_drew BK228.out)
                          have n1_ := Aside0.mk (blk_drew BK233.out)
                          have n2_ := Aside0.mk (below_drew1 HB.out)
                          clear BK228
                          clear BK233
                          clear HB
                          have BK228 := n0_
                          have BK233 := n1_
                          have HB := n2_
                          clear n0_ n1_ n2_
                          refine start_ (n := 10) (S := fun w' => True) (ds := []) #[false, false, false, false, false, false, false, false, false, false] (by kernel_rfl) rfl rfl trivial (fun hHeld => ?_); refine with_tabW voklaw16_RecKinds.tab15 voklaw16_RecKinds.bits15 (fun HT_ HW_ => ?_)
                          generalize wc.drew = w76 at BK228 BK233 HB hHeld ⊢
                          refine pure_ (i := 0) (N := some 43) (v := ?_) (a' := ?_) #[true, false, false, false, false, false, false, false, false, false] rfl rfl (any_of HT_.out (by kernel_rfl)) (fun _ _ _ h => h) (Or.inl ⟨by rfl, ?_⟩) ?_ ?_
                          rotate_left
                          · intro w'
                            go_simp
                            with_reducible rfl
                          rotate_left
                          · simp only [Act.put, List.setIfInBounds_toArray, List.set_cons_zero, List.set_cons_succ, i64_w, i32_w]
                            rfl
                          refine pure_ (i := 1) (N := some 44) (v := ?_) (a' := ?_) #[true, true, false, false, false, false, false, false, false, false] rfl rfl (any_of HT_.out (by kernel_rfl)) (fun _ _ _ h => h) (Or.inl ⟨by rfl, ?_⟩) ?_ ?_
                          rotate_left
                          · intro w'
                            go_simp
                            with_reducible rfl
                          rotate_left
                          · simp only [Act.put, List.setIfInBounds_toArray, List.set_cons_zero, List.set_cons_succ, i64_w, i32_w]
                            rfl
                          refine pure_ (i := 2) (N := some 45) (v := ?_) (a' := ?_) #[true, true, true, false, false, false, false, false, false, false] rfl rfl (any_of HT_.out (by kernel_rfl)) (fun _ _ _ h => h) (Or.inl ⟨by rfl, ?_⟩) ?_ ?_
                          rotate_left
                          · intro w'
                            go_simp
                            with_reducible rfl
                          rotate_left
                          · simp only [Act.put, List.setIfInBounds_toArray, List.set_cons_zero, List.set_cons_succ, i64_w, i32_w]
                            rfl
                          refine pure_ (i := 3) (N := some 46) (v := undef) (a' := ?_) #[true, true, true, true, false, false, false, false, false, false] rfl rfl (any_of HT_.out (by kernel_rfl)) (fun _ _ _ h => h) (Or.inr ⟨by rfl, rfl⟩) ?_ ?_
                          rotate_left
                          · simp only [Act.put, List.setIfInBounds_toArray, List.set_cons_zero, List.set_cons_succ, i64_w, i32_w]
                            rfl
                          refine pure_ (i := 4) (N := some 47) (v := undef) (a' := ?_) #[true, true, true, true, true, false, false, false, false, false] rfl rfl (any_of HT_.out (by kernel_rfl)) (fun _ _ _ h => h) (Or.inr ⟨by rfl, rfl⟩) ?_ ?_
                          rotate_left
                          · simp only [Act.put, List.setIfInBounds_toArray, List.set_cons_zero, List.set_cons_succ, i64_w, i32_w]
                            rfl
                          refine pure_ (i := 5) (N := some 48) (v := undef) (a' := ?_) #[true, true, true, true, true, true, false, false, false, false] rfl rfl (any_of HT_.out (by kernel_rfl)) (fun _ _ _ h => h) (Or.inr ⟨by rfl, rfl⟩) ?_ ?_
                          rotate_left
                          · simp only [Act.put, List.setIfInBounds_toArray, List.set_cons_zero, List.set_cons_succ, i64_w, i32_w]
                            rfl
                          refine pure_ (i := 6) (N := some 49) (v := ?_) (a' := ?_) #[true, true, true, true, true, true, true, false, false, false] rfl rfl (any_of HT_.out (by kernel_rfl)) (fun _ _ _ h => h) (Or.inl ⟨by rfl, ?_⟩) ?_ ?_
                          rotate_left
                          · intro w'
                            go_simp
                            with_reducible rfl
                          rotate_left
                          · simp only [Act.put, List.setIfInBounds_toArray, List.set_cons_zero, List.set_cons_succ, i64_w, i32_w]
                            rfl
                          refine pure_ (i := 7) (N := some 50) (v := ?_) (a' := ?_) #[true, true, true, true, true, true, true, true, false, false] rfl rfl (any_of HT_.out (by kernel_rfl)) (fun _ _ _ h => h) (Or.inl ⟨by rfl, ?_⟩) ?_ ?_
                          rotate_left
                          · intro w'
                            go_simp
                            with_reducible rfl
                          rotate_left
                          · simp only [Act.put, List.setIfInBounds_toArray, List.set_cons_zero, List.set_cons_succ, i64_w, i32_w]
                            rfl
                          refine one_ (i := 8) (N := none) #[true, true, true, true, true, true, true, true, true, false] rfl rfl (one_of HT_.out (by kernel_rfl)) (by decide) (fun K hK => ?_)
                          have hs77 : w76.cell? ⟨gb233, 4, none⟩ = some (.int .i64 a0_4) := (blk_cell BK233.out 4).trans rfl
                          have hfs77 := blk_frozen BK233.out 4
                          have hns77_0 := NB228_233.out
                          have hms77_0 := NB233_228.out
                          refine skip_ (w1 := ?_) (by rfl) rfl ?_ ?_
                          rotate_left
                          · go_simp
                            rfl
                          refine hK.out _ _ trivial (fun hHeld => ?_)
                          clear hK K
                          refine pure_ (i := 9) (N := some 7) (v := ?_) (a' := ?_) #[true, true, true, true, true, true, true, true, true, true] rfl rfl (any_of HT_.out (by kernel_rfl)) (fun _ _ _ h => h) (Or.inl ⟨by rfl, ?_⟩) ?_ ?_
                          rotate_left
                          · intro w'
                            go_simp
                            with_reducible rfl
                          rotate_left
                          · simp only [Act.put, List.setIfInBounds_toArray, List.set_cons_zero, List.set_cons_succ, i64_w, i32_w]
                            rfl
                          refine done_ (done_of HT_.out (by kernel_rfl)) ?_
                          have hnb78 := NB233_228.out
                          have hnc78 := NB228_233.out
                          have hcz79_0 : w76.cell? ⟨gb233, 0, none⟩ = some (.int .i64 a0_0) := (blk_cell BK233.out 0).trans rfl
                          have hcz79_1 : w76.cell? ⟨gb233, 1, none⟩ = some (.int .i64 a0_1) := (blk_cell BK233.out 1).trans rfl
                          have hcz79_2 : w76.cell? ⟨gb233, 2, none⟩ = some (.int .i64 a0_2) := (blk_cell BK233.out 2).trans rfl
                          have hcz79_3 : w76.cell? ⟨gb233, 3, none⟩ = some (.int .i64 a0_3) := (blk_cell BK233.out 3).trans rfl
                          have hcz79_4 : w76.cell? ⟨gb233, 4, none⟩ = some (.int .i64 a0_4) := (blk_cell BK233.out 4).trans rfl
                          have hcz79_5 : w76.cell? ⟨gb233, 5, none⟩ = some (.bool a0_5) := (blk_cell BK233.out 5).trans rfl
                          have hcz79_6 : w76.cell? ⟨gb233, 6, none⟩ = some (.slice A0_6 l0_6.length c0_6) := (blk_cell BK233.out 6).trans rfl
                          have hcz79_7 : w76.cell? ⟨gb233, 7, none⟩ = some (.slice A0_7 l0_7.length c0_7) := (blk_cell BK233.out 7).trans rfl
                          have hcz79_8 : w76.cell? ⟨gb233, 8, none⟩ = some (.slice A0_8 l0_8.length c0_8) := (blk_cell BK233.out 8).trans rfl
                          have hfz79_0 := blk_frozen BK233.out 0
                          have hfz79_1 := blk_frozen BK233.out 1
                          have hfz79_2 := blk_frozen BK233.out 2
                          have hfz79_3 := blk_frozen BK233.out 3
                          have hfz79_4 := blk_frozen BK233.out 4
                          have hfz79_5 := blk_frozen BK233.out 5
                          have hfz79_6 := blk_frozen BK233.out 6
                          have hfz79_7 := blk_frozen BK233.out 7
                          have hfz79_8 := blk_frozen BK233.out 8
                          try go_wp2_with (first | ((with_reducible refine gate_callee (f := 19) rfl ?_); refine goesL_ (some 71) rfl rfl Try.func19 (by kernel_rfl) rfl #[.agg #[.int .i64 a0_0, .int .i64 a0_1, .int .i64 a0_2, .int .i64 a0_3, .int .i64 7, .bool a0_5, .slice A0_6 l0_6.length c0_6, .slice A0_7 l0_7.length c0_7, .slice A0_8 l0_8.length c0_8]] rfl (by (try simp only [List.map_toArray, List.map_cons, List.map_nil]); first | done | rfl | (simp only [List.length_drop, List.length_take]; rfl)) ?_; (with_reducible refine (rec_Encode.calls kj19 a0_0 a0_1 a0_2 a0_3 7 a0_5 _ _ l0_6 _ _ l0_7 _ _ l0_8 t252 t255 _ ?side1 ?side2 ?side3 ?side4 ?side5 ?side6 A71.out).mono ?_); (case side1 => exact Kd.C_below HR0_6.out (by repeat (first | (with_reducible first | exact HB.out | apply below_alloc | apply pw_below_drewN | apply below_drew1 | refine below_set ?_ GE228.out | refine below_set ?_ GE233.out) | exact HB.out))); (case side2 => exact HC0_6.out); (case side3 => exact Kd.C_below HR0_7.out (by repeat (first | (with_reducible first | exact HB.out | apply below_alloc | apply pw_below_drewN | apply below_drew1 | refine below_set ?_ GE228.out | refine below_set ?_ GE233.out) | exact HB.out))); (case side4 => exact HC0_7.out); (case side5 => exact Kd.C_below HR0_8.out (by repeat (first | (with_reducible first | exact HB.out | apply below_alloc | apply pw_below_drewN | apply below_drew1 | refine below_set ?_ GE228.out | refine below_set ?_ GE233.out) | exact HB.out))); (case side6 => exact HC0_8.out); rintro e w80 ⟨v253, rfl, ho0, hb⟩; refine ⟨_, rfl, ?_⟩; have n0_ := Aside0.mk (Kd.R_lower ho0 (below_size (by repeat (first | (with_reducible first | exact HB.out | apply below_alloc | apply pw_below_drewN | apply below_drew1 | refine below_set ?_ GE228.out | refine below_set ?_ GE233.out) | exact HB.out)))); have n1_ := Aside0.mk (blk_below (g := gb228) (o := .cells #[.int .i64 a0_0, .int .i64 a0_1, .int .i64 a0_2, .int .i64 a0_3, .int .i64 a0_4, .bool a0_5, .slice A0_6 l0_6.length c0_6, .slice A0_7 l0_7.length c0_7, .slice A0_8 l0_8.length c0_8] 34 (0, 0)) (by (with_reducible repeat (first | refine blk_drewN ?_ _ | refine blk_drew ?_ | refine blk_alloc ?_ _)); refine blk_far ?_ NB228_233.out _; (with_reducible repeat (first | refine blk_drewN ?_ _ | refine blk_drew ?_ | refine blk_alloc ?_ _)); exact BK228.out) hb); have n2_ := Aside0.mk (blk_below (g := gb233) (o := .cells #[.int .i64 a0_0, .int .i64 a0_1, .int .i64 a0_2, .int .i64 a0_3, .int .i64 7, .bool a0_5, .slice A0_6 l0_6.length c0_6, .slice A0_7 l0_7.length c0_7, .slice A0_8 l0_8.length c0_8] 34 (0, 0)) (by (with_reducible repeat (first | refine blk_drewN ?_ _ | refine blk_drew ?_ | refine blk_alloc ?_ _)); refine blk_put (cs := #[.int .i64 a0_0, .int .i64 a0_1, .int .i64 a0_2, .int .i64 a0_3, .int .i64 a0_4, .bool a0_5, .slice A0_6 l0_6.length c0_6, .slice A0_7 l0_7.length c0_7, .slice A0_8 l0_8.length c0_8]) ?_ 4 _ rfl; (with_reducible repeat (first | refine blk_drewN ?_ _ | refine blk_drew ?_ | refine blk_alloc ?_ _)); exact BK233.out) hb); have n3_ := Aside0.mk (below_step (by repeat (first | (with_reducible first | exact HB.out | apply below_alloc | apply pw_below_drewN | apply below_drew1 | refine below_set ?_ GE228.out | refine below_set ?_ GE233.out) | exact HB.out)) hb); clear BK228; clear BK233; clear HB; have HO254 := n0_; have BK228 := n1_; have BK233 := n2_; have HB := n3_; clear n0_ n1_ n2_ n3_; (try clear hb); (try clear hb2); (try clear hk); (try clear hi); (try clear ho0)) | ((with_reducible refine gate_callee (f := 16) rfl ?_); refine goesL_ (some 74) rfl rfl Try.func16 (by kernel_rfl) rfl #[] rfl (by (try simp only [List.map_toArray, List.map_cons, List.map_nil]); first | done | rfl | (simp only [List.length_drop, List.length_take]; rfl)) ?_; (with_reducible refine (voklaw16_first.calls kj19  true _ A72.out).mono ?_); rintro e w81 ⟨rfl, hb⟩; refine ⟨_, rfl, ?_⟩; have n0_ := Aside0.mk (Kd.R_below (by (with_reducible repeat (first | apply Kd.R_alloc | apply Kd.R_drewN | apply Kd.R_drew)); exact HO254.out) hb); have n1_ := Aside0.mk (blk_below (g := gb228) (o := .cells #[.int .i64 a0_0, .int .i64 a0_1, .int .i64 a0_2, .int .i64 a0_3, .int .i64 a0_4, .bool a0_5, .slice A0_6 l0_6.length c0_6, .slice A0_7 l0_7.length c0_7, .slice A0_8 l0_8.length c0_8] 34 (0, 0)) (by (with_reducible repeat (first | refine blk_drewN ?_ _ | refine blk_drew ?_ | refine blk_alloc ?_ _)); exact BK228.out) hb); have n2_ := Aside0.mk (blk_below (g := gb233) (o := .cells #[.int .i64 a0_0, .int .i64 a0_1, .int .i64 a0_2, .int .i64 a0_3, .int .i64 7, .bool a0_5, .slice A0_6 l0_6.length c0_6, .slice A0_7 l0_7.length c0_7, .slice A0_8 l0_8.length c0_8] 34 (0, 0)) (by (with_reducible repeat (first | refine blk_drewN ?_ _ | refine blk_drew ?_ | refine blk_alloc ?_ _)); exact BK233.out) hb); have n3_ := Aside0.mk (below_step (by repeat (first | (with_reducible first | exact HB.out | apply below_alloc | apply pw_below_drewN | apply below_drew1 | refine below_set ?_ GE228.out | refine below_set ?_ GE233.out) | exact HB.out)) hb); clear HO254; clear BK228; clear BK233; clear HB; have HO254 := n0_; have BK228 := n1_; have BK233 := n2_; have HB := n3_; clear n0_ n1_ n2_ n3_; (try clear hb); (try clear hb2); (try clear hk); (try clear hi); have hcz82_0 : w81.cell? ⟨gb233, 0, none⟩ = some (.int .i64 a0_0) := (blk_cell BK233.out 0).trans rfl; have hcz82_1 : w81.cell? ⟨gb233, 1, none⟩ = some (.int .i64 a0_1) := (blk_cell BK233.out 1).trans rfl; have hcz82_2 : w81.cell? ⟨gb233, 2, none⟩ = some (.int .i64 a0_2) := (blk_cell BK233.out 2).trans rfl; have hcz82_3 : w81.cell? ⟨gb233, 3, none⟩ = some (.int .i64 a0_3) := (blk_cell BK233.out 3).trans rfl; have hcz82_4 : w81.cell? ⟨gb233, 4, none⟩ = some (.int .i64 7) := (blk_cell BK233.out 4).trans rfl; have hcz82_5 : w81.cell? ⟨gb233, 5, none⟩ = some (.bool a0_5) := (blk_cell BK233.out 5).trans rfl; have hcz82_6 : w81.cell? ⟨gb233, 6, none⟩ = some (.slice A0_6 l0_6.length c0_6) := (blk_cell BK233.out 6).trans rfl; have hcz82_7 : w81.cell? ⟨gb233, 7, none⟩ = some (.slice A0_7 l0_7.length c0_7) := (blk_cell BK233.out 7).trans rfl; have hcz82_8 : w81.cell? ⟨gb233, 8, none⟩ = some (.slice A0_8 l0_8.length c0_8) := (blk_cell BK233.out 8).trans rfl; have hfz82_0 := blk_frozen BK233.out 0; have hfz82_1 := blk_frozen BK233.out 1; have hfz82_2 := blk_frozen BK233.out 2; have hfz82_3 := blk_frozen BK233.out 3; have hfz82_4 := blk_frozen BK233.out 4; have hfz82_5 := blk_frozen BK233.out 5; have hfz82_6 := blk_frozen BK233.out 6; have hfz82_7 := blk_frozen BK233.out 7; have hfz82_8 := blk_frozen BK233.out 8) | (go_at_call 18; (with_reducible refine (rec_May.calls kj19 a0_0 a0_1 a0_2 a0_3 7 a0_5 _ _ l0_6 _ _ l0_7 _ _ l0_8 t257 _ ?side1 ?side2 ?side3 ?side4 ?side5 ?side6 A74.out).mono ?_); (case side1 => repeat (first | exact (Kd.C_below HR0_6.out HB.out) | (with_reducible refine Kd.C_alloc ?_ _) | (with_reducible refine Kd.C_drewN ?_ _) | (with_reducible refine Kd.C_drew ?_))); (case side2 => exact HC0_6.out); (case side3 => repeat (first | exact (Kd.C_below HR0_7.out HB.out) | (with_reducible refine Kd.C_alloc ?_ _) | (with_reducible refine Kd.C_drewN ?_ _) | (with_reducible refine Kd.C_drew ?_))); (case side4 => exact HC0_7.out); (case side5 => repeat (first | exact (Kd.C_below HR0_8.out HB.out) | (with_reducible refine Kd.C_alloc ?_ _) | (with_reducible refine Kd.C_drewN ?_ _) | (with_reducible refine Kd.C_drew ?_))); (case side6 => exact HC0_8.out); rintro e w83 ⟨rfl, hb⟩; have n0_ := Aside0.mk (Kd.R_below (by (with_reducible repeat (first | apply Kd.R_alloc | apply Kd.R_drewN | apply Kd.R_drew)); exact HO254.out) hb); have n1_ := Aside0.mk (blk_below (g := gb228) (o := .cells #[.int .i64 a0_0, .int .i64 a0_1, .int .i64 a0_2, .int .i64 a0_3, .int .i64 a0_4, .bool a0_5, .slice A0_6 l0_6.length c0_6, .slice A0_7 l0_7.length c0_7, .slice A0_8 l0_8.length c0_8] 34 (0, 0)) (by (with_reducible repeat (first | refine blk_drewN ?_ _ | refine blk_drew ?_ | refine blk_alloc ?_ _)); exact BK228.out) hb); have n2_ := Aside0.mk (blk_below (g := gb233) (o := .cells #[.int .i64 a0_0, .int .i64 a0_1, .int .i64 a0_2, .int .i64 a0_3, .int .i64 7, .bool a0_5, .slice A0_6 l0_6.length c0_6, .slice A0_7 l0_7.length c0_7, .slice A0_8 l0_8.length c0_8] 34 (0, 0)) (by (with_reducible repeat (first | refine blk_drewN ?_ _ | refine blk_drew ?_ | refine blk_alloc ?_ _)); exact BK233.out) hb); have n3_ := Aside0.mk (below_step (by repeat (first | (with_reducible first | exact HB.out | apply below_alloc | apply pw_below_drewN | apply below_drew1 | refine below_set ?_ GE228.out | refine below_set ?_ GE233.out) | exact HB.out)) hb); clear HO254; clear BK228; clear BK233; clear HB; have HO254 := n0_; have BK228 := n1_; have BK233 := n2_; have HB := n3_; clear n0_ n1_ n2_ n3_; (try clear hb); (try clear hb2); (try clear hk); (try clear hi)))
                          all_goals go_ret
                          all_goals first | (exfalso; rename_i hz_; rw [hz_] at c75b0; exact absurd c75b0 (by decide)) | (exfalso; rename_i hz_; exact hz_ (by simpa using c75b0)) | exact ⟨by first | rfl | (simp [errW_none, errW_some] <;> rfl) | (simp [*, errW_none, errW_some] <;> rfl), by repeat (first | (with_reducible first | exact HB.out | apply below_alloc | apply pw_below_drewN | apply below_drew1 | refine below_set ?_ GE228.out | refine below_set ?_ GE233.out) | exact HB.out)⟩
                        · rw [if_neg c75] at H
                          have c75b0 : (t257 == (!true)) = false := by simpa using c75
                          (try (have c75b1 : decide (t257 = (!true)) = false := by simpa using c75))
                          (try (have c75b2 : (t257 == (!true)) = false := by simpa using c75))
                          (try (have c75b3 : ¬ (t257 = (!true)) := by simpa using c75))
                          clear c75
                          exact absurd ((Option.some.inj H).trans hT_.out) (by decide)
                      · replace c73 := Bool.eq_false_iff.mpr c73
                        subst c73
                        have H1 : (some false) = some r := by rw [if_neg (show ¬ (false = true) by decide)] at H; exact H
                        clear H
                        have H := H1
                        clear H1
                        exact absurd ((Option.some.inj H).trans hT_.out) (by decide)
                  · rw [if_neg c56] at H
                    have c56b0 : (a1 == 2) = false := beq_eq_false_iff_ne.mpr c56
                    have c56b1 : (a1 != 2) = true := bne_iff_ne.mpr c56
                    by_cases c84 : a1 = 3
                    · rw [if_pos c84] at H
                      have c84b0 : (a1 == 3) = true := beq_iff_eq.mpr c84
                      have c84b1 : (a1 != 3) = false := bne_eq_false_iff_eq.mpr c84
                      clear c84
                      replace H := Option.bind_eq_some_iff.mp H
                      obtain ⟨⟨t258, t261⟩, A850, H⟩ := H
                      replace H : ((voklaw16_first.f kj19).bind fun t262 => (if t262 = true then ((rec_May.f kj19 a0_0 a0_1 a0_2 a0_3 a0_4 true l0_6 l0_7 l0_8).bind fun t263 => (if (t263 == (!(a0_0 != 4))) = true then (some ((t261 == 0) == (!(a0_0 != 4)))) else (some false))) else (some false))) = some r := H
                      have A85 := Aside0.mk A850
                      clear A850
                      replace H := Option.bind_eq_some_iff.mp H
                      obtain ⟨t262, A860, H⟩ := H
                      replace H : (if t262 = true then ((rec_May.f kj19 a0_0 a0_1 a0_2 a0_3 a0_4 true l0_6 l0_7 l0_8).bind fun t263 => (if (t263 == (!(a0_0 != 4))) = true then (some ((t261 == 0) == (!(a0_0 != 4)))) else (some false))) else (some false)) = some r := H
                      have A86 := Aside0.mk A860
                      clear A860
                      by_cases c87 : t262 = true
                      · subst c87
                        have H1 : ((rec_May.f kj19 a0_0 a0_1 a0_2 a0_3 a0_4 true l0_6 l0_7 l0_8).bind fun t263 => (if (t263 == (!(a0_0 != 4))) = true then (some ((t261 == 0) == (!(a0_0 != 4)))) else (some false))) = some r := by rw [if_pos rfl] at H; exact H
                        clear H
                        have H := H1
                        clear H1
                        replace H := Option.bind_eq_some_iff.mp H
                        obtain ⟨t263, A880, H⟩ := H
                        replace H : (if (t263 == (!(a0_0 != 4))) = true then (some ((t261 == 0) == (!(a0_0 != 4)))) else (some false)) = some r := H
                        have A88 := Aside0.mk A880
                        clear A880
                        by_cases c89 : (t263 == (!(a0_0 != 4))) = true
                        · rw [if_pos c89] at H
                          have c89b0 : (t263 == (!(a0_0 != 4))) = true := c89
                          (try (have c89b1 : decide (t263 = (!(a0_0 != 4))) = true := by simpa using c89))
                          (try (have c89b2 : (t263 == (!(a0_0 != 4))) = true := by simpa using c89))
                          clear c89
                          obtain rfl := Option.some.inj H
                          try go_wp2
                          have n0_ := Aside0.mk (blk_drew BK228.out)
                          have n1_ := Aside0.mk (blk_drew BK233.out)
                          have n2_ := Aside0.mk (below_drew1 HB.out)
                          clear BK228
                          clear BK233
                          clear HB
                          have BK228 := n0_
                          have BK233 := n1_
                          have HB := n2_
                          clear n0_ n1_ n2_
                          refine start_ (n := 6) (S := fun w' => w'.cell? ⟨gb228, 0, none⟩ = some (.int .i64 a0_0) ∧ w'.cell? ⟨gb228, 1, none⟩ = some (.int .i64 a0_1) ∧ w'.cell? ⟨gb228, 2, none⟩ = some (.int .i64 a0_2) ∧ w'.cell? ⟨gb228, 3, none⟩ = some (.int .i64 a0_3) ∧ w'.cell? ⟨gb228, 4, none⟩ = some (.int .i64 a0_4) ∧ w'.cell? ⟨gb228, 5, none⟩ = some (.bool a0_5) ∧ w'.cell? ⟨gb228, 6, none⟩ = some (.slice A0_6 l0_6.length c0_6) ∧ w'.cell? ⟨gb228, 7, none⟩ = some (.slice A0_7 l0_7.length c0_7) ∧ w'.cell? ⟨gb228, 8, none⟩ = some (.slice A0_8 l0_8.length c0_8)) (ds := []) #[false, false, false, false, false, false] (by kernel_rfl) rfl rfl ⟨(blk_cell BK228.out 0).trans rfl, (blk_cell BK228.out 1).trans rfl, (blk_cell BK228.out 2).trans rfl, (blk_cell BK228.out 3).trans rfl, (blk_cell BK228.out 4).trans rfl, (blk_cell BK228.out 5).trans rfl, (blk_cell BK228.out 6).trans rfl, (blk_cell BK228.out 7).trans rfl, (blk_cell BK228.out 8).trans rfl⟩ (fun hHeld => ?_)
                          generalize wc.drew = w90 at BK228 BK233 HB hHeld ⊢
                          refine pure_ (i := 0) (N := some 53) (v := ?_) (a' := ?_) #[true, false, false, false, false, false] rfl rfl (by kernel_rfl) (fun _ _ _ h => h) (Or.inl ⟨by rfl, ?_⟩) ?_ ?_
                          rotate_left
                          · intro w'
                            go_simp
                            with_reducible rfl
                          rotate_left
                          · simp only [Act.put, List.setIfInBounds_toArray, List.set_cons_zero, List.set_cons_succ, i64_w, i32_w]
                            rfl
                          refine pure_ (i := 3) (N := some 56) (v := ?_) (a' := ?_) #[true, false, false, true, false, false] rfl rfl (by kernel_rfl) (fun _ _ _ h => h) (Or.inl ⟨by rfl, ?_⟩) ?_ ?_
                          rotate_left
                          · intro w'
                            go_simp
                            with_reducible rfl
                          rotate_left
                          · simp only [Act.put, List.setIfInBounds_toArray, List.set_cons_zero, List.set_cons_succ, i64_w, i32_w]
                            rfl
                          refine take_ (i := 1) (N := some 54) (v := ?_) (a' := ?_) #[true, true, false, true, false, false] rfl rfl (by kernel_rfl) (fun _ _ _ h => h) (Or.inl ⟨by rfl, ?_⟩) hHeld ?_ ?_
                          rotate_left
                          · rintro w' ⟨s0, s1, s2, s3, s4, s5, s6, s7, s8⟩
                            go_simp
                            with_reducible rfl
                          rotate_left
                          · simp only [Act.put, List.setIfInBounds_toArray, List.set_cons_zero, List.set_cons_succ, i64_w, i32_w]
                            rfl
                          refine pure_ (i := 2) (N := some 55) (v := ?_) (a' := ?_) #[true, true, true, true, false, false] rfl rfl (by kernel_rfl) (fun _ _ _ h => h) (Or.inl ⟨by rfl, ?_⟩) ?_ ?_
                          rotate_left
                          · intro w'
                            go_simp
                            with_reducible rfl
                          rotate_left
                          · simp only [Act.put, List.setIfInBounds_toArray, List.set_cons_zero, List.set_cons_succ, i64_w, i32_w]
                            rfl
                          refine one_ (i := 4) (N := none) #[true, true, true, true, true, false] rfl rfl (by kernel_rfl) (by decide) (fun K hK => ?_)
                          have hs91 : w90.cell? ⟨gb233, 5, none⟩ = some (.bool a0_5) := (blk_cell BK233.out 5).trans rfl
                          have hfs91 := blk_frozen BK233.out 5
                          have hns91_0 := NB228_233.out
                          have hms91_0 := NB233_228.out
                          refine skip_ (w1 := ?_) (by rfl) rfl ?_ ?_
                          rotate_left
                          · go_simp
                            rfl
                          refine hK.out _ _ ⟨((cell_far (p := ⟨gb233, _, none⟩) NB228_233.out _).trans (hHeld.1)), ((cell_far (p := ⟨gb233, _, none⟩) NB228_233.out _).trans (hHeld.2.1)), ((cell_far (p := ⟨gb233, _, none⟩) NB228_233.out _).trans (hHeld.2.2.1)), ((cell_far (p := ⟨gb233, _, none⟩) NB228_233.out _).trans (hHeld.2.2.2.1)), ((cell_far (p := ⟨gb233, _, none⟩) NB228_233.out _).trans (hHeld.2.2.2.2.1)), ((cell_far (p := ⟨gb233, _, none⟩) NB228_233.out _).trans (hHeld.2.2.2.2.2.1)), ((cell_far (p := ⟨gb233, _, none⟩) NB228_233.out _).trans (hHeld.2.2.2.2.2.2.1)), ((cell_far (p := ⟨gb233, _, none⟩) NB228_233.out _).trans (hHeld.2.2.2.2.2.2.2.1)), ((cell_far (p := ⟨gb233, _, none⟩) NB228_233.out _).trans (hHeld.2.2.2.2.2.2.2.2))⟩ (fun hHeld => ?_)
                          clear hK K
                          refine pure_ (i := 5) (N := some 7) (v := ?_) (a' := ?_) #[true, true, true, true, true, true] rfl rfl (by kernel_rfl) (fun _ _ _ h => h) (Or.inl ⟨by rfl, ?_⟩) ?_ ?_
                          rotate_left
                          · intro w'
                            go_simp
                            with_reducible rfl
                          rotate_left
                          · simp only [Act.put, List.setIfInBounds_toArray, List.set_cons_zero, List.set_cons_succ, i64_w, i32_w]
                            rfl
                          refine done_ (by kernel_rfl) ?_
                          have hnb92 := NB233_228.out
                          have hnc92 := NB228_233.out
                          have hcz93_0 : w90.cell? ⟨gb233, 0, none⟩ = some (.int .i64 a0_0) := (blk_cell BK233.out 0).trans rfl
                          have hcz93_1 : w90.cell? ⟨gb233, 1, none⟩ = some (.int .i64 a0_1) := (blk_cell BK233.out 1).trans rfl
                          have hcz93_2 : w90.cell? ⟨gb233, 2, none⟩ = some (.int .i64 a0_2) := (blk_cell BK233.out 2).trans rfl
                          have hcz93_3 : w90.cell? ⟨gb233, 3, none⟩ = some (.int .i64 a0_3) := (blk_cell BK233.out 3).trans rfl
                          have hcz93_4 : w90.cell? ⟨gb233, 4, none⟩ = some (.int .i64 a0_4) := (blk_cell BK233.out 4).trans rfl
                          have hcz93_5 : w90.cell? ⟨gb233, 5, none⟩ = some (.bool a0_5) := (blk_cell BK233.out 5).trans rfl
                          have hcz93_6 : w90.cell? ⟨gb233, 6, none⟩ = some (.slice A0_6 l0_6.length c0_6) := (blk_cell BK233.out 6).trans rfl
                          have hcz93_7 : w90.cell? ⟨gb233, 7, none⟩ = some (.slice A0_7 l0_7.length c0_7) := (blk_cell BK233.out 7).trans rfl
                          have hcz93_8 : w90.cell? ⟨gb233, 8, none⟩ = some (.slice A0_8 l0_8.length c0_8) := (blk_cell BK233.out 8).trans rfl
                          have hfz93_0 := blk_frozen BK233.out 0
                          have hfz93_1 := blk_frozen BK233.out 1
                          have hfz93_2 := blk_frozen BK233.out 2
                          have hfz93_3 := blk_frozen BK233.out 3
                          have hfz93_4 := blk_frozen BK233.out 4
                          have hfz93_5 := blk_frozen BK233.out 5
                          have hfz93_6 := blk_frozen BK233.out 6
                          have hfz93_7 := blk_frozen BK233.out 7
                          have hfz93_8 := blk_frozen BK233.out 8
                          try go_wp2_with (first | ((with_reducible refine gate_callee (f := 19) rfl ?_); refine goesL_ (some 71) rfl rfl Try.func19 (by kernel_rfl) rfl #[.agg #[.int .i64 a0_0, .int .i64 a0_1, .int .i64 a0_2, .int .i64 a0_3, .int .i64 a0_4, .bool true, .slice A0_6 l0_6.length c0_6, .slice A0_7 l0_7.length c0_7, .slice A0_8 l0_8.length c0_8]] rfl (by (try simp only [List.map_toArray, List.map_cons, List.map_nil]); first | done | rfl | (simp only [List.length_drop, List.length_take]; rfl)) ?_; (with_reducible refine (rec_Encode.calls kj19 a0_0 a0_1 a0_2 a0_3 a0_4 true _ _ l0_6 _ _ l0_7 _ _ l0_8 t258 t261 _ ?side1 ?side2 ?side3 ?side4 ?side5 ?side6 A85.out).mono ?_); (case side1 => exact Kd.C_below HR0_6.out (by repeat (first | (with_reducible first | exact HB.out | apply below_alloc | apply pw_below_drewN | apply below_drew1 | refine below_set ?_ GE228.out | refine below_set ?_ GE233.out) | exact HB.out))); (case side2 => exact HC0_6.out); (case side3 => exact Kd.C_below HR0_7.out (by repeat (first | (with_reducible first | exact HB.out | apply below_alloc | apply pw_below_drewN | apply below_drew1 | refine below_set ?_ GE228.out | refine below_set ?_ GE233.out) | exact HB.out))); (case side4 => exact HC0_7.out); (case side5 => exact Kd.C_below HR0_8.out (by repeat (first | (with_reducible first | exact HB.out | apply below_alloc | apply pw_below_drewN | apply below_drew1 | refine below_set ?_ GE228.out | refine below_set ?_ GE233.out) | exact HB.out))); (case side6 => exact HC0_8.out); rintro e w94 ⟨v259, rfl, ho0, hb⟩; refine ⟨_, rfl, ?_⟩; have n0_ := Aside0.mk (Kd.R_lower ho0 (below_size (by repeat (first | (with_reducible first | exact HB.out | apply below_alloc | apply pw_below_drewN | apply below_drew1 | refine below_set ?_ GE228.out | refine below_set ?_ GE233.out) | exact HB.out)))); have n1_ := Aside0.mk (blk_below (g := gb228) (o := .cells #[.int .i64 a0_0, .int .i64 a0_1, .int .i64 a0_2, .int .i64 a0_3, .int .i64 a0_4, .bool a0_5, .slice A0_6 l0_6.length c0_6, .slice A0_7 l0_7.length c0_7, .slice A0_8 l0_8.length c0_8] 34 (0, 0)) (by (with_reducible repeat (first | refine blk_drewN ?_ _ | refine blk_drew ?_ | refine blk_alloc ?_ _)); refine blk_far ?_ NB228_233.out _; (with_reducible repeat (first | refine blk_drewN ?_ _ | refine blk_drew ?_ | refine blk_alloc ?_ _)); exact BK228.out) hb); have n2_ := Aside0.mk (blk_below (g := gb233) (o := .cells #[.int .i64 a0_0, .int .i64 a0_1, .int .i64 a0_2, .int .i64 a0_3, .int .i64 a0_4, .bool true, .slice A0_6 l0_6.length c0_6, .slice A0_7 l0_7.length c0_7, .slice A0_8 l0_8.length c0_8] 34 (0, 0)) (by (with_reducible repeat (first | refine blk_drewN ?_ _ | refine blk_drew ?_ | refine blk_alloc ?_ _)); refine blk_put (cs := #[.int .i64 a0_0, .int .i64 a0_1, .int .i64 a0_2, .int .i64 a0_3, .int .i64 a0_4, .bool a0_5, .slice A0_6 l0_6.length c0_6, .slice A0_7 l0_7.length c0_7, .slice A0_8 l0_8.length c0_8]) ?_ 5 _ rfl; (with_reducible repeat (first | refine blk_drewN ?_ _ | refine blk_drew ?_ | refine blk_alloc ?_ _)); exact BK233.out) hb); have n3_ := Aside0.mk (below_step (by repeat (first | (with_reducible first | exact HB.out | apply below_alloc | apply pw_below_drewN | apply below_drew1 | refine below_set ?_ GE228.out | refine below_set ?_ GE233.out) | exact HB.out)) hb); clear BK228; clear BK233; clear HB; have HO260 := n0_; have BK228 := n1_; have BK233 := n2_; have HB := n3_; clear n0_ n1_ n2_ n3_; (try clear hb); (try clear hb2); (try clear hk); (try clear hi); (try clear ho0)) | ((with_reducible refine gate_callee (f := 16) rfl ?_); refine goesL_ (some 74) rfl rfl Try.func16 (by kernel_rfl) rfl #[] rfl (by (try simp only [List.map_toArray, List.map_cons, List.map_nil]); first | done | rfl | (simp only [List.length_drop, List.length_take]; rfl)) ?_; (with_reducible refine (voklaw16_first.calls kj19  true _ A86.out).mono ?_); rintro e w95 ⟨rfl, hb⟩; refine ⟨_, rfl, ?_⟩; have n0_ := Aside0.mk (Kd.R_below (by (with_reducible repeat (first | apply Kd.R_alloc | apply Kd.R_drewN | apply Kd.R_drew)); exact HO260.out) hb); have n1_ := Aside0.mk (blk_below (g := gb228) (o := .cells #[.int .i64 a0_0, .int .i64 a0_1, .int .i64 a0_2, .int .i64 a0_3, .int .i64 a0_4, .bool a0_5, .slice A0_6 l0_6.length c0_6, .slice A0_7 l0_7.length c0_7, .slice A0_8 l0_8.length c0_8] 34 (0, 0)) (by (with_reducible repeat (first | refine blk_drewN ?_ _ | refine blk_drew ?_ | refine blk_alloc ?_ _)); exact BK228.out) hb); have n2_ := Aside0.mk (blk_below (g := gb233) (o := .cells #[.int .i64 a0_0, .int .i64 a0_1, .int .i64 a0_2, .int .i64 a0_3, .int .i64 a0_4, .bool true, .slice A0_6 l0_6.length c0_6, .slice A0_7 l0_7.length c0_7, .slice A0_8 l0_8.length c0_8] 34 (0, 0)) (by (with_reducible repeat (first | refine blk_drewN ?_ _ | refine blk_drew ?_ | refine blk_alloc ?_ _)); exact BK233.out) hb); have n3_ := Aside0.mk (below_step (by repeat (first | (with_reducible first | exact HB.out | apply below_alloc | apply pw_below_drewN | apply below_drew1 | refine below_set ?_ GE228.out | refine below_set ?_ GE233.out) | exact HB.out)) hb); clear HO260; clear BK228; clear BK233; clear HB; have HO260 := n0_; have BK228 := n1_; have BK233 := n2_; have HB := n3_; clear n0_ n1_ n2_ n3_; (try clear hb); (try clear hb2); (try clear hk); (try clear hi); have hcz96_0 : w95.cell? ⟨gb233, 0, none⟩ = some (.int .i64 a0_0) := (blk_cell BK233.out 0).trans rfl; have hcz96_1 : w95.cell? ⟨gb233, 1, none⟩ = some (.int .i64 a0_1) := (blk_cell BK233.out 1).trans rfl; have hcz96_2 : w95.cell? ⟨gb233, 2, none⟩ = some (.int .i64 a0_2) := (blk_cell BK233.out 2).trans rfl; have hcz96_3 : w95.cell? ⟨gb233, 3, none⟩ = some (.int .i64 a0_3) := (blk_cell BK233.out 3).trans rfl; have hcz96_4 : w95.cell? ⟨gb233, 4, none⟩ = some (.int .i64 a0_4) := (blk_cell BK233.out 4).trans rfl; have hcz96_5 : w95.cell? ⟨gb233, 5, none⟩ = some (.bool true) := (blk_cell BK233.out 5).trans rfl; have hcz96_6 : w95.cell? ⟨gb233, 6, none⟩ = some (.slice A0_6 l0_6.length c0_6) := (blk_cell BK233.out 6).trans rfl; have hcz96_7 : w95.cell? ⟨gb233, 7, none⟩ = some (.slice A0_7 l0_7.length c0_7) := (blk_cell BK233.out 7).trans rfl; have hcz96_8 : w95.cell? ⟨gb233, 8, none⟩ = some (.slice A0_8 l0_8.length c0_8) := (blk_cell BK233.out 8).trans rfl; have hfz96_0 := blk_frozen BK233.out 0; have hfz96_1 := blk_frozen BK233.out 1; have hfz96_2 := blk_frozen BK233.out 2; have hfz96_3 := blk_frozen BK233.out 3; have hfz96_4 := blk_frozen BK233.out 4; have hfz96_5 := blk_frozen BK233.out 5; have hfz96_6 := blk_frozen BK233.out 6; have hfz96_7 := blk_frozen BK233.out 7; have hfz96_8 := blk_frozen BK233.out 8) | (go_at_call 18; (with_reducible refine (rec_May.calls kj19 a0_0 a0_1 a0_2 a0_3 a0_4 true _ _ l0_6 _ _ l0_7 _ _ l0_8 t263 _ ?side1 ?side2 ?side3 ?side4 ?side5 ?side6 A88.out).mono ?_); (case side1 => repeat (first | exact (Kd.C_below HR0_6.out HB.out) | (with_reducible refine Kd.C_alloc ?_ _) | (with_reducible refine Kd.C_drewN ?_ _) | (with_reducible refine Kd.C_drew ?_))); (case side2 => exact HC0_6.out); (case side3 => repeat (first | exact (Kd.C_below HR0_7.out HB.out) | (with_reducible refine Kd.C_alloc ?_ _) | (with_reducible refine Kd.C_drewN ?_ _) | (with_reducible refine Kd.C_drew ?_))); (case side4 => exact HC0_7.out); (case side5 => repeat (first | exact (Kd.C_below HR0_8.out HB.out) | (with_reducible refine Kd.C_alloc ?_ _) | (with_reducible refine Kd.C_drewN ?_ _) | (with_reducible refine Kd.C_drew ?_))); (case side6 => exact HC0_8.out); rintro e w97 ⟨rfl, hb⟩; have n0_ := Aside0.mk (Kd.R_below (by (with_reducible repeat (first | apply Kd.R_alloc | apply Kd.R_drewN | apply Kd.R_drew)); exact HO260.out) hb); have n1_ := Aside0.mk (blk_below (g := gb228) (o := .cells #[.int .i64 a0_0, .int .i64 a0_1, .int .i64 a0_2, .int .i64 a0_3, .int .i64 a0_4, .bool a0_5, .slice A0_6 l0_6.length c0_6, .slice A0_7 l0_7.length c0_7, .slice A0_8 l0_8.length c0_8] 34 (0, 0)) (by (with_reducible repeat (first | refine blk_drewN ?_ _ | refine blk_drew ?_ | refine blk_alloc ?_ _)); exact BK228.out) hb); have n2_ := Aside0.mk (blk_below (g := gb233) (o := .cells #[.int .i64 a0_0, .int .i64 a0_1, .int .i64 a0_2, .int .i64 a0_3, .int .i64 a0_4, .bool true, .slice A0_6 l0_6.length c0_6, .slice A0_7 l0_7.length c0_7, .slice A0_8 l0_8.length c0_8] 34 (0, 0)) (by (with_reducible repeat (first | refine blk_drewN ?_ _ | refine blk_drew ?_ | refine blk_alloc ?_ _)); exact BK233.out) hb); have n3_ := Aside0.mk (below_step (by repeat (first | (with_reducible first | exact HB.out | apply below_alloc | apply pw_below_drewN | apply below_drew1 | refine below_set ?_ GE228.out | refine below_set ?_ GE233.out) | exact HB.out)) hb); clear HO260; clear BK228; clear BK233; clear HB; have HO260 := n0_; have BK228 := n1_; have BK233 := n2_; have HB := n3_; clear n0_ n1_ n2_ n3_; (try clear hb); (try clear hb2); (try clear hk); (try clear hi)))
                          all_goals go_ret
                          all_goals first | (exfalso; rename_i hz_; rw [hz_] at c89b0; exact absurd c89b0 (by decide)) | (exfalso; rename_i hz_; exact hz_ (by simpa using c89b0)) | exact ⟨by first | rfl | (simp [errW_none, errW_some] <;> rfl) | (simp [*, errW_none, errW_some] <;> rfl), by repeat (first | (with_reducible first | exact HB.out | apply below_alloc | apply pw_below_drewN | apply below_drew1 | refine below_set ?_ GE228.out | refine below_set ?_ GE233.out) | exact HB.out)⟩
                        · rw [if_neg c89] at H
                          have c89b0 : (t263 == (!(a0_0 != 4))) = false := by simpa using c89
                          (try (have c89b1 : decide (t263 = (!(a0_0 != 4))) = false := by simpa using c89))
                          (try (have c89b2 : (t263 == (!(a0_0 != 4))) = false := by simpa using c89))
                          (try (have c89b3 : ¬ (t263 = (!(a0_0 != 4))) := by simpa using c89))
                          clear c89
                          exact absurd ((Option.some.inj H).trans hT_.out) (by decide)
                      · replace c87 := Bool.eq_false_iff.mpr c87
                        subst c87
                        have H1 : (some false) = some r := by rw [if_neg (show ¬ (false = true) by decide)] at H; exact H
                        clear H
                        have H := H1
                        clear H1
                        exact absurd ((Option.some.inj H).trans hT_.out) (by decide)
                    · rw [if_neg c84] at H
                      have c84b0 : (a1 == 3) = false := beq_eq_false_iff_ne.mpr c84
                      have c84b1 : (a1 != 3) = true := bne_iff_ne.mpr c84
                      by_cases c98 : a1 = 4
                      · rw [if_pos c98] at H
                        have c98b0 : (a1 == 4) = true := beq_iff_eq.mpr c98
                        have c98b1 : (a1 != 4) = false := bne_eq_false_iff_eq.mpr c98
                        clear c98
                        obtain ⟨y264, hy264⟩ : ∃ y_ : List Int, y_ = (([3] : List Int)) := ⟨_, rfl⟩
                        replace H : ((rec_Encode.f kj19 a0_0 a0_1 a0_2 a0_3 a0_4 a0_5 y264 l0_7 l0_8).bind fun bt267 => ((voklaw16_first.f kj19).bind fun t271 => (if t271 = true then ((rec_May.f kj19 a0_0 a0_1 a0_2 a0_3 a0_4 a0_5 y264 l0_7 l0_8).bind fun t272 => (if (t272 == (!(!x6_19))) = true then (some ((bt267.2 == 0) == (!(!x6_19)))) else (some false))) else (some false)))) = some r := by first | (rw [hy264]; with_reducible exact H) | (have H2_ := (Option.bind_some _ _).symm.trans H; rw [hy264]; with_reducible exact H2_) | (have H2_ := (Option.bind_some _ _).symm.trans H; with_reducible exact H2_) | with_reducible exact H | (rw [hy264]; exact H) | exact H
                        have Ny264 := Aside0.mk hy264
                        clear hy264
                        replace H := Option.bind_eq_some_iff.mp H
                        obtain ⟨⟨t267, t270⟩, A990, H⟩ := H
                        replace H : ((voklaw16_first.f kj19).bind fun t271 => (if t271 = true then ((rec_May.f kj19 a0_0 a0_1 a0_2 a0_3 a0_4 a0_5 y264 l0_7 l0_8).bind fun t272 => (if (t272 == (!(!x6_19))) = true then (some ((t270 == 0) == (!(!x6_19)))) else (some false))) else (some false))) = some r := H
                        have A99 := Aside0.mk A990
                        clear A990
                        replace H := Option.bind_eq_some_iff.mp H
                        obtain ⟨t271, A1000, H⟩ := H
                        replace H : (if t271 = true then ((rec_May.f kj19 a0_0 a0_1 a0_2 a0_3 a0_4 a0_5 y264 l0_7 l0_8).bind fun t272 => (if (t272 == (!(!x6_19))) = true then (some ((t270 == 0) == (!(!x6_19)))) else (some false))) else (some false)) = some r := H
                        have A100 := Aside0.mk A1000
                        clear A1000
                        by_cases c101 : t271 = true
                        · subst c101
                          have H1 : ((rec_May.f kj19 a0_0 a0_1 a0_2 a0_3 a0_4 a0_5 y264 l0_7 l0_8).bind fun t272 => (if (t272 == (!(!x6_19))) = true then (some ((t270 == 0) == (!(!x6_19)))) else (some false))) = some r := by rw [if_pos rfl] at H; exact H
                          clear H
                          have H := H1
                          clear H1
                          replace H := Option.bind_eq_some_iff.mp H
                          obtain ⟨t272, A1020, H⟩ := H
                          replace H : (if (t272 == (!(!x6_19))) = true then (some ((t270 == 0) == (!(!x6_19)))) else (some false)) = some r := H
                          have A102 := Aside0.mk A1020
                          clear A1020
                          by_cases c103 : (t272 == (!(!x6_19))) = true
                          · rw [if_pos c103] at H
                            have c103b0 : (t272 == (!(!x6_19))) = true := c103
                            (try (have c103b1 : decide (t272 = (!(!x6_19))) = true := by simpa using c103))
                            (try (have c103b2 : (t272 == (!(!x6_19))) = true := by simpa using c103))
                            clear c103
                            obtain rfl := Option.some.inj H
                            go_wp2_with (first | ((with_reducible refine gate_dst (N := 59) rfl ?_); refine Kd.R_lit (Kd.int .i64) _ 3 ?hg (N := 59) ?hd (xs := ([3] : List Int)) (inner := [.int .i64 3]) (ok := fun _ => True) (okp := fun _ => True) ?hr ?hp (fun _ hk => hk) trivial (Below.refl _ _) (Nat.le_refl _) (by simp) ?_; (case hd => rfl); (case hg => rfl); (case hr => first | (go_simp; done) | (go_simp; rfl)); (case hp => exact (Reps.one (show Kd.M (Kd.int .i64) _ _ _ 3 [.int .i64 3] from rfl) (Reps.none _ _))); intro v265 w104 ho105 hb hg_ hnew_; clear hg_ hnew_; (first | rw [← Ny264.out] at ho105 | (simp only [Int.reduceToNat] at ho105; rw [← Ny264.out] at ho105)); have n0_ := Aside0.mk (Kd.R_lower ho105 (below_size (by repeat (first | (with_reducible first | exact HB.out | apply below_alloc | apply pw_below_drewN | apply below_drew1 | refine below_set ?_ GE228.out | refine below_set ?_ GE233.out) | exact HB.out)))); have n1_ := Aside0.mk (blk_below (g := gb228) (o := .cells #[.int .i64 a0_0, .int .i64 a0_1, .int .i64 a0_2, .int .i64 a0_3, .int .i64 a0_4, .bool a0_5, .slice A0_6 l0_6.length c0_6, .slice A0_7 l0_7.length c0_7, .slice A0_8 l0_8.length c0_8] 34 (0, 0)) (by (with_reducible repeat (first | refine blk_drewN ?_ _ | refine blk_drew ?_ | refine blk_alloc ?_ _)); exact BK228.out) hb); have n2_ := Aside0.mk (blk_below (g := gb233) (o := .cells #[.int .i64 a0_0, .int .i64 a0_1, .int .i64 a0_2, .int .i64 a0_3, .int .i64 a0_4, .bool a0_5, .slice A0_6 l0_6.length c0_6, .slice A0_7 l0_7.length c0_7, .slice A0_8 l0_8.length c0_8] 34 (0, 0)) (by (with_reducible repeat (first | refine blk_drewN ?_ _ | refine blk_drew ?_ | refine blk_alloc ?_ _)); exact BK233.out) hb); have n3_ := Aside0.mk (below_step (by repeat (first | (with_reducible first | exact HB.out | apply below_alloc | apply pw_below_drewN | apply below_drew1 | refine below_set ?_ GE228.out | refine below_set ?_ GE233.out) | exact HB.out)) hb); clear BK228; clear BK233; clear HB; have HO266 := n0_; have BK228 := n1_; have BK233 := n2_; have HB := n3_; clear n0_ n1_ n2_ n3_; clear hb ho105; obtain ⟨Ao106, co106, eo106⟩ := Kd.R_slice HO266.out; subst eo106; have hnb107 := NB233_228.out; have hnc107 := NB228_233.out; have hcz108_0 : w104.cell? ⟨gb233, 0, none⟩ = some (.int .i64 a0_0) := (blk_cell BK233.out 0).trans rfl; have hcz108_1 : w104.cell? ⟨gb233, 1, none⟩ = some (.int .i64 a0_1) := (blk_cell BK233.out 1).trans rfl; have hcz108_2 : w104.cell? ⟨gb233, 2, none⟩ = some (.int .i64 a0_2) := (blk_cell BK233.out 2).trans rfl; have hcz108_3 : w104.cell? ⟨gb233, 3, none⟩ = some (.int .i64 a0_3) := (blk_cell BK233.out 3).trans rfl; have hcz108_4 : w104.cell? ⟨gb233, 4, none⟩ = some (.int .i64 a0_4) := (blk_cell BK233.out 4).trans rfl; have hcz108_5 : w104.cell? ⟨gb233, 5, none⟩ = some (.bool a0_5) := (blk_cell BK233.out 5).trans rfl; have hcz108_6 : w104.cell? ⟨gb233, 6, none⟩ = some (.slice A0_6 l0_6.length c0_6) := (blk_cell BK233.out 6).trans rfl; have hcz108_7 : w104.cell? ⟨gb233, 7, none⟩ = some (.slice A0_7 l0_7.length c0_7) := (blk_cell BK233.out 7).trans rfl; have hcz108_8 : w104.cell? ⟨gb233, 8, none⟩ = some (.slice A0_8 l0_8.length c0_8) := (blk_cell BK233.out 8).trans rfl; have hfz108_0 := blk_frozen BK233.out 0; have hfz108_1 := blk_frozen BK233.out 1; have hfz108_2 := blk_frozen BK233.out 2; have hfz108_3 := blk_frozen BK233.out 3; have hfz108_4 := blk_frozen BK233.out 4; have hfz108_5 := blk_frozen BK233.out 5; have hfz108_6 := blk_frozen BK233.out 6; have hfz108_7 := blk_frozen BK233.out 7; have hfz108_8 := blk_frozen BK233.out 8) | ((with_reducible refine gate_callee (f := 19) rfl ?_); refine goesL_ (some 71) rfl rfl Try.func19 (by kernel_rfl) rfl #[.agg #[.int .i64 a0_0, .int .i64 a0_1, .int .i64 a0_2, .int .i64 a0_3, .int .i64 a0_4, .bool a0_5, .slice Ao106 y264.length co106, .slice A0_7 l0_7.length c0_7, .slice A0_8 l0_8.length c0_8]] rfl (by (try simp only [List.map_toArray, List.map_cons, List.map_nil]); first | done | rfl | (simp only [List.length_drop, List.length_take]; rfl)) ?_; (with_reducible refine (rec_Encode.calls kj19 a0_0 a0_1 a0_2 a0_3 a0_4 a0_5 _ _ y264 _ _ l0_7 _ _ l0_8 t267 t270 _ ?side1 ?side2 ?side3 ?side4 ?side5 ?side6 A99.out).mono ?_); (case side1 => refine (Kd.R_reads' (e := 3) (base := w.heap.size) (ok := fun k_ => True) (n := y264.length) (c := co106) ?_).2.2; exact (by (with_reducible repeat (first | apply Kd.R_alloc | apply Kd.R_drewN | apply Kd.R_drew)); exact (Kd.R_mono (Kd.R_far (p := ⟨gb233, 6, none⟩) (Kd.R_types HO266.out BK233.out (by decide)) (fun _ hk => hk.2) (.slice Ao106 y264.length co106)) (fun _ h_ => h_.1)))); (case side2 => exact (Kd.R_reads' HO266.out).2.1); (case side3 => exact Kd.C_below HR0_7.out (by repeat (first | (with_reducible first | exact HB.out | apply below_alloc | apply pw_below_drewN | apply below_drew1 | refine below_set ?_ GE228.out | refine below_set ?_ GE233.out) | exact HB.out))); (case side4 => exact HC0_7.out); (case side5 => exact Kd.C_below HR0_8.out (by repeat (first | (with_reducible first | exact HB.out | apply below_alloc | apply pw_below_drewN | apply below_drew1 | refine below_set ?_ GE228.out | refine below_set ?_ GE233.out) | exact HB.out))); (case side6 => exact HC0_8.out); rintro e w109 ⟨v268, rfl, ho0, hb⟩; refine ⟨_, rfl, ?_⟩; have n0_ := Aside0.mk (Kd.R_below (by (with_reducible repeat (first | apply Kd.R_alloc | apply Kd.R_drewN | apply Kd.R_drew)); exact (Kd.R_mono (Kd.R_far (p := ⟨gb233, 6, none⟩) (Kd.R_types HO266.out BK233.out (by decide)) (fun _ hk => hk.2) (.slice Ao106 y264.length co106)) (fun _ h_ => h_.1))) hb); have n1_ := Aside0.mk (Kd.R_lower ho0 (below_size (by repeat (first | (with_reducible first | exact HB.out | apply below_alloc | apply pw_below_drewN | apply below_drew1 | refine below_set ?_ GE228.out | refine below_set ?_ GE233.out) | exact HB.out)))); have n2_ := Aside0.mk (blk_below (g := gb228) (o := .cells #[.int .i64 a0_0, .int .i64 a0_1, .int .i64 a0_2, .int .i64 a0_3, .int .i64 a0_4, .bool a0_5, .slice A0_6 l0_6.length c0_6, .slice A0_7 l0_7.length c0_7, .slice A0_8 l0_8.length c0_8] 34 (0, 0)) (by (with_reducible repeat (first | refine blk_drewN ?_ _ | refine blk_drew ?_ | refine blk_alloc ?_ _)); refine blk_far ?_ NB228_233.out _; (with_reducible repeat (first | refine blk_drewN ?_ _ | refine blk_drew ?_ | refine blk_alloc ?_ _)); exact BK228.out) hb); have n3_ := Aside0.mk (blk_below (g := gb233) (o := .cells #[.int .i64 a0_0, .int .i64 a0_1, .int .i64 a0_2, .int .i64 a0_3, .int .i64 a0_4, .bool a0_5, .slice Ao106 y264.length co106, .slice A0_7 l0_7.length c0_7, .slice A0_8 l0_8.length c0_8] 34 (0, 0)) (by (with_reducible repeat (first | refine blk_drewN ?_ _ | refine blk_drew ?_ | refine blk_alloc ?_ _)); refine blk_put (cs := #[.int .i64 a0_0, .int .i64 a0_1, .int .i64 a0_2, .int .i64 a0_3, .int .i64 a0_4, .bool a0_5, .slice A0_6 l0_6.length c0_6, .slice A0_7 l0_7.length c0_7, .slice A0_8 l0_8.length c0_8]) ?_ 6 _ rfl; (with_reducible repeat (first | refine blk_drewN ?_ _ | refine blk_drew ?_ | refine blk_alloc ?_ _)); exact BK233.out) hb); have n4_ := Aside0.mk (below_step (by repeat (first | (with_reducible first | exact HB.out | apply below_alloc | apply pw_below_drewN | apply below_drew1 | refine below_set ?_ GE228.out | refine below_set ?_ GE233.out) | exact HB.out)) hb); clear HO266; clear BK228; clear BK233; clear HB; have HO266 := n0_; have HO269 := n1_; have BK228 := n2_; have BK233 := n3_; have HB := n4_; clear n0_ n1_ n2_ n3_ n4_; (try clear hb); (try clear hb2); (try clear hk); (try clear hi); (try clear ho0)) | ((with_reducible refine gate_callee (f := 16) rfl ?_); refine goesL_ (some 74) rfl rfl Try.func16 (by kernel_rfl) rfl #[] rfl (by (try simp only [List.map_toArray, List.map_cons, List.map_nil]); first | done | rfl | (simp only [List.length_drop, List.length_take]; rfl)) ?_; (with_reducible refine (voklaw16_first.calls kj19  true _ A100.out).mono ?_); rintro e w110 ⟨rfl, hb⟩; refine ⟨_, rfl, ?_⟩; have n0_ := Aside0.mk (Kd.R_below (by (with_reducible repeat (first | apply Kd.R_alloc | apply Kd.R_drewN | apply Kd.R_drew)); exact HO266.out) hb); have n1_ := Aside0.mk (Kd.R_below (by (with_reducible repeat (first | apply Kd.R_alloc | apply Kd.R_drewN | apply Kd.R_drew)); exact HO269.out) hb); have n2_ := Aside0.mk (blk_below (g := gb228) (o := .cells #[.int .i64 a0_0, .int .i64 a0_1, .int .i64 a0_2, .int .i64 a0_3, .int .i64 a0_4, .bool a0_5, .slice A0_6 l0_6.length c0_6, .slice A0_7 l0_7.length c0_7, .slice A0_8 l0_8.length c0_8] 34 (0, 0)) (by (with_reducible repeat (first | refine blk_drewN ?_ _ | refine blk_drew ?_ | refine blk_alloc ?_ _)); exact BK228.out) hb); have n3_ := Aside0.mk (blk_below (g := gb233) (o := .cells #[.int .i64 a0_0, .int .i64 a0_1, .int .i64 a0_2, .int .i64 a0_3, .int .i64 a0_4, .bool a0_5, .slice Ao106 y264.length co106, .slice A0_7 l0_7.length c0_7, .slice A0_8 l0_8.length c0_8] 34 (0, 0)) (by (with_reducible repeat (first | refine blk_drewN ?_ _ | refine blk_drew ?_ | refine blk_alloc ?_ _)); exact BK233.out) hb); have n4_ := Aside0.mk (below_step (by repeat (first | (with_reducible first | exact HB.out | apply below_alloc | apply pw_below_drewN | apply below_drew1 | refine below_set ?_ GE228.out | refine below_set ?_ GE233.out) | exact HB.out)) hb); clear HO266; clear HO269; clear BK228; clear BK233; clear HB; have HO266 := n0_; have HO269 := n1_; have BK228 := n2_; have BK233 := n3_; have HB := n4_; clear n0_ n1_ n2_ n3_ n4_; (try clear hb); (try clear hb2); (try clear hk); (try clear hi); have hcz111_0 : w110.cell? ⟨gb233, 0, none⟩ = some (.int .i64 a0_0) := (blk_cell BK233.out 0).trans rfl; have hcz111_1 : w110.cell? ⟨gb233, 1, none⟩ = some (.int .i64 a0_1) := (blk_cell BK233.out 1).trans rfl; have hcz111_2 : w110.cell? ⟨gb233, 2, none⟩ = some (.int .i64 a0_2) := (blk_cell BK233.out 2).trans rfl; have hcz111_3 : w110.cell? ⟨gb233, 3, none⟩ = some (.int .i64 a0_3) := (blk_cell BK233.out 3).trans rfl; have hcz111_4 : w110.cell? ⟨gb233, 4, none⟩ = some (.int .i64 a0_4) := (blk_cell BK233.out 4).trans rfl; have hcz111_5 : w110.cell? ⟨gb233, 5, none⟩ = some (.bool a0_5) := (blk_cell BK233.out 5).trans rfl; have hcz111_6 : w110.cell? ⟨gb233, 6, none⟩ = some (.slice Ao106 y264.length co106) := (blk_cell BK233.out 6).trans rfl; have hcz111_7 : w110.cell? ⟨gb233, 7, none⟩ = some (.slice A0_7 l0_7.length c0_7) := (blk_cell BK233.out 7).trans rfl; have hcz111_8 : w110.cell? ⟨gb233, 8, none⟩ = some (.slice A0_8 l0_8.length c0_8) := (blk_cell BK233.out 8).trans rfl; have hfz111_0 := blk_frozen BK233.out 0; have hfz111_1 := blk_frozen BK233.out 1; have hfz111_2 := blk_frozen BK233.out 2; have hfz111_3 := blk_frozen BK233.out 3; have hfz111_4 := blk_frozen BK233.out 4; have hfz111_5 := blk_frozen BK233.out 5; have hfz111_6 := blk_frozen BK233.out 6; have hfz111_7 := blk_frozen BK233.out 7; have hfz111_8 := blk_frozen BK233.out 8) | (go_at_call 18; (with_reducible refine (rec_May.calls kj19 a0_0 a0_1 a0_2 a0_3 a0_4 a0_5 _ _ y264 _ _ l0_7 _ _ l0_8 t272 _ ?side1 ?side2 ?side3 ?side4 ?side5 ?side6 A102.out).mono ?_); (case side1 => repeat (first | exact (Kd.R_reads' HO266.out).2.2 | (with_reducible refine Kd.C_alloc ?_ _) | (with_reducible refine Kd.C_drewN ?_ _) | (with_reducible refine Kd.C_drew ?_))); (case side2 => exact (Kd.R_reads' HO266.out).2.1); (case side3 => repeat (first | exact (Kd.C_below HR0_7.out HB.out) | (with_reducible refine Kd.C_alloc ?_ _) | (with_reducible refine Kd.C_drewN ?_ _) | (with_reducible refine Kd.C_drew ?_))); (case side4 => exact HC0_7.out); (case side5 => repeat (first | exact (Kd.C_below HR0_8.out HB.out) | (with_reducible refine Kd.C_alloc ?_ _) | (with_reducible refine Kd.C_drewN ?_ _) | (with_reducible refine Kd.C_drew ?_))); (case side6 => exact HC0_8.out); rintro e w112 ⟨rfl, hb⟩; have n0_ := Aside0.mk (Kd.R_below (by (with_reducible repeat (first | apply Kd.R_alloc | apply Kd.R_drewN | apply Kd.R_drew)); exact HO266.out) hb); have n1_ := Aside0.mk (Kd.R_below (by (with_reducible repeat (first | apply Kd.R_alloc | apply Kd.R_drewN | apply Kd.R_drew)); exact HO269.out) hb); have n2_ := Aside0.mk (blk_below (g := gb228) (o := .cells #[.int .i64 a0_0, .int .i64 a0_1, .int .i64 a0_2, .int .i64 a0_3, .int .i64 a0_4, .bool a0_5, .slice A0_6 l0_6.length c0_6, .slice A0_7 l0_7.length c0_7, .slice A0_8 l0_8.length c0_8] 34 (0, 0)) (by (with_reducible repeat (first | refine blk_drewN ?_ _ | refine blk_drew ?_ | refine blk_alloc ?_ _)); exact BK228.out) hb); have n3_ := Aside0.mk (blk_below (g := gb233) (o := .cells #[.int .i64 a0_0, .int .i64 a0_1, .int .i64 a0_2, .int .i64 a0_3, .int .i64 a0_4, .bool a0_5, .slice Ao106 y264.length co106, .slice A0_7 l0_7.length c0_7, .slice A0_8 l0_8.length c0_8] 34 (0, 0)) (by (with_reducible repeat (first | refine blk_drewN ?_ _ | refine blk_drew ?_ | refine blk_alloc ?_ _)); exact BK233.out) hb); have n4_ := Aside0.mk (below_step (by repeat (first | (with_reducible first | exact HB.out | apply below_alloc | apply pw_below_drewN | apply below_drew1 | refine below_set ?_ GE228.out | refine below_set ?_ GE233.out) | exact HB.out)) hb); clear HO266; clear HO269; clear BK228; clear BK233; clear HB; have HO266 := n0_; have HO269 := n1_; have BK228 := n2_; have BK233 := n3_; have HB := n4_; clear n0_ n1_ n2_ n3_ n4_; (try clear hb); (try clear hb2); (try clear hk); (try clear hi)))
                            all_goals go_ret
                            all_goals first | (exfalso; rename_i hz_; rw [hz_] at c103b0; exact absurd c103b0 (by decide)) | (exfalso; rename_i hz_; exact hz_ (by simpa using c103b0)) | exact ⟨by first | rfl | (simp [errW_none, errW_some] <;> rfl) | (simp [*, errW_none, errW_some] <;> rfl), by repeat (first | (with_reducible first | exact HB.out | apply below_alloc | apply pw_below_drewN | apply below_drew1 | refine below_set ?_ GE228.out | refine below_set ?_ GE233.out) | exact HB.out)⟩
                          · rw [if_neg c103] at H
                            have c103b0 : (t272 == (!(!x6_19))) = false := by simpa using c103
                            (try (have c103b1 : decide (t272 = (!(!x6_19))) = false := by simpa using c103))
                            (try (have c103b2 : (t272 == (!(!x6_19))) = false := by simpa using c103))
                            (try (have c103b3 : ¬ (t272 = (!(!x6_19))) := by simpa using c103))
                            clear c103
                            exact absurd ((Option.some.inj H).trans hT_.out) (by decide)
                        · replace c101 := Bool.eq_false_iff.mpr c101
                          subst c101
                          have H1 : (some false) = some r := by rw [if_neg (show ¬ (false = true) by decide)] at H; exact H
                          clear H
                          have H := H1
                          clear H1
                          exact absurd ((Option.some.inj H).trans hT_.out) (by decide)
                      · rw [if_neg c98] at H
                        have c98b0 : (a1 == 4) = false := beq_eq_false_iff_ne.mpr c98
                        have c98b1 : (a1 != 4) = true := bne_iff_ne.mpr c98
                        by_cases c113 : a1 = 5
                        · rw [if_pos c113] at H
                          have c113b0 : (a1 == 5) = true := beq_iff_eq.mpr c113
                          have c113b1 : (a1 != 5) = false := bne_eq_false_iff_eq.mpr c113
                          clear c113
                          obtain ⟨y273, hy273⟩ : ∃ y_ : List Int, y_ = (([9] : List Int)) := ⟨_, rfl⟩
                          replace H : ((rec_Encode.f kj19 a0_0 a0_1 a0_2 a0_3 a0_4 a0_5 l0_6 l0_7 y273).bind fun bt276 => ((voklaw16_first.f kj19).bind fun t280 => (if t280 = true then ((rec_May.f kj19 a0_0 a0_1 a0_2 a0_3 a0_4 a0_5 l0_6 l0_7 y273).bind fun t281 => (if (t281 == (!(!x6_19))) = true then (some ((bt276.2 == 0) == (!(!x6_19)))) else (some false))) else (some false)))) = some r := by first | (rw [hy273]; with_reducible exact H) | (have H2_ := (Option.bind_some _ _).symm.trans H; rw [hy273]; with_reducible exact H2_) | (have H2_ := (Option.bind_some _ _).symm.trans H; with_reducible exact H2_) | with_reducible exact H | (rw [hy273]; exact H) | exact H
                          have Ny273 := Aside0.mk hy273
                          clear hy273
                          replace H := Option.bind_eq_some_iff.mp H
                          obtain ⟨⟨t276, t279⟩, A1140, H⟩ := H
                          replace H : ((voklaw16_first.f kj19).bind fun t280 => (if t280 = true then ((rec_May.f kj19 a0_0 a0_1 a0_2 a0_3 a0_4 a0_5 l0_6 l0_7 y273).bind fun t281 => (if (t281 == (!(!x6_19))) = true then (some ((t279 == 0) == (!(!x6_19)))) else (some false))) else (some false))) = some r := H
                          have A114 := Aside0.mk A1140
                          clear A1140
                          replace H := Option.bind_eq_some_iff.mp H
                          obtain ⟨t280, A1150, H⟩ := H
                          replace H : (if t280 = true then ((rec_May.f kj19 a0_0 a0_1 a0_2 a0_3 a0_4 a0_5 l0_6 l0_7 y273).bind fun t281 => (if (t281 == (!(!x6_19))) = true then (some ((t279 == 0) == (!(!x6_19)))) else (some false))) else (some false)) = some r := H
                          have A115 := Aside0.mk A1150
                          clear A1150
                          by_cases c116 : t280 = true
                          · subst c116
                            have H1 : ((rec_May.f kj19 a0_0 a0_1 a0_2 a0_3 a0_4 a0_5 l0_6 l0_7 y273).bind fun t281 => (if (t281 == (!(!x6_19))) = true then (some ((t279 == 0) == (!(!x6_19)))) else (some false))) = some r := by rw [if_pos rfl] at H; exact H
                            clear H
                            have H := H1
                            clear H1
                            replace H := Option.bind_eq_some_iff.mp H
                            obtain ⟨t281, A1170, H⟩ := H
                            replace H : (if (t281 == (!(!x6_19))) = true then (some ((t279 == 0) == (!(!x6_19)))) else (some false)) = some r := H
                            have A117 := Aside0.mk A1170
                            clear A1170
                            by_cases c118 : (t281 == (!(!x6_19))) = true
                            · rw [if_pos c118] at H
                              have c118b0 : (t281 == (!(!x6_19))) = true := c118
                              (try (have c118b1 : decide (t281 = (!(!x6_19))) = true := by simpa using c118))
                              (try (have c118b2 : (t281 == (!(!x6_19))) = true := by simpa using c118))
                              clear c118
                              obtain rfl := Option.some.inj H
                              go_wp2_with (first | ((with_reducible refine gate_dst (N := 65) rfl ?_); refine Kd.R_lit (Kd.int .u8) _ 5 ?hg (N := 65) ?hd (xs := ([9] : List Int)) (inner := [.int .u8 9]) (ok := fun _ => True) (okp := fun _ => True) ?hr ?hp (fun _ hk => hk) trivial (Below.refl _ _) (Nat.le_refl _) (by simp) ?_; (case hd => rfl); (case hg => rfl); (case hr => first | (go_simp; done) | (go_simp; rfl)); (case hp => exact (Reps.one (show Kd.M (Kd.int .u8) _ _ _ 9 [.int .u8 9] from rfl) (Reps.none _ _))); intro v274 w119 ho120 hb hg_ hnew_; clear hg_ hnew_; (first | rw [← Ny273.out] at ho120 | (simp only [Int.reduceToNat] at ho120; rw [← Ny273.out] at ho120)); have n0_ := Aside0.mk (Kd.R_lower ho120 (below_size (by repeat (first | (with_reducible first | exact HB.out | apply below_alloc | apply pw_below_drewN | apply below_drew1 | refine below_set ?_ GE228.out | refine below_set ?_ GE233.out) | exact HB.out)))); have n1_ := Aside0.mk (blk_below (g := gb228) (o := .cells #[.int .i64 a0_0, .int .i64 a0_1, .int .i64 a0_2, .int .i64 a0_3, .int .i64 a0_4, .bool a0_5, .slice A0_6 l0_6.length c0_6, .slice A0_7 l0_7.length c0_7, .slice A0_8 l0_8.length c0_8] 34 (0, 0)) (by (with_reducible repeat (first | refine blk_drewN ?_ _ | refine blk_drew ?_ | refine blk_alloc ?_ _)); exact BK228.out) hb); have n2_ := Aside0.mk (blk_below (g := gb233) (o := .cells #[.int .i64 a0_0, .int .i64 a0_1, .int .i64 a0_2, .int .i64 a0_3, .int .i64 a0_4, .bool a0_5, .slice A0_6 l0_6.length c0_6, .slice A0_7 l0_7.length c0_7, .slice A0_8 l0_8.length c0_8] 34 (0, 0)) (by (with_reducible repeat (first | refine blk_drewN ?_ _ | refine blk_drew ?_ | refine blk_alloc ?_ _)); exact BK233.out) hb); have n3_ := Aside0.mk (below_step (by repeat (first | (with_reducible first | exact HB.out | apply below_alloc | apply pw_below_drewN | apply below_drew1 | refine below_set ?_ GE228.out | refine below_set ?_ GE233.out) | exact HB.out)) hb); clear BK228; clear BK233; clear HB; have HO275 := n0_; have BK228 := n1_; have BK233 := n2_; have HB := n3_; clear n0_ n1_ n2_ n3_; clear hb ho120; obtain ⟨Ao121, co121, eo121⟩ := Kd.R_slice HO275.out; subst eo121; have hnb122 := NB233_228.out; have hnc122 := NB228_233.out; have hcz123_0 : w119.cell? ⟨gb233, 0, none⟩ = some (.int .i64 a0_0) := (blk_cell BK233.out 0).trans rfl; have hcz123_1 : w119.cell? ⟨gb233, 1, none⟩ = some (.int .i64 a0_1) := (blk_cell BK233.out 1).trans rfl; have hcz123_2 : w119.cell? ⟨gb233, 2, none⟩ = some (.int .i64 a0_2) := (blk_cell BK233.out 2).trans rfl; have hcz123_3 : w119.cell? ⟨gb233, 3, none⟩ = some (.int .i64 a0_3) := (blk_cell BK233.out 3).trans rfl; have hcz123_4 : w119.cell? ⟨gb233, 4, none⟩ = some (.int .i64 a0_4) := (blk_cell BK233.out 4).trans rfl; have hcz123_5 : w119.cell? ⟨gb233, 5, none⟩ = some (.bool a0_5) := (blk_cell BK233.out 5).trans rfl; have hcz123_6 : w119.cell? ⟨gb233, 6, none⟩ = some (.slice A0_6 l0_6.length c0_6) := (blk_cell BK233.out 6).trans rfl; have hcz123_7 : w119.cell? ⟨gb233, 7, none⟩ = some (.slice A0_7 l0_7.length c0_7) := (blk_cell BK233.out 7).trans rfl; have hcz123_8 : w119.cell? ⟨gb233, 8, none⟩ = some (.slice A0_8 l0_8.length c0_8) := (blk_cell BK233.out 8).trans rfl; have hfz123_0 := blk_frozen BK233.out 0; have hfz123_1 := blk_frozen BK233.out 1; have hfz123_2 := blk_frozen BK233.out 2; have hfz123_3 := blk_frozen BK233.out 3; have hfz123_4 := blk_frozen BK233.out 4; have hfz123_5 := blk_frozen BK233.out 5; have hfz123_6 := blk_frozen BK233.out 6; have hfz123_7 := blk_frozen BK233.out 7; have hfz123_8 := blk_frozen BK233.out 8) | ((with_reducible refine gate_callee (f := 19) rfl ?_); refine goesL_ (some 71) rfl rfl Try.func19 (by kernel_rfl) rfl #[.agg #[.int .i64 a0_0, .int .i64 a0_1, .int .i64 a0_2, .int .i64 a0_3, .int .i64 a0_4, .bool a0_5, .slice A0_6 l0_6.length c0_6, .slice A0_7 l0_7.length c0_7, .slice Ao121 y273.length co121]] rfl (by (try simp only [List.map_toArray, List.map_cons, List.map_nil]); first | done | rfl | (simp only [List.length_drop, List.length_take]; rfl)) ?_; (with_reducible refine (rec_Encode.calls kj19 a0_0 a0_1 a0_2 a0_3 a0_4 a0_5 _ _ l0_6 _ _ l0_7 _ _ y273 t276 t279 _ ?side1 ?side2 ?side3 ?side4 ?side5 ?side6 A114.out).mono ?_); (case side1 => exact Kd.C_below HR0_6.out (by repeat (first | (with_reducible first | exact HB.out | apply below_alloc | apply pw_below_drewN | apply below_drew1 | refine below_set ?_ GE228.out | refine below_set ?_ GE233.out) | exact HB.out))); (case side2 => exact HC0_6.out); (case side3 => exact Kd.C_below HR0_7.out (by repeat (first | (with_reducible first | exact HB.out | apply below_alloc | apply pw_below_drewN | apply below_drew1 | refine below_set ?_ GE228.out | refine below_set ?_ GE233.out) | exact HB.out))); (case side4 => exact HC0_7.out); (case side5 => refine (Kd.R_reads' (e := 5) (base := w.heap.size) (ok := fun k_ => True) (n := y273.length) (c := co121) ?_).2.2; exact (by (with_reducible repeat (first | apply Kd.R_alloc | apply Kd.R_drewN | apply Kd.R_drew)); exact (Kd.R_mono (Kd.R_far (p := ⟨gb233, 8, none⟩) (Kd.R_types HO275.out BK233.out (by decide)) (fun _ hk => hk.2) (.slice Ao121 y273.length co121)) (fun _ h_ => h_.1)))); (case side6 => exact (Kd.R_reads' HO275.out).2.1); rintro e w124 ⟨v277, rfl, ho0, hb⟩; refine ⟨_, rfl, ?_⟩; have n0_ := Aside0.mk (Kd.R_elder' (by (with_reducible repeat (first | apply Kd.R_alloc | apply Kd.R_drewN | apply Kd.R_drew)); exact (Kd.R_mono (Kd.R_far (p := ⟨gb233, 8, none⟩) (Kd.R_types HO275.out BK233.out (by decide)) (fun _ hk => hk.2) (.slice Ao121 y273.length co121)) (fun _ h_ => h_.1))) (Kd.R_base ho0) hb); have n1_ := Aside0.mk (Kd.R_lower (Kd.R_new' ho0 (Kd.R_lt (by (with_reducible repeat (first | apply Kd.R_alloc | apply Kd.R_drewN | apply Kd.R_drew)); exact (Kd.R_mono (Kd.R_far (p := ⟨gb233, 8, none⟩) (Kd.R_types HO275.out BK233.out (by decide)) (fun _ hk => hk.2) (.slice Ao121 y273.length co121)) (fun _ h_ => h_.1))))) (below_size (by repeat (first | (with_reducible first | exact HB.out | apply below_alloc | apply pw_below_drewN | apply below_drew1 | refine below_set ?_ GE228.out | refine below_set ?_ GE233.out) | exact HB.out)))); have n2_ := Aside0.mk (blk_below (g := gb228) (o := .cells #[.int .i64 a0_0, .int .i64 a0_1, .int .i64 a0_2, .int .i64 a0_3, .int .i64 a0_4, .bool a0_5, .slice A0_6 l0_6.length c0_6, .slice A0_7 l0_7.length c0_7, .slice A0_8 l0_8.length c0_8] 34 (0, 0)) (by (with_reducible repeat (first | refine blk_drewN ?_ _ | refine blk_drew ?_ | refine blk_alloc ?_ _)); refine blk_far ?_ NB228_233.out _; (with_reducible repeat (first | refine blk_drewN ?_ _ | refine blk_drew ?_ | refine blk_alloc ?_ _)); exact BK228.out) hb); have n3_ := Aside0.mk (blk_below (g := gb233) (o := .cells #[.int .i64 a0_0, .int .i64 a0_1, .int .i64 a0_2, .int .i64 a0_3, .int .i64 a0_4, .bool a0_5, .slice A0_6 l0_6.length c0_6, .slice A0_7 l0_7.length c0_7, .slice Ao121 y273.length co121] 34 (0, 0)) (by (with_reducible repeat (first | refine blk_drewN ?_ _ | refine blk_drew ?_ | refine blk_alloc ?_ _)); refine blk_put (cs := #[.int .i64 a0_0, .int .i64 a0_1, .int .i64 a0_2, .int .i64 a0_3, .int .i64 a0_4, .bool a0_5, .slice A0_6 l0_6.length c0_6, .slice A0_7 l0_7.length c0_7, .slice A0_8 l0_8.length c0_8]) ?_ 8 _ rfl; (with_reducible repeat (first | refine blk_drewN ?_ _ | refine blk_drew ?_ | refine blk_alloc ?_ _)); exact BK233.out) hb); have n4_ := Aside0.mk (below_step (by repeat (first | (with_reducible first | exact HB.out | apply below_alloc | apply pw_below_drewN | apply below_drew1 | refine below_set ?_ GE228.out | refine below_set ?_ GE233.out) | exact HB.out)) hb); clear HO275; clear BK228; clear BK233; clear HB; have HO275 := n0_; have HO278 := n1_; have BK228 := n2_; have BK233 := n3_; have HB := n4_; clear n0_ n1_ n2_ n3_ n4_; (try clear hb); (try clear hb2); (try clear hk); (try clear hi); (try clear ho0)) | ((with_reducible refine gate_callee (f := 16) rfl ?_); refine goesL_ (some 74) rfl rfl Try.func16 (by kernel_rfl) rfl #[] rfl (by (try simp only [List.map_toArray, List.map_cons, List.map_nil]); first | done | rfl | (simp only [List.length_drop, List.length_take]; rfl)) ?_; (with_reducible refine (voklaw16_first.calls kj19  true _ A115.out).mono ?_); rintro e w125 ⟨rfl, hb⟩; refine ⟨_, rfl, ?_⟩; have n0_ := Aside0.mk (Kd.R_below (by (with_reducible repeat (first | apply Kd.R_alloc | apply Kd.R_drewN | apply Kd.R_drew)); exact HO275.out) hb); have n1_ := Aside0.mk (Kd.R_below (by (with_reducible repeat (first | apply Kd.R_alloc | apply Kd.R_drewN | apply Kd.R_drew)); exact HO278.out) hb); have n2_ := Aside0.mk (blk_below (g := gb228) (o := .cells #[.int .i64 a0_0, .int .i64 a0_1, .int .i64 a0_2, .int .i64 a0_3, .int .i64 a0_4, .bool a0_5, .slice A0_6 l0_6.length c0_6, .slice A0_7 l0_7.length c0_7, .slice A0_8 l0_8.length c0_8] 34 (0, 0)) (by (with_reducible repeat (first | refine blk_drewN ?_ _ | refine blk_drew ?_ | refine blk_alloc ?_ _)); exact BK228.out) hb); have n3_ := Aside0.mk (blk_below (g := gb233) (o := .cells #[.int .i64 a0_0, .int .i64 a0_1, .int .i64 a0_2, .int .i64 a0_3, .int .i64 a0_4, .bool a0_5, .slice A0_6 l0_6.length c0_6, .slice A0_7 l0_7.length c0_7, .slice Ao121 y273.length co121] 34 (0, 0)) (by (with_reducible repeat (first | refine blk_drewN ?_ _ | refine blk_drew ?_ | refine blk_alloc ?_ _)); exact BK233.out) hb); have n4_ := Aside0.mk (below_step (by repeat (first | (with_reducible first | exact HB.out | apply below_alloc | apply pw_below_drewN | apply below_drew1 | refine below_set ?_ GE228.out | refine below_set ?_ GE233.out) | exact HB.out)) hb); clear HO275; clear HO278; clear BK228; clear BK233; clear HB; have HO275 := n0_; have HO278 := n1_; have BK228 := n2_; have BK233 := n3_; have HB := n4_; clear n0_ n1_ n2_ n3_ n4_; (try clear hb); (try clear hb2); (try clear hk); (try clear hi); have hcz126_0 : w125.cell? ⟨gb233, 0, none⟩ = some (.int .i64 a0_0) := (blk_cell BK233.out 0).trans rfl; have hcz126_1 : w125.cell? ⟨gb233, 1, none⟩ = some (.int .i64 a0_1) := (blk_cell BK233.out 1).trans rfl; have hcz126_2 : w125.cell? ⟨gb233, 2, none⟩ = some (.int .i64 a0_2) := (blk_cell BK233.out 2).trans rfl; have hcz126_3 : w125.cell? ⟨gb233, 3, none⟩ = some (.int .i64 a0_3) := (blk_cell BK233.out 3).trans rfl; have hcz126_4 : w125.cell? ⟨gb233, 4, none⟩ = some (.int .i64 a0_4) := (blk_cell BK233.out 4).trans rfl; have hcz126_5 : w125.cell? ⟨gb233, 5, none⟩ = some (.bool a0_5) := (blk_cell BK233.out 5).trans rfl; have hcz126_6 : w125.cell? ⟨gb233, 6, none⟩ = some (.slice A0_6 l0_6.length c0_6) := (blk_cell BK233.out 6).trans rfl; have hcz126_7 : w125.cell? ⟨gb233, 7, none⟩ = some (.slice A0_7 l0_7.length c0_7) := (blk_cell BK233.out 7).trans rfl; have hcz126_8 : w125.cell? ⟨gb233, 8, none⟩ = some (.slice Ao121 y273.length co121) := (blk_cell BK233.out 8).trans rfl; have hfz126_0 := blk_frozen BK233.out 0; have hfz126_1 := blk_frozen BK233.out 1; have hfz126_2 := blk_frozen BK233.out 2; have hfz126_3 := blk_frozen BK233.out 3; have hfz126_4 := blk_frozen BK233.out 4; have hfz126_5 := blk_frozen BK233.out 5; have hfz126_6 := blk_frozen BK233.out 6; have hfz126_7 := blk_frozen BK233.out 7; have hfz126_8 := blk_frozen BK233.out 8) | (go_at_call 18; (with_reducible refine (rec_May.calls kj19 a0_0 a0_1 a0_2 a0_3 a0_4 a0_5 _ _ l0_6 _ _ l0_7 _ _ y273 t281 _ ?side1 ?side2 ?side3 ?side4 ?side5 ?side6 A117.out).mono ?_); (case side1 => repeat (first | exact (Kd.C_below HR0_6.out HB.out) | (with_reducible refine Kd.C_alloc ?_ _) | (with_reducible refine Kd.C_drewN ?_ _) | (with_reducible refine Kd.C_drew ?_))); (case side2 => exact HC0_6.out); (case side3 => repeat (first | exact (Kd.C_below HR0_7.out HB.out) | (with_reducible refine Kd.C_alloc ?_ _) | (with_reducible refine Kd.C_drewN ?_ _) | (with_reducible refine Kd.C_drew ?_))); (case side4 => exact HC0_7.out); (case side5 => repeat (first | exact (Kd.R_reads' HO275.out).2.2 | (with_reducible refine Kd.C_alloc ?_ _) | (with_reducible refine Kd.C_drewN ?_ _) | (with_reducible refine Kd.C_drew ?_))); (case side6 => exact (Kd.R_reads' HO275.out).2.1); rintro e w127 ⟨rfl, hb⟩; have n0_ := Aside0.mk (Kd.R_below (by (with_reducible repeat (first | apply Kd.R_alloc | apply Kd.R_drewN | apply Kd.R_drew)); exact HO275.out) hb); have n1_ := Aside0.mk (Kd.R_below (by (with_reducible repeat (first | apply Kd.R_alloc | apply Kd.R_drewN | apply Kd.R_drew)); exact HO278.out) hb); have n2_ := Aside0.mk (blk_below (g := gb228) (o := .cells #[.int .i64 a0_0, .int .i64 a0_1, .int .i64 a0_2, .int .i64 a0_3, .int .i64 a0_4, .bool a0_5, .slice A0_6 l0_6.length c0_6, .slice A0_7 l0_7.length c0_7, .slice A0_8 l0_8.length c0_8] 34 (0, 0)) (by (with_reducible repeat (first | refine blk_drewN ?_ _ | refine blk_drew ?_ | refine blk_alloc ?_ _)); exact BK228.out) hb); have n3_ := Aside0.mk (blk_below (g := gb233) (o := .cells #[.int .i64 a0_0, .int .i64 a0_1, .int .i64 a0_2, .int .i64 a0_3, .int .i64 a0_4, .bool a0_5, .slice A0_6 l0_6.length c0_6, .slice A0_7 l0_7.length c0_7, .slice Ao121 y273.length co121] 34 (0, 0)) (by (with_reducible repeat (first | refine blk_drewN ?_ _ | refine blk_drew ?_ | refine blk_alloc ?_ _)); exact BK233.out) hb); have n4_ := Aside0.mk (below_step (by repeat (first | (with_reducible first | exact HB.out | apply below_alloc | apply pw_below_drewN | apply below_drew1 | refine below_set ?_ GE228.out | refine below_set ?_ GE233.out) | exact HB.out)) hb); clear HO275; clear HO278; clear BK228; clear BK233; clear HB; have HO275 := n0_; have HO278 := n1_; have BK228 := n2_; have BK233 := n3_; have HB := n4_; clear n0_ n1_ n2_ n3_ n4_; (try clear hb); (try clear hb2); (try clear hk); (try clear hi)))
                              all_goals go_ret
                              all_goals first | (exfalso; rename_i hz_; rw [hz_] at c118b0; exact absurd c118b0 (by decide)) | (exfalso; rename_i hz_; exact hz_ (by simpa using c118b0)) | exact ⟨by first | rfl | (simp [errW_none, errW_some] <;> rfl) | (simp [*, errW_none, errW_some] <;> rfl), by repeat (first | (with_reducible first | exact HB.out | apply below_alloc | apply pw_below_drewN | apply below_drew1 | refine below_set ?_ GE228.out | refine below_set ?_ GE233.out) | exact HB.out)⟩
                            · rw [if_neg c118] at H
                              have c118b0 : (t281 == (!(!x6_19))) = false := by simpa using c118
                              (try (have c118b1 : decide (t281 = (!(!x6_19))) = false := by simpa using c118))
                              (try (have c118b2 : (t281 == (!(!x6_19))) = false := by simpa using c118))
                              (try (have c118b3 : ¬ (t281 = (!(!x6_19))) := by simpa using c118))
                              clear c118
                              exact absurd ((Option.some.inj H).trans hT_.out) (by decide)
                          · replace c116 := Bool.eq_false_iff.mpr c116
                            subst c116
                            have H1 : (some false) = some r := by rw [if_neg (show ¬ (false = true) by decide)] at H; exact H
                            clear H
                            have H := H1
                            clear H1
                            exact absurd ((Option.some.inj H).trans hT_.out) (by decide)
                        · rw [if_neg c113] at H
                          have c113b0 : (a1 == 5) = false := beq_eq_false_iff_ne.mpr c113
                          have c113b1 : (a1 != 5) = true := bne_iff_ne.mpr c113
                          replace H := Option.bind_eq_some_iff.mp H
                          obtain ⟨⟨t282, t285⟩, A1280, H⟩ := H
                          replace H : ((voklaw16_first.f kj19).bind fun t286 => (if t286 = true then ((rec_May.f kj19 7 a0_1 a0_2 a0_3 a0_4 a0_5 l0_6 l0_7 l0_8).bind fun t287 => (if (t287 == (!true)) = true then (some ((t285 == 0) == (!true))) else (some false))) else (some false))) = some r := H
                          have A128 := Aside0.mk A1280
                          clear A1280
                          replace H := Option.bind_eq_some_iff.mp H
                          obtain ⟨t286, A1290, H⟩ := H
                          replace H : (if t286 = true then ((rec_May.f kj19 7 a0_1 a0_2 a0_3 a0_4 a0_5 l0_6 l0_7 l0_8).bind fun t287 => (if (t287 == (!true)) = true then (some ((t285 == 0) == (!true))) else (some false))) else (some false)) = some r := H
                          have A129 := Aside0.mk A1290
                          clear A1290
                          by_cases c130 : t286 = true
                          · subst c130
                            have H1 : ((rec_May.f kj19 7 a0_1 a0_2 a0_3 a0_4 a0_5 l0_6 l0_7 l0_8).bind fun t287 => (if (t287 == (!true)) = true then (some ((t285 == 0) == (!true))) else (some false))) = some r := by rw [if_pos rfl] at H; exact H
                            clear H
                            have H := H1
                            clear H1
                            replace H := Option.bind_eq_some_iff.mp H
                            obtain ⟨t287, A1310, H⟩ := H
                            replace H : (if (t287 == (!true)) = true then (some ((t285 == 0) == (!true))) else (some false)) = some r := H
                            have A131 := Aside0.mk A1310
                            clear A1310
                            by_cases c132 : (t287 == (!true)) = true
                            · rw [if_pos c132] at H
                              have c132b0 : (t287 == (!true)) = true := c132
                              (try (have c132b1 : decide (t287 = (!true)) = true := by simpa using c132))
                              (try (have c132b2 : (t287 == (!true)) = true := by simpa using c132))
                              clear c132
                              obtain rfl := Option.some.inj H
                              have hnb133 := NB233_228.out
                              have hnc133 := NB228_233.out
                              have hcz134_0 : wc.cell? ⟨gb233, 0, none⟩ = some (.int .i64 a0_0) := (blk_cell BK233.out 0).trans rfl
                              have hcz134_1 : wc.cell? ⟨gb233, 1, none⟩ = some (.int .i64 a0_1) := (blk_cell BK233.out 1).trans rfl
                              have hcz134_2 : wc.cell? ⟨gb233, 2, none⟩ = some (.int .i64 a0_2) := (blk_cell BK233.out 2).trans rfl
                              have hcz134_3 : wc.cell? ⟨gb233, 3, none⟩ = some (.int .i64 a0_3) := (blk_cell BK233.out 3).trans rfl
                              have hcz134_4 : wc.cell? ⟨gb233, 4, none⟩ = some (.int .i64 a0_4) := (blk_cell BK233.out 4).trans rfl
                              have hcz134_5 : wc.cell? ⟨gb233, 5, none⟩ = some (.bool a0_5) := (blk_cell BK233.out 5).trans rfl
                              have hcz134_6 : wc.cell? ⟨gb233, 6, none⟩ = some (.slice A0_6 l0_6.length c0_6) := (blk_cell BK233.out 6).trans rfl
                              have hcz134_7 : wc.cell? ⟨gb233, 7, none⟩ = some (.slice A0_7 l0_7.length c0_7) := (blk_cell BK233.out 7).trans rfl
                              have hcz134_8 : wc.cell? ⟨gb233, 8, none⟩ = some (.slice A0_8 l0_8.length c0_8) := (blk_cell BK233.out 8).trans rfl
                              have hfz134_0 := blk_frozen BK233.out 0
                              have hfz134_1 := blk_frozen BK233.out 1
                              have hfz134_2 := blk_frozen BK233.out 2
                              have hfz134_3 := blk_frozen BK233.out 3
                              have hfz134_4 := blk_frozen BK233.out 4
                              have hfz134_5 := blk_frozen BK233.out 5
                              have hfz134_6 := blk_frozen BK233.out 6
                              have hfz134_7 := blk_frozen BK233.out 7
                              have hfz134_8 := blk_frozen BK233.out 8
                              go_wp2_with (first | ((with_reducible refine gate_callee (f := 19) rfl ?_); refine goesL_ (some 71) rfl rfl Try.func19 (by kernel_rfl) rfl #[.agg #[.int .i64 7, .int .i64 a0_1, .int .i64 a0_2, .int .i64 a0_3, .int .i64 a0_4, .bool a0_5, .slice A0_6 l0_6.length c0_6, .slice A0_7 l0_7.length c0_7, .slice A0_8 l0_8.length c0_8]] rfl (by (try simp only [List.map_toArray, List.map_cons, List.map_nil]); first | done | rfl | (simp only [List.length_drop, List.length_take]; rfl)) ?_; (with_reducible refine (rec_Encode.calls kj19 7 a0_1 a0_2 a0_3 a0_4 a0_5 _ _ l0_6 _ _ l0_7 _ _ l0_8 t282 t285 _ ?side1 ?side2 ?side3 ?side4 ?side5 ?side6 A128.out).mono ?_); (case side1 => exact Kd.C_below HR0_6.out (by repeat (first | (with_reducible first | exact HB.out | apply below_alloc | apply pw_below_drewN | apply below_drew1 | refine below_set ?_ GE228.out | refine below_set ?_ GE233.out) | exact HB.out))); (case side2 => exact HC0_6.out); (case side3 => exact Kd.C_below HR0_7.out (by repeat (first | (with_reducible first | exact HB.out | apply below_alloc | apply pw_below_drewN | apply below_drew1 | refine below_set ?_ GE228.out | refine below_set ?_ GE233.out) | exact HB.out))); (case side4 => exact HC0_7.out); (case side5 => exact Kd.C_below HR0_8.out (by repeat (first | (with_reducible first | exact HB.out | apply below_alloc | apply pw_below_drewN | apply below_drew1 | refine below_set ?_ GE228.out | refine below_set ?_ GE233.out) | exact HB.out))); (case side6 => exact HC0_8.out); rintro e w135 ⟨v283, rfl, ho0, hb⟩; refine ⟨_, rfl, ?_⟩; have n0_ := Aside0.mk (Kd.R_lower ho0 (below_size (by repeat (first | (with_reducible first | exact HB.out | apply below_alloc | apply pw_below_drewN | apply below_drew1 | refine below_set ?_ GE228.out | refine below_set ?_ GE233.out) | exact HB.out)))); have n1_ := Aside0.mk (blk_below (g := gb228) (o := .cells #[.int .i64 a0_0, .int .i64 a0_1, .int .i64 a0_2, .int .i64 a0_3, .int .i64 a0_4, .bool a0_5, .slice A0_6 l0_6.length c0_6, .slice A0_7 l0_7.length c0_7, .slice A0_8 l0_8.length c0_8] 34 (0, 0)) (by (with_reducible repeat (first | refine blk_drewN ?_ _ | refine blk_drew ?_ | refine blk_alloc ?_ _)); refine blk_far ?_ NB228_233.out _; (with_reducible repeat (first | refine blk_drewN ?_ _ | refine blk_drew ?_ | refine blk_alloc ?_ _)); exact BK228.out) hb); have n2_ := Aside0.mk (blk_below (g := gb233) (o := .cells #[.int .i64 7, .int .i64 a0_1, .int .i64 a0_2, .int .i64 a0_3, .int .i64 a0_4, .bool a0_5, .slice A0_6 l0_6.length c0_6, .slice A0_7 l0_7.length c0_7, .slice A0_8 l0_8.length c0_8] 34 (0, 0)) (by (with_reducible repeat (first | refine blk_drewN ?_ _ | refine blk_drew ?_ | refine blk_alloc ?_ _)); refine blk_put (cs := #[.int .i64 a0_0, .int .i64 a0_1, .int .i64 a0_2, .int .i64 a0_3, .int .i64 a0_4, .bool a0_5, .slice A0_6 l0_6.length c0_6, .slice A0_7 l0_7.length c0_7, .slice A0_8 l0_8.length c0_8]) ?_ 0 _ rfl; (with_reducible repeat (first | refine blk_drewN ?_ _ | refine blk_drew ?_ | refine blk_alloc ?_ _)); exact BK233.out) hb); have n3_ := Aside0.mk (below_step (by repeat (first | (with_reducible first | exact HB.out | apply below_alloc | apply pw_below_drewN | apply below_drew1 | refine below_set ?_ GE228.out | refine below_set ?_ GE233.out) | exact HB.out)) hb); clear BK228; clear BK233; clear HB; have HO284 := n0_; have BK228 := n1_; have BK233 := n2_; have HB := n3_; clear n0_ n1_ n2_ n3_; (try clear hb); (try clear hb2); (try clear hk); (try clear hi); (try clear ho0)) | ((with_reducible refine gate_callee (f := 16) rfl ?_); refine goesL_ (some 74) rfl rfl Try.func16 (by kernel_rfl) rfl #[] rfl (by (try simp only [List.map_toArray, List.map_cons, List.map_nil]); first | done | rfl | (simp only [List.length_drop, List.length_take]; rfl)) ?_; (with_reducible refine (voklaw16_first.calls kj19  true _ A129.out).mono ?_); rintro e w136 ⟨rfl, hb⟩; refine ⟨_, rfl, ?_⟩; have n0_ := Aside0.mk (Kd.R_below (by (with_reducible repeat (first | apply Kd.R_alloc | apply Kd.R_drewN | apply Kd.R_drew)); exact HO284.out) hb); have n1_ := Aside0.mk (blk_below (g := gb228) (o := .cells #[.int .i64 a0_0, .int .i64 a0_1, .int .i64 a0_2, .int .i64 a0_3, .int .i64 a0_4, .bool a0_5, .slice A0_6 l0_6.length c0_6, .slice A0_7 l0_7.length c0_7, .slice A0_8 l0_8.length c0_8] 34 (0, 0)) (by (with_reducible repeat (first | refine blk_drewN ?_ _ | refine blk_drew ?_ | refine blk_alloc ?_ _)); exact BK228.out) hb); have n2_ := Aside0.mk (blk_below (g := gb233) (o := .cells #[.int .i64 7, .int .i64 a0_1, .int .i64 a0_2, .int .i64 a0_3, .int .i64 a0_4, .bool a0_5, .slice A0_6 l0_6.length c0_6, .slice A0_7 l0_7.length c0_7, .slice A0_8 l0_8.length c0_8] 34 (0, 0)) (by (with_reducible repeat (first | refine blk_drewN ?_ _ | refine blk_drew ?_ | refine blk_alloc ?_ _)); exact BK233.out) hb); have n3_ := Aside0.mk (below_step (by repeat (first | (with_reducible first | exact HB.out | apply below_alloc | apply pw_below_drewN | apply below_drew1 | refine below_set ?_ GE228.out | refine below_set ?_ GE233.out) | exact HB.out)) hb); clear HO284; clear BK228; clear BK233; clear HB; have HO284 := n0_; have BK228 := n1_; have BK233 := n2_; have HB := n3_; clear n0_ n1_ n2_ n3_; (try clear hb); (try clear hb2); (try clear hk); (try clear hi); have hcz137_0 : w136.cell? ⟨gb233, 0, none⟩ = some (.int .i64 7) := (blk_cell BK233.out 0).trans rfl; have hcz137_1 : w136.cell? ⟨gb233, 1, none⟩ = some (.int .i64 a0_1) := (blk_cell BK233.out 1).trans rfl; have hcz137_2 : w136.cell? ⟨gb233, 2, none⟩ = some (.int .i64 a0_2) := (blk_cell BK233.out 2).trans rfl; have hcz137_3 : w136.cell? ⟨gb233, 3, none⟩ = some (.int .i64 a0_3) := (blk_cell BK233.out 3).trans rfl; have hcz137_4 : w136.cell? ⟨gb233, 4, none⟩ = some (.int .i64 a0_4) := (blk_cell BK233.out 4).trans rfl; have hcz137_5 : w136.cell? ⟨gb233, 5, none⟩ = some (.bool a0_5) := (blk_cell BK233.out 5).trans rfl; have hcz137_6 : w136.cell? ⟨gb233, 6, none⟩ = some (.slice A0_6 l0_6.length c0_6) := (blk_cell BK233.out 6).trans rfl; have hcz137_7 : w136.cell? ⟨gb233, 7, none⟩ = some (.slice A0_7 l0_7.length c0_7) := (blk_cell BK233.out 7).trans rfl; have hcz137_8 : w136.cell? ⟨gb233, 8, none⟩ = some (.slice A0_8 l0_8.length c0_8) := (blk_cell BK233.out 8).trans rfl; have hfz137_0 := blk_frozen BK233.out 0; have hfz137_1 := blk_frozen BK233.out 1; have hfz137_2 := blk_frozen BK233.out 2; have hfz137_3 := blk_frozen BK233.out 3; have hfz137_4 := blk_frozen BK233.out 4; have hfz137_5 := blk_frozen BK233.out 5; have hfz137_6 := blk_frozen BK233.out 6; have hfz137_7 := blk_frozen BK233.out 7; have hfz137_8 := blk_frozen BK233.out 8) | (go_at_call 18; (with_reducible refine (rec_May.calls kj19 7 a0_1 a0_2 a0_3 a0_4 a0_5 _ _ l0_6 _ _ l0_7 _ _ l0_8 t287 _ ?side1 ?side2 ?side3 ?side4 ?side5 ?side6 A131.out).mono ?_); (case side1 => repeat (first | exact (Kd.C_below HR0_6.out HB.out) | (with_reducible refine Kd.C_alloc ?_ _) | (with_reducible refine Kd.C_drewN ?_ _) | (with_reducible refine Kd.C_drew ?_))); (case side2 => exact HC0_6.out); (case side3 => repeat (first | exact (Kd.C_below HR0_7.out HB.out) | (with_reducible refine Kd.C_alloc ?_ _) | (with_reducible refine Kd.C_drewN ?_ _) | (with_reducible refine Kd.C_drew ?_))); (case side4 => exact HC0_7.out); (case side5 => repeat (first | exact (Kd.C_below HR0_8.out HB.out) | (with_reducible refine Kd.C_alloc ?_ _) | (with_reducible refine Kd.C_drewN ?_ _) | (with_reducible refine Kd.C_drew ?_))); (case side6 => exact HC0_8.out); rintro e w138 ⟨rfl, hb⟩; have n0_ := Aside0.mk (Kd.R_below (by (with_reducible repeat (first | apply Kd.R_alloc | apply Kd.R_drewN | apply Kd.R_drew)); exact HO284.out) hb); have n1_ := Aside0.mk (blk_below (g := gb228) (o := .cells #[.int .i64 a0_0, .int .i64 a0_1, .int .i64 a0_2, .int .i64 a0_3, .int .i64 a0_4, .bool a0_5, .slice A0_6 l0_6.length c0_6, .slice A0_7 l0_7.length c0_7, .slice A0_8 l0_8.length c0_8] 34 (0, 0)) (by (with_reducible repeat (first | refine blk_drewN ?_ _ | refine blk_drew ?_ | refine blk_alloc ?_ _)); exact BK228.out) hb); have n2_ := Aside0.mk (blk_below (g := gb233) (o := .cells #[.int .i64 7, .int .i64 a0_1, .int .i64 a0_2, .int .i64 a0_3, .int .i64 a0_4, .bool a0_5, .slice A0_6 l0_6.length c0_6, .slice A0_7 l0_7.length c0_7, .slice A0_8 l0_8.length c0_8] 34 (0, 0)) (by (with_reducible repeat (first | refine blk_drewN ?_ _ | refine blk_drew ?_ | refine blk_alloc ?_ _)); exact BK233.out) hb); have n3_ := Aside0.mk (below_step (by repeat (first | (with_reducible first | exact HB.out | apply below_alloc | apply pw_below_drewN | apply below_drew1 | refine below_set ?_ GE228.out | refine below_set ?_ GE233.out) | exact HB.out)) hb); clear HO284; clear BK228; clear BK233; clear HB; have HO284 := n0_; have BK228 := n1_; have BK233 := n2_; have HB := n3_; clear n0_ n1_ n2_ n3_; (try clear hb); (try clear hb2); (try clear hk); (try clear hi)))
                              all_goals go_ret
                              all_goals first | (exfalso; rename_i hz_; rw [hz_] at c132b0; exact absurd c132b0 (by decide)) | (exfalso; rename_i hz_; exact hz_ (by simpa using c132b0)) | exact ⟨by first | rfl | (simp [errW_none, errW_some] <;> rfl) | (simp [*, errW_none, errW_some] <;> rfl), by repeat (first | (with_reducible first | exact HB.out | apply below_alloc | apply pw_below_drewN | apply below_drew1 | refine below_set ?_ GE228.out | refine below_set ?_ GE233.out) | exact HB.out)⟩
                            · rw [if_neg c132] at H
                              have c132b0 : (t287 == (!true)) = false := by simpa using c132
                              (try (have c132b1 : decide (t287 = (!true)) = false := by simpa using c132))
                              (try (have c132b2 : (t287 == (!true)) = false := by simpa using c132))
                              (try (have c132b3 : ¬ (t287 = (!true)) := by simpa using c132))
                              clear c132
                              exact absurd ((Option.some.inj H).trans hT_.out) (by decide)
                          · replace c130 := Bool.eq_false_iff.mpr c130
                            subst c130
                            have H1 : (some false) = some r := by rw [if_neg (show ¬ (false = true) by decide)] at H; exact H
                            clear H
                            have H := H1
                            clear H1
                            exact absurd ((Option.some.inj H).trans hT_.out) (by decide)
  · replace c4 := Bool.eq_false_iff.mpr c4
    subst c4
    have H1 : (some false) = some r := by rw [if_neg (show ¬ (false = true) by decide)] at H; exact H
    clear H
    have H := H1
    clear H1
    exact absurd ((Option.some.inj H).trans hT_.out) (by decide)

end Go.Proofs.Ytleljfmhefobeaa.GA
