-- laid by a program of this session (print_proof, changed for laws over structs)
import Derived.Test.YtleljfmhefobeaaGKx0
import Derived.Test.YtleljfmhefobeaaGKx1
import Derived.Test.YtleljfmhefobeaaGKx6
namespace Go.Proofs.Ytleljfmhefobeaa.GK
open Go.RowKit Go.Proofs.YtleljfmhefobeaaW.PrintWords Go.Proofs.YtleljfmhefobeaaW.PrintLast Go.Proofs.YtleljfmhefobeaaW.PrintMore
attribute [local go_sem] max2_int min2_int max_two min_two max_three min_three max_four min_four   -- for this text's walks alone
set_option linter.unusedVariables false
set_option linter.unusedSimpArgs false

attribute [local go_sem high] eqA23
/-! ### wire_Same: function 22 -/
def wire_Same.j0 : Nat → Bool → Int → Int → Int → Int → Int → Int → Int → Int → Int → Bool → Int → Int → List Int → List Int → List Int → Int → Int → Int → Int → Int → Int → Int → Int → Int → Bool → Int → Int → List Int → List Int → List Int → Option (Bool)
  | 0, _, _, _, _, _, _, _, _, _, _, _, _, _, _, _, _, _, _, _, _, _, _, _, _, _, _, _, _, _, _, _ => none
  | k + 1, x79, x166000, x166001, x166002, x166003, x166004, x166005, x166006, x166007, x166008, x166009, x166010, x166011, x166012, x166013, x166014, x167000, x167001, x167002, x167003, x167004, x167005, x167006, x167007, x167008, x167009, x167010, x167011, x167012, x167013, x167014 => if x79 = true then (some false) else ((slices_Equal_int_int.f k x166012 x167012).bind fun t167 => (if t167 = true then ((slices_Equal_int_int.f k x166013 x167013).bind fun t168 => (if t168 = true then ((bytes_Equal.f x166014 x167014).bind fun t169 => (some t169)) else (some false))) else (some false)))
def wire_Same.f (k : Nat) (a0_0 : Int) (a0_1 : Int) (a0_2 : Int) (a0_3 : Int) (a0_4 : Int) (a0_5 : Int) (a0_6 : Int) (a0_7 : Int) (a0_8 : Int) (a0_9 : Bool) (a0_10 : Int) (a0_11 : Int) (l0_12 : List Int) (l0_13 : List Int) (l0_14 : List Int) (a1_0 : Int) (a1_1 : Int) (a1_2 : Int) (a1_3 : Int) (a1_4 : Int) (a1_5 : Int) (a1_6 : Int) (a1_7 : Int) (a1_8 : Int) (a1_9 : Bool) (a1_10 : Int) (a1_11 : Int) (l1_12 : List Int) (l1_13 : List Int) (l1_14 : List Int) : Option (Bool) := if a0_0 = a1_0 then (if a0_1 = a1_1 then (if a0_2 = a1_2 then (if a0_3 = a1_3 then (if a0_4 = a1_4 then (if a0_5 = a1_5 then (if a0_6 = a1_6 then (if a0_7 = a1_7 then (if a0_8 = a1_8 then (if (a0_9 != a1_9) = true then (wire_Same.j0 k true a0_0 a0_1 a0_2 a0_3 a0_4 a0_5 a0_6 a0_7 a0_8 a0_9 a0_10 a0_11 l0_12 l0_13 l0_14 a1_0 a1_1 a1_2 a1_3 a1_4 a1_5 a1_6 a1_7 a1_8 a1_9 a1_10 a1_11 l1_12 l1_13 l1_14) else (wire_Same.j0 k (!(a0_10 == a1_10) || (!(a0_11 == a1_11))) a0_0 a0_1 a0_2 a0_3 a0_4 a0_5 a0_6 a0_7 a0_8 a0_9 a0_10 a0_11 l0_12 l0_13 l0_14 a1_0 a1_1 a1_2 a1_3 a1_4 a1_5 a1_6 a1_7 a1_8 a1_9 a1_10 a1_11 l1_12 l1_13 l1_14)) else (wire_Same.j0 k true a0_0 a0_1 a0_2 a0_3 a0_4 a0_5 a0_6 a0_7 a0_8 a0_9 a0_10 a0_11 l0_12 l0_13 l0_14 a1_0 a1_1 a1_2 a1_3 a1_4 a1_5 a1_6 a1_7 a1_8 a1_9 a1_10 a1_11 l1_12 l1_13 l1_14)) else (wire_Same.j0 k true a0_0 a0_1 a0_2 a0_3 a0_4 a0_5 a0_6 a0_7 a0_8 a0_9 a0_10 a0_11 l0_12 l0_13 l0_14 a1_0 a1_1 a1_2 a1_3 a1_4 a1_5 a1_6 a1_7 a1_8 a1_9 a1_10 a1_11 l1_12 l1_13 l1_14)) else (wire_Same.j0 k true a0_0 a0_1 a0_2 a0_3 a0_4 a0_5 a0_6 a0_7 a0_8 a0_9 a0_10 a0_11 l0_12 l0_13 l0_14 a1_0 a1_1 a1_2 a1_3 a1_4 a1_5 a1_6 a1_7 a1_8 a1_9 a1_10 a1_11 l1_12 l1_13 l1_14)) else (wire_Same.j0 k true a0_0 a0_1 a0_2 a0_3 a0_4 a0_5 a0_6 a0_7 a0_8 a0_9 a0_10 a0_11 l0_12 l0_13 l0_14 a1_0 a1_1 a1_2 a1_3 a1_4 a1_5 a1_6 a1_7 a1_8 a1_9 a1_10 a1_11 l1_12 l1_13 l1_14)) else (wire_Same.j0 k true a0_0 a0_1 a0_2 a0_3 a0_4 a0_5 a0_6 a0_7 a0_8 a0_9 a0_10 a0_11 l0_12 l0_13 l0_14 a1_0 a1_1 a1_2 a1_3 a1_4 a1_5 a1_6 a1_7 a1_8 a1_9 a1_10 a1_11 l1_12 l1_13 l1_14)) else (wire_Same.j0 k true a0_0 a0_1 a0_2 a0_3 a0_4 a0_5 a0_6 a0_7 a0_8 a0_9 a0_10 a0_11 l0_12 l0_13 l0_14 a1_0 a1_1 a1_2 a1_3 a1_4 a1_5 a1_6 a1_7 a1_8 a1_9 a1_10 a1_11 l1_12 l1_13 l1_14)) else (wire_Same.j0 k true a0_0 a0_1 a0_2 a0_3 a0_4 a0_5 a0_6 a0_7 a0_8 a0_9 a0_10 a0_11 l0_12 l0_13 l0_14 a1_0 a1_1 a1_2 a1_3 a1_4 a1_5 a1_6 a1_7 a1_8 a1_9 a1_10 a1_11 l1_12 l1_13 l1_14)) else (wire_Same.j0 k true a0_0 a0_1 a0_2 a0_3 a0_4 a0_5 a0_6 a0_7 a0_8 a0_9 a0_10 a0_11 l0_12 l0_13 l0_14 a1_0 a1_1 a1_2 a1_3 a1_4 a1_5 a1_6 a1_7 a1_8 a1_9 a1_10 a1_11 l1_12 l1_13 l1_14)) else (wire_Same.j0 k true a0_0 a0_1 a0_2 a0_3 a0_4 a0_5 a0_6 a0_7 a0_8 a0_9 a0_10 a0_11 l0_12 l0_13 l0_14 a1_0 a1_1 a1_2 a1_3 a1_4 a1_5 a1_6 a1_7 a1_8 a1_9 a1_10 a1_11 l1_12 l1_13 l1_14)
theorem wire_Same.mono_l : ∀ k, (∀ y0 y1 y2 y3 y4 y5 y6 y7 y8 y9 y10 y11 y12 y13 y14 y15 y16 y17 y18 y19 y20 y21 y22 y23 y24 y25 y26 y27 y28 y29 y30, LeO (wire_Same.j0 k y0 y1 y2 y3 y4 y5 y6 y7 y8 y9 y10 y11 y12 y13 y14 y15 y16 y17 y18 y19 y20 y21 y22 y23 y24 y25 y26 y27 y28 y29 y30) (wire_Same.j0 (k + 1) y0 y1 y2 y3 y4 y5 y6 y7 y8 y9 y10 y11 y12 y13 y14 y15 y16 y17 y18 y19 y20 y21 y22 y23 y24 y25 y26 y27 y28 y29 y30))
  | 0 => fun _ _ _ _ _ _ _ _ _ _ _ _ _ _ _ _ _ _ _ _ _ _ _ _ _ _ _ _ _ _ _ r h => by simp [wire_Same.j0] at h
  | k + 1 => by
    have ih0 := wire_Same.mono_l k
    · intro y0 y1 y2 y3 y4 y5 y6 y7 y8 y9 y10 y11 y12 y13 y14 y15 y16 y17 y18 y19 y20 y21 y22 y23 y24 y25 y26 y27 y28 y29 y30
      unfold wire_Same.j0
      repeat' first
      | (with_reducible exact ih0 _ _ _ _ _ _ _ _ _ _ _ _ _ _ _ _ _ _ _ _ _ _ _ _ _ _ _ _ _ _ _)
      | (with_reducible exact slices_Equal_int_int.mono _ _ _)
      | (with_reducible exact LeO.refl _)
      | (with_reducible exact LeO.none _)
      | (with_reducible refine LeO.ite ?_ ?_)
      | (with_reducible refine LeO.bind ?_ (fun _ => ?_))
      | exact ih0 _ _ _ _ _ _ _ _ _ _ _ _ _ _ _ _ _ _ _ _ _ _ _ _ _ _ _ _ _ _ _
      | exact slices_Equal_int_int.mono _ _ _
      | exact LeO.none _
      | refine LeO.ite ?_ ?_
      | refine LeO.bind ?_ (fun _ => ?_)
theorem wire_Same.mono : ∀ a0 a1 a2 a3 a4 a5 a6 a7 a8 a9 a10 a11 a12 a13 a14 a15 a16 a17 a18 a19 a20 a21 a22 a23 a24 a25 a26 a27 a28 a29 k, LeO (wire_Same.f k a0 a1 a2 a3 a4 a5 a6 a7 a8 a9 a10 a11 a12 a13 a14 a15 a16 a17 a18 a19 a20 a21 a22 a23 a24 a25 a26 a27 a28 a29) (wire_Same.f (k + 1) a0 a1 a2 a3 a4 a5 a6 a7 a8 a9 a10 a11 a12 a13 a14 a15 a16 a17 a18 a19 a20 a21 a22 a23 a24 a25 a26 a27 a28 a29) := by
  intro a0 a1 a2 a3 a4 a5 a6 a7 a8 a9 a10 a11 a12 a13 a14 a15 a16 a17 a18 a19 a20 a21 a22 a23 a24 a25 a26 a27 a28 a29 k
  have ih0 := wire_Same.mono_l k
  unfold wire_Same.f
  repeat' first
      | (with_reducible exact ih0 _ _ _ _ _ _ _ _ _ _ _ _ _ _ _ _ _ _ _ _ _ _ _ _ _ _ _ _ _ _ _)
      | (with_reducible exact slices_Equal_int_int.mono _ _ _)
      | (with_reducible exact LeO.refl _)
      | (with_reducible exact LeO.none _)
      | (with_reducible refine LeO.ite ?_ ?_)
      | (with_reducible refine LeO.bind ?_ (fun _ => ?_))
      | exact ih0 _ _ _ _ _ _ _ _ _ _ _ _ _ _ _ _ _ _ _ _ _ _ _ _ _ _ _ _ _ _ _
      | exact slices_Equal_int_int.mono _ _ _
      | exact LeO.none _
      | refine LeO.ite ?_ ?_
      | refine LeO.bind ?_ (fun _ => ?_)
set_option maxHeartbeats 8000000 in
set_option maxRecDepth 100000 in
theorem wire_Same.calls (k : Nat) (a0_0 : Int) (a0_1 : Int) (a0_2 : Int) (a0_3 : Int) (a0_4 : Int) (a0_5 : Int) (a0_6 : Int) (a0_7 : Int) (a0_8 : Int) (a0_9 : Bool) (a0_10 : Int) (a0_11 : Int) (A0_12 : Option Addr) (c0_12 : Nat) (l0_12 : List Int) (A0_13 : Option Addr) (c0_13 : Nat) (l0_13 : List Int) (A0_14 : Option Addr) (c0_14 : Nat) (l0_14 : List Int) (a1_0 : Int) (a1_1 : Int) (a1_2 : Int) (a1_3 : Int) (a1_4 : Int) (a1_5 : Int) (a1_6 : Int) (a1_7 : Int) (a1_8 : Int) (a1_9 : Bool) (a1_10 : Int) (a1_11 : Int) (A1_12 : Option Addr) (c1_12 : Nat) (l1_12 : List Int) (A1_13 : Option Addr) (c1_13 : Nat) (l1_13 : List Int) (A1_14 : Option Addr) (c1_14 : Nat) (l1_14 : List Int) (r : Bool) (w : World) (hr0_12 : Kd.C (Kd.int .i64) w A0_12 l0_12.length l0_12) (hc0_12 : l0_12.length ≤ c0_12) (hr0_13 : Kd.C (Kd.int .i64) w A0_13 l0_13.length l0_13) (hc0_13 : l0_13.length ≤ c0_13) (hr0_14 : Kd.C (Kd.int .u8) w A0_14 l0_14.length l0_14) (hc0_14 : l0_14.length ≤ c0_14) (hr1_12 : Kd.C (Kd.int .i64) w A1_12 l1_12.length l1_12) (hc1_12 : l1_12.length ≤ c1_12) (hr1_13 : Kd.C (Kd.int .i64) w A1_13 l1_13.length l1_13) (hc1_13 : l1_13.length ≤ c1_13) (hr1_14 : Kd.C (Kd.int .u8) w A1_14 l1_14.length l1_14) (hc1_14 : l1_14.length ≤ c1_14) (h : wire_Same.f k a0_0 a0_1 a0_2 a0_3 a0_4 a0_5 a0_6 a0_7 a0_8 a0_9 a0_10 a0_11 l0_12 l0_13 l0_14 a1_0 a1_1 a1_2 a1_3 a1_4 a1_5 a1_6 a1_7 a1_8 a1_9 a1_10 a1_11 l1_12 l1_13 l1_14 = some r) :
    Calls Try.prog 22 #[.agg #[.int .i64 a0_0, .int .i64 a0_1, .int .i64 a0_2, .int .i64 a0_3, .int .i64 a0_4, .int .i64 a0_5, .int .i64 a0_6, .int .i64 a0_7, .int .i64 a0_8, .bool a0_9, .int .i64 a0_10, .int .i64 a0_11, .slice A0_12 l0_12.length c0_12, .slice A0_13 l0_13.length c0_13, .slice A0_14 l0_14.length c0_14], .agg #[.int .i64 a1_0, .int .i64 a1_1, .int .i64 a1_2, .int .i64 a1_3, .int .i64 a1_4, .int .i64 a1_5, .int .i64 a1_6, .int .i64 a1_7, .int .i64 a1_8, .bool a1_9, .int .i64 a1_10, .int .i64 a1_11, .slice A1_12 l1_12.length c1_12, .slice A1_13 l1_13.length c1_13, .slice A1_14 l1_14.length c1_14]] w fun e w' => e = .returned (.bool r) ∧ Below w.heap.size w w' := by
  have hu27 := Try.underlying27
  have hu23 := Try.underlying23
  have HR0_12 := Aside0.mk hr0_12
  have HC0_12 := Aside0.mk hc0_12
  clear hr0_12 hc0_12
  have HR0_13 := Aside0.mk hr0_13
  have HC0_13 := Aside0.mk hc0_13
  clear hr0_13 hc0_13
  have HR0_14 := Aside0.mk hr0_14
  have HC0_14 := Aside0.mk hc0_14
  clear hr0_14 hc0_14
  have HR1_12 := Aside0.mk hr1_12
  have HC1_12 := Aside0.mk hc1_12
  clear hr1_12 hc1_12
  have HR1_13 := Aside0.mk hr1_13
  have HC1_13 := Aside0.mk hc1_13
  clear hr1_13 hc1_13
  have HR1_14 := Aside0.mk hr1_14
  have HC1_14 := Aside0.mk hc1_14
  clear hr1_14 hc1_14
  have HB := Aside0.mk (Below.refl w.heap.size w)
  have H : (if a0_0 = a1_0 then (if a0_1 = a1_1 then (if a0_2 = a1_2 then (if a0_3 = a1_3 then (if a0_4 = a1_4 then (if a0_5 = a1_5 then (if a0_6 = a1_6 then (if a0_7 = a1_7 then (if a0_8 = a1_8 then (if (a0_9 != a1_9) = true then (wire_Same.j0 k true a0_0 a0_1 a0_2 a0_3 a0_4 a0_5 a0_6 a0_7 a0_8 a0_9 a0_10 a0_11 l0_12 l0_13 l0_14 a1_0 a1_1 a1_2 a1_3 a1_4 a1_5 a1_6 a1_7 a1_8 a1_9 a1_10 a1_11 l1_12 l1_13 l1_14) else (wire_Same.j0 k (!(a0_10 == a1_10) || (!(a0_11 == a1_11))) a0_0 a0_1 a0_2 a0_3 a0_4 a0_5 a0_6 a0_7 a0_8 a0_9 a0_10 a0_11 l0_12 l0_13 l0_14 a1_0 a1_1 a1_2 a1_3 a1_4 a1_5 a1_6 a1_7 a1_8 a1_9 a1_10 a1_11 l1_12 l1_13 l1_14)) else (wire_Same.j0 k true a0_0 a0_1 a0_2 a0_3 a0_4 a0_5 a0_6 a0_7 a0_8 a0_9 a0_10 a0_11 l0_12 l0_13 l0_14 a1_0 a1_1 a1_2 a1_3 a1_4 a1_5 a1_6 a1_7 a1_8 a1_9 a1_10 a1_11 l1_12 l1_13 l1_14)) else (wire_Same.j0 k true a0_0 a0_1 a0_2 a0_3 a0_4 a0_5 a0_6 a0_7 a0_8 a0_9 a0_10 a0_11 l0_12 l0_13 l0_14 a1_0 a1_1 a1_2 a1_3 a1_4 a1_5 a1_6 a1_7 a1_8 a1_9 a1_10 a1_11 l1_12 l1_13 l1_14)) else (wire_Same.j0 k true a0_0 a0_1 a0_2 a0_3 a0_4 a0_5 a0_6 a0_7 a0_8 a0_9 a0_10 a0_11 l0_12 l0_13 l0_14 a1_0 a1_1 a1_2 a1_3 a1_4 a1_5 a1_6 a1_7 a1_8 a1_9 a1_10 a1_11 l1_12 l1_13 l1_14)) else (wire_Same.j0 k true a0_0 a0_1 a0_2 a0_3 a0_4 a0_5 a0_6 a0_7 a0_8 a0_9 a0_10 a0_11 l0_12 l0_13 l0_14 a1_0 a1_1 a1_2 a1_3 a1_4 a1_5 a1_6 a1_7 a1_8 a1_9 a1_10 a1_11 l1_12 l1_13 l1_14)) else (wire_Same.j0 k true a0_0 a0_1 a0_2 a0_3 a0_4 a0_5 a0_6 a0_7 a0_8 a0_9 a0_10 a0_11 l0_12 l0_13 l0_14 a1_0 a1_1 a1_2 a1_3 a1_4 a1_5 a1_6 a1_7 a1_8 a1_9 a1_10 a1_11 l1_12 l1_13 l1_14)) else (wire_Same.j0 k true a0_0 a0_1 a0_2 a0_3 a0_4 a0_5 a0_6 a0_7 a0_8 a0_9 a0_10 a0_11 l0_12 l0_13 l0_14 a1_0 a1_1 a1_2 a1_3 a1_4 a1_5 a1_6 a1_7 a1_8 a1_9 a1_10 a1_11 l1_12 l1_13 l1_14)) else (wire_Same.j0 k true a0_0 a0_1 a0_2 a0_3 a0_4 a0_5 a0_6 a0_7 a0_8 a0_9 a0_10 a0_11 l0_12 l0_13 l0_14 a1_0 a1_1 a1_2 a1_3 a1_4 a1_5 a1_6 a1_7 a1_8 a1_9 a1_10 a1_11 l1_12 l1_13 l1_14)) else (wire_Same.j0 k true a0_0 a0_1 a0_2 a0_3 a0_4 a0_5 a0_6 a0_7 a0_8 a0_9 a0_10 a0_11 l0_12 l0_13 l0_14 a1_0 a1_1 a1_2 a1_3 a1_4 a1_5 a1_6 a1_7 a1_8 a1_9 a1_10 a1_11 l1_12 l1_13 l1_14)) else (wire_Same.j0 k true a0_0 a0_1 a0_2 a0_3 a0_4 a0_5 a0_6 a0_7 a0_8 a0_9 a0_10 a0_11 l0_12 l0_13 l0_14 a1_0 a1_1 a1_2 a1_3 a1_4 a1_5 a1_6 a1_7 a1_8 a1_9 a1_10 a1_11 l1_12 l1_13 l1_14)) = some r := h
  clear h
  have HC3 := Aside0.mk H
  clear H
  go_enter Try.func22, Try.ntmps22
  go_upto_region 1 with (first | ((with_reducible refine gate_dst (N := 2) rfl ?_); refine box_event ?hg (N := 2) ?hd (cs := #[.int .i64 a0_0, .int .i64 a0_1, .int .i64 a0_2, .int .i64 a0_3, .int .i64 a0_4, .int .i64 a0_5, .int .i64 a0_6, .int .i64 a0_7, .int .i64 a0_8, .bool a0_9, .int .i64 a0_10, .int .i64 a0_11, .slice A0_12 l0_12.length c0_12, .slice A0_13 l0_13.length c0_13, .slice A0_14 l0_14.length c0_14]) (t := 27) ?hr ?_; (case hd => rfl); (case hg => rfl); (case hr => first | (go_simp; done) | (go_simp; rfl)); intro gb165 hg w4 hbox hb; have n0_ := Aside0.mk (below_step (by repeat (first | (with_reducible first | exact HB.out | apply below_alloc | apply pw_below_drewN | apply below_drew1) | exact HB.out)) hb); have n1_ := Aside0.mk (hbox); have n2_ := Aside0.mk ((by rw [hg]; exact (below_size (by repeat (first | (with_reducible first | exact HB.out | apply below_alloc | apply pw_below_drewN | apply below_drew1) | exact HB.out))) : w.heap.size ≤ gb165)); have n3_ := Aside0.mk ((by rw [hg]; exact (below_size (by repeat (first | (with_reducible first | exact HB.out | apply below_alloc | apply pw_below_drewN | apply below_drew1) | exact HB.out))) : w.heap.size ≤ gb165)); clear HB; have HB := n0_; have BK165 := n1_; have GW165 := n2_; have GE165 := n3_; clear n0_ n1_ n2_ n3_; clear hb hbox hg) | ((with_reducible refine gate_dst (N := 3) rfl ?_); refine box_event ?hg (N := 3) ?hd (cs := #[.int .i64 a1_0, .int .i64 a1_1, .int .i64 a1_2, .int .i64 a1_3, .int .i64 a1_4, .int .i64 a1_5, .int .i64 a1_6, .int .i64 a1_7, .int .i64 a1_8, .bool a1_9, .int .i64 a1_10, .int .i64 a1_11, .slice A1_12 l1_12.length c1_12, .slice A1_13 l1_13.length c1_13, .slice A1_14 l1_14.length c1_14]) (t := 27) ?hr ?_; (case hd => rfl); (case hg => rfl); (case hr => first | (go_simp; done) | (go_simp; rfl)); intro gb166 hg w5 hbox hb; have n0_ := Aside0.mk (blk_below (g := gb165) (o := .cells #[.int .i64 a0_0, .int .i64 a0_1, .int .i64 a0_2, .int .i64 a0_3, .int .i64 a0_4, .int .i64 a0_5, .int .i64 a0_6, .int .i64 a0_7, .int .i64 a0_8, .bool a0_9, .int .i64 a0_10, .int .i64 a0_11, .slice A0_12 l0_12.length c0_12, .slice A0_13 l0_13.length c0_13, .slice A0_14 l0_14.length c0_14] 27 (0, 0)) (by (with_reducible repeat (first | refine blk_drewN ?_ _ | refine blk_drew ?_ | refine blk_alloc ?_ _)); exact BK165.out) hb); have n1_ := Aside0.mk (below_step (by repeat (first | (with_reducible first | exact HB.out | apply below_alloc | apply pw_below_drewN | apply below_drew1 | refine below_set ?_ GE165.out) | exact HB.out)) hb); have n2_ := Aside0.mk (hbox); have n3_ := Aside0.mk ((by rw [hg]; exact (below_size (by repeat (first | (with_reducible first | exact HB.out | apply below_alloc | apply pw_below_drewN | apply below_drew1 | refine below_set ?_ GE165.out) | exact HB.out))) : w.heap.size ≤ gb166)); have n4_ := Aside0.mk ((by rw [hg]; exact (below_size (by repeat (first | (with_reducible first | exact HB.out | apply below_alloc | apply pw_below_drewN | apply below_drew1 | refine below_set ?_ GE165.out) | exact HB.out))) : w.heap.size ≤ gb166)); have n5_ := Aside0.mk ((by rw [hg]; exact Nat.ne_of_lt (blk_lt (g := gb165) (o := .cells #[.int .i64 a0_0, .int .i64 a0_1, .int .i64 a0_2, .int .i64 a0_3, .int .i64 a0_4, .int .i64 a0_5, .int .i64 a0_6, .int .i64 a0_7, .int .i64 a0_8, .bool a0_9, .int .i64 a0_10, .int .i64 a0_11, .slice A0_12 l0_12.length c0_12, .slice A0_13 l0_13.length c0_13, .slice A0_14 l0_14.length c0_14] 27 (0, 0)) (by (with_reducible repeat (first | refine blk_drewN ?_ _ | refine blk_drew ?_ | refine blk_alloc ?_ _)); exact BK165.out)) : gb165 ≠ gb166)); have n6_ := Aside0.mk ((by rw [hg]; exact Nat.ne_of_gt (blk_lt (g := gb165) (o := .cells #[.int .i64 a0_0, .int .i64 a0_1, .int .i64 a0_2, .int .i64 a0_3, .int .i64 a0_4, .int .i64 a0_5, .int .i64 a0_6, .int .i64 a0_7, .int .i64 a0_8, .bool a0_9, .int .i64 a0_10, .int .i64 a0_11, .slice A0_12 l0_12.length c0_12, .slice A0_13 l0_13.length c0_13, .slice A0_14 l0_14.length c0_14] 27 (0, 0)) (by (with_reducible repeat (first | refine blk_drewN ?_ _ | refine blk_drew ?_ | refine blk_alloc ?_ _)); exact BK165.out)) : gb166 ≠ gb165)); clear BK165; clear HB; have BK165 := n0_; have HB := n1_; have BK166 := n2_; have GW166 := n3_; have GE166 := n4_; have NB165_166 := n5_; have NB166_165 := n6_; clear n0_ n1_ n2_ n3_ n4_ n5_ n6_; clear hb hbox hg))
  (try simp only [Act.put, List.setIfInBounds_toArray, List.set_cons_zero, List.set_cons_succ])
  go_cut [79] (fun v79 wc => ∃ (kq : Nat) (x79_2 : Bool), v79 = .bool x79_2 ∧ Aside0 (wire_Same.j0 kq x79_2 a0_0 a0_1 a0_2 a0_3 a0_4 a0_5 a0_6 a0_7 a0_8 a0_9 a0_10 a0_11 l0_12 l0_13 l0_14 a1_0 a1_1 a1_2 a1_3 a1_4 a1_5 a1_6 a1_7 a1_8 a1_9 a1_10 a1_11 l1_12 l1_13 l1_14 = some r) ∧ Aside0 (kq ≤ k) ∧ Aside0 (wc.heap[gb165]? = some (.cells #[.int .i64 a0_0, .int .i64 a0_1, .int .i64 a0_2, .int .i64 a0_3, .int .i64 a0_4, .int .i64 a0_5, .int .i64 a0_6, .int .i64 a0_7, .int .i64 a0_8, .bool a0_9, .int .i64 a0_10, .int .i64 a0_11, (.slice A0_12 l0_12.length c0_12), (.slice A0_13 l0_13.length c0_13), (.slice A0_14 l0_14.length c0_14)] 27 (0, 0))) ∧ Aside0 (wc.heap[gb166]? = some (.cells #[.int .i64 a1_0, .int .i64 a1_1, .int .i64 a1_2, .int .i64 a1_3, .int .i64 a1_4, .int .i64 a1_5, .int .i64 a1_6, .int .i64 a1_7, .int .i64 a1_8, .bool a1_9, .int .i64 a1_10, .int .i64 a1_11, (.slice A1_12 l1_12.length c1_12), (.slice A1_13 l1_13.length c1_13), (.slice A1_14 l1_14.length c1_14)] 27 (0, 0))) ∧ Aside0 (Below w.heap.size w wc))
  case first =>
    have H := HC3.out
    clear HC3
    by_cases c6 : a0_0 = a1_0
    · rw [if_pos c6] at H
      have c6b0 : (a0_0 == a1_0) = true := beq_iff_eq.mpr c6
      have c6b1 : (a0_0 != a1_0) = false := bne_eq_false_iff_eq.mpr c6
      clear c6
      (first | rw [c6b0] | (simp only [i64_w, i32_w]; rw [c6b0]) | skip)
      by_cases c7 : a0_1 = a1_1
      · rw [if_pos c7] at H
        have c7b0 : (a0_1 == a1_1) = true := beq_iff_eq.mpr c7
        have c7b1 : (a0_1 != a1_1) = false := bne_eq_false_iff_eq.mpr c7
        clear c7
        by_cases c8 : a0_2 = a1_2
        · rw [if_pos c8] at H
          have c8b0 : (a0_2 == a1_2) = true := beq_iff_eq.mpr c8
          have c8b1 : (a0_2 != a1_2) = false := bne_eq_false_iff_eq.mpr c8
          clear c8
          by_cases c9 : a0_3 = a1_3
          · rw [if_pos c9] at H
            have c9b0 : (a0_3 == a1_3) = true := beq_iff_eq.mpr c9
            have c9b1 : (a0_3 != a1_3) = false := bne_eq_false_iff_eq.mpr c9
            clear c9
            by_cases c10 : a0_4 = a1_4
            · rw [if_pos c10] at H
              have c10b0 : (a0_4 == a1_4) = true := beq_iff_eq.mpr c10
              have c10b1 : (a0_4 != a1_4) = false := bne_eq_false_iff_eq.mpr c10
              clear c10
              by_cases c11 : a0_5 = a1_5
              · rw [if_pos c11] at H
                have c11b0 : (a0_5 == a1_5) = true := beq_iff_eq.mpr c11
                have c11b1 : (a0_5 != a1_5) = false := bne_eq_false_iff_eq.mpr c11
                clear c11
                by_cases c12 : a0_6 = a1_6
                · rw [if_pos c12] at H
                  have c12b0 : (a0_6 == a1_6) = true := beq_iff_eq.mpr c12
                  have c12b1 : (a0_6 != a1_6) = false := bne_eq_false_iff_eq.mpr c12
                  clear c12
                  by_cases c13 : a0_7 = a1_7
                  · rw [if_pos c13] at H
                    have c13b0 : (a0_7 == a1_7) = true := beq_iff_eq.mpr c13
                    have c13b1 : (a0_7 != a1_7) = false := bne_eq_false_iff_eq.mpr c13
                    clear c13
                    by_cases c14 : a0_8 = a1_8
                    · rw [if_pos c14] at H
                      have c14b0 : (a0_8 == a1_8) = true := beq_iff_eq.mpr c14
                      have c14b1 : (a0_8 != a1_8) = false := bne_eq_false_iff_eq.mpr c14
                      clear c14
                      by_cases c15 : (a0_9 != a1_9) = true
                      · rw [if_pos c15] at H
                        have c15b0 : (a0_9 != a1_9) = true := c15
                        (try (have c15b1 : decide (a0_9 = a1_9) = false := by simpa using c15))
                        (try (have c15b2 : (a0_9 == a1_9) = false := by simpa using c15))
                        (try (have c15b3 : ¬ (a0_9 = a1_9) := by simpa using c15))
                        clear c15
                        have H' := Aside0.mk H
                        clear H
                        have hnb16 := NB165_166.out
                        have hnc16 := NB166_165.out
                        have hcz17_0 : w5.cell? ⟨gb165, 0, none⟩ = some (.int .i64 a0_0) := (blk_cell BK165.out 0).trans rfl
                        have hcz17_1 : w5.cell? ⟨gb165, 1, none⟩ = some (.int .i64 a0_1) := (blk_cell BK165.out 1).trans rfl
                        have hcz17_2 : w5.cell? ⟨gb165, 2, none⟩ = some (.int .i64 a0_2) := (blk_cell BK165.out 2).trans rfl
                        have hcz17_3 : w5.cell? ⟨gb165, 3, none⟩ = some (.int .i64 a0_3) := (blk_cell BK165.out 3).trans rfl
                        have hcz17_4 : w5.cell? ⟨gb165, 4, none⟩ = some (.int .i64 a0_4) := (blk_cell BK165.out 4).trans rfl
                        have hcz17_5 : w5.cell? ⟨gb165, 5, none⟩ = some (.int .i64 a0_5) := (blk_cell BK165.out 5).trans rfl
                        have hcz17_6 : w5.cell? ⟨gb165, 6, none⟩ = some (.int .i64 a0_6) := (blk_cell BK165.out 6).trans rfl
                        have hcz17_7 : w5.cell? ⟨gb165, 7, none⟩ = some (.int .i64 a0_7) := (blk_cell BK165.out 7).trans rfl
                        have hcz17_8 : w5.cell? ⟨gb165, 8, none⟩ = some (.int .i64 a0_8) := (blk_cell BK165.out 8).trans rfl
                        have hcz17_9 : w5.cell? ⟨gb165, 9, none⟩ = some (.bool a0_9) := (blk_cell BK165.out 9).trans rfl
                        have hcz17_10 : w5.cell? ⟨gb165, 10, none⟩ = some (.int .i64 a0_10) := (blk_cell BK165.out 10).trans rfl
                        have hcz17_11 : w5.cell? ⟨gb165, 11, none⟩ = some (.int .i64 a0_11) := (blk_cell BK165.out 11).trans rfl
                        have hcz17_12 : w5.cell? ⟨gb165, 12, none⟩ = some (.slice A0_12 l0_12.length c0_12) := (blk_cell BK165.out 12).trans rfl
                        have hcz17_13 : w5.cell? ⟨gb165, 13, none⟩ = some (.slice A0_13 l0_13.length c0_13) := (blk_cell BK165.out 13).trans rfl
                        have hcz17_14 : w5.cell? ⟨gb165, 14, none⟩ = some (.slice A0_14 l0_14.length c0_14) := (blk_cell BK165.out 14).trans rfl
                        have hfz17_0 := blk_frozen BK165.out 0
                        have hfz17_1 := blk_frozen BK165.out 1
                        have hfz17_2 := blk_frozen BK165.out 2
                        have hfz17_3 := blk_frozen BK165.out 3
                        have hfz17_4 := blk_frozen BK165.out 4
                        have hfz17_5 := blk_frozen BK165.out 5
                        have hfz17_6 := blk_frozen BK165.out 6
                        have hfz17_7 := blk_frozen BK165.out 7
                        have hfz17_8 := blk_frozen BK165.out 8
                        have hfz17_9 := blk_frozen BK165.out 9
                        have hfz17_10 := blk_frozen BK165.out 10
                        have hfz17_11 := blk_frozen BK165.out 11
                        have hfz17_12 := blk_frozen BK165.out 12
                        have hfz17_13 := blk_frozen BK165.out 13
                        have hfz17_14 := blk_frozen BK165.out 14
                        have hcz18_0 : w5.cell? ⟨gb166, 0, none⟩ = some (.int .i64 a1_0) := (blk_cell BK166.out 0).trans rfl
                        have hcz18_1 : w5.cell? ⟨gb166, 1, none⟩ = some (.int .i64 a1_1) := (blk_cell BK166.out 1).trans rfl
                        have hcz18_2 : w5.cell? ⟨gb166, 2, none⟩ = some (.int .i64 a1_2) := (blk_cell BK166.out 2).trans rfl
                        have hcz18_3 : w5.cell? ⟨gb166, 3, none⟩ = some (.int .i64 a1_3) := (blk_cell BK166.out 3).trans rfl
                        have hcz18_4 : w5.cell? ⟨gb166, 4, none⟩ = some (.int .i64 a1_4) := (blk_cell BK166.out 4).trans rfl
                        have hcz18_5 : w5.cell? ⟨gb166, 5, none⟩ = some (.int .i64 a1_5) := (blk_cell BK166.out 5).trans rfl
                        have hcz18_6 : w5.cell? ⟨gb166, 6, none⟩ = some (.int .i64 a1_6) := (blk_cell BK166.out 6).trans rfl
                        have hcz18_7 : w5.cell? ⟨gb166, 7, none⟩ = some (.int .i64 a1_7) := (blk_cell BK166.out 7).trans rfl
                        have hcz18_8 : w5.cell? ⟨gb166, 8, none⟩ = some (.int .i64 a1_8) := (blk_cell BK166.out 8).trans rfl
                        have hcz18_9 : w5.cell? ⟨gb166, 9, none⟩ = some (.bool a1_9) := (blk_cell BK166.out 9).trans rfl
                        have hcz18_10 : w5.cell? ⟨gb166, 10, none⟩ = some (.int .i64 a1_10) := (blk_cell BK166.out 10).trans rfl
                        have hcz18_11 : w5.cell? ⟨gb166, 11, none⟩ = some (.int .i64 a1_11) := (blk_cell BK166.out 11).trans rfl
                        have hcz18_12 : w5.cell? ⟨gb166, 12, none⟩ = some (.slice A1_12 l1_12.length c1_12) := (blk_cell BK166.out 12).trans rfl
                        have hcz18_13 : w5.cell? ⟨gb166, 13, none⟩ = some (.slice A1_13 l1_13.length c1_13) := (blk_cell BK166.out 13).trans rfl
                        have hcz18_14 : w5.cell? ⟨gb166, 14, none⟩ = some (.slice A1_14 l1_14.length c1_14) := (blk_cell BK166.out 14).trans rfl
                        have hfz18_0 := blk_frozen BK166.out 0
                        have hfz18_1 := blk_frozen BK166.out 1
                        have hfz18_2 := blk_frozen BK166.out 2
                        have hfz18_3 := blk_frozen BK166.out 3
                        have hfz18_4 := blk_frozen BK166.out 4
                        have hfz18_5 := blk_frozen BK166.out 5
                        have hfz18_6 := blk_frozen BK166.out 6
                        have hfz18_7 := blk_frozen BK166.out 7
                        have hfz18_8 := blk_frozen BK166.out 8
                        have hfz18_9 := blk_frozen BK166.out 9
                        have hfz18_10 := blk_frozen BK166.out 10
                        have hfz18_11 := blk_frozen BK166.out 11
                        have hfz18_12 := blk_frozen BK166.out 12
                        have hfz18_13 := blk_frozen BK166.out 13
                        have hfz18_14 := blk_frozen BK166.out 14
                        go_wp2
                        go_meet
                        case rel => exact ⟨_, (true), (by first | rfl | (simp; done) | (simp [*]; done)), H', ⟨by first | omega | exact Nat.le_refl _⟩, ⟨by (with_reducible repeat (first | refine blk_drewN ?_ _ | refine blk_drew ?_ | refine blk_alloc ?_ _)); exact BK165.out⟩, ⟨by (with_reducible repeat (first | refine blk_drewN ?_ _ | refine blk_drew ?_ | refine blk_alloc ?_ _)); exact BK166.out⟩, ⟨by repeat (first | (with_reducible first | exact HB.out | apply below_alloc | apply pw_below_drewN | apply below_drew1 | refine below_set ?_ GE165.out | refine below_set ?_ GE166.out) | exact HB.out)⟩⟩
                      · rw [if_neg c15] at H
                        have c15b0 : (a0_9 != a1_9) = false := by simpa using c15
                        (try (have c15b1 : decide (a0_9 = a1_9) = true := by simpa using c15))
                        (try (have c15b2 : (a0_9 == a1_9) = true := by simpa using c15))
                        clear c15
                        have H' := Aside0.mk H
                        clear H
                        have hnb19 := NB165_166.out
                        have hnc19 := NB166_165.out
                        have hcz20_0 : w5.cell? ⟨gb165, 0, none⟩ = some (.int .i64 a0_0) := (blk_cell BK165.out 0).trans rfl
                        have hcz20_1 : w5.cell? ⟨gb165, 1, none⟩ = some (.int .i64 a0_1) := (blk_cell BK165.out 1).trans rfl
                        have hcz20_2 : w5.cell? ⟨gb165, 2, none⟩ = some (.int .i64 a0_2) := (blk_cell BK165.out 2).trans rfl
                        have hcz20_3 : w5.cell? ⟨gb165, 3, none⟩ = some (.int .i64 a0_3) := (blk_cell BK165.out 3).trans rfl
                        have hcz20_4 : w5.cell? ⟨gb165, 4, none⟩ = some (.int .i64 a0_4) := (blk_cell BK165.out 4).trans rfl
                        have hcz20_5 : w5.cell? ⟨gb165, 5, none⟩ = some (.int .i64 a0_5) := (blk_cell BK165.out 5).trans rfl
                        have hcz20_6 : w5.cell? ⟨gb165, 6, none⟩ = some (.int .i64 a0_6) := (blk_cell BK165.out 6).trans rfl
                        have hcz20_7 : w5.cell? ⟨gb165, 7, none⟩ = some (.int .i64 a0_7) := (blk_cell BK165.out 7).trans rfl
                        have hcz20_8 : w5.cell? ⟨gb165, 8, none⟩ = some (.int .i64 a0_8) := (blk_cell BK165.out 8).trans rfl
                        have hcz20_9 : w5.cell? ⟨gb165, 9, none⟩ = some (.bool a0_9) := (blk_cell BK165.out 9).trans rfl
                        have hcz20_10 : w5.cell? ⟨gb165, 10, none⟩ = some (.int .i64 a0_10) := (blk_cell BK165.out 10).trans rfl
                        have hcz20_11 : w5.cell? ⟨gb165, 11, none⟩ = some (.int .i64 a0_11) := (blk_cell BK165.out 11).trans rfl
                        have hcz20_12 : w5.cell? ⟨gb165, 12, none⟩ = some (.slice A0_12 l0_12.length c0_12) := (blk_cell BK165.out 12).trans rfl
                        have hcz20_13 : w5.cell? ⟨gb165, 13, none⟩ = some (.slice A0_13 l0_13.length c0_13) := (blk_cell BK165.out 13).trans rfl
                        have hcz20_14 : w5.cell? ⟨gb165, 14, none⟩ = some (.slice A0_14 l0_14.length c0_14) := (blk_cell BK165.out 14).trans rfl
                        have hfz20_0 := blk_frozen BK165.out 0
                        have hfz20_1 := blk_frozen BK165.out 1
                        have hfz20_2 := blk_frozen BK165.out 2
                        have hfz20_3 := blk_frozen BK165.out 3
                        have hfz20_4 := blk_frozen BK165.out 4
                        have hfz20_5 := blk_frozen BK165.out 5
                        have hfz20_6 := blk_frozen BK165.out 6
                        have hfz20_7 := blk_frozen BK165.out 7
                        have hfz20_8 := blk_frozen BK165.out 8
                        have hfz20_9 := blk_frozen BK165.out 9
                        have hfz20_10 := blk_frozen BK165.out 10
                        have hfz20_11 := blk_frozen BK165.out 11
                        have hfz20_12 := blk_frozen BK165.out 12
                        have hfz20_13 := blk_frozen BK165.out 13
                        have hfz20_14 := blk_frozen BK165.out 14
                        have hcz21_0 : w5.cell? ⟨gb166, 0, none⟩ = some (.int .i64 a1_0) := (blk_cell BK166.out 0).trans rfl
                        have hcz21_1 : w5.cell? ⟨gb166, 1, none⟩ = some (.int .i64 a1_1) := (blk_cell BK166.out 1).trans rfl
                        have hcz21_2 : w5.cell? ⟨gb166, 2, none⟩ = some (.int .i64 a1_2) := (blk_cell BK166.out 2).trans rfl
                        have hcz21_3 : w5.cell? ⟨gb166, 3, none⟩ = some (.int .i64 a1_3) := (blk_cell BK166.out 3).trans rfl
                        have hcz21_4 : w5.cell? ⟨gb166, 4, none⟩ = some (.int .i64 a1_4) := (blk_cell BK166.out 4).trans rfl
                        have hcz21_5 : w5.cell? ⟨gb166, 5, none⟩ = some (.int .i64 a1_5) := (blk_cell BK166.out 5).trans rfl
                        have hcz21_6 : w5.cell? ⟨gb166, 6, none⟩ = some (.int .i64 a1_6) := (blk_cell BK166.out 6).trans rfl
                        have hcz21_7 : w5.cell? ⟨gb166, 7, none⟩ = some (.int .i64 a1_7) := (blk_cell BK166.out 7).trans rfl
                        have hcz21_8 : w5.cell? ⟨gb166, 8, none⟩ = some (.int .i64 a1_8) := (blk_cell BK166.out 8).trans rfl
                        have hcz21_9 : w5.cell? ⟨gb166, 9, none⟩ = some (.bool a1_9) := (blk_cell BK166.out 9).trans rfl
                        have hcz21_10 : w5.cell? ⟨gb166, 10, none⟩ = some (.int .i64 a1_10) := (blk_cell BK166.out 10).trans rfl
                        have hcz21_11 : w5.cell? ⟨gb166, 11, none⟩ = some (.int .i64 a1_11) := (blk_cell BK166.out 11).trans rfl
                        have hcz21_12 : w5.cell? ⟨gb166, 12, none⟩ = some (.slice A1_12 l1_12.length c1_12) := (blk_cell BK166.out 12).trans rfl
                        have hcz21_13 : w5.cell? ⟨gb166, 13, none⟩ = some (.slice A1_13 l1_13.length c1_13) := (blk_cell BK166.out 13).trans rfl
                        have hcz21_14 : w5.cell? ⟨gb166, 14, none⟩ = some (.slice A1_14 l1_14.length c1_14) := (blk_cell BK166.out 14).trans rfl
                        have hfz21_0 := blk_frozen BK166.out 0
                        have hfz21_1 := blk_frozen BK166.out 1
                        have hfz21_2 := blk_frozen BK166.out 2
                        have hfz21_3 := blk_frozen BK166.out 3
                        have hfz21_4 := blk_frozen BK166.out 4
                        have hfz21_5 := blk_frozen BK166.out 5
                        have hfz21_6 := blk_frozen BK166.out 6
                        have hfz21_7 := blk_frozen BK166.out 7
                        have hfz21_8 := blk_frozen BK166.out 8
                        have hfz21_9 := blk_frozen BK166.out 9
                        have hfz21_10 := blk_frozen BK166.out 10
                        have hfz21_11 := blk_frozen BK166.out 11
                        have hfz21_12 := blk_frozen BK166.out 12
                        have hfz21_13 := blk_frozen BK166.out 13
                        have hfz21_14 := blk_frozen BK166.out 14
                        go_wp2
                        go_meet
                        case rel => exact ⟨_, ((!(a0_10 == a1_10) || (!(a0_11 == a1_11)))), (by first | rfl | (simp; done) | (simp [*]; done)), H', ⟨by first | omega | exact Nat.le_refl _⟩, ⟨by (with_reducible repeat (first | refine blk_drewN ?_ _ | refine blk_drew ?_ | refine blk_alloc ?_ _)); exact BK165.out⟩, ⟨by (with_reducible repeat (first | refine blk_drewN ?_ _ | refine blk_drew ?_ | refine blk_alloc ?_ _)); exact BK166.out⟩, ⟨by repeat (first | (with_reducible first | exact HB.out | apply below_alloc | apply pw_below_drewN | apply below_drew1 | refine below_set ?_ GE165.out | refine below_set ?_ GE166.out) | exact HB.out)⟩⟩
                    · rw [if_neg c14] at H
                      have c14b0 : (a0_8 == a1_8) = false := beq_eq_false_iff_ne.mpr c14
                      have c14b1 : (a0_8 != a1_8) = true := bne_iff_ne.mpr c14
                      have H' := Aside0.mk H
                      clear H
                      have hnb22 := NB165_166.out
                      have hnc22 := NB166_165.out
                      have hcz23_0 : w5.cell? ⟨gb165, 0, none⟩ = some (.int .i64 a0_0) := (blk_cell BK165.out 0).trans rfl
                      have hcz23_1 : w5.cell? ⟨gb165, 1, none⟩ = some (.int .i64 a0_1) := (blk_cell BK165.out 1).trans rfl
                      have hcz23_2 : w5.cell? ⟨gb165, 2, none⟩ = some (.int .i64 a0_2) := (blk_cell BK165.out 2).trans rfl
                      have hcz23_3 : w5.cell? ⟨gb165, 3, none⟩ = some (.int .i64 a0_3) := (blk_cell BK165.out 3).trans rfl
                      have hcz23_4 : w5.cell? ⟨gb165, 4, none⟩ = some (.int .i64 a0_4) := (blk_cell BK165.out 4).trans rfl
                      have hcz23_5 : w5.cell? ⟨gb165, 5, none⟩ = some (.int .i64 a0_5) := (blk_cell BK165.out 5).trans rfl
                      have hcz23_6 : w5.cell? ⟨gb165, 6, none⟩ = some (.int .i64 a0_6) := (blk_cell BK165.out 6).trans rfl
                      have hcz23_7 : w5.cell? ⟨gb165, 7, none⟩ = some (.int .i64 a0_7) := (blk_cell BK165.out 7).trans rfl
                      have hcz23_8 : w5.cell? ⟨gb165, 8, none⟩ = some (.int .i64 a0_8) := (blk_cell BK165.out 8).trans rfl
                      have hcz23_9 : w5.cell? ⟨gb165, 9, none⟩ = some (.bool a0_9) := (blk_cell BK165.out 9).trans rfl
                      have hcz23_10 : w5.cell? ⟨gb165, 10, none⟩ = some (.int .i64 a0_10) := (blk_cell BK165.out 10).trans rfl
                      have hcz23_11 : w5.cell? ⟨gb165, 11, none⟩ = some (.int .i64 a0_11) := (blk_cell BK165.out 11).trans rfl
                      have hcz23_12 : w5.cell? ⟨gb165, 12, none⟩ = some (.slice A0_12 l0_12.length c0_12) := (blk_cell BK165.out 12).trans rfl
                      have hcz23_13 : w5.cell? ⟨gb165, 13, none⟩ = some (.slice A0_13 l0_13.length c0_13) := (blk_cell BK165.out 13).trans rfl
                      have hcz23_14 : w5.cell? ⟨gb165, 14, none⟩ = some (.slice A0_14 l0_14.length c0_14) := (blk_cell BK165.out 14).trans rfl
                      have hfz23_0 := blk_frozen BK165.out 0
                      have hfz23_1 := blk_frozen BK165.out 1
                      have hfz23_2 := blk_frozen BK165.out 2
                      have hfz23_3 := blk_frozen BK165.out 3
                      have hfz23_4 := blk_frozen BK165.out 4
                      have hfz23_5 := blk_frozen BK165.out 5
                      have hfz23_6 := blk_frozen BK165.out 6
                      have hfz23_7 := blk_frozen BK165.out 7
                      have hfz23_8 := blk_frozen BK165.out 8
                      have hfz23_9 := blk_frozen BK165.out 9
                      have hfz23_10 := blk_frozen BK165.out 10
                      have hfz23_11 := blk_frozen BK165.out 11
                      have hfz23_12 := blk_frozen BK165.out 12
                      have hfz23_13 := blk_frozen BK165.out 13
                      have hfz23_14 := blk_frozen BK165.out 14
                      have hcz24_0 : w5.cell? ⟨gb166, 0, none⟩ = some (.int .i64 a1_0) := (blk_cell BK166.out 0).trans rfl
                      have hcz24_1 : w5.cell? ⟨gb166, 1, none⟩ = some (.int .i64 a1_1) := (blk_cell BK166.out 1).trans rfl
                      have hcz24_2 : w5.cell? ⟨gb166, 2, none⟩ = some (.int .i64 a1_2) := (blk_cell BK166.out 2).trans rfl
                      have hcz24_3 : w5.cell? ⟨gb166, 3, none⟩ = some (.int .i64 a1_3) := (blk_cell BK166.out 3).trans rfl
                      have hcz24_4 : w5.cell? ⟨gb166, 4, none⟩ = some (.int .i64 a1_4) := (blk_cell BK166.out 4).trans rfl
                      have hcz24_5 : w5.cell? ⟨gb166, 5, none⟩ = some (.int .i64 a1_5) := (blk_cell BK166.out 5).trans rfl
                      have hcz24_6 : w5.cell? ⟨gb166, 6, none⟩ = some (.int .i64 a1_6) := (blk_cell BK166.out 6).trans rfl
                      have hcz24_7 : w5.cell? ⟨gb166, 7, none⟩ = some (.int .i64 a1_7) := (blk_cell BK166.out 7).trans rfl
                      have hcz24_8 : w5.cell? ⟨gb166, 8, none⟩ = some (.int .i64 a1_8) := (blk_cell BK166.out 8).trans rfl
                      have hcz24_9 : w5.cell? ⟨gb166, 9, none⟩ = some (.bool a1_9) := (blk_cell BK166.out 9).trans rfl
                      have hcz24_10 : w5.cell? ⟨gb166, 10, none⟩ = some (.int .i64 a1_10) := (blk_cell BK166.out 10).trans rfl
                      have hcz24_11 : w5.cell? ⟨gb166, 11, none⟩ = some (.int .i64 a1_11) := (blk_cell BK166.out 11).trans rfl
                      have hcz24_12 : w5.cell? ⟨gb166, 12, none⟩ = some (.slice A1_12 l1_12.length c1_12) := (blk_cell BK166.out 12).trans rfl
                      have hcz24_13 : w5.cell? ⟨gb166, 13, none⟩ = some (.slice A1_13 l1_13.length c1_13) := (blk_cell BK166.out 13).trans rfl
                      have hcz24_14 : w5.cell? ⟨gb166, 14, none⟩ = some (.slice A1_14 l1_14.length c1_14) := (blk_cell BK166.out 14).trans rfl
                      have hfz24_0 := blk_frozen BK166.out 0
                      have hfz24_1 := blk_frozen BK166.out 1
                      have hfz24_2 := blk_frozen BK166.out 2
                      have hfz24_3 := blk_frozen BK166.out 3
                      have hfz24_4 := blk_frozen BK166.out 4
                      have hfz24_5 := blk_frozen BK166.out 5
                      have hfz24_6 := blk_frozen BK166.out 6
                      have hfz24_7 := blk_frozen BK166.out 7
                      have hfz24_8 := blk_frozen BK166.out 8
                      have hfz24_9 := blk_frozen BK166.out 9
                      have hfz24_10 := blk_frozen BK166.out 10
                      have hfz24_11 := blk_frozen BK166.out 11
                      have hfz24_12 := blk_frozen BK166.out 12
                      have hfz24_13 := blk_frozen BK166.out 13
                      have hfz24_14 := blk_frozen BK166.out 14
                      go_wp2
                      go_meet
                      case rel => exact ⟨_, (true), (by first | rfl | (simp; done) | (simp [*]; done)), H', ⟨by first | omega | exact Nat.le_refl _⟩, ⟨by (with_reducible repeat (first | refine blk_drewN ?_ _ | refine blk_drew ?_ | refine blk_alloc ?_ _)); exact BK165.out⟩, ⟨by (with_reducible repeat (first | refine blk_drewN ?_ _ | refine blk_drew ?_ | refine blk_alloc ?_ _)); exact BK166.out⟩, ⟨by repeat (first | (with_reducible first | exact HB.out | apply below_alloc | apply pw_below_drewN | apply below_drew1 | refine below_set ?_ GE165.out | refine below_set ?_ GE166.out) | exact HB.out)⟩⟩
                  · rw [if_neg c13] at H
                    have c13b0 : (a0_7 == a1_7) = false := beq_eq_false_iff_ne.mpr c13
                    have c13b1 : (a0_7 != a1_7) = true := bne_iff_ne.mpr c13
                    have H' := Aside0.mk H
                    clear H
                    have hnb25 := NB165_166.out
                    have hnc25 := NB166_165.out
                    have hcz26_0 : w5.cell? ⟨gb165, 0, none⟩ = some (.int .i64 a0_0) := (blk_cell BK165.out 0).trans rfl
                    have hcz26_1 : w5.cell? ⟨gb165, 1, none⟩ = some (.int .i64 a0_1) := (blk_cell BK165.out 1).trans rfl
                    have hcz26_2 : w5.cell? ⟨gb165, 2, none⟩ = some (.int .i64 a0_2) := (blk_cell BK165.out 2).trans rfl
                    have hcz26_3 : w5.cell? ⟨gb165, 3, none⟩ = some (.int .i64 a0_3) := (blk_cell BK165.out 3).trans rfl
                    have hcz26_4 : w5.cell? ⟨gb165, 4, none⟩ = some (.int .i64 a0_4) := (blk_cell BK165.out 4).trans rfl
                    have hcz26_5 : w5.cell? ⟨gb165, 5, none⟩ = some (.int .i64 a0_5) := (blk_cell BK165.out 5).trans rfl
                    have hcz26_6 : w5.cell? ⟨gb165, 6, none⟩ = some (.int .i64 a0_6) := (blk_cell BK165.out 6).trans rfl
                    have hcz26_7 : w5.cell? ⟨gb165, 7, none⟩ = some (.int .i64 a0_7) := (blk_cell BK165.out 7).trans rfl
                    have hcz26_8 : w5.cell? ⟨gb165, 8, none⟩ = some (.int .i64 a0_8) := (blk_cell BK165.out 8).trans rfl
                    have hcz26_9 : w5.cell? ⟨gb165, 9, none⟩ = some (.bool a0_9) := (blk_cell BK165.out 9).trans rfl
                    have hcz26_10 : w5.cell? ⟨gb165, 10, none⟩ = some (.int .i64 a0_10) := (blk_cell BK165.out 10).trans rfl
                    have hcz26_11 : w5.cell? ⟨gb165, 11, none⟩ = some (.int .i64 a0_11) := (blk_cell BK165.out 11).trans rfl
                    have hcz26_12 : w5.cell? ⟨gb165, 12, none⟩ = some (.slice A0_12 l0_12.length c0_12) := (blk_cell BK165.out 12).trans rfl
                    have hcz26_13 : w5.cell? ⟨gb165, 13, none⟩ = some (.slice A0_13 l0_13.length c0_13) := (blk_cell BK165.out 13).trans rfl
                    have hcz26_14 : w5.cell? ⟨gb165, 14, none⟩ = some (.slice A0_14 l0_14.length c0_14) := (blk_cell BK165.out 14).trans rfl
                    have hfz26_0 := blk_frozen BK165.out 0
                    have hfz26_1 := blk_frozen BK165.out 1
                    have hfz26_2 := blk_frozen BK165.out 2
                    have hfz26_3 := blk_frozen BK165.out 3
                    have hfz26_4 := blk_frozen BK165.out 4
                    have hfz26_5 := blk_frozen BK165.out 5
                    have hfz26_6 := blk_frozen BK165.out 6
                    have hfz26_7 := blk_frozen BK165.out 7
                    have hfz26_8 := blk_frozen BK165.out 8
                    have hfz26_9 := blk_frozen BK165.out 9
                    have hfz26_10 := blk_frozen BK165.out 10
                    have hfz26_11 := blk_frozen BK165.out 11
                    have hfz26_12 := blk_frozen BK165.out 12
                    have hfz26_13 := blk_frozen BK165.out 13
                    have hfz26_14 := blk_frozen BK165.out 14
                    have hcz27_0 : w5.cell? ⟨gb166, 0, none⟩ = some (.int .i64 a1_0) := (blk_cell BK166.out 0).trans rfl
                    have hcz27_1 : w5.cell? ⟨gb166, 1, none⟩ = some (.int .i64 a1_1) := (blk_cell BK166.out 1).trans rfl
                    have hcz27_2 : w5.cell? ⟨gb166, 2, none⟩ = some (.int .i64 a1_2) := (blk_cell BK166.out 2).trans rfl
                    have hcz27_3 : w5.cell? ⟨gb166, 3, none⟩ = some (.int .i64 a1_3) := (blk_cell BK166.out 3).trans rfl
                    have hcz27_4 : w5.cell? ⟨gb166, 4, none⟩ = some (.int .i64 a1_4) := (blk_cell BK166.out 4).trans rfl
                    have hcz27_5 : w5.cell? ⟨gb166, 5, none⟩ = some (.int .i64 a1_5) := (blk_cell BK166.out 5).trans rfl
                    have hcz27_6 : w5.cell? ⟨gb166, 6, none⟩ = some (.int .i64 a1_6) := (blk_cell BK166.out 6).trans rfl
                    have hcz27_7 : w5.cell? ⟨gb166, 7, none⟩ = some (.int .i64 a1_7) := (blk_cell BK166.out 7).trans rfl
                    have hcz27_8 : w5.cell? ⟨gb166, 8, none⟩ = some (.int .i64 a1_8) := (blk_cell BK166.out 8).trans rfl
                    have hcz27_9 : w5.cell? ⟨gb166, 9, none⟩ = some (.bool a1_9) := (blk_cell BK166.out 9).trans rfl
                    have hcz27_10 : w5.cell? ⟨gb166, 10, none⟩ = some (.int .i64 a1_10) := (blk_cell BK166.out 10).trans rfl
                    have hcz27_11 : w5.cell? ⟨gb166, 11, none⟩ = some (.int .i64 a1_11) := (blk_cell BK166.out 11).trans rfl
                    have hcz27_12 : w5.cell? ⟨gb166, 12, none⟩ = some (.slice A1_12 l1_12.length c1_12) := (blk_cell BK166.out 12).trans rfl
                    have hcz27_13 : w5.cell? ⟨gb166, 13, none⟩ = some (.slice A1_13 l1_13.length c1_13) := (blk_cell BK166.out 13).trans rfl
                    have hcz27_14 : w5.cell? ⟨gb166, 14, none⟩ = some (.slice A1_14 l1_14.length c1_14) := (blk_cell BK166.out 14).trans rfl
                    have hfz27_0 := blk_frozen BK166.out 0
                    have hfz27_1 := blk_frozen BK166.out 1
                    have hfz27_2 := blk_frozen BK166.out 2
                    have hfz27_3 := blk_frozen BK166.out 3
                    have hfz27_4 := blk_frozen BK166.out 4
                    have hfz27_5 := blk_frozen BK166.out 5
                    have hfz27_6 := blk_frozen BK166.out 6
                    have hfz27_7 := blk_frozen BK166.out 7
                    have hfz27_8 := blk_frozen BK166.out 8
                    have hfz27_9 := blk_frozen BK166.out 9
                    have hfz27_10 := blk_frozen BK166.out 10
                    have hfz27_11 := blk_frozen BK166.out 11
                    have hfz27_12 := blk_frozen BK166.out 12
                    have hfz27_13 := blk_frozen BK166.out 13
                    have hfz27_14 := blk_frozen BK166.out 14
                    go_wp2
                    go_meet
                    case rel => exact ⟨_, (true), (by first | rfl | (simp; done) | (simp [*]; done)), H', ⟨by first | omega | exact Nat.le_refl _⟩, ⟨by (with_reducible repeat (first | refine blk_drewN ?_ _ | refine blk_drew ?_ | refine blk_alloc ?_ _)); exact BK165.out⟩, ⟨by (with_reducible repeat (first | refine blk_drewN ?_ _ | refine blk_drew ?_ | refine blk_alloc ?_ _)); exact BK166.out⟩, ⟨by repeat (first | (with_reducible first | exact HB.out | apply below_alloc | apply pw_below_drewN | apply below_drew1 | refine below_set ?_ GE165.out | refine below_set ?_ GE166.out) | exact HB.out)⟩⟩
                · rw [if_neg c12] at H
                  have c12b0 : (a0_6 == a1_6) = false := beq_eq_false_iff_ne.mpr c12
                  have c12b1 : (a0_6 != a1_6) = true := bne_iff_ne.mpr c12
                  have H' := Aside0.mk H
                  clear H
                  have hnb28 := NB165_166.out
                  have hnc28 := NB166_165.out
                  have hcz29_0 : w5.cell? ⟨gb165, 0, none⟩ = some (.int .i64 a0_0) := (blk_cell BK165.out 0).trans rfl
                  have hcz29_1 : w5.cell? ⟨gb165, 1, none⟩ = some (.int .i64 a0_1) := (blk_cell BK165.out 1).trans rfl
                  have hcz29_2 : w5.cell? ⟨gb165, 2, none⟩ = some (.int .i64 a0_2) := (blk_cell BK165.out 2).trans rfl
                  have hcz29_3 : w5.cell? ⟨gb165, 3, none⟩ = some (.int .i64 a0_3) := (blk_cell BK165.out 3).trans rfl
                  have hcz29_4 : w5.cell? ⟨gb165, 4, none⟩ = some (.int .i64 a0_4) := (blk_cell BK165.out 4).trans rfl
                  have hcz29_5 : w5.cell? ⟨gb165, 5, none⟩ = some (.int .i64 a0_5) := (blk_cell BK165.out 5).trans rfl
                  have hcz29_6 : w5.cell? ⟨gb165, 6, none⟩ = some (.int .i64 a0_6) := (blk_cell BK165.out 6).trans rfl
                  have hcz29_7 : w5.cell? ⟨gb165, 7, none⟩ = some (.int .i64 a0_7) := (blk_cell BK165.out 7).trans rfl
                  have hcz29_8 : w5.cell? ⟨gb165, 8, none⟩ = some (.int .i64 a0_8) := (blk_cell BK165.out 8).trans rfl
                  have hcz29_9 : w5.cell? ⟨gb165, 9, none⟩ = some (.bool a0_9) := (blk_cell BK165.out 9).trans rfl
                  have hcz29_10 : w5.cell? ⟨gb165, 10, none⟩ = some (.int .i64 a0_10) := (blk_cell BK165.out 10).trans rfl
                  have hcz29_11 : w5.cell? ⟨gb165, 11, none⟩ = some (.int .i64 a0_11) := (blk_cell BK165.out 11).trans rfl
                  have hcz29_12 : w5.cell? ⟨gb165, 12, none⟩ = some (.slice A0_12 l0_12.length c0_12) := (blk_cell BK165.out 12).trans rfl
                  have hcz29_13 : w5.cell? ⟨gb165, 13, none⟩ = some (.slice A0_13 l0_13.length c0_13) := (blk_cell BK165.out 13).trans rfl
                  have hcz29_14 : w5.cell? ⟨gb165, 14, none⟩ = some (.slice A0_14 l0_14.length c0_14) := (blk_cell BK165.out 14).trans rfl
                  have hfz29_0 := blk_frozen BK165.out 0
                  have hfz29_1 := blk_frozen BK165.out 1
                  have hfz29_2 := blk_frozen BK165.out 2
                  have hfz29_3 := blk_frozen BK165.out 3
                  have hfz29_4 := blk_frozen BK165.out 4
                  have hfz29_5 := blk_frozen BK165.out 5
                  have hfz29_6 := blk_frozen BK165.out 6
                  have hfz29_7 := blk_frozen BK165.out 7
                  have hfz29_8 := blk_frozen BK165.out 8
                  have hfz29_9 := blk_frozen BK165.out 9
                  have hfz29_10 := blk_frozen BK165.out 10
                  have hfz29_11 := blk_frozen BK165.out 11
                  have hfz29_12 := blk_frozen BK165.out 12
                  have hfz29_13 := blk_frozen BK165.out 13
                  have hfz29_14 := blk_frozen BK165.out 14
                  have hcz30_0 : w5.cell? ⟨gb166, 0, none⟩ = some (.int .i64 a1_0) := (blk_cell BK166.out 0).trans rfl
                  have hcz30_1 : w5.cell? ⟨gb166, 1, none⟩ = some (.int .i64 a1_1) := (blk_cell BK166.out 1).trans rfl
                  have hcz30_2 : w5.cell? ⟨gb166, 2, none⟩ = some (.int .i64 a1_2) := (blk_cell BK166.out 2).trans rfl
                  have hcz30_3 : w5.cell? ⟨gb166, 3, none⟩ = some (.int .i64 a1_3) := (blk_cell BK166.out 3).trans rfl
                  have hcz30_4 : w5.cell? ⟨gb166, 4, none⟩ = some (.int .i64 a1_4) := (blk_cell BK166.out 4).trans rfl
                  have hcz30_5 : w5.cell? ⟨gb166, 5, none⟩ = some (.int .i64 a1_5) := (blk_cell BK166.out 5).trans rfl
                  have hcz30_6 : w5.cell? ⟨gb166, 6, none⟩ = some (.int .i64 a1_6) := (blk_cell BK166.out 6).trans rfl
                  have hcz30_7 : w5.cell? ⟨gb166, 7, none⟩ = some (.int .i64 a1_7) := (blk_cell BK166.out 7).trans rfl
                  have hcz30_8 : w5.cell? ⟨gb166, 8, none⟩ = some (.int .i64 a1_8) := (blk_cell BK166.out 8).trans rfl
                  have hcz30_9 : w5.cell? ⟨gb166, 9, none⟩ = some (.bool a1_9) := (blk_cell BK166.out 9).trans rfl
                  have hcz30_10 : w5.cell? ⟨gb166, 10, none⟩ = some (.int .i64 a1_10) := (blk_cell BK166.out 10).trans rfl
                  have hcz30_11 : w5.cell? ⟨gb166, 11, none⟩ = some (.int .i64 a1_11) := (blk_cell BK166.out 11).trans rfl
                  have hcz30_12 : w5.cell? ⟨gb166, 12, none⟩ = some (.slice A1_12 l1_12.length c1_12) := (blk_cell BK166.out 12).trans rfl
                  have hcz30_13 : w5.cell? ⟨gb166, 13, none⟩ = some (.slice A1_13 l1_13.length c1_13) := (blk_cell BK166.out 13).trans rfl
                  have hcz30_14 : w5.cell? ⟨gb166, 14, none⟩ = some (.slice A1_14 l1_14.length c1_14) := (blk_cell BK166.out 14).trans rfl
                  have hfz30_0 := blk_frozen BK166.out 0
                  have hfz30_1 := blk_frozen BK166.out 1
                  have hfz30_2 := blk_frozen BK166.out 2
                  have hfz30_3 := blk_frozen BK166.out 3
                  have hfz30_4 := blk_frozen BK166.out 4
                  have hfz30_5 := blk_frozen BK166.out 5
                  have hfz30_6 := blk_frozen BK166.out 6
                  have hfz30_7 := blk_frozen BK166.out 7
                  have hfz30_8 := blk_frozen BK166.out 8
                  have hfz30_9 := blk_frozen BK166.out 9
                  have hfz30_10 := blk_frozen BK166.out 10
                  have hfz30_11 := blk_frozen BK166.out 11
                  have hfz30_12 := blk_frozen BK166.out 12
                  have hfz30_13 := blk_frozen BK166.out 13
                  have hfz30_14 := blk_frozen BK166.out 14
                  go_wp2
                  go_meet
                  case rel => exact ⟨_, (true), (by first | rfl | (simp; done) | (simp [*]; done)), H', ⟨by first | omega | exact Nat.le_refl _⟩, ⟨by (with_reducible repeat (first | refine blk_drewN ?_ _ | refine blk_drew ?_ | refine blk_alloc ?_ _)); exact BK165.out⟩, ⟨by (with_reducible repeat (first | refine blk_drewN ?_ _ | refine blk_drew ?_ | refine blk_alloc ?_ _)); exact BK166.out⟩, ⟨by repeat (first | (with_reducible first | exact HB.out | apply below_alloc | apply pw_below_drewN | apply below_drew1 | refine below_set ?_ GE165.out | refine below_set ?_ GE166.out) | exact HB.out)⟩⟩
              · rw [if_neg c11] at H
                have c11b0 : (a0_5 == a1_5) = false := beq_eq_false_iff_ne.mpr c11
                have c11b1 : (a0_5 != a1_5) = true := bne_iff_ne.mpr c11
                have H' := Aside0.mk H
                clear H
                have hnb31 := NB165_166.out
                have hnc31 := NB166_165.out
                have hcz32_0 : w5.cell? ⟨gb165, 0, none⟩ = some (.int .i64 a0_0) := (blk_cell BK165.out 0).trans rfl
                have hcz32_1 : w5.cell? ⟨gb165, 1, none⟩ = some (.int .i64 a0_1) := (blk_cell BK165.out 1).trans rfl
                have hcz32_2 : w5.cell? ⟨gb165, 2, none⟩ = some (.int .i64 a0_2) := (blk_cell BK165.out 2).trans rfl
                have hcz32_3 : w5.cell? ⟨gb165, 3, none⟩ = some (.int .i64 a0_3) := (blk_cell BK165.out 3).trans rfl
                have hcz32_4 : w5.cell? ⟨gb165, 4, none⟩ = some (.int .i64 a0_4) := (blk_cell BK165.out 4).trans rfl
                have hcz32_5 : w5.cell? ⟨gb165, 5, none⟩ = some (.int .i64 a0_5) := (blk_cell BK165.out 5).trans rfl
                have hcz32_6 : w5.cell? ⟨gb165, 6, none⟩ = some (.int .i64 a0_6) := (blk_cell BK165.out 6).trans rfl
                have hcz32_7 : w5.cell? ⟨gb165, 7, none⟩ = some (.int .i64 a0_7) := (blk_cell BK165.out 7).trans rfl
                have hcz32_8 : w5.cell? ⟨gb165, 8, none⟩ = some (.int .i64 a0_8) := (blk_cell BK165.out 8).trans rfl
                have hcz32_9 : w5.cell? ⟨gb165, 9, none⟩ = some (.bool a0_9) := (blk_cell BK165.out 9).trans rfl
                have hcz32_10 : w5.cell? ⟨gb165, 10, none⟩ = some (.int .i64 a0_10) := (blk_cell BK165.out 10).trans rfl
                have hcz32_11 : w5.cell? ⟨gb165, 11, none⟩ = some (.int .i64 a0_11) := (blk_cell BK165.out 11).trans rfl
                have hcz32_12 : w5.cell? ⟨gb165, 12, none⟩ = some (.slice A0_12 l0_12.length c0_12) := (blk_cell BK165.out 12).trans rfl
                have hcz32_13 : w5.cell? ⟨gb165, 13, none⟩ = some (.slice A0_13 l0_13.length c0_13) := (blk_cell BK165.out 13).trans rfl
                have hcz32_14 : w5.cell? ⟨gb165, 14, none⟩ = some (.slice A0_14 l0_14.length c0_14) := (blk_cell BK165.out 14).trans rfl
                have hfz32_0 := blk_frozen BK165.out 0
                have hfz32_1 := blk_frozen BK165.out 1
                have hfz32_2 := blk_frozen BK165.out 2
                have hfz32_3 := blk_frozen BK165.out 3
                have hfz32_4 := blk_frozen BK165.out 4
                have hfz32_5 := blk_frozen BK165.out 5
                have hfz32_6 := blk_frozen BK165.out 6
                have hfz32_7 := blk_frozen BK165.out 7
                have hfz32_8 := blk_frozen BK165.out 8
                have hfz32_9 := blk_frozen BK165.out 9
                have hfz32_10 := blk_frozen BK165.out 10
                have hfz32_11 := blk_frozen BK165.out 11
                have hfz32_12 := blk_frozen BK165.out 12
                have hfz32_13 := blk_frozen BK165.out 13
                have hfz32_14 := blk_frozen BK165.out 14
                have hcz33_0 : w5.cell? ⟨gb166, 0, none⟩ = some (.int .i64 a1_0) := (blk_cell BK166.out 0).trans rfl
                have hcz33_1 : w5.cell? ⟨gb166, 1, none⟩ = some (.int .i64 a1_1) := (blk_cell BK166.out 1).trans rfl
                have hcz33_2 : w5.cell? ⟨gb166, 2, none⟩ = some (.int .i64 a1_2) := (blk_cell BK166.out 2).trans rfl
                have hcz33_3 : w5.cell? ⟨gb166, 3, none⟩ = some (.int .i64 a1_3) := (blk_cell BK166.out 3).trans rfl
                have hcz33_4 : w5.cell? ⟨gb166, 4, none⟩ = some (.int .i64 a1_4) := (blk_cell BK166.out 4).trans rfl
                have hcz33_5 : w5.cell? ⟨gb166, 5, none⟩ = some (.int .i64 a1_5) := (blk_cell BK166.out 5).trans rfl
                have hcz33_6 : w5.cell? ⟨gb166, 6, none⟩ = some (.int .i64 a1_6) := (blk_cell BK166.out 6).trans rfl
                have hcz33_7 : w5.cell? ⟨gb166, 7, none⟩ = some (.int .i64 a1_7) := (blk_cell BK166.out 7).trans rfl
                have hcz33_8 : w5.cell? ⟨gb166, 8, none⟩ = some (.int .i64 a1_8) := (blk_cell BK166.out 8).trans rfl
                have hcz33_9 : w5.cell? ⟨gb166, 9, none⟩ = some (.bool a1_9) := (blk_cell BK166.out 9).trans rfl
                have hcz33_10 : w5.cell? ⟨gb166, 10, none⟩ = some (.int .i64 a1_10) := (blk_cell BK166.out 10).trans rfl
                have hcz33_11 : w5.cell? ⟨gb166, 11, none⟩ = some (.int .i64 a1_11) := (blk_cell BK166.out 11).trans rfl
                have hcz33_12 : w5.cell? ⟨gb166, 12, none⟩ = some (.slice A1_12 l1_12.length c1_12) := (blk_cell BK166.out 12).trans rfl
                have hcz33_13 : w5.cell? ⟨gb166, 13, none⟩ = some (.slice A1_13 l1_13.length c1_13) := (blk_cell BK166.out 13).trans rfl
                have hcz33_14 : w5.cell? ⟨gb166, 14, none⟩ = some (.slice A1_14 l1_14.length c1_14) := (blk_cell BK166.out 14).trans rfl
                have hfz33_0 := blk_frozen BK166.out 0
                have hfz33_1 := blk_frozen BK166.out 1
                have hfz33_2 := blk_frozen BK166.out 2
                have hfz33_3 := blk_frozen BK166.out 3
                have hfz33_4 := blk_frozen BK166.out 4
                have hfz33_5 := blk_frozen BK166.out 5
                have hfz33_6 := blk_frozen BK166.out 6
                have hfz33_7 := blk_frozen BK166.out 7
                have hfz33_8 := blk_frozen BK166.out 8
                have hfz33_9 := blk_frozen BK166.out 9
                have hfz33_10 := blk_frozen BK166.out 10
                have hfz33_11 := blk_frozen BK166.out 11
                have hfz33_12 := blk_frozen BK166.out 12
                have hfz33_13 := blk_frozen BK166.out 13
                have hfz33_14 := blk_frozen BK166.out 14
                go_wp2
                go_meet
                case rel => exact ⟨_, (true), (by first | rfl | (simp; done) | (simp [*]; done)), H', ⟨by first | omega | exact Nat.le_refl _⟩, ⟨by (with_reducible repeat (first | refine blk_drewN ?_ _ | refine blk_drew ?_ | refine blk_alloc ?_ _)); exact BK165.out⟩, ⟨by (with_reducible repeat (first | refine blk_drewN ?_ _ | refine blk_drew ?_ | refine blk_alloc ?_ _)); exact BK166.out⟩, ⟨by repeat (first | (with_reducible first | exact HB.out | apply below_alloc | apply pw_below_drewN | apply below_drew1 | refine below_set ?_ GE165.out | refine below_set ?_ GE166.out) | exact HB.out)⟩⟩
            · rw [if_neg c10] at H
              have c10b0 : (a0_4 == a1_4) = false := beq_eq_false_iff_ne.mpr c10
              have c10b1 : (a0_4 != a1_4) = true := bne_iff_ne.mpr c10
              have H' := Aside0.mk H
              clear H
              have hnb34 := NB165_166.out
              have hnc34 := NB166_165.out
              have hcz35_0 : w5.cell? ⟨gb165, 0, none⟩ = some (.int .i64 a0_0) := (blk_cell BK165.out 0).trans rfl
              have hcz35_1 : w5.cell? ⟨gb165, 1, none⟩ = some (.int .i64 a0_1) := (blk_cell BK165.out 1).trans rfl
              have hcz35_2 : w5.cell? ⟨gb165, 2, none⟩ = some (.int .i64 a0_2) := (blk_cell BK165.out 2).trans rfl
              have hcz35_3 : w5.cell? ⟨gb165, 3, none⟩ = some (.int .i64 a0_3) := (blk_cell BK165.out 3).trans rfl
              have hcz35_4 : w5.cell? ⟨gb165, 4, none⟩ = some (.int .i64 a0_4) := (blk_cell BK165.out 4).trans rfl
              have hcz35_5 : w5.cell? ⟨gb165, 5, none⟩ = some (.int .i64 a0_5) := (blk_cell BK165.out 5).trans rfl
              have hcz35_6 : w5.cell? ⟨gb165, 6, none⟩ = some (.int .i64 a0_6) := (blk_cell BK165.out 6).trans rfl
              have hcz35_7 : w5.cell? ⟨gb165, 7, none⟩ = some (.int .i64 a0_7) := (blk_cell BK165.out 7).trans rfl
              have hcz35_8 : w5.cell? ⟨gb165, 8, none⟩ = some (.int .i64 a0_8) := (blk_cell BK165.out 8).trans rfl
              have hcz35_9 : w5.cell? ⟨gb165, 9, none⟩ = some (.bool a0_9) := (blk_cell BK165.out 9).trans rfl
              have hcz35_10 : w5.cell? ⟨gb165, 10, none⟩ = some (.int .i64 a0_10) := (blk_cell BK165.out 10).trans rfl
              have hcz35_11 : w5.cell? ⟨gb165, 11, none⟩ = some (.int .i64 a0_11) := (blk_cell BK165.out 11).trans rfl
              have hcz35_12 : w5.cell? ⟨gb165, 12, none⟩ = some (.slice A0_12 l0_12.length c0_12) := (blk_cell BK165.out 12).trans rfl
              have hcz35_13 : w5.cell? ⟨gb165, 13, none⟩ = some (.slice A0_13 l0_13.length c0_13) := (blk_cell BK165.out 13).trans rfl
              have hcz35_14 : w5.cell? ⟨gb165, 14, none⟩ = some (.slice A0_14 l0_14.length c0_14) := (blk_cell BK165.out 14).trans rfl
              have hfz35_0 := blk_frozen BK165.out 0
              have hfz35_1 := blk_frozen BK165.out 1
              have hfz35_2 := blk_frozen BK165.out 2
              have hfz35_3 := blk_frozen BK165.out 3
              have hfz35_4 := blk_frozen BK165.out 4
              have hfz35_5 := blk_frozen BK165.out 5
              have hfz35_6 := blk_frozen BK165.out 6
              have hfz35_7 := blk_frozen BK165.out 7
              have hfz35_8 := blk_frozen BK165.out 8
              have hfz35_9 := blk_frozen BK165.out 9
              have hfz35_10 := blk_frozen BK165.out 10
              have hfz35_11 := blk_frozen BK165.out 11
              have hfz35_12 := blk_frozen BK165.out 12
              have hfz35_13 := blk_frozen BK165.out 13
              have hfz35_14 := blk_frozen BK165.out 14
              have hcz36_0 : w5.cell? ⟨gb166, 0, none⟩ = some (.int .i64 a1_0) := (blk_cell BK166.out 0).trans rfl
              have hcz36_1 : w5.cell? ⟨gb166, 1, none⟩ = some (.int .i64 a1_1) := (blk_cell BK166.out 1).trans rfl
              have hcz36_2 : w5.cell? ⟨gb166, 2, none⟩ = some (.int .i64 a1_2) := (blk_cell BK166.out 2).trans rfl
              have hcz36_3 : w5.cell? ⟨gb166, 3, none⟩ = some (.int .i64 a1_3) := (blk_cell BK166.out 3).trans rfl
              have hcz36_4 : w5.cell? ⟨gb166, 4, none⟩ = some (.int .i64 a1_4) := (blk_cell BK166.out 4).trans rfl
              have hcz36_5 : w5.cell? ⟨gb166, 5, none⟩ = some (.int .i64 a1_5) := (blk_cell BK166.out 5).trans rfl
              have hcz36_6 : w5.cell? ⟨gb166, 6, none⟩ = some (.int .i64 a1_6) := (blk_cell BK166.out 6).trans rfl
              have hcz36_7 : w5.cell? ⟨gb166, 7, none⟩ = some (.int .i64 a1_7) := (blk_cell BK166.out 7).trans rfl
              have hcz36_8 : w5.cell? ⟨gb166, 8, none⟩ = some (.int .i64 a1_8) := (blk_cell BK166.out 8).trans rfl
              have hcz36_9 : w5.cell? ⟨gb166, 9, none⟩ = some (.bool a1_9) := (blk_cell BK166.out 9).trans rfl
              have hcz36_10 : w5.cell? ⟨gb166, 10, none⟩ = some (.int .i64 a1_10) := (blk_cell BK166.out 10).trans rfl
              have hcz36_11 : w5.cell? ⟨gb166, 11, none⟩ = some (.int .i64 a1_11) := (blk_cell BK166.out 11).trans rfl
              have hcz36_12 : w5.cell? ⟨gb166, 12, none⟩ = some (.slice A1_12 l1_12.length c1_12) := (blk_cell BK166.out 12).trans rfl
              have hcz36_13 : w5.cell? ⟨gb166, 13, none⟩ = some (.slice A1_13 l1_13.length c1_13) := (blk_cell BK166.out 13).trans rfl
              have hcz36_14 : w5.cell? ⟨gb166, 14, none⟩ = some (.slice A1_14 l1_14.length c1_14) := (blk_cell BK166.out 14).trans rfl
              have hfz36_0 := blk_frozen BK166.out 0
              have hfz36_1 := blk_frozen BK166.out 1
              have hfz36_2 := blk_frozen BK166.out 2
              have hfz36_3 := blk_frozen BK166.out 3
              have hfz36_4 := blk_frozen BK166.out 4
              have hfz36_5 := blk_frozen BK166.out 5
              have hfz36_6 := blk_frozen BK166.out 6
              have hfz36_7 := blk_frozen BK166.out 7
              have hfz36_8 := blk_frozen BK166.out 8
              have hfz36_9 := blk_frozen BK166.out 9
              have hfz36_10 := blk_frozen BK166.out 10
              have hfz36_11 := blk_frozen BK166.out 11
              have hfz36_12 := blk_frozen BK166.out 12
              have hfz36_13 := blk_frozen BK166.out 13
              have hfz36_14 := blk_frozen BK166.out 14
              go_wp2
              go_meet
              case rel => exact ⟨_, (true), (by first | rfl | (simp; done) | (simp [*]; done)), H', ⟨by first | omega | exact Nat.le_refl _⟩, ⟨by (with_reducible repeat (first | refine blk_drewN ?_ _ | refine blk_drew ?_ | refine blk_alloc ?_ _)); exact BK165.out⟩, ⟨by (with_reducible repeat (first | refine blk_drewN ?_ _ | refine blk_drew ?_ | refine blk_alloc ?_ _)); exact BK166.out⟩, ⟨by repeat (first | (with_reducible first | exact HB.out | apply below_alloc | apply pw_below_drewN | apply below_drew1 | refine below_set ?_ GE165.out | refine below_set ?_ GE166.out) | exact HB.out)⟩⟩
          · rw [if_neg c9] at H
            have c9b0 : (a0_3 == a1_3) = false := beq_eq_false_iff_ne.mpr c9
            have c9b1 : (a0_3 != a1_3) = true := bne_iff_ne.mpr c9
            have H' := Aside0.mk H
            clear H
            have hnb37 := NB165_166.out
            have hnc37 := NB166_165.out
            have hcz38_0 : w5.cell? ⟨gb165, 0, none⟩ = some (.int .i64 a0_0) := (blk_cell BK165.out 0).trans rfl
            have hcz38_1 : w5.cell? ⟨gb165, 1, none⟩ = some (.int .i64 a0_1) := (blk_cell BK165.out 1).trans rfl
            have hcz38_2 : w5.cell? ⟨gb165, 2, none⟩ = some (.int .i64 a0_2) := (blk_cell BK165.out 2).trans rfl
            have hcz38_3 : w5.cell? ⟨gb165, 3, none⟩ = some (.int .i64 a0_3) := (blk_cell BK165.out 3).trans rfl
            have hcz38_4 : w5.cell? ⟨gb165, 4, none⟩ = some (.int .i64 a0_4) := (blk_cell BK165.out 4).trans rfl
            have hcz38_5 : w5.cell? ⟨gb165, 5, none⟩ = some (.int .i64 a0_5) := (blk_cell BK165.out 5).trans rfl
            have hcz38_6 : w5.cell? ⟨gb165, 6, none⟩ = some (.int .i64 a0_6) := (blk_cell BK165.out 6).trans rfl
            have hcz38_7 : w5.cell? ⟨gb165, 7, none⟩ = some (.int .i64 a0_7) := (blk_cell BK165.out 7).trans rfl
            have hcz38_8 : w5.cell? ⟨gb165, 8, none⟩ = some (.int .i64 a0_8) := (blk_cell BK165.out 8).trans rfl
            have hcz38_9 : w5.cell? ⟨gb165, 9, none⟩ = some (.bool a0_9) := (blk_cell BK165.out 9).trans rfl
            have hcz38_10 : w5.cell? ⟨gb165, 10, none⟩ = some (.int .i64 a0_10) := (blk_cell BK165.out 10).trans rfl
            have hcz38_11 : w5.cell? ⟨gb165, 11, none⟩ = some (.int .i64 a0_11) := (blk_cell BK165.out 11).trans rfl
            have hcz38_12 : w5.cell? ⟨gb165, 12, none⟩ = some (.slice A0_12 l0_12.length c0_12) := (blk_cell BK165.out 12).trans rfl
            have hcz38_13 : w5.cell? ⟨gb165, 13, none⟩ = some (.slice A0_13 l0_13.length c0_13) := (blk_cell BK165.out 13).trans rfl
            have hcz38_14 : w5.cell? ⟨gb165, 14, none⟩ = some (.slice A0_14 l0_14.length c0_14) := (blk_cell BK165.out 14).trans rfl
            have hfz38_0 := blk_frozen BK165.out 0
            have hfz38_1 := blk_frozen BK165.out 1
            have hfz38_2 := blk_frozen BK165.out 2
            have hfz38_3 := blk_frozen BK165.out 3
            have hfz38_4 := blk_frozen BK165.out 4
            have hfz38_5 := blk_frozen BK165.out 5
            have hfz38_6 := blk_frozen BK165.out 6
            have hfz38_7 := blk_frozen BK165.out 7
            have hfz38_8 := blk_frozen BK165.out 8
            have hfz38_9 := blk_frozen BK165.out 9
            have hfz38_10 := blk_frozen BK165.out 10
            have hfz38_11 := blk_frozen BK165.out 11
            have hfz38_12 := blk_frozen BK165.out 12
            have hfz38_13 := blk_frozen BK165.out 13
            have hfz38_14 := blk_frozen BK165.out 14
            have hcz39_0 : w5.cell? ⟨gb166, 0, none⟩ = some (.int .i64 a1_0) := (blk_cell BK166.out 0).trans rfl
            have hcz39_1 : w5.cell? ⟨gb166, 1, none⟩ = some (.int .i64 a1_1) := (blk_cell BK166.out 1).trans rfl
            have hcz39_2 : w5.cell? ⟨gb166, 2, none⟩ = some (.int .i64 a1_2) := (blk_cell BK166.out 2).trans rfl
            have hcz39_3 : w5.cell? ⟨gb166, 3, none⟩ = some (.int .i64 a1_3) := (blk_cell BK166.out 3).trans rfl
            have hcz39_4 : w5.cell? ⟨gb166, 4, none⟩ = some (.int .i64 a1_4) := (blk_cell BK166.out 4).trans rfl
            have hcz39_5 : w5.cell? ⟨gb166, 5, none⟩ = some (.int .i64 a1_5) := (blk_cell BK166.out 5).trans rfl
            have hcz39_6 : w5.cell? ⟨gb166, 6, none⟩ = some (.int .i64 a1_6) := (blk_cell BK166.out 6).trans rfl
            have hcz39_7 : w5.cell? ⟨gb166, 7, none⟩ = some (.int .i64 a1_7) := (blk_cell BK166.out 7).trans rfl
            have hcz39_8 : w5.cell? ⟨gb166, 8, none⟩ = some (.int .i64 a1_8) := (blk_cell BK166.out 8).trans rfl
            have hcz39_9 : w5.cell? ⟨gb166, 9, none⟩ = some (.bool a1_9) := (blk_cell BK166.out 9).trans rfl
            have hcz39_10 : w5.cell? ⟨gb166, 10, none⟩ = some (.int .i64 a1_10) := (blk_cell BK166.out 10).trans rfl
            have hcz39_11 : w5.cell? ⟨gb166, 11, none⟩ = some (.int .i64 a1_11) := (blk_cell BK166.out 11).trans rfl
            have hcz39_12 : w5.cell? ⟨gb166, 12, none⟩ = some (.slice A1_12 l1_12.length c1_12) := (blk_cell BK166.out 12).trans rfl
            have hcz39_13 : w5.cell? ⟨gb166, 13, none⟩ = some (.slice A1_13 l1_13.length c1_13) := (blk_cell BK166.out 13).trans rfl
            have hcz39_14 : w5.cell? ⟨gb166, 14, none⟩ = some (.slice A1_14 l1_14.length c1_14) := (blk_cell BK166.out 14).trans rfl
            have hfz39_0 := blk_frozen BK166.out 0
            have hfz39_1 := blk_frozen BK166.out 1
            have hfz39_2 := blk_frozen BK166.out 2
            have hfz39_3 := blk_frozen BK166.out 3
            have hfz39_4 := blk_frozen BK166.out 4
            have hfz39_5 := blk_frozen BK166.out 5
            have hfz39_6 := blk_frozen BK166.out 6
            have hfz39_7 := blk_frozen BK166.out 7
            have hfz39_8 := blk_frozen BK166.out 8
            have hfz39_9 := blk_frozen BK166.out 9
            have hfz39_10 := blk_frozen BK166.out 10
            have hfz39_11 := blk_frozen BK166.out 11
            have hfz39_12 := blk_frozen BK166.out 12
            have hfz39_13 := blk_frozen BK166.out 13
            have hfz39_14 := blk_frozen BK166.out 14
            go_wp2
            go_meet
            case rel => exact ⟨_, (true), (by first | rfl | (simp; done) | (simp [*]; done)), H', ⟨by first | omega | exact Nat.le_refl _⟩, ⟨by (with_reducible repeat (first | refine blk_drewN ?_ _ | refine blk_drew ?_ | refine blk_alloc ?_ _)); exact BK165.out⟩, ⟨by (with_reducible repeat (first | refine blk_drewN ?_ _ | refine blk_drew ?_ | refine blk_alloc ?_ _)); exact BK166.out⟩, ⟨by repeat (first | (with_reducible first | exact HB.out | apply below_alloc | apply pw_below_drewN | apply below_drew1 | refine below_set ?_ GE165.out | refine below_set ?_ GE166.out) | exact HB.out)⟩⟩
        · rw [if_neg c8] at H
          have c8b0 : (a0_2 == a1_2) = false := beq_eq_false_iff_ne.mpr c8
          have c8b1 : (a0_2 != a1_2) = true := bne_iff_ne.mpr c8
          have H' := Aside0.mk H
          clear H
          have hnb40 := NB165_166.out
          have hnc40 := NB166_165.out
          have hcz41_0 : w5.cell? ⟨gb165, 0, none⟩ = some (.int .i64 a0_0) := (blk_cell BK165.out 0).trans rfl
          have hcz41_1 : w5.cell? ⟨gb165, 1, none⟩ = some (.int .i64 a0_1) := (blk_cell BK165.out 1).trans rfl
          have hcz41_2 : w5.cell? ⟨gb165, 2, none⟩ = some (.int .i64 a0_2) := (blk_cell BK165.out 2).trans rfl
          have hcz41_3 : w5.cell? ⟨gb165, 3, none⟩ = some (.int .i64 a0_3) := (blk_cell BK165.out 3).trans rfl
          have hcz41_4 : w5.cell? ⟨gb165, 4, none⟩ = some (.int .i64 a0_4) := (blk_cell BK165.out 4).trans rfl
          have hcz41_5 : w5.cell? ⟨gb165, 5, none⟩ = some (.int .i64 a0_5) := (blk_cell BK165.out 5).trans rfl
          have hcz41_6 : w5.cell? ⟨gb165, 6, none⟩ = some (.int .i64 a0_6) := (blk_cell BK165.out 6).trans rfl
          have hcz41_7 : w5.cell? ⟨gb165, 7, none⟩ = some (.int .i64 a0_7) := (blk_cell BK165.out 7).trans rfl
          have hcz41_8 : w5.cell? ⟨gb165, 8, none⟩ = some (.int .i64 a0_8) := (blk_cell BK165.out 8).trans rfl
          have hcz41_9 : w5.cell? ⟨gb165, 9, none⟩ = some (.bool a0_9) := (blk_cell BK165.out 9).trans rfl
          have hcz41_10 : w5.cell? ⟨gb165, 10, none⟩ = some (.int .i64 a0_10) := (blk_cell BK165.out 10).trans rfl
          have hcz41_11 : w5.cell? ⟨gb165, 11, none⟩ = some (.int .i64 a0_11) := (blk_cell BK165.out 11).trans rfl
          have hcz41_12 : w5.cell? ⟨gb165, 12, none⟩ = some (.slice A0_12 l0_12.length c0_12) := (blk_cell BK165.out 12).trans rfl
          have hcz41_13 : w5.cell? ⟨gb165, 13, none⟩ = some (.slice A0_13 l0_13.length c0_13) := (blk_cell BK165.out 13).trans rfl
          have hcz41_14 : w5.cell? ⟨gb165, 14, none⟩ = some (.slice A0_14 l0_14.length c0_14) := (blk_cell BK165.out 14).trans rfl
          have hfz41_0 := blk_frozen BK165.out 0
          have hfz41_1 := blk_frozen BK165.out 1
          have hfz41_2 := blk_frozen BK165.out 2
          have hfz41_3 := blk_frozen BK165.out 3
          have hfz41_4 := blk_frozen BK165.out 4
          have hfz41_5 := blk_frozen BK165.out 5
          have hfz41_6 := blk_frozen BK165.out 6
          have hfz41_7 := blk_frozen BK165.out 7
          have hfz41_8 := blk_frozen BK165.out 8
          have hfz41_9 := blk_frozen BK165.out 9
          have hfz41_10 := blk_frozen BK165.out 10
          have hfz41_11 := blk_frozen BK165.out 11
          have hfz41_12 := blk_frozen BK165.out 12
          have hfz41_13 := blk_frozen BK165.out 13
          have hfz41_14 := blk_frozen BK165.out 14
          have hcz42_0 : w5.cell? ⟨gb166, 0, none⟩ = some (.int .i64 a1_0) := (blk_cell BK166.out 0).trans rfl
          have hcz42_1 : w5.cell? ⟨gb166, 1, none⟩ = some (.int .i64 a1_1) := (blk_cell BK166.out 1).trans rfl
          have hcz42_2 : w5.cell? ⟨gb166, 2, none⟩ = some (.int .i64 a1_2) := (blk_cell BK166.out 2).trans rfl
          have hcz42_3 : w5.cell? ⟨gb166, 3, none⟩ = some (.int .i64 a1_3) := (blk_cell BK166.out 3).trans rfl
          have hcz42_4 : w5.cell? ⟨gb166, 4, none⟩ = some (.int .i64 a1_4) := (blk_cell BK166.out 4).trans rfl
          have hcz42_5 : w5.cell? ⟨gb166, 5, none⟩ = some (.int .i64 a1_5) := (blk_cell BK166.out 5).trans rfl
          have hcz42_6 : w5.cell? ⟨gb166, 6, none⟩ = some (.int .i64 a1_6) := (blk_cell BK166.out 6).trans rfl
          have hcz42_7 : w5.cell? ⟨gb166, 7, none⟩ = some (.int .i64 a1_7) := (blk_cell BK166.out 7).trans rfl
          have hcz42_8 : w5.cell? ⟨gb166, 8, none⟩ = some (.int .i64 a1_8) := (blk_cell BK166.out 8).trans rfl
          have hcz42_9 : w5.cell? ⟨gb166, 9, none⟩ = some (.bool a1_9) := (blk_cell BK166.out 9).trans rfl
          have hcz42_10 : w5.cell? ⟨gb166, 10, none⟩ = some (.int .i64 a1_10) := (blk_cell BK166.out 10).trans rfl
          have hcz42_11 : w5.cell? ⟨gb166, 11, none⟩ = some (.int .i64 a1_11) := (blk_cell BK166.out 11).trans rfl
          have hcz42_12 : w5.cell? ⟨gb166, 12, none⟩ = some (.slice A1_12 l1_12.length c1_12) := (blk_cell BK166.out 12).trans rfl
          have hcz42_13 : w5.cell? ⟨gb166, 13, none⟩ = some (.slice A1_13 l1_13.length c1_13) := (blk_cell BK166.out 13).trans rfl
          have hcz42_14 : w5.cell? ⟨gb166, 14, none⟩ = some (.slice A1_14 l1_14.length c1_14) := (blk_cell BK166.out 14).trans rfl
          have hfz42_0 := blk_frozen BK166.out 0
          have hfz42_1 := blk_frozen BK166.out 1
          have hfz42_2 := blk_frozen BK166.out 2
          have hfz42_3 := blk_frozen BK166.out 3
          have hfz42_4 := blk_frozen BK166.out 4
          have hfz42_5 := blk_frozen BK166.out 5
          have hfz42_6 := blk_frozen BK166.out 6
          have hfz42_7 := blk_frozen BK166.out 7
          have hfz42_8 := blk_frozen BK166.out 8
          have hfz42_9 := blk_frozen BK166.out 9
          have hfz42_10 := blk_frozen BK166.out 10
          have hfz42_11 := blk_frozen BK166.out 11
          have hfz42_12 := blk_frozen BK166.out 12
          have hfz42_13 := blk_frozen BK166.out 13
          have hfz42_14 := blk_frozen BK166.out 14
          go_wp2
          go_meet
          case rel => exact ⟨_, (true), (by first | rfl | (simp; done) | (simp [*]; done)), H', ⟨by first | omega | exact Nat.le_refl _⟩, ⟨by (with_reducible repeat (first | refine blk_drewN ?_ _ | refine blk_drew ?_ | refine blk_alloc ?_ _)); exact BK165.out⟩, ⟨by (with_reducible repeat (first | refine blk_drewN ?_ _ | refine blk_drew ?_ | refine blk_alloc ?_ _)); exact BK166.out⟩, ⟨by repeat (first | (with_reducible first | exact HB.out | apply below_alloc | apply pw_below_drewN | apply below_drew1 | refine below_set ?_ GE165.out | refine below_set ?_ GE166.out) | exact HB.out)⟩⟩
      · rw [if_neg c7] at H
        have c7b0 : (a0_1 == a1_1) = false := beq_eq_false_iff_ne.mpr c7
        have c7b1 : (a0_1 != a1_1) = true := bne_iff_ne.mpr c7
        have H' := Aside0.mk H
        clear H
        have hnb43 := NB165_166.out
        have hnc43 := NB166_165.out
        have hcz44_0 : w5.cell? ⟨gb165, 0, none⟩ = some (.int .i64 a0_0) := (blk_cell BK165.out 0).trans rfl
        have hcz44_1 : w5.cell? ⟨gb165, 1, none⟩ = some (.int .i64 a0_1) := (blk_cell BK165.out 1).trans rfl
        have hcz44_2 : w5.cell? ⟨gb165, 2, none⟩ = some (.int .i64 a0_2) := (blk_cell BK165.out 2).trans rfl
        have hcz44_3 : w5.cell? ⟨gb165, 3, none⟩ = some (.int .i64 a0_3) := (blk_cell BK165.out 3).trans rfl
        have hcz44_4 : w5.cell? ⟨gb165, 4, none⟩ = some (.int .i64 a0_4) := (blk_cell BK165.out 4).trans rfl
        have hcz44_5 : w5.cell? ⟨gb165, 5, none⟩ = some (.int .i64 a0_5) := (blk_cell BK165.out 5).trans rfl
        have hcz44_6 : w5.cell? ⟨gb165, 6, none⟩ = some (.int .i64 a0_6) := (blk_cell BK165.out 6).trans rfl
        have hcz44_7 : w5.cell? ⟨gb165, 7, none⟩ = some (.int .i64 a0_7) := (blk_cell BK165.out 7).trans rfl
        have hcz44_8 : w5.cell? ⟨gb165, 8, none⟩ = some (.int .i64 a0_8) := (blk_cell BK165.out 8).trans rfl
        have hcz44_9 : w5.cell? ⟨gb165, 9, none⟩ = some (.bool a0_9) := (blk_cell BK165.out 9).trans rfl
        have hcz44_10 : w5.cell? ⟨gb165, 10, none⟩ = some (.int .i64 a0_10) := (blk_cell BK165.out 10).trans rfl
        have hcz44_11 : w5.cell? ⟨gb165, 11, none⟩ = some (.int .i64 a0_11) := (blk_cell BK165.out 11).trans rfl
        have hcz44_12 : w5.cell? ⟨gb165, 12, none⟩ = some (.slice A0_12 l0_12.length c0_12) := (blk_cell BK165.out 12).trans rfl
        have hcz44_13 : w5.cell? ⟨gb165, 13, none⟩ = some (.slice A0_13 l0_13.length c0_13) := (blk_cell BK165.out 13).trans rfl
        have hcz44_14 : w5.cell? ⟨gb165, 14, none⟩ = some (.slice A0_14 l0_14.length c0_14) := (blk_cell BK165.out 14).trans rfl
        have hfz44_0 := blk_frozen BK165.out 0
        have hfz44_1 := blk_frozen BK165.out 1
        have hfz44_2 := blk_frozen BK165.out 2
        have hfz44_3 := blk_frozen BK165.out 3
        have hfz44_4 := blk_frozen BK165.out 4
        have hfz44_5 := blk_frozen BK165.out 5
        have hfz44_6 := blk_frozen BK165.out 6
        have hfz44_7 := blk_frozen BK165.out 7
        have hfz44_8 := blk_frozen BK165.out 8
        have hfz44_9 := blk_frozen BK165.out 9
        have hfz44_10 := blk_frozen BK165.out 10
        have hfz44_11 := blk_frozen BK165.out 11
        have hfz44_12 := blk_frozen BK165.out 12
        have hfz44_13 := blk_frozen BK165.out 13
        have hfz44_14 := blk_frozen BK165.out 14
        have hcz45_0 : w5.cell? ⟨gb166, 0, none⟩ = some (.int .i64 a1_0) := (blk_cell BK166.out 0).trans rfl
        have hcz45_1 : w5.cell? ⟨gb166, 1, none⟩ = some (.int .i64 a1_1) := (blk_cell BK166.out 1).trans rfl
        have hcz45_2 : w5.cell? ⟨gb166, 2, none⟩ = some (.int .i64 a1_2) := (blk_cell BK166.out 2).trans rfl
        have hcz45_3 : w5.cell? ⟨gb166, 3, none⟩ = some (.int .i64 a1_3) := (blk_cell BK166.out 3).trans rfl
        have hcz45_4 : w5.cell? ⟨gb166, 4, none⟩ = some (.int .i64 a1_4) := (blk_cell BK166.out 4).trans rfl
        have hcz45_5 : w5.cell? ⟨gb166, 5, none⟩ = some (.int .i64 a1_5) := (blk_cell BK166.out 5).trans rfl
        have hcz45_6 : w5.cell? ⟨gb166, 6, none⟩ = some (.int .i64 a1_6) := (blk_cell BK166.out 6).trans rfl
        have hcz45_7 : w5.cell? ⟨gb166, 7, none⟩ = some (.int .i64 a1_7) := (blk_cell BK166.out 7).trans rfl
        have hcz45_8 : w5.cell? ⟨gb166, 8, none⟩ = some (.int .i64 a1_8) := (blk_cell BK166.out 8).trans rfl
        have hcz45_9 : w5.cell? ⟨gb166, 9, none⟩ = some (.bool a1_9) := (blk_cell BK166.out 9).trans rfl
        have hcz45_10 : w5.cell? ⟨gb166, 10, none⟩ = some (.int .i64 a1_10) := (blk_cell BK166.out 10).trans rfl
        have hcz45_11 : w5.cell? ⟨gb166, 11, none⟩ = some (.int .i64 a1_11) := (blk_cell BK166.out 11).trans rfl
        have hcz45_12 : w5.cell? ⟨gb166, 12, none⟩ = some (.slice A1_12 l1_12.length c1_12) := (blk_cell BK166.out 12).trans rfl
        have hcz45_13 : w5.cell? ⟨gb166, 13, none⟩ = some (.slice A1_13 l1_13.length c1_13) := (blk_cell BK166.out 13).trans rfl
        have hcz45_14 : w5.cell? ⟨gb166, 14, none⟩ = some (.slice A1_14 l1_14.length c1_14) := (blk_cell BK166.out 14).trans rfl
        have hfz45_0 := blk_frozen BK166.out 0
        have hfz45_1 := blk_frozen BK166.out 1
        have hfz45_2 := blk_frozen BK166.out 2
        have hfz45_3 := blk_frozen BK166.out 3
        have hfz45_4 := blk_frozen BK166.out 4
        have hfz45_5 := blk_frozen BK166.out 5
        have hfz45_6 := blk_frozen BK166.out 6
        have hfz45_7 := blk_frozen BK166.out 7
        have hfz45_8 := blk_frozen BK166.out 8
        have hfz45_9 := blk_frozen BK166.out 9
        have hfz45_10 := blk_frozen BK166.out 10
        have hfz45_11 := blk_frozen BK166.out 11
        have hfz45_12 := blk_frozen BK166.out 12
        have hfz45_13 := blk_frozen BK166.out 13
        have hfz45_14 := blk_frozen BK166.out 14
        go_wp2
        go_meet
        case rel => exact ⟨_, (true), (by first | rfl | (simp; done) | (simp [*]; done)), H', ⟨by first | omega | exact Nat.le_refl _⟩, ⟨by (with_reducible repeat (first | refine blk_drewN ?_ _ | refine blk_drew ?_ | refine blk_alloc ?_ _)); exact BK165.out⟩, ⟨by (with_reducible repeat (first | refine blk_drewN ?_ _ | refine blk_drew ?_ | refine blk_alloc ?_ _)); exact BK166.out⟩, ⟨by repeat (first | (with_reducible first | exact HB.out | apply below_alloc | apply pw_below_drewN | apply below_drew1 | refine below_set ?_ GE165.out | refine below_set ?_ GE166.out) | exact HB.out)⟩⟩
    · rw [if_neg c6] at H
      have c6b0 : (a0_0 == a1_0) = false := beq_eq_false_iff_ne.mpr c6
      have c6b1 : (a0_0 != a1_0) = true := bne_iff_ne.mpr c6
      (first | rw [c6b0] | (simp only [i64_w, i32_w]; rw [c6b0]) | skip)
      have H' := Aside0.mk H
      clear H
      have hnb46 := NB165_166.out
      have hnc46 := NB166_165.out
      have hcz47_0 : w5.cell? ⟨gb165, 0, none⟩ = some (.int .i64 a0_0) := (blk_cell BK165.out 0).trans rfl
      have hcz47_1 : w5.cell? ⟨gb165, 1, none⟩ = some (.int .i64 a0_1) := (blk_cell BK165.out 1).trans rfl
      have hcz47_2 : w5.cell? ⟨gb165, 2, none⟩ = some (.int .i64 a0_2) := (blk_cell BK165.out 2).trans rfl
      have hcz47_3 : w5.cell? ⟨gb165, 3, none⟩ = some (.int .i64 a0_3) := (blk_cell BK165.out 3).trans rfl
      have hcz47_4 : w5.cell? ⟨gb165, 4, none⟩ = some (.int .i64 a0_4) := (blk_cell BK165.out 4).trans rfl
      have hcz47_5 : w5.cell? ⟨gb165, 5, none⟩ = some (.int .i64 a0_5) := (blk_cell BK165.out 5).trans rfl
      have hcz47_6 : w5.cell? ⟨gb165, 6, none⟩ = some (.int .i64 a0_6) := (blk_cell BK165.out 6).trans rfl
      have hcz47_7 : w5.cell? ⟨gb165, 7, none⟩ = some (.int .i64 a0_7) := (blk_cell BK165.out 7).trans rfl
      have hcz47_8 : w5.cell? ⟨gb165, 8, none⟩ = some (.int .i64 a0_8) := (blk_cell BK165.out 8).trans rfl
      have hcz47_9 : w5.cell? ⟨gb165, 9, none⟩ = some (.bool a0_9) := (blk_cell BK165.out 9).trans rfl
      have hcz47_10 : w5.cell? ⟨gb165, 10, none⟩ = some (.int .i64 a0_10) := (blk_cell BK165.out 10).trans rfl
      have hcz47_11 : w5.cell? ⟨gb165, 11, none⟩ = some (.int .i64 a0_11) := (blk_cell BK165.out 11).trans rfl
      have hcz47_12 : w5.cell? ⟨gb165, 12, none⟩ = some (.slice A0_12 l0_12.length c0_12) := (blk_cell BK165.out 12).trans rfl
      have hcz47_13 : w5.cell? ⟨gb165, 13, none⟩ = some (.slice A0_13 l0_13.length c0_13) := (blk_cell BK165.out 13).trans rfl
      have hcz47_14 : w5.cell? ⟨gb165, 14, none⟩ = some (.slice A0_14 l0_14.length c0_14) := (blk_cell BK165.out 14).trans rfl
      have hfz47_0 := blk_frozen BK165.out 0
      have hfz47_1 := blk_frozen BK165.out 1
      have hfz47_2 := blk_frozen BK165.out 2
      have hfz47_3 := blk_frozen BK165.out 3
      have hfz47_4 := blk_frozen BK165.out 4
      have hfz47_5 := blk_frozen BK165.out 5
      have hfz47_6 := blk_frozen BK165.out 6
      have hfz47_7 := blk_frozen BK165.out 7
      have hfz47_8 := blk_frozen BK165.out 8
      have hfz47_9 := blk_frozen BK165.out 9
      have hfz47_10 := blk_frozen BK165.out 10
      have hfz47_11 := blk_frozen BK165.out 11
      have hfz47_12 := blk_frozen BK165.out 12
      have hfz47_13 := blk_frozen BK165.out 13
      have hfz47_14 := blk_frozen BK165.out 14
      have hcz48_0 : w5.cell? ⟨gb166, 0, none⟩ = some (.int .i64 a1_0) := (blk_cell BK166.out 0).trans rfl
      have hcz48_1 : w5.cell? ⟨gb166, 1, none⟩ = some (.int .i64 a1_1) := (blk_cell BK166.out 1).trans rfl
      have hcz48_2 : w5.cell? ⟨gb166, 2, none⟩ = some (.int .i64 a1_2) := (blk_cell BK166.out 2).trans rfl
      have hcz48_3 : w5.cell? ⟨gb166, 3, none⟩ = some (.int .i64 a1_3) := (blk_cell BK166.out 3).trans rfl
      have hcz48_4 : w5.cell? ⟨gb166, 4, none⟩ = some (.int .i64 a1_4) := (blk_cell BK166.out 4).trans rfl
      have hcz48_5 : w5.cell? ⟨gb166, 5, none⟩ = some (.int .i64 a1_5) := (blk_cell BK166.out 5).trans rfl
      have hcz48_6 : w5.cell? ⟨gb166, 6, none⟩ = some (.int .i64 a1_6) := (blk_cell BK166.out 6).trans rfl
      have hcz48_7 : w5.cell? ⟨gb166, 7, none⟩ = some (.int .i64 a1_7) := (blk_cell BK166.out 7).trans rfl
      have hcz48_8 : w5.cell? ⟨gb166, 8, none⟩ = some (.int .i64 a1_8) := (blk_cell BK166.out 8).trans rfl
      have hcz48_9 : w5.cell? ⟨gb166, 9, none⟩ = some (.bool a1_9) := (blk_cell BK166.out 9).trans rfl
      have hcz48_10 : w5.cell? ⟨gb166, 10, none⟩ = some (.int .i64 a1_10) := (blk_cell BK166.out 10).trans rfl
      have hcz48_11 : w5.cell? ⟨gb166, 11, none⟩ = some (.int .i64 a1_11) := (blk_cell BK166.out 11).trans rfl
      have hcz48_12 : w5.cell? ⟨gb166, 12, none⟩ = some (.slice A1_12 l1_12.length c1_12) := (blk_cell BK166.out 12).trans rfl
      have hcz48_13 : w5.cell? ⟨gb166, 13, none⟩ = some (.slice A1_13 l1_13.length c1_13) := (blk_cell BK166.out 13).trans rfl
      have hcz48_14 : w5.cell? ⟨gb166, 14, none⟩ = some (.slice A1_14 l1_14.length c1_14) := (blk_cell BK166.out 14).trans rfl
      have hfz48_0 := blk_frozen BK166.out 0
      have hfz48_1 := blk_frozen BK166.out 1
      have hfz48_2 := blk_frozen BK166.out 2
      have hfz48_3 := blk_frozen BK166.out 3
      have hfz48_4 := blk_frozen BK166.out 4
      have hfz48_5 := blk_frozen BK166.out 5
      have hfz48_6 := blk_frozen BK166.out 6
      have hfz48_7 := blk_frozen BK166.out 7
      have hfz48_8 := blk_frozen BK166.out 8
      have hfz48_9 := blk_frozen BK166.out 9
      have hfz48_10 := blk_frozen BK166.out 10
      have hfz48_11 := blk_frozen BK166.out 11
      have hfz48_12 := blk_frozen BK166.out 12
      have hfz48_13 := blk_frozen BK166.out 13
      have hfz48_14 := blk_frozen BK166.out 14
      go_wp2
      go_meet
      case rel => exact ⟨_, (true), (by first | rfl | (simp; done) | (simp [*]; done)), H', ⟨by first | omega | exact Nat.le_refl _⟩, ⟨by (with_reducible repeat (first | refine blk_drewN ?_ _ | refine blk_drew ?_ | refine blk_alloc ?_ _)); exact BK165.out⟩, ⟨by (with_reducible repeat (first | refine blk_drewN ?_ _ | refine blk_drew ?_ | refine blk_alloc ?_ _)); exact BK166.out⟩, ⟨by repeat (first | (with_reducible first | exact HB.out | apply below_alloc | apply pw_below_drewN | apply below_drew1 | refine below_set ?_ GE165.out | refine below_set ?_ GE166.out) | exact HB.out)⟩⟩
  case rest =>
    clear HC3
    try clear c1
    try clear c2
    try clear p2
    try clear c3
    try clear c4
    try clear c6
    try clear c6b0
    try clear c6b1
    try clear c7
    try clear c7b0
    try clear c7b1
    try clear c8
    try clear c8b0
    try clear c8b1
    try clear c9
    try clear c9b0
    try clear c9b1
    try clear c10
    try clear c10b0
    try clear c10b1
    try clear c11
    try clear c11b0
    try clear c11b1
    try clear c12
    try clear c12b0
    try clear c12b1
    try clear c13
    try clear c13b0
    try clear c13b1
    try clear c25
    try clear c28
    try clear c31
    try clear c34
    try clear c37
    try clear c40
    try clear c43
    try clear c46
    try clear hcz24_0
    try clear hcz24_1
    try clear hcz24_10
    try clear hcz24_11
    try clear hcz24_12
    try clear hcz24_13
    try clear hcz24_14
    try clear hcz24_2
    try clear hcz24_3
    try clear hcz24_4
    try clear hcz24_5
    try clear hcz24_6
    try clear hcz24_7
    try clear hcz24_8
    try clear hcz24_9
    try clear hcz26_0
    try clear hcz26_1
    try clear hcz26_10
    try clear hcz26_11
    try clear hcz26_12
    try clear hcz26_13
    try clear hcz26_14
    try clear hcz26_2
    try clear hcz26_3
    try clear hcz26_4
    try clear hcz26_5
    try clear hcz26_6
    try clear hcz26_7
    try clear hcz26_8
    try clear hcz26_9
    try clear hcz27_0
    try clear hcz27_1
    try clear hcz27_10
    try clear hcz27_11
    try clear hcz27_12
    try clear hcz27_13
    try clear hcz27_14
    try clear hcz27_2
    try clear hcz27_3
    try clear hcz27_4
    try clear hcz27_5
    try clear hcz27_6
    try clear hcz27_7
    try clear hcz27_8
    try clear hcz27_9
    try clear hcz29_0
    try clear hcz29_1
    try clear hcz29_10
    try clear hcz29_11
    try clear hcz29_12
    try clear hcz29_13
    try clear hcz29_14
    try clear hcz29_2
    try clear hcz29_3
    try clear hcz29_4
    try clear hcz29_5
    try clear hcz29_6
    try clear hcz29_7
    try clear hcz29_8
    try clear hcz29_9
    try clear hcz30_0
    try clear hcz30_1
    try clear hcz30_10
    try clear hcz30_11
    try clear hcz30_12
    try clear hcz30_13
    try clear hcz30_14
    try clear hcz30_2
    try clear hcz30_3
    try clear hcz30_4
    try clear hcz30_5
    try clear hcz30_6
    try clear hcz30_7
    try clear hcz30_8
    try clear hcz30_9
    try clear hcz32_0
    try clear hcz32_1
    try clear hcz32_10
    try clear hcz32_11
    try clear hcz32_12
    try clear hcz32_13
    try clear hcz32_14
    try clear hcz32_2
    try clear hcz32_3
    try clear hcz32_4
    try clear hcz32_5
    try clear hcz32_6
    try clear hcz32_7
    try clear hcz32_8
    try clear hcz32_9
    try clear hcz33_0
    try clear hcz33_1
    try clear hcz33_10
    try clear hcz33_11
    try clear hcz33_12
    try clear hcz33_13
    try clear hcz33_14
    try clear hcz33_2
    try clear hcz33_3
    try clear hcz33_4
    try clear hcz33_5
    try clear hcz33_6
    try clear hcz33_7
    try clear hcz33_8
    try clear hcz33_9
    try clear hcz35_0
    try clear hcz35_1
    try clear hcz35_10
    try clear hcz35_11
    try clear hcz35_12
    try clear hcz35_13
    try clear hcz35_14
    try clear hcz35_2
    try clear hcz35_3
    try clear hcz35_4
    try clear hcz35_5
    try clear hcz35_6
    try clear hcz35_7
    try clear hcz35_8
    try clear hcz35_9
    try clear hcz36_0
    try clear hcz36_1
    try clear hcz36_10
    try clear hcz36_11
    try clear hcz36_12
    try clear hcz36_13
    try clear hcz36_14
    try clear hcz36_2
    try clear hcz36_3
    try clear hcz36_4
    try clear hcz36_5
    try clear hcz36_6
    try clear hcz36_7
    try clear hcz36_8
    try clear hcz36_9
    try clear hcz38_0
    try clear hcz38_1
    try clear hcz38_10
    try clear hcz38_11
    try clear hcz38_12
    try clear hcz38_13
    try clear hcz38_14
    try clear hcz38_2
    try clear hcz38_3
    try clear hcz38_4
    try clear hcz38_5
    try clear hcz38_6
    try clear hcz38_7
    try clear hcz38_8
    try clear hcz38_9
    try clear hcz39_0
    try clear hcz39_1
    try clear hcz39_10
    try clear hcz39_11
    try clear hcz39_12
    try clear hcz39_13
    try clear hcz39_14
    try clear hcz39_2
    try clear hcz39_3
    try clear hcz39_4
    try clear hcz39_5
    try clear hcz39_6
    try clear hcz39_7
    try clear hcz39_8
    try clear hcz39_9
    try clear hcz41_0
    try clear hcz41_1
    try clear hcz41_10
    try clear hcz41_11
    try clear hcz41_12
    try clear hcz41_13
    try clear hcz41_14
    try clear hcz41_2
    try clear hcz41_3
    try clear hcz41_4
    try clear hcz41_5
    try clear hcz41_6
    try clear hcz41_7
    try clear hcz41_8
    try clear hcz41_9
    try clear hcz42_0
    try clear hcz42_1
    try clear hcz42_10
    try clear hcz42_11
    try clear hcz42_12
    try clear hcz42_13
    try clear hcz42_14
    try clear hcz42_2
    try clear hcz42_3
    try clear hcz42_4
    try clear hcz42_5
    try clear hcz42_6
    try clear hcz42_7
    try clear hcz42_8
    try clear hcz42_9
    try clear hcz44_0
    try clear hcz44_1
    try clear hcz44_10
    try clear hcz44_11
    try clear hcz44_12
    try clear hcz44_13
    try clear hcz44_14
    try clear hcz44_2
    try clear hcz44_3
    try clear hcz44_4
    try clear hcz44_5
    try clear hcz44_6
    try clear hcz44_7
    try clear hcz44_8
    try clear hcz44_9
    try clear hcz45_0
    try clear hcz45_1
    try clear hcz45_10
    try clear hcz45_11
    try clear hcz45_12
    try clear hcz45_13
    try clear hcz45_14
    try clear hcz45_2
    try clear hcz45_3
    try clear hcz45_4
    try clear hcz45_5
    try clear hcz45_6
    try clear hcz45_7
    try clear hcz45_8
    try clear hcz45_9
    try clear hcz47_0
    try clear hcz47_1
    try clear hcz47_10
    try clear hcz47_11
    try clear hcz47_12
    try clear hcz47_13
    try clear hcz47_14
    try clear hcz47_2
    try clear hcz47_3
    try clear hcz47_4
    try clear hcz47_5
    try clear hcz47_6
    try clear hcz47_7
    try clear hcz47_8
    try clear hcz47_9
    try clear hcz48_0
    try clear hcz48_1
    try clear hcz48_10
    try clear hcz48_11
    try clear hcz48_12
    try clear hcz48_13
    try clear hcz48_14
    try clear hcz48_2
    try clear hcz48_3
    try clear hcz48_4
    try clear hcz48_5
    try clear hcz48_6
    try clear hcz48_7
    try clear hcz48_8
    try clear hcz48_9
    try clear hfz23_11
    try clear hfz23_12
    try clear hfz23_13
    try clear hfz23_14
    try clear hfz24_0
    try clear hfz24_1
    try clear hfz24_10
    try clear hfz24_11
    try clear hfz24_12
    try clear hfz24_13
    try clear hfz24_14
    try clear hfz24_2
    try clear hfz24_3
    try clear hfz24_4
    try clear hfz24_5
    try clear hfz24_6
    try clear hfz24_7
    try clear hfz24_8
    try clear hfz24_9
    try clear hfz26_0
    try clear hfz26_1
    try clear hfz26_10
    try clear hfz26_11
    try clear hfz26_12
    try clear hfz26_13
    try clear hfz26_14
    try clear hfz26_2
    try clear hfz26_3
    try clear hfz26_4
    try clear hfz26_5
    try clear hfz26_6
    try clear hfz26_7
    try clear hfz26_8
    try clear hfz26_9
    try clear hfz27_0
    try clear hfz27_1
    try clear hfz27_10
    try clear hfz27_11
    try clear hfz27_12
    try clear hfz27_13
    try clear hfz27_14
    try clear hfz27_2
    try clear hfz27_3
    try clear hfz27_4
    try clear hfz27_5
    try clear hfz27_6
    try clear hfz27_7
    try clear hfz27_8
    try clear hfz27_9
    try clear hfz29_0
    try clear hfz29_1
    try clear hfz29_10
    try clear hfz29_11
    try clear hfz29_12
    try clear hfz29_13
    try clear hfz29_14
    try clear hfz29_2
    try clear hfz29_3
    try clear hfz29_4
    try clear hfz29_5
    try clear hfz29_6
    try clear hfz29_7
    try clear hfz29_8
    try clear hfz29_9
    try clear hfz30_0
    try clear hfz30_1
    try clear hfz30_10
    try clear hfz30_11
    try clear hfz30_12
    try clear hfz30_13
    try clear hfz30_14
    try clear hfz30_2
    try clear hfz30_3
    try clear hfz30_4
    try clear hfz30_5
    try clear hfz30_6
    try clear hfz30_7
    try clear hfz30_8
    try clear hfz30_9
    try clear hfz32_0
    try clear hfz32_1
    try clear hfz32_10
    try clear hfz32_11
    try clear hfz32_12
    try clear hfz32_13
    try clear hfz32_14
    try clear hfz32_2
    try clear hfz32_3
    try clear hfz32_4
    try clear hfz32_5
    try clear hfz32_6
    try clear hfz32_7
    try clear hfz32_8
    try clear hfz32_9
    try clear hfz33_0
    try clear hfz33_1
    try clear hfz33_10
    try clear hfz33_11
    try clear hfz33_12
    try clear hfz33_13
    try clear hfz33_14
    try clear hfz33_2
    try clear hfz33_3
    try clear hfz33_4
    try clear hfz33_5
    try clear hfz33_6
    try clear hfz33_7
    try clear hfz33_8
    try clear hfz33_9
    try clear hfz35_0
    try clear hfz35_1
    try clear hfz35_10
    try clear hfz35_11
    try clear hfz35_12
    try clear hfz35_13
    try clear hfz35_14
    try clear hfz35_2
    try clear hfz35_3
    try clear hfz35_4
    try clear hfz35_5
    try clear hfz35_6
    try clear hfz35_7
    try clear hfz35_8
    try clear hfz35_9
    try clear hfz36_0
    try clear hfz36_1
    try clear hfz36_10
    try clear hfz36_11
    try clear hfz36_12
    try clear hfz36_13
    try clear hfz36_14
    try clear hfz36_2
    try clear hfz36_3
    try clear hfz36_4
    try clear hfz36_5
    try clear hfz36_6
    try clear hfz36_7
    try clear hfz36_8
    try clear hfz36_9
    try clear hfz38_0
    try clear hfz38_1
    try clear hfz38_10
    try clear hfz38_11
    try clear hfz38_12
    try clear hfz38_13
    try clear hfz38_14
    try clear hfz38_2
    try clear hfz38_3
    try clear hfz38_4
    try clear hfz38_5
    try clear hfz38_6
    try clear hfz38_7
    try clear hfz38_8
    try clear hfz38_9
    try clear hfz39_0
    try clear hfz39_1
    try clear hfz39_10
    try clear hfz39_11
    try clear hfz39_12
    try clear hfz39_13
    try clear hfz39_14
    try clear hfz39_2
    try clear hfz39_3
    try clear hfz39_4
    try clear hfz39_5
    try clear hfz39_6
    try clear hfz39_7
    try clear hfz39_8
    try clear hfz39_9
    try clear hfz41_0
    try clear hfz41_1
    try clear hfz41_10
    try clear hfz41_11
    try clear hfz41_12
    try clear hfz41_13
    try clear hfz41_14
    try clear hfz41_2
    try clear hfz41_3
    try clear hfz41_4
    try clear hfz41_5
    try clear hfz41_6
    try clear hfz41_7
    try clear hfz41_8
    try clear hfz41_9
    try clear hfz42_0
    try clear hfz42_1
    try clear hfz42_10
    try clear hfz42_11
    try clear hfz42_12
    try clear hfz42_13
    try clear hfz42_14
    try clear hfz42_2
    try clear hfz42_3
    try clear hfz42_4
    try clear hfz42_5
    try clear hfz42_6
    try clear hfz42_7
    try clear hfz42_8
    try clear hfz42_9
    try clear hfz44_0
    try clear hfz44_1
    try clear hfz44_10
    try clear hfz44_11
    try clear hfz44_12
    try clear hfz44_13
    try clear hfz44_14
    try clear hfz44_2
    try clear hfz44_3
    try clear hfz44_4
    try clear hfz44_5
    try clear hfz44_6
    try clear hfz44_7
    try clear hfz44_8
    try clear hfz44_9
    try clear hfz45_0
    try clear hfz45_1
    try clear hfz45_10
    try clear hfz45_11
    try clear hfz45_12
    try clear hfz45_13
    try clear hfz45_14
    try clear hfz45_2
    try clear hfz45_3
    try clear hfz45_4
    try clear hfz45_5
    try clear hfz45_6
    try clear hfz45_7
    try clear hfz45_8
    try clear hfz45_9
    try clear hfz47_0
    try clear hfz47_1
    try clear hfz47_10
    try clear hfz47_11
    try clear hfz47_12
    try clear hfz47_13
    try clear hfz47_14
    try clear hfz47_2
    try clear hfz47_3
    try clear hfz47_4
    try clear hfz47_5
    try clear hfz47_6
    try clear hfz47_7
    try clear hfz47_8
    try clear hfz47_9
    try clear hfz48_0
    try clear hfz48_1
    try clear hfz48_10
    try clear hfz48_11
    try clear hfz48_12
    try clear hfz48_13
    try clear hfz48_14
    try clear hfz48_2
    try clear hfz48_3
    try clear hfz48_4
    try clear hfz48_5
    try clear hfz48_6
    try clear hfz48_7
    try clear hfz48_8
    try clear hfz48_9
    obtain ⟨kq, x79_2, rfl, HA, HJ2, BK165, BK166, HB⟩ := hcut
    cases kq with
    | zero => exact absurd HA.out (by simp [wire_Same.j0])
    | succ kj2 =>
      have H := HA.out
      clear HA
      simp only [wire_Same.j0] at H
      by_cases c49 : x79_2 = true
      · subst c49
        have H1 : (some false) = some r := by rw [if_pos rfl] at H; exact H
        clear H
        have H := H1
        clear H1
        obtain rfl := Option.some.inj H
        go_wp2
        go_ret
        exact ⟨by first | rfl | (simp [errW_none, errW_some] <;> rfl) | (simp [*, errW_none, errW_some] <;> rfl), by repeat (first | (with_reducible first | exact HB.out | apply below_alloc | apply pw_below_drewN | apply below_drew1 | refine below_set ?_ GE165.out | refine below_set ?_ GE166.out) | exact HB.out)⟩
      · replace c49 := Bool.eq_false_iff.mpr c49
        subst c49
        have H1 : ((slices_Equal_int_int.f kj2 l0_12 l1_12).bind fun t167 => (if t167 = true then ((slices_Equal_int_int.f kj2 l0_13 l1_13).bind fun t168 => (if t168 = true then ((bytes_Equal.f l0_14 l1_14).bind fun t169 => (some t169)) else (some false))) else (some false))) = some r := by rw [if_neg (show ¬ (false = true) by decide)] at H; exact H
        clear H
        have H := H1
        clear H1
        replace H := Option.bind_eq_some_iff.mp H
        obtain ⟨t167, A500, H⟩ := H
        replace H : (if t167 = true then ((slices_Equal_int_int.f kj2 l0_13 l1_13).bind fun t168 => (if t168 = true then ((bytes_Equal.f l0_14 l1_14).bind fun t169 => (some t169)) else (some false))) else (some false)) = some r := H
        have A50 := Aside0.mk A500
        clear A500
        by_cases c51 : t167 = true
        · subst c51
          have H1 : ((slices_Equal_int_int.f kj2 l0_13 l1_13).bind fun t168 => (if t168 = true then ((bytes_Equal.f l0_14 l1_14).bind fun t169 => (some t169)) else (some false))) = some r := by rw [if_pos rfl] at H; exact H
          clear H
          have H := H1
          clear H1
          replace H := Option.bind_eq_some_iff.mp H
          obtain ⟨t168, A520, H⟩ := H
          replace H : (if t168 = true then ((bytes_Equal.f l0_14 l1_14).bind fun t169 => (some t169)) else (some false)) = some r := H
          have A52 := Aside0.mk A520
          clear A520
          by_cases c53 : t168 = true
          · subst c53
            have H1 : ((bytes_Equal.f l0_14 l1_14).bind fun t169 => (some t169)) = some r := by rw [if_pos rfl] at H; exact H
            clear H
            have H := H1
            clear H1
            replace H := Option.bind_eq_some_iff.mp H
            obtain ⟨t169, A540, H⟩ := H
            replace H : (some t169) = some r := H
            have A54 := Aside0.mk A540
            clear A540
            obtain rfl := Option.some.inj H
            have hnb55 := NB165_166.out
            have hnc55 := NB166_165.out
            have hcz56_0 : wc.cell? ⟨gb165, 0, none⟩ = some (.int .i64 a0_0) := (blk_cell BK165.out 0).trans rfl
            have hcz56_1 : wc.cell? ⟨gb165, 1, none⟩ = some (.int .i64 a0_1) := (blk_cell BK165.out 1).trans rfl
            have hcz56_2 : wc.cell? ⟨gb165, 2, none⟩ = some (.int .i64 a0_2) := (blk_cell BK165.out 2).trans rfl
            have hcz56_3 : wc.cell? ⟨gb165, 3, none⟩ = some (.int .i64 a0_3) := (blk_cell BK165.out 3).trans rfl
            have hcz56_4 : wc.cell? ⟨gb165, 4, none⟩ = some (.int .i64 a0_4) := (blk_cell BK165.out 4).trans rfl
            have hcz56_5 : wc.cell? ⟨gb165, 5, none⟩ = some (.int .i64 a0_5) := (blk_cell BK165.out 5).trans rfl
            have hcz56_6 : wc.cell? ⟨gb165, 6, none⟩ = some (.int .i64 a0_6) := (blk_cell BK165.out 6).trans rfl
            have hcz56_7 : wc.cell? ⟨gb165, 7, none⟩ = some (.int .i64 a0_7) := (blk_cell BK165.out 7).trans rfl
            have hcz56_8 : wc.cell? ⟨gb165, 8, none⟩ = some (.int .i64 a0_8) := (blk_cell BK165.out 8).trans rfl
            have hcz56_9 : wc.cell? ⟨gb165, 9, none⟩ = some (.bool a0_9) := (blk_cell BK165.out 9).trans rfl
            have hcz56_10 : wc.cell? ⟨gb165, 10, none⟩ = some (.int .i64 a0_10) := (blk_cell BK165.out 10).trans rfl
            have hcz56_11 : wc.cell? ⟨gb165, 11, none⟩ = some (.int .i64 a0_11) := (blk_cell BK165.out 11).trans rfl
            have hcz56_12 : wc.cell? ⟨gb165, 12, none⟩ = some (.slice A0_12 l0_12.length c0_12) := (blk_cell BK165.out 12).trans rfl
            have hcz56_13 : wc.cell? ⟨gb165, 13, none⟩ = some (.slice A0_13 l0_13.length c0_13) := (blk_cell BK165.out 13).trans rfl
            have hcz56_14 : wc.cell? ⟨gb165, 14, none⟩ = some (.slice A0_14 l0_14.length c0_14) := (blk_cell BK165.out 14).trans rfl
            have hfz56_0 := blk_frozen BK165.out 0
            have hfz56_1 := blk_frozen BK165.out 1
            have hfz56_2 := blk_frozen BK165.out 2
            have hfz56_3 := blk_frozen BK165.out 3
            have hfz56_4 := blk_frozen BK165.out 4
            have hfz56_5 := blk_frozen BK165.out 5
            have hfz56_6 := blk_frozen BK165.out 6
            have hfz56_7 := blk_frozen BK165.out 7
            have hfz56_8 := blk_frozen BK165.out 8
            have hfz56_9 := blk_frozen BK165.out 9
            have hfz56_10 := blk_frozen BK165.out 10
            have hfz56_11 := blk_frozen BK165.out 11
            have hfz56_12 := blk_frozen BK165.out 12
            have hfz56_13 := blk_frozen BK165.out 13
            have hfz56_14 := blk_frozen BK165.out 14
            have hcz57_0 : wc.cell? ⟨gb166, 0, none⟩ = some (.int .i64 a1_0) := (blk_cell BK166.out 0).trans rfl
            have hcz57_1 : wc.cell? ⟨gb166, 1, none⟩ = some (.int .i64 a1_1) := (blk_cell BK166.out 1).trans rfl
            have hcz57_2 : wc.cell? ⟨gb166, 2, none⟩ = some (.int .i64 a1_2) := (blk_cell BK166.out 2).trans rfl
            have hcz57_3 : wc.cell? ⟨gb166, 3, none⟩ = some (.int .i64 a1_3) := (blk_cell BK166.out 3).trans rfl
            have hcz57_4 : wc.cell? ⟨gb166, 4, none⟩ = some (.int .i64 a1_4) := (blk_cell BK166.out 4).trans rfl
            have hcz57_5 : wc.cell? ⟨gb166, 5, none⟩ = some (.int .i64 a1_5) := (blk_cell BK166.out 5).trans rfl
            have hcz57_6 : wc.cell? ⟨gb166, 6, none⟩ = some (.int .i64 a1_6) := (blk_cell BK166.out 6).trans rfl
            have hcz57_7 : wc.cell? ⟨gb166, 7, none⟩ = some (.int .i64 a1_7) := (blk_cell BK166.out 7).trans rfl
            have hcz57_8 : wc.cell? ⟨gb166, 8, none⟩ = some (.int .i64 a1_8) := (blk_cell BK166.out 8).trans rfl
            have hcz57_9 : wc.cell? ⟨gb166, 9, none⟩ = some (.bool a1_9) := (blk_cell BK166.out 9).trans rfl
            have hcz57_10 : wc.cell? ⟨gb166, 10, none⟩ = some (.int .i64 a1_10) := (blk_cell BK166.out 10).trans rfl
            have hcz57_11 : wc.cell? ⟨gb166, 11, none⟩ = some (.int .i64 a1_11) := (blk_cell BK166.out 11).trans rfl
            have hcz57_12 : wc.cell? ⟨gb166, 12, none⟩ = some (.slice A1_12 l1_12.length c1_12) := (blk_cell BK166.out 12).trans rfl
            have hcz57_13 : wc.cell? ⟨gb166, 13, none⟩ = some (.slice A1_13 l1_13.length c1_13) := (blk_cell BK166.out 13).trans rfl
            have hcz57_14 : wc.cell? ⟨gb166, 14, none⟩ = some (.slice A1_14 l1_14.length c1_14) := (blk_cell BK166.out 14).trans rfl
            have hfz57_0 := blk_frozen BK166.out 0
            have hfz57_1 := blk_frozen BK166.out 1
            have hfz57_2 := blk_frozen BK166.out 2
            have hfz57_3 := blk_frozen BK166.out 3
            have hfz57_4 := blk_frozen BK166.out 4
            have hfz57_5 := blk_frozen BK166.out 5
            have hfz57_6 := blk_frozen BK166.out 6
            have hfz57_7 := blk_frozen BK166.out 7
            have hfz57_8 := blk_frozen BK166.out 8
            have hfz57_9 := blk_frozen BK166.out 9
            have hfz57_10 := blk_frozen BK166.out 10
            have hfz57_11 := blk_frozen BK166.out 11
            have hfz57_12 := blk_frozen BK166.out 12
            have hfz57_13 := blk_frozen BK166.out 13
            have hfz57_14 := blk_frozen BK166.out 14
            go_wp2_with (first | ((with_reducible refine gate_callee (f := 44) rfl ?_); refine goesL_ (some 84) rfl rfl Try.func44 (by kernel_rfl) rfl #[.slice A0_12 l0_12.length c0_12, .slice A1_12 l1_12.length c1_12] rfl (by (try simp only [List.map_toArray, List.map_cons, List.map_nil]); first | done | rfl | (simp only [List.length_drop, List.length_take]; rfl)) ?_; (with_reducible refine (slices_Equal_int_int.calls kj2 _ _ l0_12 _ _ l1_12 true _ ?side1 ?side2 ?side3 ?side4 A50.out).mono ?_); (case side1 => repeat (first | exact (Kd.C_below HR0_12.out HB.out) | (with_reducible refine Kd.C_alloc ?_ _) | (with_reducible refine Kd.C_drewN ?_ _) | (with_reducible refine Kd.C_drew ?_))); (case side2 => exact HC0_12.out); (case side3 => repeat (first | exact (Kd.C_below HR1_12.out HB.out) | (with_reducible refine Kd.C_alloc ?_ _) | (with_reducible refine Kd.C_drewN ?_ _) | (with_reducible refine Kd.C_drew ?_))); (case side4 => exact HC1_12.out); rintro e w' ⟨rfl, ⟨nd, rfl⟩⟩; refine ⟨_, rfl, ?_⟩) | (go_at_call 44; (with_reducible refine (slices_Equal_int_int.calls kj2 _ _ l0_13 _ _ l1_13 true _ ?side1 ?side2 ?side3 ?side4 A52.out).mono ?_); (case side1 => repeat (first | exact (Kd.C_below HR0_13.out (by repeat (first | (with_reducible first | exact HB.out | apply below_alloc | apply pw_below_drewN | apply below_drew1 | refine below_set ?_ GE165.out | refine below_set ?_ GE166.out) | exact HB.out))) | (with_reducible refine Kd.C_alloc ?_ _) | (with_reducible refine Kd.C_drewN ?_ _) | (with_reducible refine Kd.C_drew ?_))); (case side2 => exact HC0_13.out); (case side3 => repeat (first | exact (Kd.C_below HR1_13.out (by repeat (first | (with_reducible first | exact HB.out | apply below_alloc | apply pw_below_drewN | apply below_drew1 | refine below_set ?_ GE165.out | refine below_set ?_ GE166.out) | exact HB.out))) | (with_reducible refine Kd.C_alloc ?_ _) | (with_reducible refine Kd.C_drewN ?_ _) | (with_reducible refine Kd.C_drew ?_))); (case side4 => exact HC1_13.out); rintro e w' ⟨rfl, ⟨nd, rfl⟩⟩) | (go_at_call 45; (with_reducible refine (bytes_Equal.calls _ _ l0_14 _ _ l1_14 t169 _ ?side1 ?side2 ?side3 ?side4 A54.out).mono ?_); (case side1 => repeat (first | exact (Kd.C_below HR0_14.out (by repeat (first | (with_reducible first | exact HB.out | apply below_alloc | apply pw_below_drewN | apply below_drew1 | refine below_set ?_ GE165.out | refine below_set ?_ GE166.out) | exact HB.out))) | (with_reducible refine Kd.C_alloc ?_ _) | (with_reducible refine Kd.C_drewN ?_ _) | (with_reducible refine Kd.C_drew ?_))); (case side2 => exact HC0_14.out); (case side3 => repeat (first | exact (Kd.C_below HR1_14.out (by repeat (first | (with_reducible first | exact HB.out | apply below_alloc | apply pw_below_drewN | apply below_drew1 | refine below_set ?_ GE165.out | refine below_set ?_ GE166.out) | exact HB.out))) | (with_reducible refine Kd.C_alloc ?_ _) | (with_reducible refine Kd.C_drewN ?_ _) | (with_reducible refine Kd.C_drew ?_))); (case side4 => exact HC1_14.out); rintro e w' ⟨rfl, ⟨nd, rfl⟩⟩))
            go_ret
            exact ⟨by first | rfl | (simp [errW_none, errW_some] <;> rfl) | (simp [*, errW_none, errW_some] <;> rfl), by repeat (first | (with_reducible first | exact HB.out | apply below_alloc | apply pw_below_drewN | apply below_drew1 | refine below_set ?_ GE165.out | refine below_set ?_ GE166.out) | exact HB.out)⟩
          · replace c53 := Bool.eq_false_iff.mpr c53
            subst c53
            have H1 : (some false) = some r := by rw [if_neg (show ¬ (false = true) by decide)] at H; exact H
            clear H
            have H := H1
            clear H1
            obtain rfl := Option.some.inj H
            have hnb58 := NB165_166.out
            have hnc58 := NB166_165.out
            have hcz59_0 : wc.cell? ⟨gb165, 0, none⟩ = some (.int .i64 a0_0) := (blk_cell BK165.out 0).trans rfl
            have hcz59_1 : wc.cell? ⟨gb165, 1, none⟩ = some (.int .i64 a0_1) := (blk_cell BK165.out 1).trans rfl
            have hcz59_2 : wc.cell? ⟨gb165, 2, none⟩ = some (.int .i64 a0_2) := (blk_cell BK165.out 2).trans rfl
            have hcz59_3 : wc.cell? ⟨gb165, 3, none⟩ = some (.int .i64 a0_3) := (blk_cell BK165.out 3).trans rfl
            have hcz59_4 : wc.cell? ⟨gb165, 4, none⟩ = some (.int .i64 a0_4) := (blk_cell BK165.out 4).trans rfl
            have hcz59_5 : wc.cell? ⟨gb165, 5, none⟩ = some (.int .i64 a0_5) := (blk_cell BK165.out 5).trans rfl
            have hcz59_6 : wc.cell? ⟨gb165, 6, none⟩ = some (.int .i64 a0_6) := (blk_cell BK165.out 6).trans rfl
            have hcz59_7 : wc.cell? ⟨gb165, 7, none⟩ = some (.int .i64 a0_7) := (blk_cell BK165.out 7).trans rfl
            have hcz59_8 : wc.cell? ⟨gb165, 8, none⟩ = some (.int .i64 a0_8) := (blk_cell BK165.out 8).trans rfl
            have hcz59_9 : wc.cell? ⟨gb165, 9, none⟩ = some (.bool a0_9) := (blk_cell BK165.out 9).trans rfl
            have hcz59_10 : wc.cell? ⟨gb165, 10, none⟩ = some (.int .i64 a0_10) := (blk_cell BK165.out 10).trans rfl
            have hcz59_11 : wc.cell? ⟨gb165, 11, none⟩ = some (.int .i64 a0_11) := (blk_cell BK165.out 11).trans rfl
            have hcz59_12 : wc.cell? ⟨gb165, 12, none⟩ = some (.slice A0_12 l0_12.length c0_12) := (blk_cell BK165.out 12).trans rfl
            have hcz59_13 : wc.cell? ⟨gb165, 13, none⟩ = some (.slice A0_13 l0_13.length c0_13) := (blk_cell BK165.out 13).trans rfl
            have hcz59_14 : wc.cell? ⟨gb165, 14, none⟩ = some (.slice A0_14 l0_14.length c0_14) := (blk_cell BK165.out 14).trans rfl
            have hfz59_0 := blk_frozen BK165.out 0
            have hfz59_1 := blk_frozen BK165.out 1
            have hfz59_2 := blk_frozen BK165.out 2
            have hfz59_3 := blk_frozen BK165.out 3
            have hfz59_4 := blk_frozen BK165.out 4
            have hfz59_5 := blk_frozen BK165.out 5
            have hfz59_6 := blk_frozen BK165.out 6
            have hfz59_7 := blk_frozen BK165.out 7
            have hfz59_8 := blk_frozen BK165.out 8
            have hfz59_9 := blk_frozen BK165.out 9
            have hfz59_10 := blk_frozen BK165.out 10
            have hfz59_11 := blk_frozen BK165.out 11
            have hfz59_12 := blk_frozen BK165.out 12
            have hfz59_13 := blk_frozen BK165.out 13
            have hfz59_14 := blk_frozen BK165.out 14
            have hcz60_0 : wc.cell? ⟨gb166, 0, none⟩ = some (.int .i64 a1_0) := (blk_cell BK166.out 0).trans rfl
            have hcz60_1 : wc.cell? ⟨gb166, 1, none⟩ = some (.int .i64 a1_1) := (blk_cell BK166.out 1).trans rfl
            have hcz60_2 : wc.cell? ⟨gb166, 2, none⟩ = some (.int .i64 a1_2) := (blk_cell BK166.out 2).trans rfl
            have hcz60_3 : wc.cell? ⟨gb166, 3, none⟩ = some (.int .i64 a1_3) := (blk_cell BK166.out 3).trans rfl
            have hcz60_4 : wc.cell? ⟨gb166, 4, none⟩ = some (.int .i64 a1_4) := (blk_cell BK166.out 4).trans rfl
            have hcz60_5 : wc.cell? ⟨gb166, 5, none⟩ = some (.int .i64 a1_5) := (blk_cell BK166.out 5).trans rfl
            have hcz60_6 : wc.cell? ⟨gb166, 6, none⟩ = some (.int .i64 a1_6) := (blk_cell BK166.out 6).trans rfl
            have hcz60_7 : wc.cell? ⟨gb166, 7, none⟩ = some (.int .i64 a1_7) := (blk_cell BK166.out 7).trans rfl
            have hcz60_8 : wc.cell? ⟨gb166, 8, none⟩ = some (.int .i64 a1_8) := (blk_cell BK166.out 8).trans rfl
            have hcz60_9 : wc.cell? ⟨gb166, 9, none⟩ = some (.bool a1_9) := (blk_cell BK166.out 9).trans rfl
            have hcz60_10 : wc.cell? ⟨gb166, 10, none⟩ = some (.int .i64 a1_10) := (blk_cell BK166.out 10).trans rfl
            have hcz60_11 : wc.cell? ⟨gb166, 11, none⟩ = some (.int .i64 a1_11) := (blk_cell BK166.out 11).trans rfl
            have hcz60_12 : wc.cell? ⟨gb166, 12, none⟩ = some (.slice A1_12 l1_12.length c1_12) := (blk_cell BK166.out 12).trans rfl
            have hcz60_13 : wc.cell? ⟨gb166, 13, none⟩ = some (.slice A1_13 l1_13.length c1_13) := (blk_cell BK166.out 13).trans rfl
            have hcz60_14 : wc.cell? ⟨gb166, 14, none⟩ = some (.slice A1_14 l1_14.length c1_14) := (blk_cell BK166.out 14).trans rfl
            have hfz60_0 := blk_frozen BK166.out 0
            have hfz60_1 := blk_frozen BK166.out 1
            have hfz60_2 := blk_frozen BK166.out 2
            have hfz60_3 := blk_frozen BK166.out 3
            have hfz60_4 := blk_frozen BK166.out 4
            have hfz60_5 := blk_frozen BK166.out 5
            have hfz60_6 := blk_frozen BK166.out 6
            have hfz60_7 := blk_frozen BK166.out 7
            have hfz60_8 := blk_frozen BK166.out 8
            have hfz60_9 := blk_frozen BK166.out 9
            have hfz60_10 := blk_frozen BK166.out 10
            have hfz60_11 := blk_frozen BK166.out 11
            have hfz60_12 := blk_frozen BK166.out 12
            have hfz60_13 := blk_frozen BK166.out 13
            have hfz60_14 := blk_frozen BK166.out 14
            go_wp2_with (first | ((with_reducible refine gate_callee (f := 44) rfl ?_); refine goesL_ (some 84) rfl rfl Try.func44 (by kernel_rfl) rfl #[.slice A0_12 l0_12.length c0_12, .slice A1_12 l1_12.length c1_12] rfl (by (try simp only [List.map_toArray, List.map_cons, List.map_nil]); first | done | rfl | (simp only [List.length_drop, List.length_take]; rfl)) ?_; (with_reducible refine (slices_Equal_int_int.calls kj2 _ _ l0_12 _ _ l1_12 true _ ?side1 ?side2 ?side3 ?side4 A50.out).mono ?_); (case side1 => repeat (first | exact (Kd.C_below HR0_12.out HB.out) | (with_reducible refine Kd.C_alloc ?_ _) | (with_reducible refine Kd.C_drewN ?_ _) | (with_reducible refine Kd.C_drew ?_))); (case side2 => exact HC0_12.out); (case side3 => repeat (first | exact (Kd.C_below HR1_12.out HB.out) | (with_reducible refine Kd.C_alloc ?_ _) | (with_reducible refine Kd.C_drewN ?_ _) | (with_reducible refine Kd.C_drew ?_))); (case side4 => exact HC1_12.out); rintro e w' ⟨rfl, ⟨nd, rfl⟩⟩; refine ⟨_, rfl, ?_⟩) | (go_at_call 44; (with_reducible refine (slices_Equal_int_int.calls kj2 _ _ l0_13 _ _ l1_13 false _ ?side1 ?side2 ?side3 ?side4 A52.out).mono ?_); (case side1 => repeat (first | exact (Kd.C_below HR0_13.out (by repeat (first | (with_reducible first | exact HB.out | apply below_alloc | apply pw_below_drewN | apply below_drew1 | refine below_set ?_ GE165.out | refine below_set ?_ GE166.out) | exact HB.out))) | (with_reducible refine Kd.C_alloc ?_ _) | (with_reducible refine Kd.C_drewN ?_ _) | (with_reducible refine Kd.C_drew ?_))); (case side2 => exact HC0_13.out); (case side3 => repeat (first | exact (Kd.C_below HR1_13.out (by repeat (first | (with_reducible first | exact HB.out | apply below_alloc | apply pw_below_drewN | apply below_drew1 | refine below_set ?_ GE165.out | refine below_set ?_ GE166.out) | exact HB.out))) | (with_reducible refine Kd.C_alloc ?_ _) | (with_reducible refine Kd.C_drewN ?_ _) | (with_reducible refine Kd.C_drew ?_))); (case side4 => exact HC1_13.out); rintro e w' ⟨rfl, ⟨nd, rfl⟩⟩))
            go_ret
            exact ⟨by first | rfl | (simp [errW_none, errW_some] <;> rfl) | (simp [*, errW_none, errW_some] <;> rfl), by repeat (first | (with_reducible first | exact HB.out | apply below_alloc | apply pw_below_drewN | apply below_drew1 | refine below_set ?_ GE165.out | refine below_set ?_ GE166.out) | exact HB.out)⟩
        · replace c51 := Bool.eq_false_iff.mpr c51
          subst c51
          have H1 : (some false) = some r := by rw [if_neg (show ¬ (false = true) by decide)] at H; exact H
          clear H
          have H := H1
          clear H1
          obtain rfl := Option.some.inj H
          have hnb61 := NB165_166.out
          have hnc61 := NB166_165.out
          have hcz62_0 : wc.cell? ⟨gb165, 0, none⟩ = some (.int .i64 a0_0) := (blk_cell BK165.out 0).trans rfl
          have hcz62_1 : wc.cell? ⟨gb165, 1, none⟩ = some (.int .i64 a0_1) := (blk_cell BK165.out 1).trans rfl
          have hcz62_2 : wc.cell? ⟨gb165, 2, none⟩ = some (.int .i64 a0_2) := (blk_cell BK165.out 2).trans rfl
          have hcz62_3 : wc.cell? ⟨gb165, 3, none⟩ = some (.int .i64 a0_3) := (blk_cell BK165.out 3).trans rfl
          have hcz62_4 : wc.cell? ⟨gb165, 4, none⟩ = some (.int .i64 a0_4) := (blk_cell BK165.out 4).trans rfl
          have hcz62_5 : wc.cell? ⟨gb165, 5, none⟩ = some (.int .i64 a0_5) := (blk_cell BK165.out 5).trans rfl
          have hcz62_6 : wc.cell? ⟨gb165, 6, none⟩ = some (.int .i64 a0_6) := (blk_cell BK165.out 6).trans rfl
          have hcz62_7 : wc.cell? ⟨gb165, 7, none⟩ = some (.int .i64 a0_7) := (blk_cell BK165.out 7).trans rfl
          have hcz62_8 : wc.cell? ⟨gb165, 8, none⟩ = some (.int .i64 a0_8) := (blk_cell BK165.out 8).trans rfl
          have hcz62_9 : wc.cell? ⟨gb165, 9, none⟩ = some (.bool a0_9) := (blk_cell BK165.out 9).trans rfl
          have hcz62_10 : wc.cell? ⟨gb165, 10, none⟩ = some (.int .i64 a0_10) := (blk_cell BK165.out 10).trans rfl
          have hcz62_11 : wc.cell? ⟨gb165, 11, none⟩ = some (.int .i64 a0_11) := (blk_cell BK165.out 11).trans rfl
          have hcz62_12 : wc.cell? ⟨gb165, 12, none⟩ = some (.slice A0_12 l0_12.length c0_12) := (blk_cell BK165.out 12).trans rfl
          have hcz62_13 : wc.cell? ⟨gb165, 13, none⟩ = some (.slice A0_13 l0_13.length c0_13) := (blk_cell BK165.out 13).trans rfl
          have hcz62_14 : wc.cell? ⟨gb165, 14, none⟩ = some (.slice A0_14 l0_14.length c0_14) := (blk_cell BK165.out 14).trans rfl
          have hfz62_0 := blk_frozen BK165.out 0
          have hfz62_1 := blk_frozen BK165.out 1
          have hfz62_2 := blk_frozen BK165.out 2
          have hfz62_3 := blk_frozen BK165.out 3
          have hfz62_4 := blk_frozen BK165.out 4
          have hfz62_5 := blk_frozen BK165.out 5
          have hfz62_6 := blk_frozen BK165.out 6
          have hfz62_7 := blk_frozen BK165.out 7
          have hfz62_8 := blk_frozen BK165.out 8
          have hfz62_9 := blk_frozen BK165.out 9
          have hfz62_10 := blk_frozen BK165.out 10
          have hfz62_11 := blk_frozen BK165.out 11
          have hfz62_12 := blk_frozen BK165.out 12
          have hfz62_13 := blk_frozen BK165.out 13
          have hfz62_14 := blk_frozen BK165.out 14
          have hcz63_0 : wc.cell? ⟨gb166, 0, none⟩ = some (.int .i64 a1_0) := (blk_cell BK166.out 0).trans rfl
          have hcz63_1 : wc.cell? ⟨gb166, 1, none⟩ = some (.int .i64 a1_1) := (blk_cell BK166.out 1).trans rfl
          have hcz63_2 : wc.cell? ⟨gb166, 2, none⟩ = some (.int .i64 a1_2) := (blk_cell BK166.out 2).trans rfl
          have hcz63_3 : wc.cell? ⟨gb166, 3, none⟩ = some (.int .i64 a1_3) := (blk_cell BK166.out 3).trans rfl
          have hcz63_4 : wc.cell? ⟨gb166, 4, none⟩ = some (.int .i64 a1_4) := (blk_cell BK166.out 4).trans rfl
          have hcz63_5 : wc.cell? ⟨gb166, 5, none⟩ = some (.int .i64 a1_5) := (blk_cell BK166.out 5).trans rfl
          have hcz63_6 : wc.cell? ⟨gb166, 6, none⟩ = some (.int .i64 a1_6) := (blk_cell BK166.out 6).trans rfl
          have hcz63_7 : wc.cell? ⟨gb166, 7, none⟩ = some (.int .i64 a1_7) := (blk_cell BK166.out 7).trans rfl
          have hcz63_8 : wc.cell? ⟨gb166, 8, none⟩ = some (.int .i64 a1_8) := (blk_cell BK166.out 8).trans rfl
          have hcz63_9 : wc.cell? ⟨gb166, 9, none⟩ = some (.bool a1_9) := (blk_cell BK166.out 9).trans rfl
          have hcz63_10 : wc.cell? ⟨gb166, 10, none⟩ = some (.int .i64 a1_10) := (blk_cell BK166.out 10).trans rfl
          have hcz63_11 : wc.cell? ⟨gb166, 11, none⟩ = some (.int .i64 a1_11) := (blk_cell BK166.out 11).trans rfl
          have hcz63_12 : wc.cell? ⟨gb166, 12, none⟩ = some (.slice A1_12 l1_12.length c1_12) := (blk_cell BK166.out 12).trans rfl
          have hcz63_13 : wc.cell? ⟨gb166, 13, none⟩ = some (.slice A1_13 l1_13.length c1_13) := (blk_cell BK166.out 13).trans rfl
          have hcz63_14 : wc.cell? ⟨gb166, 14, none⟩ = some (.slice A1_14 l1_14.length c1_14) := (blk_cell BK166.out 14).trans rfl
          have hfz63_0 := blk_frozen BK166.out 0
          have hfz63_1 := blk_frozen BK166.out 1
          have hfz63_2 := blk_frozen BK166.out 2
          have hfz63_3 := blk_frozen BK166.out 3
          have hfz63_4 := blk_frozen BK166.out 4
          have hfz63_5 := blk_frozen BK166.out 5
          have hfz63_6 := blk_frozen BK166.out 6
          have hfz63_7 := blk_frozen BK166.out 7
          have hfz63_8 := blk_frozen BK166.out 8
          have hfz63_9 := blk_frozen BK166.out 9
          have hfz63_10 := blk_frozen BK166.out 10
          have hfz63_11 := blk_frozen BK166.out 11
          have hfz63_12 := blk_frozen BK166.out 12
          have hfz63_13 := blk_frozen BK166.out 13
          have hfz63_14 := blk_frozen BK166.out 14
          go_wp2_with (first | ((with_reducible refine gate_callee (f := 44) rfl ?_); refine goesL_ (some 84) rfl rfl Try.func44 (by kernel_rfl) rfl #[.slice A0_12 l0_12.length c0_12, .slice A1_12 l1_12.length c1_12] rfl (by (try simp only [List.map_toArray, List.map_cons, List.map_nil]); first | done | rfl | (simp only [List.length_drop, List.length_take]; rfl)) ?_; (with_reducible refine (slices_Equal_int_int.calls kj2 _ _ l0_12 _ _ l1_12 false _ ?side1 ?side2 ?side3 ?side4 A50.out).mono ?_); (case side1 => repeat (first | exact (Kd.C_below HR0_12.out HB.out) | (with_reducible refine Kd.C_alloc ?_ _) | (with_reducible refine Kd.C_drewN ?_ _) | (with_reducible refine Kd.C_drew ?_))); (case side2 => exact HC0_12.out); (case side3 => repeat (first | exact (Kd.C_below HR1_12.out HB.out) | (with_reducible refine Kd.C_alloc ?_ _) | (with_reducible refine Kd.C_drewN ?_ _) | (with_reducible refine Kd.C_drew ?_))); (case side4 => exact HC1_12.out); rintro e w' ⟨rfl, ⟨nd, rfl⟩⟩; refine ⟨_, rfl, ?_⟩))
          go_ret
          exact ⟨by first | rfl | (simp [errW_none, errW_some] <;> rfl) | (simp [*, errW_none, errW_some] <;> rfl), by repeat (first | (with_reducible first | exact HB.out | apply below_alloc | apply pw_below_drewN | apply below_drew1 | refine below_set ?_ GE165.out | refine below_set ?_ GE166.out) | exact HB.out)⟩

end Go.Proofs.Ytleljfmhefobeaa.GK
