-- laid by a program of this session (print_proof, changed for laws over structs)
import Derived.Test.YtleljfmhefobeaaGJx0
import Derived.Test.YtleljfmhefobeaaGJx5
namespace Go.Proofs.Ytleljfmhefobeaa.GJ
open Go.RowKit Go.Proofs.YtleljfmhefobeaaW.PrintWords Go.Proofs.YtleljfmhefobeaaW.PrintLast Go.Proofs.YtleljfmhefobeaaW.PrintMore
attribute [local go_sem] max2_int min2_int max_two min_two max_three min_three max_four min_four   -- for this text's walks alone
set_option linter.unusedVariables false
set_option linter.unusedSimpArgs false

/-! ### vokref10_Rec_May: function 35 -/
mutual
def vokref10_Rec_May.j0 : Nat → Bool → Int → Int → Int → Int → Int → Bool → List Int → List Int → List Int → Option (Bool)
  | 0, _, _, _, _, _, _, _, _, _, _ => none
  | k + 1, x3, x183000, x183001, x183002, x183003, x183004, x183005, x183006, x183007, x183008 => if x183000 = 1 then (vokref10_Rec_May.j1 k x3 0 1048576 x183000 x183001 x183002 x183003 x183004 x183005 x183006 x183007 x183008) else (vokref10_Rec_May.j1 k x3 1 1099511627776 x183000 x183001 x183002 x183003 x183004 x183005 x183006 x183007 x183008)
def vokref10_Rec_May.j1 : Nat → Bool → Int → Int → Int → Int → Int → Int → Int → Bool → List Int → List Int → List Int → Option (Bool)
  | 0, _, _, _, _, _, _, _, _, _, _, _, _ => none
  | k + 1, x3, x4, x5, x183000, x183001, x183002, x183003, x183004, x183005, x183006, x183007, x183008 => if x183000 < 1 then (vokref10_Rec_May.j2 k x3 true x183000 x183001 x183002 x183003 x183004 x183005 x183006 x183007 x183008) else (if x183000 > 6 then (vokref10_Rec_May.j2 k x3 true x183000 x183001 x183002 x183003 x183004 x183005 x183006 x183007 x183008) else (if x183001 < x4 then (vokref10_Rec_May.j2 k x3 true x183000 x183001 x183002 x183003 x183004 x183005 x183006 x183007 x183008) else (vokref10_Rec_May.j2 k x3 (decide (x183001 > x5)) x183000 x183001 x183002 x183003 x183004 x183005 x183006 x183007 x183008)))
def vokref10_Rec_May.j2 : Nat → Bool → Bool → Int → Int → Int → Int → Int → Bool → List Int → List Int → List Int → Option (Bool)
  | 0, _, _, _, _, _, _, _, _, _, _, _ => none
  | k + 1, x3, x17, x183000, x183001, x183002, x183003, x183004, x183005, x183006, x183007, x183008 => if x17 = true then (some false) else (if x183002 < 0 then (vokref10_Rec_May.j3 k x3 true x183000 x183001 x183002 x183003 x183004 x183005 x183006 x183007 x183008) else (if x183002 > 1099511627776 then (vokref10_Rec_May.j3 k x3 true x183000 x183001 x183002 x183003 x183004 x183005 x183006 x183007 x183008) else (if x183002 = 0 then (vokref10_Rec_May.j3 k x3 false x183000 x183001 x183002 x183003 x183004 x183005 x183006 x183007 x183008) else (vokref10_Rec_May.j3 k x3 (x183000 != 5) x183000 x183001 x183002 x183003 x183004 x183005 x183006 x183007 x183008))))
def vokref10_Rec_May.j3 : Nat → Bool → Bool → Int → Int → Int → Int → Int → Bool → List Int → List Int → List Int → Option (Bool)
  | 0, _, _, _, _, _, _, _, _, _, _, _ => none
  | k + 1, x3, x38, x183000, x183001, x183002, x183003, x183004, x183005, x183006, x183007, x183008 => if x38 = true then (some false) else (if x3 = true then (if x183003 < 1 then (vokref10_Rec_May.j4 k x3 true x183000 x183001 x183002 x183003 x183004 x183005 x183006 x183007 x183008) else (if x183003 > 3 then (vokref10_Rec_May.j4 k x3 true x183000 x183001 x183002 x183003 x183004 x183005 x183006 x183007 x183008) else (vokref10_Rec_May.j4 k x3 false x183000 x183001 x183002 x183003 x183004 x183005 x183006 x183007 x183008))) else (vokref10_Rec_May.j4 k x3 (x183003 != 0) x183000 x183001 x183002 x183003 x183004 x183005 x183006 x183007 x183008))
def vokref10_Rec_May.j4 : Nat → Bool → Bool → Int → Int → Int → Int → Int → Bool → List Int → List Int → List Int → Option (Bool)
  | 0, _, _, _, _, _, _, _, _, _, _, _ => none
  | k + 1, x3, x57, x183000, x183001, x183002, x183003, x183004, x183005, x183006, x183007, x183008 => if x57 = true then (some false) else (if x183004 < 0 then (vokref10_Rec_May.j5 k x3 true x183000 x183001 x183002 x183003 x183004 x183005 x183006 x183007 x183008) else (if x183004 > 1099511627776 then (vokref10_Rec_May.j5 k x3 true x183000 x183001 x183002 x183003 x183004 x183005 x183006 x183007 x183008) else (if x3 = true then (vokref10_Rec_May.j5 k x3 ((x183004 != 0) != (x183003 != 1)) x183000 x183001 x183002 x183003 x183004 x183005 x183006 x183007 x183008) else (vokref10_Rec_May.j5 k x3 ((x183004 != 0) != false) x183000 x183001 x183002 x183003 x183004 x183005 x183006 x183007 x183008))))
def vokref10_Rec_May.j5 : Nat → Bool → Bool → Int → Int → Int → Int → Int → Bool → List Int → List Int → List Int → Option (Bool)
  | 0, _, _, _, _, _, _, _, _, _, _, _ => none
  | k + 1, x3, x78, x183000, x183001, x183002, x183003, x183004, x183005, x183006, x183007, x183008 => if x78 = true then (some false) else (if x183005 = true then (vokref10_Rec_May.j6 k x3 (x183000 != 4) x183000 x183001 x183002 x183003 x183004 x183005 x183006 x183007 x183008) else (vokref10_Rec_May.j6 k x3 false x183000 x183001 x183002 x183003 x183004 x183005 x183006 x183007 x183008))
def vokref10_Rec_May.j6 : Nat → Bool → Bool → Int → Int → Int → Int → Int → Bool → List Int → List Int → List Int → Option (Bool)
  | 0, _, _, _, _, _, _, _, _, _, _, _ => none
  | k + 1, x3, x99, x183000, x183001, x183002, x183003, x183004, x183005, x183006, x183007, x183008 => if x99 = true then (some false) else (if x3 = true then (vokref10_Rec_May.j7 k false x183000 x183001 x183002 x183003 x183004 x183005 x183006 x183007 x183008) else (vokref10_Rec_May.j7 k (decide ((wrap64 ((wrap64 ((x183006.length : Int) + (x183007.length : Int))) + (x183008.length : Int))) > 0)) x183000 x183001 x183002 x183003 x183004 x183005 x183006 x183007 x183008))
def vokref10_Rec_May.j7 : Nat → Bool → Int → Int → Int → Int → Int → Bool → List Int → List Int → List Int → Option (Bool)
  | 0, _, _, _, _, _, _, _, _, _, _ => none
  | k + 1, x107, x183000, x183001, x183002, x183003, x183004, x183005, x183006, x183007, x183008 => if x107 = true then (some false) else ((vokref10_List.f k x183006 63 64).bind fun t183 => (if t183 = true then ((vokref10_List.f k x183007 15 16).bind fun t184 => (if t184 = true then (some (decide ((x183008.length : Int) ≤ 4096))) else (some false))) else (some false)))
end
def vokref10_Rec_May.f (k : Nat) (a0_0 : Int) (a0_1 : Int) (a0_2 : Int) (a0_3 : Int) (a0_4 : Int) (a0_5 : Bool) (l0_6 : List Int) (l0_7 : List Int) (l0_8 : List Int) : Option (Bool) := if a0_0 = 2 then (vokref10_Rec_May.j0 k true a0_0 a0_1 a0_2 a0_3 a0_4 a0_5 l0_6 l0_7 l0_8) else (vokref10_Rec_May.j0 k (a0_0 == 5) a0_0 a0_1 a0_2 a0_3 a0_4 a0_5 l0_6 l0_7 l0_8)
theorem vokref10_Rec_May.mono_l : ∀ k, (∀ y0 y1 y2 y3 y4 y5 y6 y7 y8 y9, LeO (vokref10_Rec_May.j0 k y0 y1 y2 y3 y4 y5 y6 y7 y8 y9) (vokref10_Rec_May.j0 (k + 1) y0 y1 y2 y3 y4 y5 y6 y7 y8 y9)) ∧ (∀ y0 y1 y2 y3 y4 y5 y6 y7 y8 y9 y10 y11, LeO (vokref10_Rec_May.j1 k y0 y1 y2 y3 y4 y5 y6 y7 y8 y9 y10 y11) (vokref10_Rec_May.j1 (k + 1) y0 y1 y2 y3 y4 y5 y6 y7 y8 y9 y10 y11)) ∧ (∀ y0 y1 y2 y3 y4 y5 y6 y7 y8 y9 y10, LeO (vokref10_Rec_May.j2 k y0 y1 y2 y3 y4 y5 y6 y7 y8 y9 y10) (vokref10_Rec_May.j2 (k + 1) y0 y1 y2 y3 y4 y5 y6 y7 y8 y9 y10)) ∧ (∀ y0 y1 y2 y3 y4 y5 y6 y7 y8 y9 y10, LeO (vokref10_Rec_May.j3 k y0 y1 y2 y3 y4 y5 y6 y7 y8 y9 y10) (vokref10_Rec_May.j3 (k + 1) y0 y1 y2 y3 y4 y5 y6 y7 y8 y9 y10)) ∧ (∀ y0 y1 y2 y3 y4 y5 y6 y7 y8 y9 y10, LeO (vokref10_Rec_May.j4 k y0 y1 y2 y3 y4 y5 y6 y7 y8 y9 y10) (vokref10_Rec_May.j4 (k + 1) y0 y1 y2 y3 y4 y5 y6 y7 y8 y9 y10)) ∧ (∀ y0 y1 y2 y3 y4 y5 y6 y7 y8 y9 y10, LeO (vokref10_Rec_May.j5 k y0 y1 y2 y3 y4 y5 y6 y7 y8 y9 y10) (vokref10_Rec_May.j5 (k + 1) y0 y1 y2 y3 y4 y5 y6 y7 y8 y9 y10)) ∧ (∀ y0 y1 y2 y3 y4 y5 y6 y7 y8 y9 y10, LeO (vokref10_Rec_May.j6 k y0 y1 y2 y3 y4 y5 y6 y7 y8 y9 y10) (vokref10_Rec_May.j6 (k + 1) y0 y1 y2 y3 y4 y5 y6 y7 y8 y9 y10)) ∧ (∀ y0 y1 y2 y3 y4 y5 y6 y7 y8 y9, LeO (vokref10_Rec_May.j7 k y0 y1 y2 y3 y4 y5 y6 y7 y8 y9) (vokref10_Rec_May.j7 (k + 1) y0 y1 y2 y3 y4 y5 y6 y7 y8 y9))
  | 0 => ⟨fun _ _ _ _ _ _ _ _ _ _ r h => by simp [vokref10_Rec_May.j0] at h, fun _ _ _ _ _ _ _ _ _ _ _ _ r h => by simp [vokref10_Rec_May.j1] at h, fun _ _ _ _ _ _ _ _ _ _ _ r h => by simp [vokref10_Rec_May.j2] at h, fun _ _ _ _ _ _ _ _ _ _ _ r h => by simp [vokref10_Rec_May.j3] at h, fun _ _ _ _ _ _ _ _ _ _ _ r h => by simp [vokref10_Rec_May.j4] at h, fun _ _ _ _ _ _ _ _ _ _ _ r h => by simp [vokref10_Rec_May.j5] at h, fun _ _ _ _ _ _ _ _ _ _ _ r h => by simp [vokref10_Rec_May.j6] at h, fun _ _ _ _ _ _ _ _ _ _ r h => by simp [vokref10_Rec_May.j7] at h⟩
  | k + 1 => by
    obtain ⟨ih0, ih1, ih2, ih3, ih4, ih5, ih6, ih7⟩ := vokref10_Rec_May.mono_l k
    refine ⟨?_, ?_, ?_, ?_, ?_, ?_, ?_, ?_⟩
    · intro y0 y1 y2 y3 y4 y5 y6 y7 y8 y9
      unfold vokref10_Rec_May.j0
      repeat' first
      | (with_reducible exact ih0 _ _ _ _ _ _ _ _ _ _)
      | (with_reducible exact ih1 _ _ _ _ _ _ _ _ _ _ _ _)
      | (with_reducible exact ih2 _ _ _ _ _ _ _ _ _ _ _)
      | (with_reducible exact ih3 _ _ _ _ _ _ _ _ _ _ _)
      | (with_reducible exact ih4 _ _ _ _ _ _ _ _ _ _ _)
      | (with_reducible exact ih5 _ _ _ _ _ _ _ _ _ _ _)
      | (with_reducible exact ih6 _ _ _ _ _ _ _ _ _ _ _)
      | (with_reducible exact ih7 _ _ _ _ _ _ _ _ _ _)
      | (with_reducible exact vokref10_List.mono _ _ _ _)
      | (with_reducible exact LeO.refl _)
      | (with_reducible exact LeO.none _)
      | (with_reducible refine LeO.ite ?_ ?_)
      | (with_reducible refine LeO.bind ?_ (fun _ => ?_))
      | exact ih0 _ _ _ _ _ _ _ _ _ _
      | exact ih1 _ _ _ _ _ _ _ _ _ _ _ _
      | exact ih2 _ _ _ _ _ _ _ _ _ _ _
      | exact ih3 _ _ _ _ _ _ _ _ _ _ _
      | exact ih4 _ _ _ _ _ _ _ _ _ _ _
      | exact ih5 _ _ _ _ _ _ _ _ _ _ _
      | exact ih6 _ _ _ _ _ _ _ _ _ _ _
      | exact ih7 _ _ _ _ _ _ _ _ _ _
      | exact vokref10_List.mono _ _ _ _
      | exact LeO.none _
      | refine LeO.ite ?_ ?_
      | refine LeO.bind ?_ (fun _ => ?_)
    · intro y0 y1 y2 y3 y4 y5 y6 y7 y8 y9 y10 y11
      unfold vokref10_Rec_May.j1
      repeat' first
      | (with_reducible exact ih0 _ _ _ _ _ _ _ _ _ _)
      | (with_reducible exact ih1 _ _ _ _ _ _ _ _ _ _ _ _)
      | (with_reducible exact ih2 _ _ _ _ _ _ _ _ _ _ _)
      | (with_reducible exact ih3 _ _ _ _ _ _ _ _ _ _ _)
      | (with_reducible exact ih4 _ _ _ _ _ _ _ _ _ _ _)
      | (with_reducible exact ih5 _ _ _ _ _ _ _ _ _ _ _)
      | (with_reducible exact ih6 _ _ _ _ _ _ _ _ _ _ _)
      | (with_reducible exact ih7 _ _ _ _ _ _ _ _ _ _)
      | (with_reducible exact vokref10_List.mono _ _ _ _)
      | (with_reducible exact LeO.refl _)
      | (with_reducible exact LeO.none _)
      | (with_reducible refine LeO.ite ?_ ?_)
      | (with_reducible refine LeO.bind ?_ (fun _ => ?_))
      | exact ih0 _ _ _ _ _ _ _ _ _ _
      | exact ih1 _ _ _ _ _ _ _ _ _ _ _ _
      | exact ih2 _ _ _ _ _ _ _ _ _ _ _
      | exact ih3 _ _ _ _ _ _ _ _ _ _ _
      | exact ih4 _ _ _ _ _ _ _ _ _ _ _
      | exact ih5 _ _ _ _ _ _ _ _ _ _ _
      | exact ih6 _ _ _ _ _ _ _ _ _ _ _
      | exact ih7 _ _ _ _ _ _ _ _ _ _
      | exact vokref10_List.mono _ _ _ _
      | exact LeO.none _
      | refine LeO.ite ?_ ?_
      | refine LeO.bind ?_ (fun _ => ?_)
    · intro y0 y1 y2 y3 y4 y5 y6 y7 y8 y9 y10
      unfold vokref10_Rec_May.j2
      repeat' first
      | (with_reducible exact ih0 _ _ _ _ _ _ _ _ _ _)
      | (with_reducible exact ih1 _ _ _ _ _ _ _ _ _ _ _ _)
      | (with_reducible exact ih2 _ _ _ _ _ _ _ _ _ _ _)
      | (with_reducible exact ih3 _ _ _ _ _ _ _ _ _ _ _)
      | (with_reducible exact ih4 _ _ _ _ _ _ _ _ _ _ _)
      | (with_reducible exact ih5 _ _ _ _ _ _ _ _ _ _ _)
      | (with_reducible exact ih6 _ _ _ _ _ _ _ _ _ _ _)
      | (with_reducible exact ih7 _ _ _ _ _ _ _ _ _ _)
      | (with_reducible exact vokref10_List.mono _ _ _ _)
      | (with_reducible exact LeO.refl _)
      | (with_reducible exact LeO.none _)
      | (with_reducible refine LeO.ite ?_ ?_)
      | (with_reducible refine LeO.bind ?_ (fun _ => ?_))
      | exact ih0 _ _ _ _ _ _ _ _ _ _
      | exact ih1 _ _ _ _ _ _ _ _ _ _ _ _
      | exact ih2 _ _ _ _ _ _ _ _ _ _ _
      | exact ih3 _ _ _ _ _ _ _ _ _ _ _
      | exact ih4 _ _ _ _ _ _ _ _ _ _ _
      | exact ih5 _ _ _ _ _ _ _ _ _ _ _
      | exact ih6 _ _ _ _ _ _ _ _ _ _ _
      | exact ih7 _ _ _ _ _ _ _ _ _ _
      | exact vokref10_List.mono _ _ _ _
      | exact LeO.none _
      | refine LeO.ite ?_ ?_
      | refine LeO.bind ?_ (fun _ => ?_)
    · intro y0 y1 y2 y3 y4 y5 y6 y7 y8 y9 y10
      unfold vokref10_Rec_May.j3
      repeat' first
      | (with_reducible exact ih0 _ _ _ _ _ _ _ _ _ _)
      | (with_reducible exact ih1 _ _ _ _ _ _ _ _ _ _ _ _)
      | (with_reducible exact ih2 _ _ _ _ _ _ _ _ _ _ _)
      | (with_reducible exact ih3 _ _ _ _ _ _ _ _ _ _ _)
      | (with_reducible exact ih4 _ _ _ _ _ _ _ _ _ _ _)
      | (with_reducible exact ih5 _ _ _ _ _ _ _ _ _ _ _)
      | (with_reducible exact ih6 _ _ _ _ _ _ _ _ _ _ _)
      | (with_reducible exact ih7 _ _ _ _ _ _ _ _ _ _)
      | (with_reducible exact vokref10_List.mono _ _ _ _)
      | (with_reducible exact LeO.refl _)
      | (with_reducible exact LeO.none _)
      | (with_reducible refine LeO.ite ?_ ?_)
      | (with_reducible refine LeO.bind ?_ (fun _ => ?_))
      | exact ih0 _ _ _ _ _ _ _ _ _ _
      | exact ih1 _ _ _ _ _ _ _ _ _ _ _ _
      | exact ih2 _ _ _ _ _ _ _ _ _ _ _
      | exact ih3 _ _ _ _ _ _ _ _ _ _ _
      | exact ih4 _ _ _ _ _ _ _ _ _ _ _
      | exact ih5 _ _ _ _ _ _ _ _ _ _ _
      | exact ih6 _ _ _ _ _ _ _ _ _ _ _
      | exact ih7 _ _ _ _ _ _ _ _ _ _
      | exact vokref10_List.mono _ _ _ _
      | exact LeO.none _
      | refine LeO.ite ?_ ?_
      | refine LeO.bind ?_ (fun _ => ?_)
    · intro y0 y1 y2 y3 y4 y5 y6 y7 y8 y9 y10
      unfold vokref10_Rec_May.j4
      repeat' first
      | (with_reducible exact ih0 _ _ _ _ _ _ _ _ _ _)
      | (with_reducible exact ih1 _ _ _ _ _ _ _ _ _ _ _ _)
      | (with_reducible exact ih2 _ _ _ _ _ _ _ _ _ _ _)
      | (with_reducible exact ih3 _ _ _ _ _ _ _ _ _ _ _)
      | (with_reducible exact ih4 _ _ _ _ _ _ _ _ _ _ _)
      | (with_reducible exact ih5 _ _ _ _ _ _ _ _ _ _ _)
      | (with_reducible exact ih6 _ _ _ _ _ _ _ _ _ _ _)
      | (with_reducible exact ih7 _ _ _ _ _ _ _ _ _ _)
      | (with_reducible exact vokref10_List.mono _ _ _ _)
      | (with_reducible exact LeO.refl _)
      | (with_reducible exact LeO.none _)
      | (with_reducible refine LeO.ite ?_ ?_)
      | (with_reducible refine LeO.bind ?_ (fun _ => ?_))
      | exact ih0 _ _ _ _ _ _ _ _ _ _
      | exact ih1 _ _ _ _ _ _ _ _ _ _ _ _
      | exact ih2 _ _ _ _ _ _ _ _ _ _ _
      | exact ih3 _ _ _ _ _ _ _ _ _ _ _
      | exact ih4 _ _ _ _ _ _ _ _ _ _ _
      | exact ih5 _ _ _ _ _ _ _ _ _ _ _
      | exact ih6 _ _ _ _ _ _ _ _ _ _ _
      | exact ih7 _ _ _ _ _ _ _ _ _ _
      | exact vokref10_List.mono _ _ _ _
      | exact LeO.none _
      | refine LeO.ite ?_ ?_
      | refine LeO.bind ?_ (fun _ => ?_)
    · intro y0 y1 y2 y3 y4 y5 y6 y7 y8 y9 y10
      unfold vokref10_Rec_May.j5
      repeat' first
      | (with_reducible exact ih0 _ _ _ _ _ _ _ _ _ _)
      | (with_reducible exact ih1 _ _ _ _ _ _ _ _ _ _ _ _)
      | (with_reducible exact ih2 _ _ _ _ _ _ _ _ _ _ _)
      | (with_reducible exact ih3 _ _ _ _ _ _ _ _ _ _ _)
      | (with_reducible exact ih4 _ _ _ _ _ _ _ _ _ _ _)
      | (with_reducible exact ih5 _ _ _ _ _ _ _ _ _ _ _)
      | (with_reducible exact ih6 _ _ _ _ _ _ _ _ _ _ _)
      | (with_reducible exact ih7 _ _ _ _ _ _ _ _ _ _)
      | (with_reducible exact vokref10_List.mono _ _ _ _)
      | (with_reducible exact LeO.refl _)
      | (with_reducible exact LeO.none _)
      | (with_reducible refine LeO.ite ?_ ?_)
      | (with_reducible refine LeO.bind ?_ (fun _ => ?_))
      | exact ih0 _ _ _ _ _ _ _ _ _ _
      | exact ih1 _ _ _ _ _ _ _ _ _ _ _ _
      | exact ih2 _ _ _ _ _ _ _ _ _ _ _
      | exact ih3 _ _ _ _ _ _ _ _ _ _ _
      | exact ih4 _ _ _ _ _ _ _ _ _ _ _
      | exact ih5 _ _ _ _ _ _ _ _ _ _ _
      | exact ih6 _ _ _ _ _ _ _ _ _ _ _
      | exact ih7 _ _ _ _ _ _ _ _ _ _
      | exact vokref10_List.mono _ _ _ _
      | exact LeO.none _
      | refine LeO.ite ?_ ?_
      | refine LeO.bind ?_ (fun _ => ?_)
    · intro y0 y1 y2 y3 y4 y5 y6 y7 y8 y9 y10
      unfold vokref10_Rec_May.j6
      repeat' first
      | (with_reducible exact ih0 _ _ _ _ _ _ _ _ _ _)
      | (with_reducible exact ih1 _ _ _ _ _ _ _ _ _ _ _ _)
      | (with_reducible exact ih2 _ _ _ _ _ _ _ _ _ _ _)
      | (with_reducible exact ih3 _ _ _ _ _ _ _ _ _ _ _)
      | (with_reducible exact ih4 _ _ _ _ _ _ _ _ _ _ _)
      | (with_reducible exact ih5 _ _ _ _ _ _ _ _ _ _ _)
      | (with_reducible exact ih6 _ _ _ _ _ _ _ _ _ _ _)
      | (with_reducible exact ih7 _ _ _ _ _ _ _ _ _ _)
      | (with_reducible exact vokref10_List.mono _ _ _ _)
      | (with_reducible exact LeO.refl _)
      | (with_reducible exact LeO.none _)
      | (with_reducible refine LeO.ite ?_ ?_)
      | (with_reducible refine LeO.bind ?_ (fun _ => ?_))
      | exact ih0 _ _ _ _ _ _ _ _ _ _
      | exact ih1 _ _ _ _ _ _ _ _ _ _ _ _
      | exact ih2 _ _ _ _ _ _ _ _ _ _ _
      | exact ih3 _ _ _ _ _ _ _ _ _ _ _
      | exact ih4 _ _ _ _ _ _ _ _ _ _ _
      | exact ih5 _ _ _ _ _ _ _ _ _ _ _
      | exact ih6 _ _ _ _ _ _ _ _ _ _ _
      | exact ih7 _ _ _ _ _ _ _ _ _ _
      | exact vokref10_List.mono _ _ _ _
      | exact LeO.none _
      | refine LeO.ite ?_ ?_
      | refine LeO.bind ?_ (fun _ => ?_)
    · intro y0 y1 y2 y3 y4 y5 y6 y7 y8 y9
      unfold vokref10_Rec_May.j7
      repeat' first
      | (with_reducible exact ih0 _ _ _ _ _ _ _ _ _ _)
      | (with_reducible exact ih1 _ _ _ _ _ _ _ _ _ _ _ _)
      | (with_reducible exact ih2 _ _ _ _ _ _ _ _ _ _ _)
      | (with_reducible exact ih3 _ _ _ _ _ _ _ _ _ _ _)
      | (with_reducible exact ih4 _ _ _ _ _ _ _ _ _ _ _)
      | (with_reducible exact ih5 _ _ _ _ _ _ _ _ _ _ _)
      | (with_reducible exact ih6 _ _ _ _ _ _ _ _ _ _ _)
      | (with_reducible exact ih7 _ _ _ _ _ _ _ _ _ _)
      | (with_reducible exact vokref10_List.mono _ _ _ _)
      | (with_reducible exact LeO.refl _)
      | (with_reducible exact LeO.none _)
      | (with_reducible refine LeO.ite ?_ ?_)
      | (with_reducible refine LeO.bind ?_ (fun _ => ?_))
      | exact ih0 _ _ _ _ _ _ _ _ _ _
      | exact ih1 _ _ _ _ _ _ _ _ _ _ _ _
      | exact ih2 _ _ _ _ _ _ _ _ _ _ _
      | exact ih3 _ _ _ _ _ _ _ _ _ _ _
      | exact ih4 _ _ _ _ _ _ _ _ _ _ _
      | exact ih5 _ _ _ _ _ _ _ _ _ _ _
      | exact ih6 _ _ _ _ _ _ _ _ _ _ _
      | exact ih7 _ _ _ _ _ _ _ _ _ _
      | exact vokref10_List.mono _ _ _ _
      | exact LeO.none _
      | refine LeO.ite ?_ ?_
      | refine LeO.bind ?_ (fun _ => ?_)
theorem vokref10_Rec_May.mono : ∀ a0 a1 a2 a3 a4 a5 a6 a7 a8 k, LeO (vokref10_Rec_May.f k a0 a1 a2 a3 a4 a5 a6 a7 a8) (vokref10_Rec_May.f (k + 1) a0 a1 a2 a3 a4 a5 a6 a7 a8) := by
  intro a0 a1 a2 a3 a4 a5 a6 a7 a8 k
  obtain ⟨ih0, ih1, ih2, ih3, ih4, ih5, ih6, ih7⟩ := vokref10_Rec_May.mono_l k
  unfold vokref10_Rec_May.f
  repeat' first
      | (with_reducible exact ih0 _ _ _ _ _ _ _ _ _ _)
      | (with_reducible exact ih1 _ _ _ _ _ _ _ _ _ _ _ _)
      | (with_reducible exact ih2 _ _ _ _ _ _ _ _ _ _ _)
      | (with_reducible exact ih3 _ _ _ _ _ _ _ _ _ _ _)
      | (with_reducible exact ih4 _ _ _ _ _ _ _ _ _ _ _)
      | (with_reducible exact ih5 _ _ _ _ _ _ _ _ _ _ _)
      | (with_reducible exact ih6 _ _ _ _ _ _ _ _ _ _ _)
      | (with_reducible exact ih7 _ _ _ _ _ _ _ _ _ _)
      | (with_reducible exact vokref10_List.mono _ _ _ _)
      | (with_reducible exact LeO.refl _)
      | (with_reducible exact LeO.none _)
      | (with_reducible refine LeO.ite ?_ ?_)
      | (with_reducible refine LeO.bind ?_ (fun _ => ?_))
      | exact ih0 _ _ _ _ _ _ _ _ _ _
      | exact ih1 _ _ _ _ _ _ _ _ _ _ _ _
      | exact ih2 _ _ _ _ _ _ _ _ _ _ _
      | exact ih3 _ _ _ _ _ _ _ _ _ _ _
      | exact ih4 _ _ _ _ _ _ _ _ _ _ _
      | exact ih5 _ _ _ _ _ _ _ _ _ _ _
      | exact ih6 _ _ _ _ _ _ _ _ _ _ _
      | exact ih7 _ _ _ _ _ _ _ _ _ _
      | exact vokref10_List.mono _ _ _ _
      | exact LeO.none _
      | refine LeO.ite ?_ ?_
      | refine LeO.bind ?_ (fun _ => ?_)
set_option maxHeartbeats 8000000 in
set_option maxRecDepth 100000 in
theorem vokref10_Rec_May.calls (k : Nat) (a0_0 : Int) (a0_1 : Int) (a0_2 : Int) (a0_3 : Int) (a0_4 : Int) (a0_5 : Bool) (A0_6 : Option Addr) (c0_6 : Nat) (l0_6 : List Int) (A0_7 : Option Addr) (c0_7 : Nat) (l0_7 : List Int) (A0_8 : Option Addr) (c0_8 : Nat) (l0_8 : List Int) (r : Bool) (w : World) (hr0_6 : Kd.C (Kd.int .i64) w A0_6 l0_6.length l0_6) (hc0_6 : l0_6.length ≤ c0_6) (hr0_7 : Kd.C (Kd.int .i64) w A0_7 l0_7.length l0_7) (hc0_7 : l0_7.length ≤ c0_7) (hr0_8 : Kd.C (Kd.int .u8) w A0_8 l0_8.length l0_8) (hc0_8 : l0_8.length ≤ c0_8) (h : vokref10_Rec_May.f k a0_0 a0_1 a0_2 a0_3 a0_4 a0_5 l0_6 l0_7 l0_8 = some r) :
    Calls Try.prog 35 #[.agg #[.int .i64 a0_0, .int .i64 a0_1, .int .i64 a0_2, .int .i64 a0_3, .int .i64 a0_4, .bool a0_5, .slice A0_6 l0_6.length c0_6, .slice A0_7 l0_7.length c0_7, .slice A0_8 l0_8.length c0_8]] w fun e w' => e = .returned (.bool r) ∧ Below w.heap.size w w' := by
  have hu53 := Try.underlying53
  have HR0_6 := Aside0.mk hr0_6
  have HC0_6 := Aside0.mk hc0_6
  clear hr0_6 hc0_6
  have HR0_7 := Aside0.mk hr0_7
  have HC0_7 := Aside0.mk hc0_7
  clear hr0_7 hc0_7
  have HR0_8 := Aside0.mk hr0_8
  have HC0_8 := Aside0.mk hc0_8
  clear hr0_8 hc0_8
  have HB := Aside0.mk (Below.refl w.heap.size w)
  have H : (if a0_0 = 2 then (vokref10_Rec_May.j0 k true a0_0 a0_1 a0_2 a0_3 a0_4 a0_5 l0_6 l0_7 l0_8) else (vokref10_Rec_May.j0 k (a0_0 == 5) a0_0 a0_1 a0_2 a0_3 a0_4 a0_5 l0_6 l0_7 l0_8)) = some r := h
  clear h
  have HC2 := Aside0.mk H
  clear H
  go_enter Try.func35, Try.ntmps35
  go_upto_region 1 with (first | ((with_reducible refine gate_dst (N := 1) rfl ?_); (try (refine gate_guard (by rfl) ?_; dsimp only)); refine box_event ?hg (N := 1) ?hd (cs := #[.int .i64 a0_0, .int .i64 a0_1, .int .i64 a0_2, .int .i64 a0_3, .int .i64 a0_4, .bool a0_5, .slice A0_6 l0_6.length c0_6, .slice A0_7 l0_7.length c0_7, .slice A0_8 l0_8.length c0_8]) (t := 53) ?hr ?_; (case hd => rfl); (case hg => rfl); (case hr => first | (go_simp; done) | (go_simp; rfl)); intro gb182 hg w3 hbox hb; have n0_ := Aside0.mk (below_step (by repeat (first | (with_reducible first | exact HB.out | apply below_alloc | apply pw_below_drewN | apply below_drew1) | exact HB.out)) hb); have n1_ := Aside0.mk (hbox); have n2_ := Aside0.mk ((by rw [hg]; exact (below_size (by repeat (first | (with_reducible first | exact HB.out | apply below_alloc | apply pw_below_drewN | apply below_drew1) | exact HB.out))) : w.heap.size ≤ gb182)); have n3_ := Aside0.mk ((by rw [hg]; exact (below_size (by repeat (first | (with_reducible first | exact HB.out | apply below_alloc | apply pw_below_drewN | apply below_drew1) | exact HB.out))) : w.heap.size ≤ gb182)); clear HB; have HB := n0_; have BK182 := n1_; have GW182 := n2_; have GE182 := n3_; clear n0_ n1_ n2_ n3_; clear hb hbox hg))
  (try simp only [Act.put, List.setIfInBounds_toArray, List.set_cons_zero, List.set_cons_succ])
  go_cut [3] (fun v3 wc => ∃ (kq : Nat) (x3_1 : Bool), v3 = .bool x3_1 ∧ Aside0 (vokref10_Rec_May.j0 kq x3_1 a0_0 a0_1 a0_2 a0_3 a0_4 a0_5 l0_6 l0_7 l0_8 = some r) ∧ Aside0 (kq ≤ k) ∧ Aside0 (wc.heap[gb182]? = some (.cells #[.int .i64 a0_0, .int .i64 a0_1, .int .i64 a0_2, .int .i64 a0_3, .int .i64 a0_4, .bool a0_5, (.slice A0_6 l0_6.length c0_6), (.slice A0_7 l0_7.length c0_7), (.slice A0_8 l0_8.length c0_8)] 53 (0, 0))) ∧ Aside0 (Below w.heap.size w wc))
  case first =>
    have H := HC2.out
    clear HC2
    by_cases c4 : a0_0 = 2
    · rw [if_pos c4] at H
      have c4b0 : (a0_0 == 2) = true := beq_iff_eq.mpr c4
      have c4b1 : (a0_0 != 2) = false := bne_eq_false_iff_eq.mpr c4
      clear c4
      (first | rw [c4b0] | (simp only [i64_w, i32_w]; rw [c4b0]) | skip)
      have H' := Aside0.mk H
      clear H
      have hcz5_0 : w3.cell? ⟨gb182, 0, none⟩ = some (.int .i64 a0_0) := (blk_cell BK182.out 0).trans rfl
      have hcz5_1 : w3.cell? ⟨gb182, 1, none⟩ = some (.int .i64 a0_1) := (blk_cell BK182.out 1).trans rfl
      have hcz5_2 : w3.cell? ⟨gb182, 2, none⟩ = some (.int .i64 a0_2) := (blk_cell BK182.out 2).trans rfl
      have hcz5_3 : w3.cell? ⟨gb182, 3, none⟩ = some (.int .i64 a0_3) := (blk_cell BK182.out 3).trans rfl
      have hcz5_4 : w3.cell? ⟨gb182, 4, none⟩ = some (.int .i64 a0_4) := (blk_cell BK182.out 4).trans rfl
      have hcz5_5 : w3.cell? ⟨gb182, 5, none⟩ = some (.bool a0_5) := (blk_cell BK182.out 5).trans rfl
      have hcz5_6 : w3.cell? ⟨gb182, 6, none⟩ = some (.slice A0_6 l0_6.length c0_6) := (blk_cell BK182.out 6).trans rfl
      have hcz5_7 : w3.cell? ⟨gb182, 7, none⟩ = some (.slice A0_7 l0_7.length c0_7) := (blk_cell BK182.out 7).trans rfl
      have hcz5_8 : w3.cell? ⟨gb182, 8, none⟩ = some (.slice A0_8 l0_8.length c0_8) := (blk_cell BK182.out 8).trans rfl
      have hfz5_0 := blk_frozen BK182.out 0
      have hfz5_1 := blk_frozen BK182.out 1
      have hfz5_2 := blk_frozen BK182.out 2
      have hfz5_3 := blk_frozen BK182.out 3
      have hfz5_4 := blk_frozen BK182.out 4
      have hfz5_5 := blk_frozen BK182.out 5
      have hfz5_6 := blk_frozen BK182.out 6
      have hfz5_7 := blk_frozen BK182.out 7
      have hfz5_8 := blk_frozen BK182.out 8
      go_wp2
      go_meet
      case rel => exact ⟨_, (true), (by first | rfl | (simp; done) | (simp [*]; done)), H', ⟨by first | omega | exact Nat.le_refl _⟩, ⟨by (with_reducible repeat (first | refine blk_drewN ?_ _ | refine blk_drew ?_ | refine blk_alloc ?_ _)); exact BK182.out⟩, ⟨by repeat (first | (with_reducible first | exact HB.out | apply below_alloc | apply pw_below_drewN | apply below_drew1 | refine below_set ?_ GE182.out) | exact HB.out)⟩⟩
    · rw [if_neg c4] at H
      have c4b0 : (a0_0 == 2) = false := beq_eq_false_iff_ne.mpr c4
      have c4b1 : (a0_0 != 2) = true := bne_iff_ne.mpr c4
      (first | rw [c4b0] | (simp only [i64_w, i32_w]; rw [c4b0]) | skip)
      have H' := Aside0.mk H
      clear H
      have hcz6_0 : w3.cell? ⟨gb182, 0, none⟩ = some (.int .i64 a0_0) := (blk_cell BK182.out 0).trans rfl
      have hcz6_1 : w3.cell? ⟨gb182, 1, none⟩ = some (.int .i64 a0_1) := (blk_cell BK182.out 1).trans rfl
      have hcz6_2 : w3.cell? ⟨gb182, 2, none⟩ = some (.int .i64 a0_2) := (blk_cell BK182.out 2).trans rfl
      have hcz6_3 : w3.cell? ⟨gb182, 3, none⟩ = some (.int .i64 a0_3) := (blk_cell BK182.out 3).trans rfl
      have hcz6_4 : w3.cell? ⟨gb182, 4, none⟩ = some (.int .i64 a0_4) := (blk_cell BK182.out 4).trans rfl
      have hcz6_5 : w3.cell? ⟨gb182, 5, none⟩ = some (.bool a0_5) := (blk_cell BK182.out 5).trans rfl
      have hcz6_6 : w3.cell? ⟨gb182, 6, none⟩ = some (.slice A0_6 l0_6.length c0_6) := (blk_cell BK182.out 6).trans rfl
      have hcz6_7 : w3.cell? ⟨gb182, 7, none⟩ = some (.slice A0_7 l0_7.length c0_7) := (blk_cell BK182.out 7).trans rfl
      have hcz6_8 : w3.cell? ⟨gb182, 8, none⟩ = some (.slice A0_8 l0_8.length c0_8) := (blk_cell BK182.out 8).trans rfl
      have hfz6_0 := blk_frozen BK182.out 0
      have hfz6_1 := blk_frozen BK182.out 1
      have hfz6_2 := blk_frozen BK182.out 2
      have hfz6_3 := blk_frozen BK182.out 3
      have hfz6_4 := blk_frozen BK182.out 4
      have hfz6_5 := blk_frozen BK182.out 5
      have hfz6_6 := blk_frozen BK182.out 6
      have hfz6_7 := blk_frozen BK182.out 7
      have hfz6_8 := blk_frozen BK182.out 8
      go_wp2
      go_meet
      case rel => exact ⟨_, ((a0_0 == 5)), (by first | rfl | (simp; done) | (simp [*]; done)), H', ⟨by first | omega | exact Nat.le_refl _⟩, ⟨by (with_reducible repeat (first | refine blk_drewN ?_ _ | refine blk_drew ?_ | refine blk_alloc ?_ _)); exact BK182.out⟩, ⟨by repeat (first | (with_reducible first | exact HB.out | apply below_alloc | apply pw_below_drewN | apply below_drew1 | refine below_set ?_ GE182.out) | exact HB.out)⟩⟩
  case rest =>
    clear HC2
    try clear p2
    try clear c3
    try clear c4
    try clear c4b0
    try clear c4b1
    try clear hcz5_0
    try clear hcz5_1
    try clear hcz5_2
    try clear hcz5_3
    try clear hcz5_4
    try clear hcz5_5
    try clear hcz5_6
    try clear hcz5_7
    try clear hcz5_8
    try clear hcz6_0
    try clear hcz6_1
    try clear hcz6_2
    try clear hcz6_3
    try clear hcz6_4
    try clear hcz6_5
    try clear hcz6_6
    try clear hcz6_7
    try clear hcz6_8
    try clear hfz5_0
    try clear hfz5_1
    try clear hfz5_2
    try clear hfz5_3
    try clear hfz5_4
    try clear hfz5_5
    try clear hfz5_6
    try clear hfz5_7
    try clear hfz5_8
    try clear hfz6_0
    try clear hfz6_1
    try clear hfz6_2
    try clear hfz6_3
    try clear hfz6_4
    try clear hfz6_5
    try clear hfz6_6
    try clear hfz6_7
    try clear hfz6_8
    obtain ⟨kq, x3_1, rfl, HA, HJ1, BK182, HB⟩ := hcut
    cases kq with
    | zero => exact absurd HA.out (by simp [vokref10_Rec_May.j0])
    | succ kj1 =>
      have H := HA.out
      clear HA
      simp only [vokref10_Rec_May.j0] at H
      have HC7 := Aside0.mk H
      clear H
      have hcz8_0 : wc.cell? ⟨gb182, 0, none⟩ = some (.int .i64 a0_0) := (blk_cell BK182.out 0).trans rfl
      have hcz8_1 : wc.cell? ⟨gb182, 1, none⟩ = some (.int .i64 a0_1) := (blk_cell BK182.out 1).trans rfl
      have hcz8_2 : wc.cell? ⟨gb182, 2, none⟩ = some (.int .i64 a0_2) := (blk_cell BK182.out 2).trans rfl
      have hcz8_3 : wc.cell? ⟨gb182, 3, none⟩ = some (.int .i64 a0_3) := (blk_cell BK182.out 3).trans rfl
      have hcz8_4 : wc.cell? ⟨gb182, 4, none⟩ = some (.int .i64 a0_4) := (blk_cell BK182.out 4).trans rfl
      have hcz8_5 : wc.cell? ⟨gb182, 5, none⟩ = some (.bool a0_5) := (blk_cell BK182.out 5).trans rfl
      have hcz8_6 : wc.cell? ⟨gb182, 6, none⟩ = some (.slice A0_6 l0_6.length c0_6) := (blk_cell BK182.out 6).trans rfl
      have hcz8_7 : wc.cell? ⟨gb182, 7, none⟩ = some (.slice A0_7 l0_7.length c0_7) := (blk_cell BK182.out 7).trans rfl
      have hcz8_8 : wc.cell? ⟨gb182, 8, none⟩ = some (.slice A0_8 l0_8.length c0_8) := (blk_cell BK182.out 8).trans rfl
      have hfz8_0 := blk_frozen BK182.out 0
      have hfz8_1 := blk_frozen BK182.out 1
      have hfz8_2 := blk_frozen BK182.out 2
      have hfz8_3 := blk_frozen BK182.out 3
      have hfz8_4 := blk_frozen BK182.out 4
      have hfz8_5 := blk_frozen BK182.out 5
      have hfz8_6 := blk_frozen BK182.out 6
      have hfz8_7 := blk_frozen BK182.out 7
      have hfz8_8 := blk_frozen BK182.out 8
      go_upto_if 16 with (fail)
      go_cut [4, 5] (fun v4 v5 wc => ∃ (kq : Nat) (x4_6 : Int) (x5_6 : Int), v4 = .int .i64 x4_6 ∧ v5 = .int .i64 x5_6 ∧ Aside0 (vokref10_Rec_May.j1 kq x3_1 x4_6 x5_6 a0_0 a0_1 a0_2 a0_3 a0_4 a0_5 l0_6 l0_7 l0_8 = some r) ∧ Aside0 (kq ≤ kj1) ∧ Aside0 (wc.heap[gb182]? = some (.cells #[.int .i64 a0_0, .int .i64 a0_1, .int .i64 a0_2, .int .i64 a0_3, .int .i64 a0_4, .bool a0_5, (.slice A0_6 l0_6.length c0_6), (.slice A0_7 l0_7.length c0_7), (.slice A0_8 l0_8.length c0_8)] 53 (0, 0))) ∧ Aside0 (Below w.heap.size w wc))
      case first =>
        have H := HC7.out
        clear HC7
        by_cases c9 : a0_0 = 1
        · rw [if_pos c9] at H
          have c9b0 : (a0_0 == 1) = true := beq_iff_eq.mpr c9
          have c9b1 : (a0_0 != 1) = false := bne_eq_false_iff_eq.mpr c9
          clear c9
          (first | rw [c9b0] | (simp only [i64_w, i32_w]; rw [c9b0]) | skip)
          have H' := Aside0.mk H
          clear H
          go_wp2
          go_meet
          case rel => exact ⟨_, (0), (1048576), (by first | rfl | (simp; done) | (simp [*]; done)), (by first | rfl | (simp; done) | (simp [*]; done)), H', ⟨by have := HJ1.out; first | omega | exact Nat.le_refl _⟩, ⟨by (with_reducible repeat (first | refine blk_drewN ?_ _ | refine blk_drew ?_ | refine blk_alloc ?_ _)); exact BK182.out⟩, ⟨by repeat (first | (with_reducible first | exact HB.out | apply below_alloc | apply pw_below_drewN | apply below_drew1 | refine below_set ?_ GE182.out) | exact HB.out)⟩⟩
        · rw [if_neg c9] at H
          have c9b0 : (a0_0 == 1) = false := beq_eq_false_iff_ne.mpr c9
          have c9b1 : (a0_0 != 1) = true := bne_iff_ne.mpr c9
          (first | rw [c9b0] | (simp only [i64_w, i32_w]; rw [c9b0]) | skip)
          have H' := Aside0.mk H
          clear H
          go_wp2
          go_meet
          case rel => exact ⟨_, (1), (1099511627776), (by first | rfl | (simp; done) | (simp [*]; done)), (by first | rfl | (simp; done) | (simp [*]; done)), H', ⟨by have := HJ1.out; first | omega | exact Nat.le_refl _⟩, ⟨by (with_reducible repeat (first | refine blk_drewN ?_ _ | refine blk_drew ?_ | refine blk_alloc ?_ _)); exact BK182.out⟩, ⟨by repeat (first | (with_reducible first | exact HB.out | apply below_alloc | apply pw_below_drewN | apply below_drew1 | refine below_set ?_ GE182.out) | exact HB.out)⟩⟩
      case rest =>
        clear HC7
        try clear p2
        try clear c3
        try clear c4
        try clear c4b0
        try clear c4b1
        try clear c9
        try clear c9b0
        try clear c9b1
        try clear hcz5_0
        try clear hcz5_1
        try clear hcz5_2
        try clear hcz5_3
        try clear hcz5_4
        try clear hcz5_5
        try clear hcz5_6
        try clear hcz5_7
        try clear hcz5_8
        try clear hcz6_0
        try clear hcz6_1
        try clear hcz6_2
        try clear hcz6_3
        try clear hcz6_4
        try clear hcz6_5
        try clear hcz6_6
        try clear hcz6_7
        try clear hcz6_8
        try clear hcz8_0
        try clear hcz8_1
        try clear hcz8_2
        try clear hcz8_3
        try clear hcz8_4
        try clear hcz8_5
        try clear hcz8_6
        try clear hcz8_7
        try clear hcz8_8
        try clear hfz5_0
        try clear hfz5_1
        try clear hfz5_2
        try clear hfz5_3
        try clear hfz5_4
        try clear hfz5_5
        try clear hfz5_6
        try clear hfz5_7
        try clear hfz5_8
        try clear hfz6_0
        try clear hfz6_1
        try clear hfz6_2
        try clear hfz6_3
        try clear hfz6_4
        try clear hfz6_5
        try clear hfz6_6
        try clear hfz6_7
        try clear hfz6_8
        try clear hfz8_0
        try clear hfz8_1
        try clear hfz8_2
        try clear hfz8_3
        try clear hfz8_4
        try clear hfz8_5
        try clear hfz8_6
        try clear hfz8_7
        try clear hfz8_8
        try clear p2
        obtain ⟨kq, x4_6, x5_6, rfl, rfl, HA, HJ6, BK182, HB⟩ := hcut
        cases kq with
        | zero => exact absurd HA.out (by simp [vokref10_Rec_May.j1])
        | succ kj6 =>
          have H := HA.out
          clear HA
          simp only [vokref10_Rec_May.j1] at H
          have HC10 := Aside0.mk H
          clear H
          go_upto_region 5 with (fail)
          go_cut [17] (fun v17 wc => ∃ (kq : Nat) (x17_9 : Bool), v17 = .bool x17_9 ∧ Aside0 (vokref10_Rec_May.j2 kq x3_1 x17_9 a0_0 a0_1 a0_2 a0_3 a0_4 a0_5 l0_6 l0_7 l0_8 = some r) ∧ Aside0 (kq ≤ kj6) ∧ Aside0 (wc.heap[gb182]? = some (.cells #[.int .i64 a0_0, .int .i64 a0_1, .int .i64 a0_2, .int .i64 a0_3, .int .i64 a0_4, .bool a0_5, (.slice A0_6 l0_6.length c0_6), (.slice A0_7 l0_7.length c0_7), (.slice A0_8 l0_8.length c0_8)] 53 (0, 0))) ∧ Aside0 (Below w.heap.size w wc))
          case first =>
            have H := HC10.out
            clear HC10
            by_cases c11 : a0_0 < 1
            · rw [if_pos c11] at H
              have c11b0 : decide (a0_0 < 1) = true := decide_eq_true c11
              clear c11
              (first | rw [c11b0] | (simp only [i64_w, i32_w]; rw [c11b0]) | skip)
              have H' := Aside0.mk H
              clear H
              have hcz12_0 : wc.cell? ⟨gb182, 0, none⟩ = some (.int .i64 a0_0) := (blk_cell BK182.out 0).trans rfl
              have hcz12_1 : wc.cell? ⟨gb182, 1, none⟩ = some (.int .i64 a0_1) := (blk_cell BK182.out 1).trans rfl
              have hcz12_2 : wc.cell? ⟨gb182, 2, none⟩ = some (.int .i64 a0_2) := (blk_cell BK182.out 2).trans rfl
              have hcz12_3 : wc.cell? ⟨gb182, 3, none⟩ = some (.int .i64 a0_3) := (blk_cell BK182.out 3).trans rfl
              have hcz12_4 : wc.cell? ⟨gb182, 4, none⟩ = some (.int .i64 a0_4) := (blk_cell BK182.out 4).trans rfl
              have hcz12_5 : wc.cell? ⟨gb182, 5, none⟩ = some (.bool a0_5) := (blk_cell BK182.out 5).trans rfl
              have hcz12_6 : wc.cell? ⟨gb182, 6, none⟩ = some (.slice A0_6 l0_6.length c0_6) := (blk_cell BK182.out 6).trans rfl
              have hcz12_7 : wc.cell? ⟨gb182, 7, none⟩ = some (.slice A0_7 l0_7.length c0_7) := (blk_cell BK182.out 7).trans rfl
              have hcz12_8 : wc.cell? ⟨gb182, 8, none⟩ = some (.slice A0_8 l0_8.length c0_8) := (blk_cell BK182.out 8).trans rfl
              have hfz12_0 := blk_frozen BK182.out 0
              have hfz12_1 := blk_frozen BK182.out 1
              have hfz12_2 := blk_frozen BK182.out 2
              have hfz12_3 := blk_frozen BK182.out 3
              have hfz12_4 := blk_frozen BK182.out 4
              have hfz12_5 := blk_frozen BK182.out 5
              have hfz12_6 := blk_frozen BK182.out 6
              have hfz12_7 := blk_frozen BK182.out 7
              have hfz12_8 := blk_frozen BK182.out 8
              go_wp2
              go_meet
              case rel => exact ⟨_, (true), (by first | rfl | (simp; done) | (simp [*]; done)), H', ⟨by have := HJ1.out; have := HJ6.out; first | omega | exact Nat.le_refl _⟩, ⟨by (with_reducible repeat (first | refine blk_drewN ?_ _ | refine blk_drew ?_ | refine blk_alloc ?_ _)); exact BK182.out⟩, ⟨by repeat (first | (with_reducible first | exact HB.out | apply below_alloc | apply pw_below_drewN | apply below_drew1 | refine below_set ?_ GE182.out) | exact HB.out)⟩⟩
            · rw [if_neg c11] at H
              have c11b0 : decide (a0_0 < 1) = false := decide_eq_false c11
              clear c11
              (first | rw [c11b0] | (simp only [i64_w, i32_w]; rw [c11b0]) | skip)
              by_cases c13 : a0_0 > 6
              · rw [if_pos c13] at H
                have c13b0 : decide (6 < a0_0) = true := decide_eq_true c13
                clear c13
                have H' := Aside0.mk H
                clear H
                have hcz14_0 : wc.cell? ⟨gb182, 0, none⟩ = some (.int .i64 a0_0) := (blk_cell BK182.out 0).trans rfl
                have hcz14_1 : wc.cell? ⟨gb182, 1, none⟩ = some (.int .i64 a0_1) := (blk_cell BK182.out 1).trans rfl
                have hcz14_2 : wc.cell? ⟨gb182, 2, none⟩ = some (.int .i64 a0_2) := (blk_cell BK182.out 2).trans rfl
                have hcz14_3 : wc.cell? ⟨gb182, 3, none⟩ = some (.int .i64 a0_3) := (blk_cell BK182.out 3).trans rfl
                have hcz14_4 : wc.cell? ⟨gb182, 4, none⟩ = some (.int .i64 a0_4) := (blk_cell BK182.out 4).trans rfl
                have hcz14_5 : wc.cell? ⟨gb182, 5, none⟩ = some (.bool a0_5) := (blk_cell BK182.out 5).trans rfl
                have hcz14_6 : wc.cell? ⟨gb182, 6, none⟩ = some (.slice A0_6 l0_6.length c0_6) := (blk_cell BK182.out 6).trans rfl
                have hcz14_7 : wc.cell? ⟨gb182, 7, none⟩ = some (.slice A0_7 l0_7.length c0_7) := (blk_cell BK182.out 7).trans rfl
                have hcz14_8 : wc.cell? ⟨gb182, 8, none⟩ = some (.slice A0_8 l0_8.length c0_8) := (blk_cell BK182.out 8).trans rfl
                have hfz14_0 := blk_frozen BK182.out 0
                have hfz14_1 := blk_frozen BK182.out 1
                have hfz14_2 := blk_frozen BK182.out 2
                have hfz14_3 := blk_frozen BK182.out 3
                have hfz14_4 := blk_frozen BK182.out 4
                have hfz14_5 := blk_frozen BK182.out 5
                have hfz14_6 := blk_frozen BK182.out 6
                have hfz14_7 := blk_frozen BK182.out 7
                have hfz14_8 := blk_frozen BK182.out 8
                go_wp2
                go_meet
                case rel => exact ⟨_, (true), (by first | rfl | (simp; done) | (simp [*]; done)), H', ⟨by have := HJ1.out; have := HJ6.out; first | omega | exact Nat.le_refl _⟩, ⟨by (with_reducible repeat (first | refine blk_drewN ?_ _ | refine blk_drew ?_ | refine blk_alloc ?_ _)); exact BK182.out⟩, ⟨by repeat (first | (with_reducible first | exact HB.out | apply below_alloc | apply pw_below_drewN | apply below_drew1 | refine below_set ?_ GE182.out) | exact HB.out)⟩⟩
              · rw [if_neg c13] at H
                have c13b0 : decide (6 < a0_0) = false := decide_eq_false c13
                clear c13
                by_cases c15 : a0_1 < x4_6
                · rw [if_pos c15] at H
                  have c15b0 : decide (a0_1 < x4_6) = true := decide_eq_true c15
                  clear c15
                  have H' := Aside0.mk H
                  clear H
                  have hcz16_0 : wc.cell? ⟨gb182, 0, none⟩ = some (.int .i64 a0_0) := (blk_cell BK182.out 0).trans rfl
                  have hcz16_1 : wc.cell? ⟨gb182, 1, none⟩ = some (.int .i64 a0_1) := (blk_cell BK182.out 1).trans rfl
                  have hcz16_2 : wc.cell? ⟨gb182, 2, none⟩ = some (.int .i64 a0_2) := (blk_cell BK182.out 2).trans rfl
                  have hcz16_3 : wc.cell? ⟨gb182, 3, none⟩ = some (.int .i64 a0_3) := (blk_cell BK182.out 3).trans rfl
                  have hcz16_4 : wc.cell? ⟨gb182, 4, none⟩ = some (.int .i64 a0_4) := (blk_cell BK182.out 4).trans rfl
                  have hcz16_5 : wc.cell? ⟨gb182, 5, none⟩ = some (.bool a0_5) := (blk_cell BK182.out 5).trans rfl
                  have hcz16_6 : wc.cell? ⟨gb182, 6, none⟩ = some (.slice A0_6 l0_6.length c0_6) := (blk_cell BK182.out 6).trans rfl
                  have hcz16_7 : wc.cell? ⟨gb182, 7, none⟩ = some (.slice A0_7 l0_7.length c0_7) := (blk_cell BK182.out 7).trans rfl
                  have hcz16_8 : wc.cell? ⟨gb182, 8, none⟩ = some (.slice A0_8 l0_8.length c0_8) := (blk_cell BK182.out 8).trans rfl
                  have hfz16_0 := blk_frozen BK182.out 0
                  have hfz16_1 := blk_frozen BK182.out 1
                  have hfz16_2 := blk_frozen BK182.out 2
                  have hfz16_3 := blk_frozen BK182.out 3
                  have hfz16_4 := blk_frozen BK182.out 4
                  have hfz16_5 := blk_frozen BK182.out 5
                  have hfz16_6 := blk_frozen BK182.out 6
                  have hfz16_7 := blk_frozen BK182.out 7
                  have hfz16_8 := blk_frozen BK182.out 8
                  go_wp2
                  go_meet
                  case rel => exact ⟨_, (true), (by first | rfl | (simp; done) | (simp [*]; done)), H', ⟨by have := HJ1.out; have := HJ6.out; first | omega | exact Nat.le_refl _⟩, ⟨by (with_reducible repeat (first | refine blk_drewN ?_ _ | refine blk_drew ?_ | refine blk_alloc ?_ _)); exact BK182.out⟩, ⟨by repeat (first | (with_reducible first | exact HB.out | apply below_alloc | apply pw_below_drewN | apply below_drew1 | refine below_set ?_ GE182.out) | exact HB.out)⟩⟩
                · rw [if_neg c15] at H
                  have c15b0 : decide (a0_1 < x4_6) = false := decide_eq_false c15
                  clear c15
                  have H' := Aside0.mk H
                  clear H
                  have hcz17_0 : wc.cell? ⟨gb182, 0, none⟩ = some (.int .i64 a0_0) := (blk_cell BK182.out 0).trans rfl
                  have hcz17_1 : wc.cell? ⟨gb182, 1, none⟩ = some (.int .i64 a0_1) := (blk_cell BK182.out 1).trans rfl
                  have hcz17_2 : wc.cell? ⟨gb182, 2, none⟩ = some (.int .i64 a0_2) := (blk_cell BK182.out 2).trans rfl
                  have hcz17_3 : wc.cell? ⟨gb182, 3, none⟩ = some (.int .i64 a0_3) := (blk_cell BK182.out 3).trans rfl
                  have hcz17_4 : wc.cell? ⟨gb182, 4, none⟩ = some (.int .i64 a0_4) := (blk_cell BK182.out 4).trans rfl
                  have hcz17_5 : wc.cell? ⟨gb182, 5, none⟩ = some (.bool a0_5) := (blk_cell BK182.out 5).trans rfl
                  have hcz17_6 : wc.cell? ⟨gb182, 6, none⟩ = some (.slice A0_6 l0_6.length c0_6) := (blk_cell BK182.out 6).trans rfl
                  have hcz17_7 : wc.cell? ⟨gb182, 7, none⟩ = some (.slice A0_7 l0_7.length c0_7) := (blk_cell BK182.out 7).trans rfl
                  have hcz17_8 : wc.cell? ⟨gb182, 8, none⟩ = some (.slice A0_8 l0_8.length c0_8) := (blk_cell BK182.out 8).trans rfl
                  have hfz17_0 := blk_frozen BK182.out 0
                  have hfz17_1 := blk_frozen BK182.out 1
                  have hfz17_2 := blk_frozen BK182.out 2
                  have hfz17_3 := blk_frozen BK182.out 3
                  have hfz17_4 := blk_frozen BK182.out 4
                  have hfz17_5 := blk_frozen BK182.out 5
                  have hfz17_6 := blk_frozen BK182.out 6
                  have hfz17_7 := blk_frozen BK182.out 7
                  have hfz17_8 := blk_frozen BK182.out 8
                  go_wp2
                  go_meet
                  case rel => exact ⟨_, (decide (a0_1 > x5_6)), (by first | rfl | (simp; done) | (simp [*]; done)), H', ⟨by have := HJ1.out; have := HJ6.out; first | omega | exact Nat.le_refl _⟩, ⟨by (with_reducible repeat (first | refine blk_drewN ?_ _ | refine blk_drew ?_ | refine blk_alloc ?_ _)); exact BK182.out⟩, ⟨by repeat (first | (with_reducible first | exact HB.out | apply below_alloc | apply pw_below_drewN | apply below_drew1 | refine below_set ?_ GE182.out) | exact HB.out)⟩⟩
          case rest =>
            clear HC10
            try clear c1
            try clear p2
            try clear c3
            try clear c4
            try clear c4b0
            try clear c4b1
            try clear c9
            try clear c9b0
            try clear c9b1
            try clear c11
            try clear c11b0
            try clear c13
            try clear c13b0
            try clear c15
            try clear c15b0
            try clear hcz12_0
            try clear hcz12_1
            try clear hcz12_2
            try clear hcz12_3
            try clear hcz12_4
            try clear hcz12_5
            try clear hcz12_6
            try clear hcz12_7
            try clear hcz12_8
            try clear hcz14_0
            try clear hcz14_1
            try clear hcz14_2
            try clear hcz14_3
            try clear hcz14_4
            try clear hcz14_5
            try clear hcz14_6
            try clear hcz14_7
            try clear hcz14_8
            try clear hcz16_0
            try clear hcz16_1
            try clear hcz16_2
            try clear hcz16_3
            try clear hcz16_4
            try clear hcz16_5
            try clear hcz16_6
            try clear hcz16_7
            try clear hcz16_8
            try clear hcz17_0
            try clear hcz17_1
            try clear hcz17_2
            try clear hcz17_3
            try clear hcz17_4
            try clear hcz17_5
            try clear hcz17_6
            try clear hcz17_7
            try clear hcz17_8
            try clear hcz5_0
            try clear hcz5_1
            try clear hcz5_2
            try clear hcz5_3
            try clear hcz5_4
            try clear hcz5_5
            try clear hcz5_6
            try clear hcz5_7
            try clear hcz5_8
            try clear hcz6_0
            try clear hcz6_1
            try clear hcz6_2
            try clear hcz6_3
            try clear hcz6_4
            try clear hcz6_5
            try clear hcz6_6
            try clear hcz6_7
            try clear hcz6_8
            try clear hcz8_0
            try clear hcz8_1
            try clear hcz8_2
            try clear hcz8_3
            try clear hcz8_4
            try clear hcz8_5
            try clear hcz8_6
            try clear hcz8_7
            try clear hcz8_8
            try clear hfz12_0
            try clear hfz12_1
            try clear hfz12_2
            try clear hfz12_3
            try clear hfz12_4
            try clear hfz12_5
            try clear hfz12_6
            try clear hfz12_7
            try clear hfz12_8
            try clear hfz14_0
            try clear hfz14_1
            try clear hfz14_2
            try clear hfz14_3
            try clear hfz14_4
            try clear hfz14_5
            try clear hfz14_6
            try clear hfz14_7
            try clear hfz14_8
            try clear hfz16_0
            try clear hfz16_1
            try clear hfz16_2
            try clear hfz16_3
            try clear hfz16_4
            try clear hfz16_5
            try clear hfz16_6
            try clear hfz16_7
            try clear hfz16_8
            try clear hfz17_0
            try clear hfz17_1
            try clear hfz17_2
            try clear hfz17_3
            try clear hfz17_4
            try clear hfz17_5
            try clear hfz17_6
            try clear hfz17_7
            try clear hfz17_8
            try clear hfz5_0
            try clear hfz5_1
            try clear hfz5_2
            try clear hfz5_3
            try clear hfz5_4
            try clear hfz5_5
            try clear hfz5_6
            try clear hfz5_7
            try clear hfz5_8
            try clear hfz6_0
            try clear hfz6_1
            try clear hfz6_2
            try clear hfz6_3
            try clear hfz6_4
            try clear hfz6_5
            try clear hfz6_6
            try clear hfz6_7
            try clear hfz6_8
            try clear hfz8_0
            try clear hfz8_1
            try clear hfz8_2
            try clear hfz8_3
            try clear hfz8_4
            try clear hfz8_5
            try clear hfz8_6
            try clear hfz8_7
            try clear hfz8_8
            try clear p2
            obtain ⟨kq, x17_9, rfl, HA, HJ9, BK182, HB⟩ := hcut
            cases kq with
            | zero => exact absurd HA.out (by simp [vokref10_Rec_May.j2])
            | succ kj9 =>
              have H := HA.out
              clear HA
              simp only [vokref10_Rec_May.j2] at H
              by_cases c18 : x17_9 = true
              · subst c18
                have H1 : (some false) = some r := by rw [if_pos rfl] at H; exact H
                clear H
                have H := H1
                clear H1
                obtain rfl := Option.some.inj H
                go_wp2
                go_ret
                exact ⟨by first | rfl | (simp [errW_none, errW_some] <;> rfl) | (simp [*, errW_none, errW_some] <;> rfl), by repeat (first | (with_reducible first | exact HB.out | apply below_alloc | apply pw_below_drewN | apply below_drew1 | refine below_set ?_ GE182.out) | exact HB.out)⟩
              · replace c18 := Bool.eq_false_iff.mpr c18
                subst c18
                have H1 : (if a0_2 < 0 then (vokref10_Rec_May.j3 kj9 x3_1 true a0_0 a0_1 a0_2 a0_3 a0_4 a0_5 l0_6 l0_7 l0_8) else (if a0_2 > 1099511627776 then (vokref10_Rec_May.j3 kj9 x3_1 true a0_0 a0_1 a0_2 a0_3 a0_4 a0_5 l0_6 l0_7 l0_8) else (if a0_2 = 0 then (vokref10_Rec_May.j3 kj9 x3_1 false a0_0 a0_1 a0_2 a0_3 a0_4 a0_5 l0_6 l0_7 l0_8) else (vokref10_Rec_May.j3 kj9 x3_1 (a0_0 != 5) a0_0 a0_1 a0_2 a0_3 a0_4 a0_5 l0_6 l0_7 l0_8)))) = some r := by rw [if_neg (show ¬ (false = true) by decide)] at H; exact H
                clear H
                have H := H1
                clear H1
                have HC19 := Aside0.mk H
                clear H
                go_upto_region 7 with (fail)
                go_cut [38] (fun v38 wc => ∃ (kq : Nat) (x38_18 : Bool), v38 = .bool x38_18 ∧ Aside0 (vokref10_Rec_May.j3 kq x3_1 x38_18 a0_0 a0_1 a0_2 a0_3 a0_4 a0_5 l0_6 l0_7 l0_8 = some r) ∧ Aside0 (kq ≤ kj9) ∧ Aside0 (wc.heap[gb182]? = some (.cells #[.int .i64 a0_0, .int .i64 a0_1, .int .i64 a0_2, .int .i64 a0_3, .int .i64 a0_4, .bool a0_5, (.slice A0_6 l0_6.length c0_6), (.slice A0_7 l0_7.length c0_7), (.slice A0_8 l0_8.length c0_8)] 53 (0, 0))) ∧ Aside0 (Below w.heap.size w wc))
                case first =>
                  have H := HC19.out
                  clear HC19
                  by_cases c20 : a0_2 < 0
                  · rw [if_pos c20] at H
                    have c20b0 : decide (a0_2 < 0) = true := decide_eq_true c20
                    clear c20
                    (first | rw [c20b0] | (simp only [i64_w, i32_w]; rw [c20b0]) | skip)
                    have H' := Aside0.mk H
                    clear H
                    have hcz21_0 : wc.cell? ⟨gb182, 0, none⟩ = some (.int .i64 a0_0) := (blk_cell BK182.out 0).trans rfl
                    have hcz21_1 : wc.cell? ⟨gb182, 1, none⟩ = some (.int .i64 a0_1) := (blk_cell BK182.out 1).trans rfl
                    have hcz21_2 : wc.cell? ⟨gb182, 2, none⟩ = some (.int .i64 a0_2) := (blk_cell BK182.out 2).trans rfl
                    have hcz21_3 : wc.cell? ⟨gb182, 3, none⟩ = some (.int .i64 a0_3) := (blk_cell BK182.out 3).trans rfl
                    have hcz21_4 : wc.cell? ⟨gb182, 4, none⟩ = some (.int .i64 a0_4) := (blk_cell BK182.out 4).trans rfl
                    have hcz21_5 : wc.cell? ⟨gb182, 5, none⟩ = some (.bool a0_5) := (blk_cell BK182.out 5).trans rfl
                    have hcz21_6 : wc.cell? ⟨gb182, 6, none⟩ = some (.slice A0_6 l0_6.length c0_6) := (blk_cell BK182.out 6).trans rfl
                    have hcz21_7 : wc.cell? ⟨gb182, 7, none⟩ = some (.slice A0_7 l0_7.length c0_7) := (blk_cell BK182.out 7).trans rfl
                    have hcz21_8 : wc.cell? ⟨gb182, 8, none⟩ = some (.slice A0_8 l0_8.length c0_8) := (blk_cell BK182.out 8).trans rfl
                    have hfz21_0 := blk_frozen BK182.out 0
                    have hfz21_1 := blk_frozen BK182.out 1
                    have hfz21_2 := blk_frozen BK182.out 2
                    have hfz21_3 := blk_frozen BK182.out 3
                    have hfz21_4 := blk_frozen BK182.out 4
                    have hfz21_5 := blk_frozen BK182.out 5
                    have hfz21_6 := blk_frozen BK182.out 6
                    have hfz21_7 := blk_frozen BK182.out 7
                    have hfz21_8 := blk_frozen BK182.out 8
                    go_wp2
                    go_meet
                    case rel => exact ⟨_, (true), (by first | rfl | (simp; done) | (simp [*]; done)), H', ⟨by have := HJ1.out; have := HJ6.out; have := HJ9.out; first | omega | exact Nat.le_refl _⟩, ⟨by (with_reducible repeat (first | refine blk_drewN ?_ _ | refine blk_drew ?_ | refine blk_alloc ?_ _)); exact BK182.out⟩, ⟨by repeat (first | (with_reducible first | exact HB.out | apply below_alloc | apply pw_below_drewN | apply below_drew1 | refine below_set ?_ GE182.out) | exact HB.out)⟩⟩
                  · rw [if_neg c20] at H
                    have c20b0 : decide (a0_2 < 0) = false := decide_eq_false c20
                    clear c20
                    (first | rw [c20b0] | (simp only [i64_w, i32_w]; rw [c20b0]) | skip)
                    by_cases c22 : a0_2 > 1099511627776
                    · rw [if_pos c22] at H
                      have c22b0 : decide (1099511627776 < a0_2) = true := decide_eq_true c22
                      clear c22
                      have H' := Aside0.mk H
                      clear H
                      have hcz23_0 : wc.cell? ⟨gb182, 0, none⟩ = some (.int .i64 a0_0) := (blk_cell BK182.out 0).trans rfl
                      have hcz23_1 : wc.cell? ⟨gb182, 1, none⟩ = some (.int .i64 a0_1) := (blk_cell BK182.out 1).trans rfl
                      have hcz23_2 : wc.cell? ⟨gb182, 2, none⟩ = some (.int .i64 a0_2) := (blk_cell BK182.out 2).trans rfl
                      have hcz23_3 : wc.cell? ⟨gb182, 3, none⟩ = some (.int .i64 a0_3) := (blk_cell BK182.out 3).trans rfl
                      have hcz23_4 : wc.cell? ⟨gb182, 4, none⟩ = some (.int .i64 a0_4) := (blk_cell BK182.out 4).trans rfl
                      have hcz23_5 : wc.cell? ⟨gb182, 5, none⟩ = some (.bool a0_5) := (blk_cell BK182.out 5).trans rfl
                      have hcz23_6 : wc.cell? ⟨gb182, 6, none⟩ = some (.slice A0_6 l0_6.length c0_6) := (blk_cell BK182.out 6).trans rfl
                      have hcz23_7 : wc.cell? ⟨gb182, 7, none⟩ = some (.slice A0_7 l0_7.length c0_7) := (blk_cell BK182.out 7).trans rfl
                      have hcz23_8 : wc.cell? ⟨gb182, 8, none⟩ = some (.slice A0_8 l0_8.length c0_8) := (blk_cell BK182.out 8).trans rfl
                      have hfz23_0 := blk_frozen BK182.out 0
                      have hfz23_1 := blk_frozen BK182.out 1
                      have hfz23_2 := blk_frozen BK182.out 2
                      have hfz23_3 := blk_frozen BK182.out 3
                      have hfz23_4 := blk_frozen BK182.out 4
                      have hfz23_5 := blk_frozen BK182.out 5
                      have hfz23_6 := blk_frozen BK182.out 6
                      have hfz23_7 := blk_frozen BK182.out 7
                      have hfz23_8 := blk_frozen BK182.out 8
                      go_wp2
                      go_meet
                      case rel => exact ⟨_, (true), (by first | rfl | (simp; done) | (simp [*]; done)), H', ⟨by have := HJ1.out; have := HJ6.out; have := HJ9.out; first | omega | exact Nat.le_refl _⟩, ⟨by (with_reducible repeat (first | refine blk_drewN ?_ _ | refine blk_drew ?_ | refine blk_alloc ?_ _)); exact BK182.out⟩, ⟨by repeat (first | (with_reducible first | exact HB.out | apply below_alloc | apply pw_below_drewN | apply below_drew1 | refine below_set ?_ GE182.out) | exact HB.out)⟩⟩
                    · rw [if_neg c22] at H
                      have c22b0 : decide (1099511627776 < a0_2) = false := decide_eq_false c22
                      clear c22
                      by_cases c24 : a0_2 = 0
                      · rw [if_pos c24] at H
                        have c24b0 : (a0_2 == 0) = true := beq_iff_eq.mpr c24
                        have c24b1 : (a0_2 != 0) = false := bne_eq_false_iff_eq.mpr c24
                        clear c24
                        have H' := Aside0.mk H
                        clear H
                        have hcz25_0 : wc.cell? ⟨gb182, 0, none⟩ = some (.int .i64 a0_0) := (blk_cell BK182.out 0).trans rfl
                        have hcz25_1 : wc.cell? ⟨gb182, 1, none⟩ = some (.int .i64 a0_1) := (blk_cell BK182.out 1).trans rfl
                        have hcz25_2 : wc.cell? ⟨gb182, 2, none⟩ = some (.int .i64 a0_2) := (blk_cell BK182.out 2).trans rfl
                        have hcz25_3 : wc.cell? ⟨gb182, 3, none⟩ = some (.int .i64 a0_3) := (blk_cell BK182.out 3).trans rfl
                        have hcz25_4 : wc.cell? ⟨gb182, 4, none⟩ = some (.int .i64 a0_4) := (blk_cell BK182.out 4).trans rfl
                        have hcz25_5 : wc.cell? ⟨gb182, 5, none⟩ = some (.bool a0_5) := (blk_cell BK182.out 5).trans rfl
                        have hcz25_6 : wc.cell? ⟨gb182, 6, none⟩ = some (.slice A0_6 l0_6.length c0_6) := (blk_cell BK182.out 6).trans rfl
                        have hcz25_7 : wc.cell? ⟨gb182, 7, none⟩ = some (.slice A0_7 l0_7.length c0_7) := (blk_cell BK182.out 7).trans rfl
                        have hcz25_8 : wc.cell? ⟨gb182, 8, none⟩ = some (.slice A0_8 l0_8.length c0_8) := (blk_cell BK182.out 8).trans rfl
                        have hfz25_0 := blk_frozen BK182.out 0
                        have hfz25_1 := blk_frozen BK182.out 1
                        have hfz25_2 := blk_frozen BK182.out 2
                        have hfz25_3 := blk_frozen BK182.out 3
                        have hfz25_4 := blk_frozen BK182.out 4
                        have hfz25_5 := blk_frozen BK182.out 5
                        have hfz25_6 := blk_frozen BK182.out 6
                        have hfz25_7 := blk_frozen BK182.out 7
                        have hfz25_8 := blk_frozen BK182.out 8
                        go_wp2
                        go_meet
                        case rel => exact ⟨_, (false), (by first | rfl | (simp; done) | (simp [*]; done)), H', ⟨by have := HJ1.out; have := HJ6.out; have := HJ9.out; first | omega | exact Nat.le_refl _⟩, ⟨by (with_reducible repeat (first | refine blk_drewN ?_ _ | refine blk_drew ?_ | refine blk_alloc ?_ _)); exact BK182.out⟩, ⟨by repeat (first | (with_reducible first | exact HB.out | apply below_alloc | apply pw_below_drewN | apply below_drew1 | refine below_set ?_ GE182.out) | exact HB.out)⟩⟩
                      · rw [if_neg c24] at H
                        have c24b0 : (a0_2 == 0) = false := beq_eq_false_iff_ne.mpr c24
                        have c24b1 : (a0_2 != 0) = true := bne_iff_ne.mpr c24
                        have H' := Aside0.mk H
                        clear H
                        have hcz26_0 : wc.cell? ⟨gb182, 0, none⟩ = some (.int .i64 a0_0) := (blk_cell BK182.out 0).trans rfl
                        have hcz26_1 : wc.cell? ⟨gb182, 1, none⟩ = some (.int .i64 a0_1) := (blk_cell BK182.out 1).trans rfl
                        have hcz26_2 : wc.cell? ⟨gb182, 2, none⟩ = some (.int .i64 a0_2) := (blk_cell BK182.out 2).trans rfl
                        have hcz26_3 : wc.cell? ⟨gb182, 3, none⟩ = some (.int .i64 a0_3) := (blk_cell BK182.out 3).trans rfl
                        have hcz26_4 : wc.cell? ⟨gb182, 4, none⟩ = some (.int .i64 a0_4) := (blk_cell BK182.out 4).trans rfl
                        have hcz26_5 : wc.cell? ⟨gb182, 5, none⟩ = some (.bool a0_5) := (blk_cell BK182.out 5).trans rfl
                        have hcz26_6 : wc.cell? ⟨gb182, 6, none⟩ = some (.slice A0_6 l0_6.length c0_6) := (blk_cell BK182.out 6).trans rfl
                        have hcz26_7 : wc.cell? ⟨gb182, 7, none⟩ = some (.slice A0_7 l0_7.length c0_7) := (blk_cell BK182.out 7).trans rfl
                        have hcz26_8 : wc.cell? ⟨gb182, 8, none⟩ = some (.slice A0_8 l0_8.length c0_8) := (blk_cell BK182.out 8).trans rfl
                        have hfz26_0 := blk_frozen BK182.out 0
                        have hfz26_1 := blk_frozen BK182.out 1
                        have hfz26_2 := blk_frozen BK182.out 2
                        have hfz26_3 := blk_frozen BK182.out 3
                        have hfz26_4 := blk_frozen BK182.out 4
                        have hfz26_5 := blk_frozen BK182.out 5
                        have hfz26_6 := blk_frozen BK182.out 6
                        have hfz26_7 := blk_frozen BK182.out 7
                        have hfz26_8 := blk_frozen BK182.out 8
                        go_wp2
                        go_meet
                        case rel => exact ⟨_, ((a0_0 != 5)), (by first | rfl | (simp; done) | (simp [*]; done)), H', ⟨by have := HJ1.out; have := HJ6.out; have := HJ9.out; first | omega | exact Nat.le_refl _⟩, ⟨by (with_reducible repeat (first | refine blk_drewN ?_ _ | refine blk_drew ?_ | refine blk_alloc ?_ _)); exact BK182.out⟩, ⟨by repeat (first | (with_reducible first | exact HB.out | apply below_alloc | apply pw_below_drewN | apply below_drew1 | refine below_set ?_ GE182.out) | exact HB.out)⟩⟩
                case rest =>
                  clear HC19
                  try clear c1
                  try clear c2
                  try clear p2
                  try clear c3
                  try clear c4
                  try clear c4b0
                  try clear c4b1
                  try clear c9
                  try clear c9b0
                  try clear c9b1
                  try clear c11
                  try clear c11b0
                  try clear c13
                  try clear c13b0
                  try clear c15
                  try clear c15b0
                  try clear c18
                  try clear c20
                  try clear c20b0
                  try clear c22
                  try clear c22b0
                  try clear c24
                  try clear c24b0
                  try clear c24b1
                  try clear hcz12_0
                  try clear hcz12_1
                  try clear hcz12_2
                  try clear hcz12_3
                  try clear hcz12_4
                  try clear hcz12_5
                  try clear hcz12_6
                  try clear hcz12_7
                  try clear hcz12_8
                  try clear hcz14_0
                  try clear hcz14_1
                  try clear hcz14_2
                  try clear hcz14_3
                  try clear hcz14_4
                  try clear hcz14_5
                  try clear hcz14_6
                  try clear hcz14_7
                  try clear hcz14_8
                  try clear hcz16_0
                  try clear hcz16_1
                  try clear hcz16_2
                  try clear hcz16_3
                  try clear hcz16_4
                  try clear hcz16_5
                  try clear hcz16_6
                  try clear hcz16_7
                  try clear hcz16_8
                  try clear hcz17_0
                  try clear hcz17_1
                  try clear hcz17_2
                  try clear hcz17_3
                  try clear hcz17_4
                  try clear hcz17_5
                  try clear hcz17_6
                  try clear hcz17_7
                  try clear hcz17_8
                  try clear hcz21_0
                  try clear hcz21_1
                  try clear hcz21_2
                  try clear hcz21_3
                  try clear hcz21_4
                  try clear hcz21_5
                  try clear hcz21_6
                  try clear hcz21_7
                  try clear hcz21_8
                  try clear hcz23_0
                  try clear hcz23_1
                  try clear hcz23_2
                  try clear hcz23_3
                  try clear hcz23_4
                  try clear hcz23_5
                  try clear hcz23_6
                  try clear hcz23_7
                  try clear hcz23_8
                  try clear hcz25_0
                  try clear hcz25_1
                  try clear hcz25_2
                  try clear hcz25_3
                  try clear hcz25_4
                  try clear hcz25_5
                  try clear hcz25_6
                  try clear hcz25_7
                  try clear hcz25_8
                  try clear hcz26_0
                  try clear hcz26_1
                  try clear hcz26_2
                  try clear hcz26_3
                  try clear hcz26_4
                  try clear hcz26_5
                  try clear hcz26_6
                  try clear hcz26_7
                  try clear hcz26_8
                  try clear hcz5_0
                  try clear hcz5_1
                  try clear hcz5_2
                  try clear hcz5_3
                  try clear hcz5_4
                  try clear hcz5_5
                  try clear hcz5_6
                  try clear hcz5_7
                  try clear hcz5_8
                  try clear hcz6_0
                  try clear hcz6_1
                  try clear hcz6_2
                  try clear hcz6_3
                  try clear hcz6_4
                  try clear hcz6_5
                  try clear hcz6_6
                  try clear hcz6_7
                  try clear hcz6_8
                  try clear hcz8_0
                  try clear hcz8_1
                  try clear hcz8_2
                  try clear hcz8_3
                  try clear hcz8_4
                  try clear hcz8_5
                  try clear hcz8_6
                  try clear hcz8_7
                  try clear hcz8_8
                  try clear hfz12_0
                  try clear hfz12_1
                  try clear hfz12_2
                  try clear hfz12_3
                  try clear hfz12_4
                  try clear hfz12_5
                  try clear hfz12_6
                  try clear hfz12_7
                  try clear hfz12_8
                  try clear hfz14_0
                  try clear hfz14_1
                  try clear hfz14_2
                  try clear hfz14_3
                  try clear hfz14_4
                  try clear hfz14_5
                  try clear hfz14_6
                  try clear hfz14_7
                  try clear hfz14_8
                  try clear hfz16_0
                  try clear hfz16_1
                  try clear hfz16_2
                  try clear hfz16_3
                  try clear hfz16_4
                  try clear hfz16_5
                  try clear hfz16_6
                  try clear hfz16_7
                  try clear hfz16_8
                  try clear hfz17_0
                  try clear hfz17_1
                  try clear hfz17_2
                  try clear hfz17_3
                  try clear hfz17_4
                  try clear hfz17_5
                  try clear hfz17_6
                  try clear hfz17_7
                  try clear hfz17_8
                  try clear hfz21_0
                  try clear hfz21_1
                  try clear hfz21_2
                  try clear hfz21_3
                  try clear hfz21_4
                  try clear hfz21_5
                  try clear hfz21_6
                  try clear hfz21_7
                  try clear hfz21_8
                  try clear hfz23_0
                  try clear hfz23_1
                  try clear hfz23_2
                  try clear hfz23_3
                  try clear hfz23_4
                  try clear hfz23_5
                  try clear hfz23_6
                  try clear hfz23_7
                  try clear hfz23_8
                  try clear hfz25_0
                  try clear hfz25_1
                  try clear hfz25_2
                  try clear hfz25_3
                  try clear hfz25_4
                  try clear hfz25_5
                  try clear hfz25_6
                  try clear hfz25_7
                  try clear hfz25_8
                  try clear hfz26_0
                  try clear hfz26_1
                  try clear hfz26_2
                  try clear hfz26_3
                  try clear hfz26_4
                  try clear hfz26_5
                  try clear hfz26_6
                  try clear hfz26_7
                  try clear hfz26_8
                  try clear hfz5_0
                  try clear hfz5_1
                  try clear hfz5_2
                  try clear hfz5_3
                  try clear hfz5_4
                  try clear hfz5_5
                  try clear hfz5_6
                  try clear hfz5_7
                  try clear hfz5_8
                  try clear hfz6_0
                  try clear hfz6_1
                  try clear hfz6_2
                  try clear hfz6_3
                  try clear hfz6_4
                  try clear hfz6_5
                  try clear hfz6_6
                  try clear hfz6_7
                  try clear hfz6_8
                  try clear hfz8_0
                  try clear hfz8_1
                  try clear hfz8_2
                  try clear hfz8_3
                  try clear hfz8_4
                  try clear hfz8_5
                  try clear hfz8_6
                  try clear hfz8_7
                  try clear hfz8_8
                  try clear p2
                  obtain ⟨kq, x38_18, rfl, HA, HJ18, BK182, HB⟩ := hcut
                  cases kq with
                  | zero => exact absurd HA.out (by simp [vokref10_Rec_May.j3])
                  | succ kj18 =>
                    have H := HA.out
                    clear HA
                    simp only [vokref10_Rec_May.j3] at H
                    by_cases c27 : x38_18 = true
                    · subst c27
                      have H1 : (some false) = some r := by rw [if_pos rfl] at H; exact H
                      clear H
                      have H := H1
                      clear H1
                      obtain rfl := Option.some.inj H
                      go_wp2
                      go_ret
                      exact ⟨by first | rfl | (simp [errW_none, errW_some] <;> rfl) | (simp [*, errW_none, errW_some] <;> rfl), by repeat (first | (with_reducible first | exact HB.out | apply below_alloc | apply pw_below_drewN | apply below_drew1 | refine below_set ?_ GE182.out) | exact HB.out)⟩
                    · replace c27 := Bool.eq_false_iff.mpr c27
                      subst c27
                      have H1 : (if x3_1 = true then (if a0_3 < 1 then (vokref10_Rec_May.j4 kj18 x3_1 true a0_0 a0_1 a0_2 a0_3 a0_4 a0_5 l0_6 l0_7 l0_8) else (if a0_3 > 3 then (vokref10_Rec_May.j4 kj18 x3_1 true a0_0 a0_1 a0_2 a0_3 a0_4 a0_5 l0_6 l0_7 l0_8) else (vokref10_Rec_May.j4 kj18 x3_1 false a0_0 a0_1 a0_2 a0_3 a0_4 a0_5 l0_6 l0_7 l0_8))) else (vokref10_Rec_May.j4 kj18 x3_1 (a0_3 != 0) a0_0 a0_1 a0_2 a0_3 a0_4 a0_5 l0_6 l0_7 l0_8)) = some r := by rw [if_neg (show ¬ (false = true) by decide)] at H; exact H
                      clear H
                      have H := H1
                      clear H1
                      have HC28 := Aside0.mk H
                      clear H
                      go_upto_region 9 with (fail)
                      go_cut [57] (fun v57 wc => ∃ (kq : Nat) (x57_27 : Bool), v57 = .bool x57_27 ∧ Aside0 (vokref10_Rec_May.j4 kq x3_1 x57_27 a0_0 a0_1 a0_2 a0_3 a0_4 a0_5 l0_6 l0_7 l0_8 = some r) ∧ Aside0 (kq ≤ kj18) ∧ Aside0 (wc.heap[gb182]? = some (.cells #[.int .i64 a0_0, .int .i64 a0_1, .int .i64 a0_2, .int .i64 a0_3, .int .i64 a0_4, .bool a0_5, (.slice A0_6 l0_6.length c0_6), (.slice A0_7 l0_7.length c0_7), (.slice A0_8 l0_8.length c0_8)] 53 (0, 0))) ∧ Aside0 (Below w.heap.size w wc))
                      case first =>
                        have H := HC28.out
                        clear HC28
                        by_cases c29 : x3_1 = true
                        · subst c29
                          have H1 : (if a0_3 < 1 then (vokref10_Rec_May.j4 kj18 true true a0_0 a0_1 a0_2 a0_3 a0_4 a0_5 l0_6 l0_7 l0_8) else (if a0_3 > 3 then (vokref10_Rec_May.j4 kj18 true true a0_0 a0_1 a0_2 a0_3 a0_4 a0_5 l0_6 l0_7 l0_8) else (vokref10_Rec_May.j4 kj18 true false a0_0 a0_1 a0_2 a0_3 a0_4 a0_5 l0_6 l0_7 l0_8))) = some r := by rw [if_pos rfl] at H; exact H
                          clear H
                          have H := H1
                          clear H1
                          by_cases c30 : a0_3 < 1
                          · rw [if_pos c30] at H
                            have c30b0 : decide (a0_3 < 1) = true := decide_eq_true c30
                            clear c30
                            (first | rw [c30b0] | (simp only [i64_w, i32_w]; rw [c30b0]) | skip)
                            have H' := Aside0.mk H
                            clear H
                            have hcz31_0 : wc.cell? ⟨gb182, 0, none⟩ = some (.int .i64 a0_0) := (blk_cell BK182.out 0).trans rfl
                            have hcz31_1 : wc.cell? ⟨gb182, 1, none⟩ = some (.int .i64 a0_1) := (blk_cell BK182.out 1).trans rfl
                            have hcz31_2 : wc.cell? ⟨gb182, 2, none⟩ = some (.int .i64 a0_2) := (blk_cell BK182.out 2).trans rfl
                            have hcz31_3 : wc.cell? ⟨gb182, 3, none⟩ = some (.int .i64 a0_3) := (blk_cell BK182.out 3).trans rfl
                            have hcz31_4 : wc.cell? ⟨gb182, 4, none⟩ = some (.int .i64 a0_4) := (blk_cell BK182.out 4).trans rfl
                            have hcz31_5 : wc.cell? ⟨gb182, 5, none⟩ = some (.bool a0_5) := (blk_cell BK182.out 5).trans rfl
                            have hcz31_6 : wc.cell? ⟨gb182, 6, none⟩ = some (.slice A0_6 l0_6.length c0_6) := (blk_cell BK182.out 6).trans rfl
                            have hcz31_7 : wc.cell? ⟨gb182, 7, none⟩ = some (.slice A0_7 l0_7.length c0_7) := (blk_cell BK182.out 7).trans rfl
                            have hcz31_8 : wc.cell? ⟨gb182, 8, none⟩ = some (.slice A0_8 l0_8.length c0_8) := (blk_cell BK182.out 8).trans rfl
                            have hfz31_0 := blk_frozen BK182.out 0
                            have hfz31_1 := blk_frozen BK182.out 1
                            have hfz31_2 := blk_frozen BK182.out 2
                            have hfz31_3 := blk_frozen BK182.out 3
                            have hfz31_4 := blk_frozen BK182.out 4
                            have hfz31_5 := blk_frozen BK182.out 5
                            have hfz31_6 := blk_frozen BK182.out 6
                            have hfz31_7 := blk_frozen BK182.out 7
                            have hfz31_8 := blk_frozen BK182.out 8
                            go_wp2
                            go_meet
                            case rel => exact ⟨_, (true), (by first | rfl | (simp; done) | (simp [*]; done)), H', ⟨by have := HJ1.out; have := HJ6.out; have := HJ9.out; have := HJ18.out; first | omega | exact Nat.le_refl _⟩, ⟨by (with_reducible repeat (first | refine blk_drewN ?_ _ | refine blk_drew ?_ | refine blk_alloc ?_ _)); exact BK182.out⟩, ⟨by repeat (first | (with_reducible first | exact HB.out | apply below_alloc | apply pw_below_drewN | apply below_drew1 | refine below_set ?_ GE182.out) | exact HB.out)⟩⟩
                          · rw [if_neg c30] at H
                            have c30b0 : decide (a0_3 < 1) = false := decide_eq_false c30
                            clear c30
                            (first | rw [c30b0] | (simp only [i64_w, i32_w]; rw [c30b0]) | skip)
                            by_cases c32 : a0_3 > 3
                            · rw [if_pos c32] at H
                              have c32b0 : decide (3 < a0_3) = true := decide_eq_true c32
                              clear c32
                              have H' := Aside0.mk H
                              clear H
                              have hcz33_0 : wc.cell? ⟨gb182, 0, none⟩ = some (.int .i64 a0_0) := (blk_cell BK182.out 0).trans rfl
                              have hcz33_1 : wc.cell? ⟨gb182, 1, none⟩ = some (.int .i64 a0_1) := (blk_cell BK182.out 1).trans rfl
                              have hcz33_2 : wc.cell? ⟨gb182, 2, none⟩ = some (.int .i64 a0_2) := (blk_cell BK182.out 2).trans rfl
                              have hcz33_3 : wc.cell? ⟨gb182, 3, none⟩ = some (.int .i64 a0_3) := (blk_cell BK182.out 3).trans rfl
                              have hcz33_4 : wc.cell? ⟨gb182, 4, none⟩ = some (.int .i64 a0_4) := (blk_cell BK182.out 4).trans rfl
                              have hcz33_5 : wc.cell? ⟨gb182, 5, none⟩ = some (.bool a0_5) := (blk_cell BK182.out 5).trans rfl
                              have hcz33_6 : wc.cell? ⟨gb182, 6, none⟩ = some (.slice A0_6 l0_6.length c0_6) := (blk_cell BK182.out 6).trans rfl
                              have hcz33_7 : wc.cell? ⟨gb182, 7, none⟩ = some (.slice A0_7 l0_7.length c0_7) := (blk_cell BK182.out 7).trans rfl
                              have hcz33_8 : wc.cell? ⟨gb182, 8, none⟩ = some (.slice A0_8 l0_8.length c0_8) := (blk_cell BK182.out 8).trans rfl
                              have hfz33_0 := blk_frozen BK182.out 0
                              have hfz33_1 := blk_frozen BK182.out 1
                              have hfz33_2 := blk_frozen BK182.out 2
                              have hfz33_3 := blk_frozen BK182.out 3
                              have hfz33_4 := blk_frozen BK182.out 4
                              have hfz33_5 := blk_frozen BK182.out 5
                              have hfz33_6 := blk_frozen BK182.out 6
                              have hfz33_7 := blk_frozen BK182.out 7
                              have hfz33_8 := blk_frozen BK182.out 8
                              go_wp2
                              go_meet
                              case rel => exact ⟨_, (true), (by first | rfl | (simp; done) | (simp [*]; done)), H', ⟨by have := HJ1.out; have := HJ6.out; have := HJ9.out; have := HJ18.out; first | omega | exact Nat.le_refl _⟩, ⟨by (with_reducible repeat (first | refine blk_drewN ?_ _ | refine blk_drew ?_ | refine blk_alloc ?_ _)); exact BK182.out⟩, ⟨by repeat (first | (with_reducible first | exact HB.out | apply below_alloc | apply pw_below_drewN | apply below_drew1 | refine below_set ?_ GE182.out) | exact HB.out)⟩⟩
                            · rw [if_neg c32] at H
                              have c32b0 : decide (3 < a0_3) = false := decide_eq_false c32
                              clear c32
                              have H' := Aside0.mk H
                              clear H
                              have hcz34_0 : wc.cell? ⟨gb182, 0, none⟩ = some (.int .i64 a0_0) := (blk_cell BK182.out 0).trans rfl
                              have hcz34_1 : wc.cell? ⟨gb182, 1, none⟩ = some (.int .i64 a0_1) := (blk_cell BK182.out 1).trans rfl
                              have hcz34_2 : wc.cell? ⟨gb182, 2, none⟩ = some (.int .i64 a0_2) := (blk_cell BK182.out 2).trans rfl
                              have hcz34_3 : wc.cell? ⟨gb182, 3, none⟩ = some (.int .i64 a0_3) := (blk_cell BK182.out 3).trans rfl
                              have hcz34_4 : wc.cell? ⟨gb182, 4, none⟩ = some (.int .i64 a0_4) := (blk_cell BK182.out 4).trans rfl
                              have hcz34_5 : wc.cell? ⟨gb182, 5, none⟩ = some (.bool a0_5) := (blk_cell BK182.out 5).trans rfl
                              have hcz34_6 : wc.cell? ⟨gb182, 6, none⟩ = some (.slice A0_6 l0_6.length c0_6) := (blk_cell BK182.out 6).trans rfl
                              have hcz34_7 : wc.cell? ⟨gb182, 7, none⟩ = some (.slice A0_7 l0_7.length c0_7) := (blk_cell BK182.out 7).trans rfl
                              have hcz34_8 : wc.cell? ⟨gb182, 8, none⟩ = some (.slice A0_8 l0_8.length c0_8) := (blk_cell BK182.out 8).trans rfl
                              have hfz34_0 := blk_frozen BK182.out 0
                              have hfz34_1 := blk_frozen BK182.out 1
                              have hfz34_2 := blk_frozen BK182.out 2
                              have hfz34_3 := blk_frozen BK182.out 3
                              have hfz34_4 := blk_frozen BK182.out 4
                              have hfz34_5 := blk_frozen BK182.out 5
                              have hfz34_6 := blk_frozen BK182.out 6
                              have hfz34_7 := blk_frozen BK182.out 7
                              have hfz34_8 := blk_frozen BK182.out 8
                              go_wp2
                              go_meet
                              case rel => exact ⟨_, (false), (by first | rfl | (simp; done) | (simp [*]; done)), H', ⟨by have := HJ1.out; have := HJ6.out; have := HJ9.out; have := HJ18.out; first | omega | exact Nat.le_refl _⟩, ⟨by (with_reducible repeat (first | refine blk_drewN ?_ _ | refine blk_drew ?_ | refine blk_alloc ?_ _)); exact BK182.out⟩, ⟨by repeat (first | (with_reducible first | exact HB.out | apply below_alloc | apply pw_below_drewN | apply below_drew1 | refine below_set ?_ GE182.out) | exact HB.out)⟩⟩
                        · replace c29 := Bool.eq_false_iff.mpr c29
                          subst c29
                          have H1 : (vokref10_Rec_May.j4 kj18 false (a0_3 != 0) a0_0 a0_1 a0_2 a0_3 a0_4 a0_5 l0_6 l0_7 l0_8) = some r := by rw [if_neg (show ¬ (false = true) by decide)] at H; exact H
                          clear H
                          have H := H1
                          clear H1
                          have H' := Aside0.mk H
                          clear H
                          have hcz35_0 : wc.cell? ⟨gb182, 0, none⟩ = some (.int .i64 a0_0) := (blk_cell BK182.out 0).trans rfl
                          have hcz35_1 : wc.cell? ⟨gb182, 1, none⟩ = some (.int .i64 a0_1) := (blk_cell BK182.out 1).trans rfl
                          have hcz35_2 : wc.cell? ⟨gb182, 2, none⟩ = some (.int .i64 a0_2) := (blk_cell BK182.out 2).trans rfl
                          have hcz35_3 : wc.cell? ⟨gb182, 3, none⟩ = some (.int .i64 a0_3) := (blk_cell BK182.out 3).trans rfl
                          have hcz35_4 : wc.cell? ⟨gb182, 4, none⟩ = some (.int .i64 a0_4) := (blk_cell BK182.out 4).trans rfl
                          have hcz35_5 : wc.cell? ⟨gb182, 5, none⟩ = some (.bool a0_5) := (blk_cell BK182.out 5).trans rfl
                          have hcz35_6 : wc.cell? ⟨gb182, 6, none⟩ = some (.slice A0_6 l0_6.length c0_6) := (blk_cell BK182.out 6).trans rfl
                          have hcz35_7 : wc.cell? ⟨gb182, 7, none⟩ = some (.slice A0_7 l0_7.length c0_7) := (blk_cell BK182.out 7).trans rfl
                          have hcz35_8 : wc.cell? ⟨gb182, 8, none⟩ = some (.slice A0_8 l0_8.length c0_8) := (blk_cell BK182.out 8).trans rfl
                          have hfz35_0 := blk_frozen BK182.out 0
                          have hfz35_1 := blk_frozen BK182.out 1
                          have hfz35_2 := blk_frozen BK182.out 2
                          have hfz35_3 := blk_frozen BK182.out 3
                          have hfz35_4 := blk_frozen BK182.out 4
                          have hfz35_5 := blk_frozen BK182.out 5
                          have hfz35_6 := blk_frozen BK182.out 6
                          have hfz35_7 := blk_frozen BK182.out 7
                          have hfz35_8 := blk_frozen BK182.out 8
                          go_wp2
                          go_meet
                          case rel => exact ⟨_, ((a0_3 != 0)), (by first | rfl | (simp; done) | (simp [*]; done)), H', ⟨by have := HJ1.out; have := HJ6.out; have := HJ9.out; have := HJ18.out; first | omega | exact Nat.le_refl _⟩, ⟨by (with_reducible repeat (first | refine blk_drewN ?_ _ | refine blk_drew ?_ | refine blk_alloc ?_ _)); exact BK182.out⟩, ⟨by repeat (first | (with_reducible first | exact HB.out | apply below_alloc | apply pw_below_drewN | apply below_drew1 | refine below_set ?_ GE182.out) | exact HB.out)⟩⟩
                      case rest =>
                        clear HC28
                        try clear c1
                        try clear c2
                        try clear p2
                        try clear c3
                        try clear c4
                        try clear c4b0
                        try clear c4b1
                        try clear c9
                        try clear c9b0
                        try clear c9b1
                        try clear c11
                        try clear c11b0
                        try clear c13
                        try clear c13b0
                        try clear c15
                        try clear c15b0
                        try clear c18
                        try clear c20
                        try clear c20b0
                        try clear c22
                        try clear c22b0
                        try clear c24
                        try clear c24b0
                        try clear c24b1
                        try clear c27
                        try clear c29
                        try clear c30
                        try clear c30b0
                        try clear c32
                        try clear c32b0
                        try clear hcz12_0
                        try clear hcz12_1
                        try clear hcz12_2
                        try clear hcz12_3
                        try clear hcz12_4
                        try clear hcz12_5
                        try clear hcz12_6
                        try clear hcz12_7
                        try clear hcz12_8
                        try clear hcz14_0
                        try clear hcz14_1
                        try clear hcz14_2
                        try clear hcz14_3
                        try clear hcz14_4
                        try clear hcz14_5
                        try clear hcz14_6
                        try clear hcz14_7
                        try clear hcz14_8
                        try clear hcz16_0
                        try clear hcz16_1
                        try clear hcz16_2
                        try clear hcz16_3
                        try clear hcz16_4
                        try clear hcz16_5
                        try clear hcz16_6
                        try clear hcz16_7
                        try clear hcz16_8
                        try clear hcz17_0
                        try clear hcz17_1
                        try clear hcz17_2
                        try clear hcz17_3
                        try clear hcz17_4
                        try clear hcz17_5
                        try clear hcz17_6
                        try clear hcz17_7
                        try clear hcz17_8
                        try clear hcz21_0
                        try clear hcz21_1
                        try clear hcz21_2
                        try clear hcz21_3
                        try clear hcz21_4
                        try clear hcz21_5
                        try clear hcz21_6
                        try clear hcz21_7
                        try clear hcz21_8
                        try clear hcz23_0
                        try clear hcz23_1
                        try clear hcz23_2
                        try clear hcz23_3
                        try clear hcz23_4
                        try clear hcz23_5
                        try clear hcz23_6
                        try clear hcz23_7
                        try clear hcz23_8
                        try clear hcz25_0
                        try clear hcz25_1
                        try clear hcz25_2
                        try clear hcz25_3
                        try clear hcz25_4
                        try clear hcz25_5
                        try clear hcz25_6
                        try clear hcz25_7
                        try clear hcz25_8
                        try clear hcz26_0
                        try clear hcz26_1
                        try clear hcz26_2
                        try clear hcz26_3
                        try clear hcz26_4
                        try clear hcz26_5
                        try clear hcz26_6
                        try clear hcz26_7
                        try clear hcz26_8
                        try clear hcz31_0
                        try clear hcz31_1
                        try clear hcz31_2
                        try clear hcz31_3
                        try clear hcz31_4
                        try clear hcz31_5
                        try clear hcz31_6
                        try clear hcz31_7
                        try clear hcz31_8
                        try clear hcz33_0
                        try clear hcz33_1
                        try clear hcz33_2
                        try clear hcz33_3
                        try clear hcz33_4
                        try clear hcz33_5
                        try clear hcz33_6
                        try clear hcz33_7
                        try clear hcz33_8
                        try clear hcz34_0
                        try clear hcz34_1
                        try clear hcz34_2
                        try clear hcz34_3
                        try clear hcz34_4
                        try clear hcz34_5
                        try clear hcz34_6
                        try clear hcz34_7
                        try clear hcz34_8
                        try clear hcz35_0
                        try clear hcz35_1
                        try clear hcz35_2
                        try clear hcz35_3
                        try clear hcz35_4
                        try clear hcz35_5
                        try clear hcz35_6
                        try clear hcz35_7
                        try clear hcz35_8
                        try clear hcz5_0
                        try clear hcz5_1
                        try clear hcz5_2
                        try clear hcz5_3
                        try clear hcz5_4
                        try clear hcz5_5
                        try clear hcz5_6
                        try clear hcz5_7
                        try clear hcz5_8
                        try clear hcz6_0
                        try clear hcz6_1
                        try clear hcz6_2
                        try clear hcz6_3
                        try clear hcz6_4
                        try clear hcz6_5
                        try clear hcz6_6
                        try clear hcz6_7
                        try clear hcz6_8
                        try clear hcz8_0
                        try clear hcz8_1
                        try clear hcz8_2
                        try clear hcz8_3
                        try clear hcz8_4
                        try clear hcz8_5
                        try clear hcz8_6
                        try clear hcz8_7
                        try clear hcz8_8
                        try clear hfz12_0
                        try clear hfz12_1
                        try clear hfz12_2
                        try clear hfz12_3
                        try clear hfz12_4
                        try clear hfz12_5
                        try clear hfz12_6
                        try clear hfz12_7
                        try clear hfz12_8
                        try clear hfz14_0
                        try clear hfz14_1
                        try clear hfz14_2
                        try clear hfz14_3
                        try clear hfz14_4
                        try clear hfz14_5
                        try clear hfz14_6
                        try clear hfz14_7
                        try clear hfz14_8
                        try clear hfz16_0
                        try clear hfz16_1
                        try clear hfz16_2
                        try clear hfz16_3
                        try clear hfz16_4
                        try clear hfz16_5
                        try clear hfz16_6
                        try clear hfz16_7
                        try clear hfz16_8
                        try clear hfz17_0
                        try clear hfz17_1
                        try clear hfz17_2
                        try clear hfz17_3
                        try clear hfz17_4
                        try clear hfz17_5
                        try clear hfz17_6
                        try clear hfz17_7
                        try clear hfz17_8
                        try clear hfz21_0
                        try clear hfz21_1
                        try clear hfz21_2
                        try clear hfz21_3
                        try clear hfz21_4
                        try clear hfz21_5
                        try clear hfz21_6
                        try clear hfz21_7
                        try clear hfz21_8
                        try clear hfz23_0
                        try clear hfz23_1
                        try clear hfz23_2
                        try clear hfz23_3
                        try clear hfz23_4
                        try clear hfz23_5
                        try clear hfz23_6
                        try clear hfz23_7
                        try clear hfz23_8
                        try clear hfz25_0
                        try clear hfz25_1
                        try clear hfz25_2
                        try clear hfz25_3
                        try clear hfz25_4
                        try clear hfz25_5
                        try clear hfz25_6
                        try clear hfz25_7
                        try clear hfz25_8
                        try clear hfz26_0
                        try clear hfz26_1
                        try clear hfz26_2
                        try clear hfz26_3
                        try clear hfz26_4
                        try clear hfz26_5
                        try clear hfz26_6
                        try clear hfz26_7
                        try clear hfz26_8
                        try clear hfz31_0
                        try clear hfz31_1
                        try clear hfz31_2
                        try clear hfz31_3
                        try clear hfz31_4
                        try clear hfz31_5
                        try clear hfz31_6
                        try clear hfz31_7
                        try clear hfz31_8
                        try clear hfz33_0
                        try clear hfz33_1
                        try clear hfz33_2
                        try clear hfz33_3
                        try clear hfz33_4
                        try clear hfz33_5
                        try clear hfz33_6
                        try clear hfz33_7
                        try clear hfz33_8
                        try clear hfz34_0
                        try clear hfz34_1
                        try clear hfz34_2
                        try clear hfz34_3
                        try clear hfz34_4
                        try clear hfz34_5
                        try clear hfz34_6
                        try clear hfz34_7
                        try clear hfz34_8
                        try clear hfz35_0
                        try clear hfz35_1
                        try clear hfz35_2
                        try clear hfz35_3
                        try clear hfz35_4
                        try clear hfz35_5
                        try clear hfz35_6
                        try clear hfz35_7
                        try clear hfz35_8
                        try clear hfz5_0
                        try clear hfz5_1
                        try clear hfz5_2
                        try clear hfz5_3
                        try clear hfz5_4
                        try clear hfz5_5
                        try clear hfz5_6
                        try clear hfz5_7
                        try clear hfz5_8
                        try clear hfz6_0
                        try clear hfz6_1
                        try clear hfz6_2
                        try clear hfz6_3
                        try clear hfz6_4
                        try clear hfz6_5
                        try clear hfz6_6
                        try clear hfz6_7
                        try clear hfz6_8
                        try clear hfz8_0
                        try clear hfz8_1
                        try clear hfz8_2
                        try clear hfz8_3
                        try clear hfz8_4
                        try clear hfz8_5
                        try clear hfz8_6
                        try clear hfz8_7
                        try clear hfz8_8
                        try clear p2
                        obtain ⟨kq, x57_27, rfl, HA, HJ27, BK182, HB⟩ := hcut
                        cases kq with
                        | zero => exact absurd HA.out (by simp [vokref10_Rec_May.j4])
                        | succ kj27 =>
                          have H := HA.out
                          clear HA
                          simp only [vokref10_Rec_May.j4] at H
                          by_cases c36 : x57_27 = true
                          · subst c36
                            have H1 : (some false) = some r := by rw [if_pos rfl] at H; exact H
                            clear H
                            have H := H1
                            clear H1
                            obtain rfl := Option.some.inj H
                            go_wp2
                            go_ret
                            exact ⟨by first | rfl | (simp [errW_none, errW_some] <;> rfl) | (simp [*, errW_none, errW_some] <;> rfl), by repeat (first | (with_reducible first | exact HB.out | apply below_alloc | apply pw_below_drewN | apply below_drew1 | refine below_set ?_ GE182.out) | exact HB.out)⟩
                          · replace c36 := Bool.eq_false_iff.mpr c36
                            subst c36
                            have H1 : (if a0_4 < 0 then (vokref10_Rec_May.j5 kj27 x3_1 true a0_0 a0_1 a0_2 a0_3 a0_4 a0_5 l0_6 l0_7 l0_8) else (if a0_4 > 1099511627776 then (vokref10_Rec_May.j5 kj27 x3_1 true a0_0 a0_1 a0_2 a0_3 a0_4 a0_5 l0_6 l0_7 l0_8) else (if x3_1 = true then (vokref10_Rec_May.j5 kj27 x3_1 ((a0_4 != 0) != (a0_3 != 1)) a0_0 a0_1 a0_2 a0_3 a0_4 a0_5 l0_6 l0_7 l0_8) else (vokref10_Rec_May.j5 kj27 x3_1 ((a0_4 != 0) != false) a0_0 a0_1 a0_2 a0_3 a0_4 a0_5 l0_6 l0_7 l0_8)))) = some r := by rw [if_neg (show ¬ (false = true) by decide)] at H; exact H
                            clear H
                            have H := H1
                            clear H1
                            have HC37 := Aside0.mk H
                            clear H
                            go_upto_region 11 with (fail)
                            go_cut [78] (fun v78 wc => ∃ (kq : Nat) (x78_36 : Bool), v78 = .bool x78_36 ∧ Aside0 (vokref10_Rec_May.j5 kq x3_1 x78_36 a0_0 a0_1 a0_2 a0_3 a0_4 a0_5 l0_6 l0_7 l0_8 = some r) ∧ Aside0 (kq ≤ kj27) ∧ Aside0 (wc.heap[gb182]? = some (.cells #[.int .i64 a0_0, .int .i64 a0_1, .int .i64 a0_2, .int .i64 a0_3, .int .i64 a0_4, .bool a0_5, (.slice A0_6 l0_6.length c0_6), (.slice A0_7 l0_7.length c0_7), (.slice A0_8 l0_8.length c0_8)] 53 (0, 0))) ∧ Aside0 (Below w.heap.size w wc))
                            case first =>
                              have H := HC37.out
                              clear HC37
                              by_cases c38 : a0_4 < 0
                              · rw [if_pos c38] at H
                                have c38b0 : decide (a0_4 < 0) = true := decide_eq_true c38
                                clear c38
                                (first | rw [c38b0] | (simp only [i64_w, i32_w]; rw [c38b0]) | skip)
                                have H' := Aside0.mk H
                                clear H
                                have hcz39_0 : wc.cell? ⟨gb182, 0, none⟩ = some (.int .i64 a0_0) := (blk_cell BK182.out 0).trans rfl
                                have hcz39_1 : wc.cell? ⟨gb182, 1, none⟩ = some (.int .i64 a0_1) := (blk_cell BK182.out 1).trans rfl
                                have hcz39_2 : wc.cell? ⟨gb182, 2, none⟩ = some (.int .i64 a0_2) := (blk_cell BK182.out 2).trans rfl
                                have hcz39_3 : wc.cell? ⟨gb182, 3, none⟩ = some (.int .i64 a0_3) := (blk_cell BK182.out 3).trans rfl
                                have hcz39_4 : wc.cell? ⟨gb182, 4, none⟩ = some (.int .i64 a0_4) := (blk_cell BK182.out 4).trans rfl
                                have hcz39_5 : wc.cell? ⟨gb182, 5, none⟩ = some (.bool a0_5) := (blk_cell BK182.out 5).trans rfl
                                have hcz39_6 : wc.cell? ⟨gb182, 6, none⟩ = some (.slice A0_6 l0_6.length c0_6) := (blk_cell BK182.out 6).trans rfl
                                have hcz39_7 : wc.cell? ⟨gb182, 7, none⟩ = some (.slice A0_7 l0_7.length c0_7) := (blk_cell BK182.out 7).trans rfl
                                have hcz39_8 : wc.cell? ⟨gb182, 8, none⟩ = some (.slice A0_8 l0_8.length c0_8) := (blk_cell BK182.out 8).trans rfl
                                have hfz39_0 := blk_frozen BK182.out 0
                                have hfz39_1 := blk_frozen BK182.out 1
                                have hfz39_2 := blk_frozen BK182.out 2
                                have hfz39_3 := blk_frozen BK182.out 3
                                have hfz39_4 := blk_frozen BK182.out 4
                                have hfz39_5 := blk_frozen BK182.out 5
                                have hfz39_6 := blk_frozen BK182.out 6
                                have hfz39_7 := blk_frozen BK182.out 7
                                have hfz39_8 := blk_frozen BK182.out 8
                                go_wp2
                                go_meet
                                case rel => exact ⟨_, (true), (by first | rfl | (simp; done) | (simp [*]; done)), H', ⟨by have := HJ1.out; have := HJ6.out; have := HJ9.out; have := HJ18.out; have := HJ27.out; first | omega | exact Nat.le_refl _⟩, ⟨by (with_reducible repeat (first | refine blk_drewN ?_ _ | refine blk_drew ?_ | refine blk_alloc ?_ _)); exact BK182.out⟩, ⟨by repeat (first | (with_reducible first | exact HB.out | apply below_alloc | apply pw_below_drewN | apply below_drew1 | refine below_set ?_ GE182.out) | exact HB.out)⟩⟩
                              · rw [if_neg c38] at H
                                have c38b0 : decide (a0_4 < 0) = false := decide_eq_false c38
                                clear c38
                                (first | rw [c38b0] | (simp only [i64_w, i32_w]; rw [c38b0]) | skip)
                                by_cases c40 : a0_4 > 1099511627776
                                · rw [if_pos c40] at H
                                  have c40b0 : decide (1099511627776 < a0_4) = true := decide_eq_true c40
                                  clear c40
                                  have H' := Aside0.mk H
                                  clear H
                                  have hcz41_0 : wc.cell? ⟨gb182, 0, none⟩ = some (.int .i64 a0_0) := (blk_cell BK182.out 0).trans rfl
                                  have hcz41_1 : wc.cell? ⟨gb182, 1, none⟩ = some (.int .i64 a0_1) := (blk_cell BK182.out 1).trans rfl
                                  have hcz41_2 : wc.cell? ⟨gb182, 2, none⟩ = some (.int .i64 a0_2) := (blk_cell BK182.out 2).trans rfl
                                  have hcz41_3 : wc.cell? ⟨gb182, 3, none⟩ = some (.int .i64 a0_3) := (blk_cell BK182.out 3).trans rfl
                                  have hcz41_4 : wc.cell? ⟨gb182, 4, none⟩ = some (.int .i64 a0_4) := (blk_cell BK182.out 4).trans rfl
                                  have hcz41_5 : wc.cell? ⟨gb182, 5, none⟩ = some (.bool a0_5) := (blk_cell BK182.out 5).trans rfl
                                  have hcz41_6 : wc.cell? ⟨gb182, 6, none⟩ = some (.slice A0_6 l0_6.length c0_6) := (blk_cell BK182.out 6).trans rfl
                                  have hcz41_7 : wc.cell? ⟨gb182, 7, none⟩ = some (.slice A0_7 l0_7.length c0_7) := (blk_cell BK182.out 7).trans rfl
                                  have hcz41_8 : wc.cell? ⟨gb182, 8, none⟩ = some (.slice A0_8 l0_8.length c0_8) := (blk_cell BK182.out 8).trans rfl
                                  have hfz41_0 := blk_frozen BK182.out 0
                                  have hfz41_1 := blk_frozen BK182.out 1
                                  have hfz41_2 := blk_frozen BK182.out 2
                                  have hfz41_3 := blk_frozen BK182.out 3
                                  have hfz41_4 := blk_frozen BK182.out 4
                                  have hfz41_5 := blk_frozen BK182.out 5
                                  have hfz41_6 := blk_frozen BK182.out 6
                                  have hfz41_7 := blk_frozen BK182.out 7
                                  have hfz41_8 := blk_frozen BK182.out 8
                                  go_wp2
                                  go_meet
                                  case rel => exact ⟨_, (true), (by first | rfl | (simp; done) | (simp [*]; done)), H', ⟨by have := HJ1.out; have := HJ6.out; have := HJ9.out; have := HJ18.out; have := HJ27.out; first | omega | exact Nat.le_refl _⟩, ⟨by (with_reducible repeat (first | refine blk_drewN ?_ _ | refine blk_drew ?_ | refine blk_alloc ?_ _)); exact BK182.out⟩, ⟨by repeat (first | (with_reducible first | exact HB.out | apply below_alloc | apply pw_below_drewN | apply below_drew1 | refine below_set ?_ GE182.out) | exact HB.out)⟩⟩
                                · rw [if_neg c40] at H
                                  have c40b0 : decide (1099511627776 < a0_4) = false := decide_eq_false c40
                                  clear c40
                                  by_cases c42 : x3_1 = true
                                  · subst c42
                                    have H1 : (vokref10_Rec_May.j5 kj27 true ((a0_4 != 0) != (a0_3 != 1)) a0_0 a0_1 a0_2 a0_3 a0_4 a0_5 l0_6 l0_7 l0_8) = some r := by rw [if_pos rfl] at H; exact H
                                    clear H
                                    have H := H1
                                    clear H1
                                    have H' := Aside0.mk H
                                    clear H
                                    have hcz43_0 : wc.cell? ⟨gb182, 0, none⟩ = some (.int .i64 a0_0) := (blk_cell BK182.out 0).trans rfl
                                    have hcz43_1 : wc.cell? ⟨gb182, 1, none⟩ = some (.int .i64 a0_1) := (blk_cell BK182.out 1).trans rfl
                                    have hcz43_2 : wc.cell? ⟨gb182, 2, none⟩ = some (.int .i64 a0_2) := (blk_cell BK182.out 2).trans rfl
                                    have hcz43_3 : wc.cell? ⟨gb182, 3, none⟩ = some (.int .i64 a0_3) := (blk_cell BK182.out 3).trans rfl
                                    have hcz43_4 : wc.cell? ⟨gb182, 4, none⟩ = some (.int .i64 a0_4) := (blk_cell BK182.out 4).trans rfl
                                    have hcz43_5 : wc.cell? ⟨gb182, 5, none⟩ = some (.bool a0_5) := (blk_cell BK182.out 5).trans rfl
                                    have hcz43_6 : wc.cell? ⟨gb182, 6, none⟩ = some (.slice A0_6 l0_6.length c0_6) := (blk_cell BK182.out 6).trans rfl
                                    have hcz43_7 : wc.cell? ⟨gb182, 7, none⟩ = some (.slice A0_7 l0_7.length c0_7) := (blk_cell BK182.out 7).trans rfl
                                    have hcz43_8 : wc.cell? ⟨gb182, 8, none⟩ = some (.slice A0_8 l0_8.length c0_8) := (blk_cell BK182.out 8).trans rfl
                                    have hfz43_0 := blk_frozen BK182.out 0
                                    have hfz43_1 := blk_frozen BK182.out 1
                                    have hfz43_2 := blk_frozen BK182.out 2
                                    have hfz43_3 := blk_frozen BK182.out 3
                                    have hfz43_4 := blk_frozen BK182.out 4
                                    have hfz43_5 := blk_frozen BK182.out 5
                                    have hfz43_6 := blk_frozen BK182.out 6
                                    have hfz43_7 := blk_frozen BK182.out 7
                                    have hfz43_8 := blk_frozen BK182.out 8
                                    go_wp2
                                    go_meet
                                    case rel => exact ⟨_, (((a0_4 != 0) != (a0_3 != 1))), (by first | rfl | (simp; done) | (simp [*]; done)), H', ⟨by have := HJ1.out; have := HJ6.out; have := HJ9.out; have := HJ18.out; have := HJ27.out; first | omega | exact Nat.le_refl _⟩, ⟨by (with_reducible repeat (first | refine blk_drewN ?_ _ | refine blk_drew ?_ | refine blk_alloc ?_ _)); exact BK182.out⟩, ⟨by repeat (first | (with_reducible first | exact HB.out | apply below_alloc | apply pw_below_drewN | apply below_drew1 | refine below_set ?_ GE182.out) | exact HB.out)⟩⟩
                                  · replace c42 := Bool.eq_false_iff.mpr c42
                                    subst c42
                                    have H1 : (vokref10_Rec_May.j5 kj27 false ((a0_4 != 0) != false) a0_0 a0_1 a0_2 a0_3 a0_4 a0_5 l0_6 l0_7 l0_8) = some r := by rw [if_neg (show ¬ (false = true) by decide)] at H; exact H
                                    clear H
                                    have H := H1
                                    clear H1
                                    have H' := Aside0.mk H
                                    clear H
                                    have hcz44_0 : wc.cell? ⟨gb182, 0, none⟩ = some (.int .i64 a0_0) := (blk_cell BK182.out 0).trans rfl
                                    have hcz44_1 : wc.cell? ⟨gb182, 1, none⟩ = some (.int .i64 a0_1) := (blk_cell BK182.out 1).trans rfl
                                    have hcz44_2 : wc.cell? ⟨gb182, 2, none⟩ = some (.int .i64 a0_2) := (blk_cell BK182.out 2).trans rfl
                                    have hcz44_3 : wc.cell? ⟨gb182, 3, none⟩ = some (.int .i64 a0_3) := (blk_cell BK182.out 3).trans rfl
                                    have hcz44_4 : wc.cell? ⟨gb182, 4, none⟩ = some (.int .i64 a0_4) := (blk_cell BK182.out 4).trans rfl
                                    have hcz44_5 : wc.cell? ⟨gb182, 5, none⟩ = some (.bool a0_5) := (blk_cell BK182.out 5).trans rfl
                                    have hcz44_6 : wc.cell? ⟨gb182, 6, none⟩ = some (.slice A0_6 l0_6.length c0_6) := (blk_cell BK182.out 6).trans rfl
                                    have hcz44_7 : wc.cell? ⟨gb182, 7, none⟩ = some (.slice A0_7 l0_7.length c0_7) := (blk_cell BK182.out 7).trans rfl
                                    have hcz44_8 : wc.cell? ⟨gb182, 8, none⟩ = some (.slice A0_8 l0_8.length c0_8) := (blk_cell BK182.out 8).trans rfl
                                    have hfz44_0 := blk_frozen BK182.out 0
                                    have hfz44_1 := blk_frozen BK182.out 1
                                    have hfz44_2 := blk_frozen BK182.out 2
                                    have hfz44_3 := blk_frozen BK182.out 3
                                    have hfz44_4 := blk_frozen BK182.out 4
                                    have hfz44_5 := blk_frozen BK182.out 5
                                    have hfz44_6 := blk_frozen BK182.out 6
                                    have hfz44_7 := blk_frozen BK182.out 7
                                    have hfz44_8 := blk_frozen BK182.out 8
                                    go_wp2
                                    go_meet
                                    case rel => exact ⟨_, (((a0_4 != 0) != false)), (by first | rfl | (simp; done) | (simp [*]; done)), H', ⟨by have := HJ1.out; have := HJ6.out; have := HJ9.out; have := HJ18.out; have := HJ27.out; first | omega | exact Nat.le_refl _⟩, ⟨by (with_reducible repeat (first | refine blk_drewN ?_ _ | refine blk_drew ?_ | refine blk_alloc ?_ _)); exact BK182.out⟩, ⟨by repeat (first | (with_reducible first | exact HB.out | apply below_alloc | apply pw_below_drewN | apply below_drew1 | refine below_set ?_ GE182.out) | exact HB.out)⟩⟩
                            case rest =>
                              clear HC37
                              try clear c1
                              try clear c2
                              try clear p2
                              try clear c3
                              try clear c4
                              try clear c4b0
                              try clear c4b1
                              try clear c9
                              try clear c9b0
                              try clear c9b1
                              try clear c11
                              try clear c11b0
                              try clear c13
                              try clear c13b0
                              try clear c15
                              try clear c15b0
                              try clear c18
                              try clear c20
                              try clear c20b0
                              try clear c22
                              try clear c22b0
                              try clear c24
                              try clear c24b0
                              try clear c24b1
                              try clear c27
                              try clear c29
                              try clear c30
                              try clear c30b0
                              try clear c32
                              try clear c32b0
                              try clear c36
                              try clear c38
                              try clear c38b0
                              try clear c40
                              try clear c40b0
                              try clear c42
                              try clear hcz12_0
                              try clear hcz12_1
                              try clear hcz12_2
                              try clear hcz12_3
                              try clear hcz12_4
                              try clear hcz12_5
                              try clear hcz12_6
                              try clear hcz12_7
                              try clear hcz12_8
                              try clear hcz14_0
                              try clear hcz14_1
                              try clear hcz14_2
                              try clear hcz14_3
                              try clear hcz14_4
                              try clear hcz14_5
                              try clear hcz14_6
                              try clear hcz14_7
                              try clear hcz14_8
                              try clear hcz16_0
                              try clear hcz16_1
                              try clear hcz16_2
                              try clear hcz16_3
                              try clear hcz16_4
                              try clear hcz16_5
                              try clear hcz16_6
                              try clear hcz16_7
                              try clear hcz16_8
                              try clear hcz17_0
                              try clear hcz17_1
                              try clear hcz17_2
                              try clear hcz17_3
                              try clear hcz17_4
                              try clear hcz17_5
                              try clear hcz17_6
                              try clear hcz17_7
                              try clear hcz17_8
                              try clear hcz21_0
                              try clear hcz21_1
                              try clear hcz21_2
                              try clear hcz21_3
                              try clear hcz21_4
                              try clear hcz21_5
                              try clear hcz21_6
                              try clear hcz21_7
                              try clear hcz21_8
                              try clear hcz23_0
                              try clear hcz23_1
                              try clear hcz23_2
                              try clear hcz23_3
                              try clear hcz23_4
                              try clear hcz23_5
                              try clear hcz23_6
                              try clear hcz23_7
                              try clear hcz23_8
                              try clear hcz25_0
                              try clear hcz25_1
                              try clear hcz25_2
                              try clear hcz25_3
                              try clear hcz25_4
                              try clear hcz25_5
                              try clear hcz25_6
                              try clear hcz25_7
                              try clear hcz25_8
                              try clear hcz26_0
                              try clear hcz26_1
                              try clear hcz26_2
                              try clear hcz26_3
                              try clear hcz26_4
                              try clear hcz26_5
                              try clear hcz26_6
                              try clear hcz26_7
                              try clear hcz26_8
                              try clear hcz31_0
                              try clear hcz31_1
                              try clear hcz31_2
                              try clear hcz31_3
                              try clear hcz31_4
                              try clear hcz31_5
                              try clear hcz31_6
                              try clear hcz31_7
                              try clear hcz31_8
                              try clear hcz33_0
                              try clear hcz33_1
                              try clear hcz33_2
                              try clear hcz33_3
                              try clear hcz33_4
                              try clear hcz33_5
                              try clear hcz33_6
                              try clear hcz33_7
                              try clear hcz33_8
                              try clear hcz34_0
                              try clear hcz34_1
                              try clear hcz34_2
                              try clear hcz34_3
                              try clear hcz34_4
                              try clear hcz34_5
                              try clear hcz34_6
                              try clear hcz34_7
                              try clear hcz34_8
                              try clear hcz35_0
                              try clear hcz35_1
                              try clear hcz35_2
                              try clear hcz35_3
                              try clear hcz35_4
                              try clear hcz35_5
                              try clear hcz35_6
                              try clear hcz35_7
                              try clear hcz35_8
                              try clear hcz39_0
                              try clear hcz39_1
                              try clear hcz39_2
                              try clear hcz39_3
                              try clear hcz39_4
                              try clear hcz39_5
                              try clear hcz39_6
                              try clear hcz39_7
                              try clear hcz39_8
                              try clear hcz41_0
                              try clear hcz41_1
                              try clear hcz41_2
                              try clear hcz41_3
                              try clear hcz41_4
                              try clear hcz41_5
                              try clear hcz41_6
                              try clear hcz41_7
                              try clear hcz41_8
                              try clear hcz43_0
                              try clear hcz43_1
                              try clear hcz43_2
                              try clear hcz43_3
                              try clear hcz43_4
                              try clear hcz43_5
                              try clear hcz43_6
                              try clear hcz43_7
                              try clear hcz43_8
                              try clear hcz44_0
                              try clear hcz44_1
                              try clear hcz44_2
                              try clear hcz44_3
                              try clear hcz44_4
                              try clear hcz44_5
                              try clear hcz44_6
                              try clear hcz44_7
                              try clear hcz44_8
                              try clear hcz5_0
                              try clear hcz5_1
                              try clear hcz5_2
                              try clear hcz5_3
                              try clear hcz5_4
                              try clear hcz5_5
                              try clear hcz5_6
                              try clear hcz5_7
                              try clear hcz5_8
                              try clear hcz6_0
                              try clear hcz6_1
                              try clear hcz6_2
                              try clear hcz6_3
                              try clear hcz6_4
                              try clear hcz6_5
                              try clear hcz6_6
                              try clear hcz6_7
                              try clear hcz6_8
                              try clear hcz8_0
                              try clear hcz8_1
                              try clear hcz8_2
                              try clear hcz8_3
                              try clear hcz8_4
                              try clear hcz8_5
                              try clear hcz8_6
                              try clear hcz8_7
                              try clear hcz8_8
                              try clear hfz12_0
                              try clear hfz12_1
                              try clear hfz12_2
                              try clear hfz12_3
                              try clear hfz12_4
                              try clear hfz12_5
                              try clear hfz12_6
                              try clear hfz12_7
                              try clear hfz12_8
                              try clear hfz14_0
                              try clear hfz14_1
                              try clear hfz14_2
                              try clear hfz14_3
                              try clear hfz14_4
                              try clear hfz14_5
                              try clear hfz14_6
                              try clear hfz14_7
                              try clear hfz14_8
                              try clear hfz16_0
                              try clear hfz16_1
                              try clear hfz16_2
                              try clear hfz16_3
                              try clear hfz16_4
                              try clear hfz16_5
                              try clear hfz16_6
                              try clear hfz16_7
                              try clear hfz16_8
                              try clear hfz17_0
                              try clear hfz17_1
                              try clear hfz17_2
                              try clear hfz17_3
                              try clear hfz17_4
                              try clear hfz17_5
                              try clear hfz17_6
                              try clear hfz17_7
                              try clear hfz17_8
                              try clear hfz21_0
                              try clear hfz21_1
                              try clear hfz21_2
                              try clear hfz21_3
                              try clear hfz21_4
                              try clear hfz21_5
                              try clear hfz21_6
                              try clear hfz21_7
                              try clear hfz21_8
                              try clear hfz23_0
                              try clear hfz23_1
                              try clear hfz23_2
                              try clear hfz23_3
                              try clear hfz23_4
                              try clear hfz23_5
                              try clear hfz23_6
                              try clear hfz23_7
                              try clear hfz23_8
                              try clear hfz25_0
                              try clear hfz25_1
                              try clear hfz25_2
                              try clear hfz25_3
                              try clear hfz25_4
                              try clear hfz25_5
                              try clear hfz25_6
                              try clear hfz25_7
                              try clear hfz25_8
                              try clear hfz26_0
                              try clear hfz26_1
                              try clear hfz26_2
                              try clear hfz26_3
                              try clear hfz26_4
                              try clear hfz26_5
                              try clear hfz26_6
                              try clear hfz26_7
                              try clear hfz26_8
                              try clear hfz31_0
                              try clear hfz31_1
                              try clear hfz31_2
                              try clear hfz31_3
                              try clear hfz31_4
                              try clear hfz31_5
                              try clear hfz31_6
                              try clear hfz31_7
                              try clear hfz31_8
                              try clear hfz33_0
                              try clear hfz33_1
                              try clear hfz33_2
                              try clear hfz33_3
                              try clear hfz33_4
                              try clear hfz33_5
                              try clear hfz33_6
                              try clear hfz33_7
                              try clear hfz33_8
                              try clear hfz34_0
                              try clear hfz34_1
                              try clear hfz34_2
                              try clear hfz34_3
                              try clear hfz34_4
                              try clear hfz34_5
                              try clear hfz34_6
                              try clear hfz34_7
                              try clear hfz34_8
                              try clear hfz35_0
                              try clear hfz35_1
                              try clear hfz35_2
                              try clear hfz35_3
                              try clear hfz35_4
                              try clear hfz35_5
                              try clear hfz35_6
                              try clear hfz35_7
                              try clear hfz35_8
                              try clear hfz39_0
                              try clear hfz39_1
                              try clear hfz39_2
                              try clear hfz39_3
                              try clear hfz39_4
                              try clear hfz39_5
                              try clear hfz39_6
                              try clear hfz39_7
                              try clear hfz39_8
                              try clear hfz41_0
                              try clear hfz41_1
                              try clear hfz41_2
                              try clear hfz41_3
                              try clear hfz41_4
                              try clear hfz41_5
                              try clear hfz41_6
                              try clear hfz41_7
                              try clear hfz41_8
                              try clear hfz43_0
                              try clear hfz43_1
                              try clear hfz43_2
                              try clear hfz43_3
                              try clear hfz43_4
                              try clear hfz43_5
                              try clear hfz43_6
                              try clear hfz43_7
                              try clear hfz43_8
                              try clear hfz44_0
                              try clear hfz44_1
                              try clear hfz44_2
                              try clear hfz44_3
                              try clear hfz44_4
                              try clear hfz44_5
                              try clear hfz44_6
                              try clear hfz44_7
                              try clear hfz44_8
                              try clear hfz5_0
                              try clear hfz5_1
                              try clear hfz5_2
                              try clear hfz5_3
                              try clear hfz5_4
                              try clear hfz5_5
                              try clear hfz5_6
                              try clear hfz5_7
                              try clear hfz5_8
                              try clear hfz6_0
                              try clear hfz6_1
                              try clear hfz6_2
                              try clear hfz6_3
                              try clear hfz6_4
                              try clear hfz6_5
                              try clear hfz6_6
                              try clear hfz6_7
                              try clear hfz6_8
                              try clear hfz8_0
                              try clear hfz8_1
                              try clear hfz8_2
                              try clear hfz8_3
                              try clear hfz8_4
                              try clear hfz8_5
                              try clear hfz8_6
                              try clear hfz8_7
                              try clear hfz8_8
                              try clear p2
                              obtain ⟨kq, x78_36, rfl, HA, HJ36, BK182, HB⟩ := hcut
                              cases kq with
                              | zero => exact absurd HA.out (by simp [vokref10_Rec_May.j5])
                              | succ kj36 =>
                                have H := HA.out
                                clear HA
                                simp only [vokref10_Rec_May.j5] at H
                                by_cases c45 : x78_36 = true
                                · subst c45
                                  have H1 : (some false) = some r := by rw [if_pos rfl] at H; exact H
                                  clear H
                                  have H := H1
                                  clear H1
                                  obtain rfl := Option.some.inj H
                                  go_wp2
                                  go_ret
                                  exact ⟨by first | rfl | (simp [errW_none, errW_some] <;> rfl) | (simp [*, errW_none, errW_some] <;> rfl), by repeat (first | (with_reducible first | exact HB.out | apply below_alloc | apply pw_below_drewN | apply below_drew1 | refine below_set ?_ GE182.out) | exact HB.out)⟩
                                · replace c45 := Bool.eq_false_iff.mpr c45
                                  subst c45
                                  have H1 : (if a0_5 = true then (vokref10_Rec_May.j6 kj36 x3_1 (a0_0 != 4) a0_0 a0_1 a0_2 a0_3 a0_4 a0_5 l0_6 l0_7 l0_8) else (vokref10_Rec_May.j6 kj36 x3_1 false a0_0 a0_1 a0_2 a0_3 a0_4 a0_5 l0_6 l0_7 l0_8)) = some r := by rw [if_neg (show ¬ (false = true) by decide)] at H; exact H
                                  clear H
                                  have H := H1
                                  clear H1
                                  have HC46 := Aside0.mk H
                                  clear H
                                  go_upto_region 13 with (fail)
                                  go_cut [99] (fun v99 wc => ∃ (kq : Nat) (x99_45 : Bool), v99 = .bool x99_45 ∧ Aside0 (vokref10_Rec_May.j6 kq x3_1 x99_45 a0_0 a0_1 a0_2 a0_3 a0_4 a0_5 l0_6 l0_7 l0_8 = some r) ∧ Aside0 (kq ≤ kj36) ∧ Aside0 (wc.heap[gb182]? = some (.cells #[.int .i64 a0_0, .int .i64 a0_1, .int .i64 a0_2, .int .i64 a0_3, .int .i64 a0_4, .bool a0_5, (.slice A0_6 l0_6.length c0_6), (.slice A0_7 l0_7.length c0_7), (.slice A0_8 l0_8.length c0_8)] 53 (0, 0))) ∧ Aside0 (Below w.heap.size w wc))
                                  case first =>
                                    have H := HC46.out
                                    clear HC46
                                    by_cases c47 : a0_5 = true
                                    · subst c47
                                      have H1 : (vokref10_Rec_May.j6 kj36 x3_1 (a0_0 != 4) a0_0 a0_1 a0_2 a0_3 a0_4 true l0_6 l0_7 l0_8) = some r := by rw [if_pos rfl] at H; exact H
                                      clear H
                                      have H := H1
                                      clear H1
                                      have H' := Aside0.mk H
                                      clear H
                                      have hcz48_0 : wc.cell? ⟨gb182, 0, none⟩ = some (.int .i64 a0_0) := (blk_cell BK182.out 0).trans rfl
                                      have hcz48_1 : wc.cell? ⟨gb182, 1, none⟩ = some (.int .i64 a0_1) := (blk_cell BK182.out 1).trans rfl
                                      have hcz48_2 : wc.cell? ⟨gb182, 2, none⟩ = some (.int .i64 a0_2) := (blk_cell BK182.out 2).trans rfl
                                      have hcz48_3 : wc.cell? ⟨gb182, 3, none⟩ = some (.int .i64 a0_3) := (blk_cell BK182.out 3).trans rfl
                                      have hcz48_4 : wc.cell? ⟨gb182, 4, none⟩ = some (.int .i64 a0_4) := (blk_cell BK182.out 4).trans rfl
                                      have hcz48_5 : wc.cell? ⟨gb182, 5, none⟩ = some (.bool true) := (blk_cell BK182.out 5).trans rfl
                                      have hcz48_6 : wc.cell? ⟨gb182, 6, none⟩ = some (.slice A0_6 l0_6.length c0_6) := (blk_cell BK182.out 6).trans rfl
                                      have hcz48_7 : wc.cell? ⟨gb182, 7, none⟩ = some (.slice A0_7 l0_7.length c0_7) := (blk_cell BK182.out 7).trans rfl
                                      have hcz48_8 : wc.cell? ⟨gb182, 8, none⟩ = some (.slice A0_8 l0_8.length c0_8) := (blk_cell BK182.out 8).trans rfl
                                      have hfz48_0 := blk_frozen BK182.out 0
                                      have hfz48_1 := blk_frozen BK182.out 1
                                      have hfz48_2 := blk_frozen BK182.out 2
                                      have hfz48_3 := blk_frozen BK182.out 3
                                      have hfz48_4 := blk_frozen BK182.out 4
                                      have hfz48_5 := blk_frozen BK182.out 5
                                      have hfz48_6 := blk_frozen BK182.out 6
                                      have hfz48_7 := blk_frozen BK182.out 7
                                      have hfz48_8 := blk_frozen BK182.out 8
                                      go_wp2
                                      go_meet
                                      case rel => exact ⟨_, ((a0_0 != 4)), (by first | rfl | (simp; done) | (simp [*]; done)), H', ⟨by have := HJ1.out; have := HJ6.out; have := HJ9.out; have := HJ18.out; have := HJ27.out; have := HJ36.out; first | omega | exact Nat.le_refl _⟩, ⟨by (with_reducible repeat (first | refine blk_drewN ?_ _ | refine blk_drew ?_ | refine blk_alloc ?_ _)); exact BK182.out⟩, ⟨by repeat (first | (with_reducible first | exact HB.out | apply below_alloc | apply pw_below_drewN | apply below_drew1 | refine below_set ?_ GE182.out) | exact HB.out)⟩⟩
                                    · replace c47 := Bool.eq_false_iff.mpr c47
                                      subst c47
                                      have H1 : (vokref10_Rec_May.j6 kj36 x3_1 false a0_0 a0_1 a0_2 a0_3 a0_4 false l0_6 l0_7 l0_8) = some r := by rw [if_neg (show ¬ (false = true) by decide)] at H; exact H
                                      clear H
                                      have H := H1
                                      clear H1
                                      have H' := Aside0.mk H
                                      clear H
                                      have hcz49_0 : wc.cell? ⟨gb182, 0, none⟩ = some (.int .i64 a0_0) := (blk_cell BK182.out 0).trans rfl
                                      have hcz49_1 : wc.cell? ⟨gb182, 1, none⟩ = some (.int .i64 a0_1) := (blk_cell BK182.out 1).trans rfl
                                      have hcz49_2 : wc.cell? ⟨gb182, 2, none⟩ = some (.int .i64 a0_2) := (blk_cell BK182.out 2).trans rfl
                                      have hcz49_3 : wc.cell? ⟨gb182, 3, none⟩ = some (.int .i64 a0_3) := (blk_cell BK182.out 3).trans rfl
                                      have hcz49_4 : wc.cell? ⟨gb182, 4, none⟩ = some (.int .i64 a0_4) := (blk_cell BK182.out 4).trans rfl
                                      have hcz49_5 : wc.cell? ⟨gb182, 5, none⟩ = some (.bool false) := (blk_cell BK182.out 5).trans rfl
                                      have hcz49_6 : wc.cell? ⟨gb182, 6, none⟩ = some (.slice A0_6 l0_6.length c0_6) := (blk_cell BK182.out 6).trans rfl
                                      have hcz49_7 : wc.cell? ⟨gb182, 7, none⟩ = some (.slice A0_7 l0_7.length c0_7) := (blk_cell BK182.out 7).trans rfl
                                      have hcz49_8 : wc.cell? ⟨gb182, 8, none⟩ = some (.slice A0_8 l0_8.length c0_8) := (blk_cell BK182.out 8).trans rfl
                                      have hfz49_0 := blk_frozen BK182.out 0
                                      have hfz49_1 := blk_frozen BK182.out 1
                                      have hfz49_2 := blk_frozen BK182.out 2
                                      have hfz49_3 := blk_frozen BK182.out 3
                                      have hfz49_4 := blk_frozen BK182.out 4
                                      have hfz49_5 := blk_frozen BK182.out 5
                                      have hfz49_6 := blk_frozen BK182.out 6
                                      have hfz49_7 := blk_frozen BK182.out 7
                                      have hfz49_8 := blk_frozen BK182.out 8
                                      go_wp2
                                      go_meet
                                      case rel => exact ⟨_, (false), (by first | rfl | (simp; done) | (simp [*]; done)), H', ⟨by have := HJ1.out; have := HJ6.out; have := HJ9.out; have := HJ18.out; have := HJ27.out; have := HJ36.out; first | omega | exact Nat.le_refl _⟩, ⟨by (with_reducible repeat (first | refine blk_drewN ?_ _ | refine blk_drew ?_ | refine blk_alloc ?_ _)); exact BK182.out⟩, ⟨by repeat (first | (with_reducible first | exact HB.out | apply below_alloc | apply pw_below_drewN | apply below_drew1 | refine below_set ?_ GE182.out) | exact HB.out)⟩⟩
                                  case rest =>
                                    clear HC46
                                    try clear c1
                                    try clear c2
                                    try clear p2
                                    try clear c3
                                    try clear c4
                                    try clear c4b0
                                    try clear c4b1
                                    try clear c9
                                    try clear c9b0
                                    try clear c9b1
                                    try clear c11
                                    try clear c11b0
                                    try clear c13
                                    try clear c13b0
                                    try clear c15
                                    try clear c15b0
                                    try clear c18
                                    try clear c20
                                    try clear c20b0
                                    try clear c22
                                    try clear c22b0
                                    try clear c24
                                    try clear c24b0
                                    try clear c24b1
                                    try clear c27
                                    try clear c29
                                    try clear c30
                                    try clear c30b0
                                    try clear c32
                                    try clear c32b0
                                    try clear c36
                                    try clear c38
                                    try clear c38b0
                                    try clear c40
                                    try clear c40b0
                                    try clear c42
                                    try clear c45
                                    try clear c47
                                    try clear hcz12_0
                                    try clear hcz12_1
                                    try clear hcz12_2
                                    try clear hcz12_3
                                    try clear hcz12_4
                                    try clear hcz12_5
                                    try clear hcz12_6
                                    try clear hcz12_7
                                    try clear hcz12_8
                                    try clear hcz14_0
                                    try clear hcz14_1
                                    try clear hcz14_2
                                    try clear hcz14_3
                                    try clear hcz14_4
                                    try clear hcz14_5
                                    try clear hcz14_6
                                    try clear hcz14_7
                                    try clear hcz14_8
                                    try clear hcz16_0
                                    try clear hcz16_1
                                    try clear hcz16_2
                                    try clear hcz16_3
                                    try clear hcz16_4
                                    try clear hcz16_5
                                    try clear hcz16_6
                                    try clear hcz16_7
                                    try clear hcz16_8
                                    try clear hcz17_0
                                    try clear hcz17_1
                                    try clear hcz17_2
                                    try clear hcz17_3
                                    try clear hcz17_4
                                    try clear hcz17_5
                                    try clear hcz17_6
                                    try clear hcz17_7
                                    try clear hcz17_8
                                    try clear hcz21_0
                                    try clear hcz21_1
                                    try clear hcz21_2
                                    try clear hcz21_3
                                    try clear hcz21_4
                                    try clear hcz21_5
                                    try clear hcz21_6
                                    try clear hcz21_7
                                    try clear hcz21_8
                                    try clear hcz23_0
                                    try clear hcz23_1
                                    try clear hcz23_2
                                    try clear hcz23_3
                                    try clear hcz23_4
                                    try clear hcz23_5
                                    try clear hcz23_6
                                    try clear hcz23_7
                                    try clear hcz23_8
                                    try clear hcz25_0
                                    try clear hcz25_1
                                    try clear hcz25_2
                                    try clear hcz25_3
                                    try clear hcz25_4
                                    try clear hcz25_5
                                    try clear hcz25_6
                                    try clear hcz25_7
                                    try clear hcz25_8
                                    try clear hcz26_0
                                    try clear hcz26_1
                                    try clear hcz26_2
                                    try clear hcz26_3
                                    try clear hcz26_4
                                    try clear hcz26_5
                                    try clear hcz26_6
                                    try clear hcz26_7
                                    try clear hcz26_8
                                    try clear hcz31_0
                                    try clear hcz31_1
                                    try clear hcz31_2
                                    try clear hcz31_3
                                    try clear hcz31_4
                                    try clear hcz31_5
                                    try clear hcz31_6
                                    try clear hcz31_7
                                    try clear hcz31_8
                                    try clear hcz33_0
                                    try clear hcz33_1
                                    try clear hcz33_2
                                    try clear hcz33_3
                                    try clear hcz33_4
                                    try clear hcz33_5
                                    try clear hcz33_6
                                    try clear hcz33_7
                                    try clear hcz33_8
                                    try clear hcz34_0
                                    try clear hcz34_1
                                    try clear hcz34_2
                                    try clear hcz34_3
                                    try clear hcz34_4
                                    try clear hcz34_5
                                    try clear hcz34_6
                                    try clear hcz34_7
                                    try clear hcz34_8
                                    try clear hcz35_0
                                    try clear hcz35_1
                                    try clear hcz35_2
                                    try clear hcz35_3
                                    try clear hcz35_4
                                    try clear hcz35_5
                                    try clear hcz35_6
                                    try clear hcz35_7
                                    try clear hcz35_8
                                    try clear hcz39_0
                                    try clear hcz39_1
                                    try clear hcz39_2
                                    try clear hcz39_3
                                    try clear hcz39_4
                                    try clear hcz39_5
                                    try clear hcz39_6
                                    try clear hcz39_7
                                    try clear hcz39_8
                                    try clear hcz41_0
                                    try clear hcz41_1
                                    try clear hcz41_2
                                    try clear hcz41_3
                                    try clear hcz41_4
                                    try clear hcz41_5
                                    try clear hcz41_6
                                    try clear hcz41_7
                                    try clear hcz41_8
                                    try clear hcz43_0
                                    try clear hcz43_1
                                    try clear hcz43_2
                                    try clear hcz43_3
                                    try clear hcz43_4
                                    try clear hcz43_5
                                    try clear hcz43_6
                                    try clear hcz43_7
                                    try clear hcz43_8
                                    try clear hcz44_0
                                    try clear hcz44_1
                                    try clear hcz44_2
                                    try clear hcz44_3
                                    try clear hcz44_4
                                    try clear hcz44_5
                                    try clear hcz44_6
                                    try clear hcz44_7
                                    try clear hcz44_8
                                    try clear hcz48_0
                                    try clear hcz48_1
                                    try clear hcz48_2
                                    try clear hcz48_3
                                    try clear hcz48_4
                                    try clear hcz48_5
                                    try clear hcz48_6
                                    try clear hcz48_7
                                    try clear hcz48_8
                                    try clear hcz49_0
                                    try clear hcz49_1
                                    try clear hcz49_2
                                    try clear hcz49_3
                                    try clear hcz49_4
                                    try clear hcz49_5
                                    try clear hcz49_6
                                    try clear hcz49_7
                                    try clear hcz49_8
                                    try clear hcz5_0
                                    try clear hcz5_1
                                    try clear hcz5_2
                                    try clear hcz5_3
                                    try clear hcz5_4
                                    try clear hcz5_5
                                    try clear hcz5_6
                                    try clear hcz5_7
                                    try clear hcz5_8
                                    try clear hcz6_0
                                    try clear hcz6_1
                                    try clear hcz6_2
                                    try clear hcz6_3
                                    try clear hcz6_4
                                    try clear hcz6_5
                                    try clear hcz6_6
                                    try clear hcz6_7
                                    try clear hcz6_8
                                    try clear hcz8_0
                                    try clear hcz8_1
                                    try clear hcz8_2
                                    try clear hcz8_3
                                    try clear hcz8_4
                                    try clear hcz8_5
                                    try clear hcz8_6
                                    try clear hcz8_7
                                    try clear hcz8_8
                                    try clear hfz12_0
                                    try clear hfz12_1
                                    try clear hfz12_2
                                    try clear hfz12_3
                                    try clear hfz12_4
                                    try clear hfz12_5
                                    try clear hfz12_6
                                    try clear hfz12_7
                                    try clear hfz12_8
                                    try clear hfz14_0
                                    try clear hfz14_1
                                    try clear hfz14_2
                                    try clear hfz14_3
                                    try clear hfz14_4
                                    try clear hfz14_5
                                    try clear hfz14_6
                                    try clear hfz14_7
                                    try clear hfz14_8
                                    try clear hfz16_0
                                    try clear hfz16_1
                                    try clear hfz16_2
                                    try clear hfz16_3
                                    try clear hfz16_4
                                    try clear hfz16_5
                                    try clear hfz16_6
                                    try clear hfz16_7
                                    try clear hfz16_8
                                    try clear hfz17_0
                                    try clear hfz17_1
                                    try clear hfz17_2
                                    try clear hfz17_3
                                    try clear hfz17_4
                                    try clear hfz17_5
                                    try clear hfz17_6
                                    try clear hfz17_7
                                    try clear hfz17_8
                                    try clear hfz21_0
                                    try clear hfz21_1
                                    try clear hfz21_2
                                    try clear hfz21_3
                                    try clear hfz21_4
                                    try clear hfz21_5
                                    try clear hfz21_6
                                    try clear hfz21_7
                                    try clear hfz21_8
                                    try clear hfz23_0
                                    try clear hfz23_1
                                    try clear hfz23_2
                                    try clear hfz23_3
                                    try clear hfz23_4
                                    try clear hfz23_5
                                    try clear hfz23_6
                                    try clear hfz23_7
                                    try clear hfz23_8
                                    try clear hfz25_0
                                    try clear hfz25_1
                                    try clear hfz25_2
                                    try clear hfz25_3
                                    try clear hfz25_4
                                    try clear hfz25_5
                                    try clear hfz25_6
                                    try clear hfz25_7
                                    try clear hfz25_8
                                    try clear hfz26_0
                                    try clear hfz26_1
                                    try clear hfz26_2
                                    try clear hfz26_3
                                    try clear hfz26_4
                                    try clear hfz26_5
                                    try clear hfz26_6
                                    try clear hfz26_7
                                    try clear hfz26_8
                                    try clear hfz31_0
                                    try clear hfz31_1
                                    try clear hfz31_2
                                    try clear hfz31_3
                                    try clear hfz31_4
                                    try clear hfz31_5
                                    try clear hfz31_6
                                    try clear hfz31_7
                                    try clear hfz31_8
                                    try clear hfz33_0
                                    try clear hfz33_1
                                    try clear hfz33_2
                                    try clear hfz33_3
                                    try clear hfz33_4
                                    try clear hfz33_5
                                    try clear hfz33_6
                                    try clear hfz33_7
                                    try clear hfz33_8
                                    try clear hfz34_0
                                    try clear hfz34_1
                                    try clear hfz34_2
                                    try clear hfz34_3
                                    try clear hfz34_4
                                    try clear hfz34_5
                                    try clear hfz34_6
                                    try clear hfz34_7
                                    try clear hfz34_8
                                    try clear hfz35_0
                                    try clear hfz35_1
                                    try clear hfz35_2
                                    try clear hfz35_3
                                    try clear hfz35_4
                                    try clear hfz35_5
                                    try clear hfz35_6
                                    try clear hfz35_7
                                    try clear hfz35_8
                                    try clear hfz39_0
                                    try clear hfz39_1
                                    try clear hfz39_2
                                    try clear hfz39_3
                                    try clear hfz39_4
                                    try clear hfz39_5
                                    try clear hfz39_6
                                    try clear hfz39_7
                                    try clear hfz39_8
                                    try clear hfz41_0
                                    try clear hfz41_1
                                    try clear hfz41_2
                                    try clear hfz41_3
                                    try clear hfz41_4
                                    try clear hfz41_5
                                    try clear hfz41_6
                                    try clear hfz41_7
                                    try clear hfz41_8
                                    try clear hfz43_0
                                    try clear hfz43_1
                                    try clear hfz43_2
                                    try clear hfz43_3
                                    try clear hfz43_4
                                    try clear hfz43_5
                                    try clear hfz43_6
                                    try clear hfz43_7
                                    try clear hfz43_8
                                    try clear hfz44_0
                                    try clear hfz44_1
                                    try clear hfz44_2
                                    try clear hfz44_3
                                    try clear hfz44_4
                                    try clear hfz44_5
                                    try clear hfz44_6
                                    try clear hfz44_7
                                    try clear hfz44_8
                                    try clear hfz48_0
                                    try clear hfz48_1
                                    try clear hfz48_2
                                    try clear hfz48_3
                                    try clear hfz48_4
                                    try clear hfz48_5
                                    try clear hfz48_6
                                    try clear hfz48_7
                                    try clear hfz48_8
                                    try clear hfz49_0
                                    try clear hfz49_1
                                    try clear hfz49_2
                                    try clear hfz49_3
                                    try clear hfz49_4
                                    try clear hfz49_5
                                    try clear hfz49_6
                                    try clear hfz49_7
                                    try clear hfz49_8
                                    try clear hfz5_0
                                    try clear hfz5_1
                                    try clear hfz5_2
                                    try clear hfz5_3
                                    try clear hfz5_4
                                    try clear hfz5_5
                                    try clear hfz5_6
                                    try clear hfz5_7
                                    try clear hfz5_8
                                    try clear hfz6_0
                                    try clear hfz6_1
                                    try clear hfz6_2
                                    try clear hfz6_3
                                    try clear hfz6_4
                                    try clear hfz6_5
                                    try clear hfz6_6
                                    try clear hfz6_7
                                    try clear hfz6_8
                                    try clear hfz8_0
                                    try clear hfz8_1
                                    try clear hfz8_2
                                    try clear hfz8_3
                                    try clear hfz8_4
                                    try clear hfz8_5
                                    try clear hfz8_6
                                    try clear hfz8_7
                                    try clear hfz8_8
                                    try clear p2
                                    obtain ⟨kq, x99_45, rfl, HA, HJ45, BK182, HB⟩ := hcut
                                    cases kq with
                                    | zero => exact absurd HA.out (by simp [vokref10_Rec_May.j6])
                                    | succ kj45 =>
                                      have H := HA.out
                                      clear HA
                                      simp only [vokref10_Rec_May.j6] at H
                                      by_cases c50 : x99_45 = true
                                      · subst c50
                                        have H1 : (some false) = some r := by rw [if_pos rfl] at H; exact H
                                        clear H
                                        have H := H1
                                        clear H1
                                        obtain rfl := Option.some.inj H
                                        go_wp2
                                        go_ret
                                        exact ⟨by first | rfl | (simp [errW_none, errW_some] <;> rfl) | (simp [*, errW_none, errW_some] <;> rfl), by repeat (first | (with_reducible first | exact HB.out | apply below_alloc | apply pw_below_drewN | apply below_drew1 | refine below_set ?_ GE182.out) | exact HB.out)⟩
                                      · replace c50 := Bool.eq_false_iff.mpr c50
                                        subst c50
                                        have H1 : (if x3_1 = true then (vokref10_Rec_May.j7 kj45 false a0_0 a0_1 a0_2 a0_3 a0_4 a0_5 l0_6 l0_7 l0_8) else (vokref10_Rec_May.j7 kj45 (decide ((wrap64 ((wrap64 ((l0_6.length : Int) + (l0_7.length : Int))) + (l0_8.length : Int))) > 0)) a0_0 a0_1 a0_2 a0_3 a0_4 a0_5 l0_6 l0_7 l0_8)) = some r := by rw [if_neg (show ¬ (false = true) by decide)] at H; exact H
                                        clear H
                                        have H := H1
                                        clear H1
                                        have HC51 := Aside0.mk H
                                        clear H
                                        go_upto_region 15 with (fail)
                                        go_cut [107] (fun v107 wc => ∃ (kq : Nat) (x107_50 : Bool), v107 = .bool x107_50 ∧ Aside0 (vokref10_Rec_May.j7 kq x107_50 a0_0 a0_1 a0_2 a0_3 a0_4 a0_5 l0_6 l0_7 l0_8 = some r) ∧ Aside0 (kq ≤ kj45) ∧ Aside0 (wc.heap[gb182]? = some (.cells #[.int .i64 a0_0, .int .i64 a0_1, .int .i64 a0_2, .int .i64 a0_3, .int .i64 a0_4, .bool a0_5, (.slice A0_6 l0_6.length c0_6), (.slice A0_7 l0_7.length c0_7), (.slice A0_8 l0_8.length c0_8)] 53 (0, 0))) ∧ Aside0 (Below w.heap.size w wc))
                                        case first =>
                                          have H := HC51.out
                                          clear HC51
                                          by_cases c52 : x3_1 = true
                                          · subst c52
                                            have H1 : (vokref10_Rec_May.j7 kj45 false a0_0 a0_1 a0_2 a0_3 a0_4 a0_5 l0_6 l0_7 l0_8) = some r := by rw [if_pos rfl] at H; exact H
                                            clear H
                                            have H := H1
                                            clear H1
                                            have H' := Aside0.mk H
                                            clear H
                                            go_wp2
                                            go_meet
                                            case rel => exact ⟨_, (false), (by first | rfl | (simp; done) | (simp [*]; done)), H', ⟨by have := HJ1.out; have := HJ6.out; have := HJ9.out; have := HJ18.out; have := HJ27.out; have := HJ36.out; have := HJ45.out; first | omega | exact Nat.le_refl _⟩, ⟨by (with_reducible repeat (first | refine blk_drewN ?_ _ | refine blk_drew ?_ | refine blk_alloc ?_ _)); exact BK182.out⟩, ⟨by repeat (first | (with_reducible first | exact HB.out | apply below_alloc | apply pw_below_drewN | apply below_drew1 | refine below_set ?_ GE182.out) | exact HB.out)⟩⟩
                                          · replace c52 := Bool.eq_false_iff.mpr c52
                                            subst c52
                                            have H1 : (vokref10_Rec_May.j7 kj45 (decide ((wrap64 ((wrap64 ((l0_6.length : Int) + (l0_7.length : Int))) + (l0_8.length : Int))) > 0)) a0_0 a0_1 a0_2 a0_3 a0_4 a0_5 l0_6 l0_7 l0_8) = some r := by rw [if_neg (show ¬ (false = true) by decide)] at H; exact H
                                            clear H
                                            have H := H1
                                            clear H1
                                            have H' := Aside0.mk H
                                            clear H
                                            have hcz53_0 : wc.cell? ⟨gb182, 0, none⟩ = some (.int .i64 a0_0) := (blk_cell BK182.out 0).trans rfl
                                            have hcz53_1 : wc.cell? ⟨gb182, 1, none⟩ = some (.int .i64 a0_1) := (blk_cell BK182.out 1).trans rfl
                                            have hcz53_2 : wc.cell? ⟨gb182, 2, none⟩ = some (.int .i64 a0_2) := (blk_cell BK182.out 2).trans rfl
                                            have hcz53_3 : wc.cell? ⟨gb182, 3, none⟩ = some (.int .i64 a0_3) := (blk_cell BK182.out 3).trans rfl
                                            have hcz53_4 : wc.cell? ⟨gb182, 4, none⟩ = some (.int .i64 a0_4) := (blk_cell BK182.out 4).trans rfl
                                            have hcz53_5 : wc.cell? ⟨gb182, 5, none⟩ = some (.bool a0_5) := (blk_cell BK182.out 5).trans rfl
                                            have hcz53_6 : wc.cell? ⟨gb182, 6, none⟩ = some (.slice A0_6 l0_6.length c0_6) := (blk_cell BK182.out 6).trans rfl
                                            have hcz53_7 : wc.cell? ⟨gb182, 7, none⟩ = some (.slice A0_7 l0_7.length c0_7) := (blk_cell BK182.out 7).trans rfl
                                            have hcz53_8 : wc.cell? ⟨gb182, 8, none⟩ = some (.slice A0_8 l0_8.length c0_8) := (blk_cell BK182.out 8).trans rfl
                                            have hfz53_0 := blk_frozen BK182.out 0
                                            have hfz53_1 := blk_frozen BK182.out 1
                                            have hfz53_2 := blk_frozen BK182.out 2
                                            have hfz53_3 := blk_frozen BK182.out 3
                                            have hfz53_4 := blk_frozen BK182.out 4
                                            have hfz53_5 := blk_frozen BK182.out 5
                                            have hfz53_6 := blk_frozen BK182.out 6
                                            have hfz53_7 := blk_frozen BK182.out 7
                                            have hfz53_8 := blk_frozen BK182.out 8
                                            go_wp2
                                            go_meet
                                            case rel => exact ⟨_, (decide ((wrap64 ((wrap64 ((l0_6.length : Int) + (l0_7.length : Int))) + (l0_8.length : Int))) > 0)), (by first | rfl | (simp; done) | (simp [*]; done)), H', ⟨by have := HJ1.out; have := HJ6.out; have := HJ9.out; have := HJ18.out; have := HJ27.out; have := HJ36.out; have := HJ45.out; first | omega | exact Nat.le_refl _⟩, ⟨by (with_reducible repeat (first | refine blk_drewN ?_ _ | refine blk_drew ?_ | refine blk_alloc ?_ _)); exact BK182.out⟩, ⟨by repeat (first | (with_reducible first | exact HB.out | apply below_alloc | apply pw_below_drewN | apply below_drew1 | refine below_set ?_ GE182.out) | exact HB.out)⟩⟩
                                        case rest =>
                                          clear HC51
                                          try clear c1
                                          try clear c2
                                          try clear p2
                                          try clear c3
                                          try clear c4
                                          try clear c4b0
                                          try clear c4b1
                                          try clear c5
                                          try clear p6
                                          try clear c9
                                          try clear c9b0
                                          try clear c9b1
                                          try clear c11
                                          try clear c11b0
                                          try clear c13
                                          try clear c13b0
                                          try clear c15
                                          try clear c15b0
                                          try clear c18
                                          try clear c20
                                          try clear c20b0
                                          try clear c22
                                          try clear c22b0
                                          try clear c24
                                          try clear c24b0
                                          try clear c24b1
                                          try clear c27
                                          try clear c29
                                          try clear c30
                                          try clear c30b0
                                          try clear c32
                                          try clear c32b0
                                          try clear c36
                                          try clear c38
                                          try clear c38b0
                                          try clear c40
                                          try clear c40b0
                                          try clear c42
                                          try clear c45
                                          try clear c47
                                          try clear c50
                                          try clear c52
                                          try clear hcz12_0
                                          try clear hcz12_1
                                          try clear hcz12_2
                                          try clear hcz12_3
                                          try clear hcz12_4
                                          try clear hcz12_5
                                          try clear hcz12_6
                                          try clear hcz12_7
                                          try clear hcz12_8
                                          try clear hcz14_0
                                          try clear hcz14_1
                                          try clear hcz14_2
                                          try clear hcz14_3
                                          try clear hcz14_4
                                          try clear hcz14_5
                                          try clear hcz14_6
                                          try clear hcz14_7
                                          try clear hcz14_8
                                          try clear hcz16_0
                                          try clear hcz16_1
                                          try clear hcz16_2
                                          try clear hcz16_3
                                          try clear hcz16_4
                                          try clear hcz16_5
                                          try clear hcz16_6
                                          try clear hcz16_7
                                          try clear hcz16_8
                                          try clear hcz17_0
                                          try clear hcz17_1
                                          try clear hcz17_2
                                          try clear hcz17_3
                                          try clear hcz17_4
                                          try clear hcz17_5
                                          try clear hcz17_6
                                          try clear hcz17_7
                                          try clear hcz17_8
                                          try clear hcz21_0
                                          try clear hcz21_1
                                          try clear hcz21_2
                                          try clear hcz21_3
                                          try clear hcz21_4
                                          try clear hcz21_5
                                          try clear hcz21_6
                                          try clear hcz21_7
                                          try clear hcz21_8
                                          try clear hcz23_0
                                          try clear hcz23_1
                                          try clear hcz23_2
                                          try clear hcz23_3
                                          try clear hcz23_4
                                          try clear hcz23_5
                                          try clear hcz23_6
                                          try clear hcz23_7
                                          try clear hcz23_8
                                          try clear hcz25_0
                                          try clear hcz25_1
                                          try clear hcz25_2
                                          try clear hcz25_3
                                          try clear hcz25_4
                                          try clear hcz25_5
                                          try clear hcz25_6
                                          try clear hcz25_7
                                          try clear hcz25_8
                                          try clear hcz26_0
                                          try clear hcz26_1
                                          try clear hcz26_2
                                          try clear hcz26_3
                                          try clear hcz26_4
                                          try clear hcz26_5
                                          try clear hcz26_6
                                          try clear hcz26_7
                                          try clear hcz26_8
                                          try clear hcz31_0
                                          try clear hcz31_1
                                          try clear hcz31_2
                                          try clear hcz31_3
                                          try clear hcz31_4
                                          try clear hcz31_5
                                          try clear hcz31_6
                                          try clear hcz31_7
                                          try clear hcz31_8
                                          try clear hcz33_0
                                          try clear hcz33_1
                                          try clear hcz33_2
                                          try clear hcz33_3
                                          try clear hcz33_4
                                          try clear hcz33_5
                                          try clear hcz33_6
                                          try clear hcz33_7
                                          try clear hcz33_8
                                          try clear hcz34_0
                                          try clear hcz34_1
                                          try clear hcz34_2
                                          try clear hcz34_3
                                          try clear hcz34_4
                                          try clear hcz34_5
                                          try clear hcz34_6
                                          try clear hcz34_7
                                          try clear hcz34_8
                                          try clear hcz35_0
                                          try clear hcz35_1
                                          try clear hcz35_2
                                          try clear hcz35_3
                                          try clear hcz35_4
                                          try clear hcz35_5
                                          try clear hcz35_6
                                          try clear hcz35_7
                                          try clear hcz35_8
                                          try clear hcz39_0
                                          try clear hcz39_1
                                          try clear hcz39_2
                                          try clear hcz39_3
                                          try clear hcz39_4
                                          try clear hcz39_5
                                          try clear hcz39_6
                                          try clear hcz39_7
                                          try clear hcz39_8
                                          try clear hcz41_0
                                          try clear hcz41_1
                                          try clear hcz41_2
                                          try clear hcz41_3
                                          try clear hcz41_4
                                          try clear hcz41_5
                                          try clear hcz41_6
                                          try clear hcz41_7
                                          try clear hcz41_8
                                          try clear hcz43_0
                                          try clear hcz43_1
                                          try clear hcz43_2
                                          try clear hcz43_3
                                          try clear hcz43_4
                                          try clear hcz43_5
                                          try clear hcz43_6
                                          try clear hcz43_7
                                          try clear hcz43_8
                                          try clear hcz44_0
                                          try clear hcz44_1
                                          try clear hcz44_2
                                          try clear hcz44_3
                                          try clear hcz44_4
                                          try clear hcz44_5
                                          try clear hcz44_6
                                          try clear hcz44_7
                                          try clear hcz44_8
                                          try clear hcz48_0
                                          try clear hcz48_1
                                          try clear hcz48_2
                                          try clear hcz48_3
                                          try clear hcz48_4
                                          try clear hcz48_5
                                          try clear hcz48_6
                                          try clear hcz48_7
                                          try clear hcz48_8
                                          try clear hcz49_0
                                          try clear hcz49_1
                                          try clear hcz49_2
                                          try clear hcz49_3
                                          try clear hcz49_4
                                          try clear hcz49_5
                                          try clear hcz49_6
                                          try clear hcz49_7
                                          try clear hcz49_8
                                          try clear hcz53_0
                                          try clear hcz53_1
                                          try clear hcz53_2
                                          try clear hcz53_3
                                          try clear hcz53_4
                                          try clear hcz53_5
                                          try clear hcz53_6
                                          try clear hcz53_7
                                          try clear hcz53_8
                                          try clear hcz5_0
                                          try clear hcz5_1
                                          try clear hcz5_2
                                          try clear hcz5_3
                                          try clear hcz5_4
                                          try clear hcz5_5
                                          try clear hcz5_6
                                          try clear hcz5_7
                                          try clear hcz5_8
                                          try clear hcz6_0
                                          try clear hcz6_1
                                          try clear hcz6_2
                                          try clear hcz6_3
                                          try clear hcz6_4
                                          try clear hcz6_5
                                          try clear hcz6_6
                                          try clear hcz6_7
                                          try clear hcz6_8
                                          try clear hcz8_0
                                          try clear hcz8_1
                                          try clear hcz8_2
                                          try clear hcz8_3
                                          try clear hcz8_4
                                          try clear hcz8_5
                                          try clear hcz8_6
                                          try clear hcz8_7
                                          try clear hcz8_8
                                          try clear hfz12_0
                                          try clear hfz12_1
                                          try clear hfz12_2
                                          try clear hfz12_3
                                          try clear hfz12_4
                                          try clear hfz12_5
                                          try clear hfz12_6
                                          try clear hfz12_7
                                          try clear hfz12_8
                                          try clear hfz14_0
                                          try clear hfz14_1
                                          try clear hfz14_2
                                          try clear hfz14_3
                                          try clear hfz14_4
                                          try clear hfz14_5
                                          try clear hfz14_6
                                          try clear hfz14_7
                                          try clear hfz14_8
                                          try clear hfz16_0
                                          try clear hfz16_1
                                          try clear hfz16_2
                                          try clear hfz16_3
                                          try clear hfz16_4
                                          try clear hfz16_5
                                          try clear hfz16_6
                                          try clear hfz16_7
                                          try clear hfz16_8
                                          try clear hfz17_0
                                          try clear hfz17_1
                                          try clear hfz17_2
                                          try clear hfz17_3
                                          try clear hfz17_4
                                          try clear hfz17_5
                                          try clear hfz17_6
                                          try clear hfz17_7
                                          try clear hfz17_8
                                          try clear hfz21_0
                                          try clear hfz21_1
                                          try clear hfz21_2
                                          try clear hfz21_3
                                          try clear hfz21_4
                                          try clear hfz21_5
                                          try clear hfz21_6
                                          try clear hfz21_7
                                          try clear hfz21_8
                                          try clear hfz23_0
                                          try clear hfz23_1
                                          try clear hfz23_2
                                          try clear hfz23_3
                                          try clear hfz23_4
                                          try clear hfz23_5
                                          try clear hfz23_6
                                          try clear hfz23_7
                                          try clear hfz23_8
                                          try clear hfz25_0
                                          try clear hfz25_1
                                          try clear hfz25_2
                                          try clear hfz25_3
                                          try clear hfz25_4
                                          try clear hfz25_5
                                          try clear hfz25_6
                                          try clear hfz25_7
                                          try clear hfz25_8
                                          try clear hfz26_0
                                          try clear hfz26_1
                                          try clear hfz26_2
                                          try clear hfz26_3
                                          try clear hfz26_4
                                          try clear hfz26_5
                                          try clear hfz26_6
                                          try clear hfz26_7
                                          try clear hfz26_8
                                          try clear hfz31_0
                                          try clear hfz31_1
                                          try clear hfz31_2
                                          try clear hfz31_3
                                          try clear hfz31_4
                                          try clear hfz31_5
                                          try clear hfz31_6
                                          try clear hfz31_7
                                          try clear hfz31_8
                                          try clear hfz33_0
                                          try clear hfz33_1
                                          try clear hfz33_2
                                          try clear hfz33_3
                                          try clear hfz33_4
                                          try clear hfz33_5
                                          try clear hfz33_6
                                          try clear hfz33_7
                                          try clear hfz33_8
                                          try clear hfz34_0
                                          try clear hfz34_1
                                          try clear hfz34_2
                                          try clear hfz34_3
                                          try clear hfz34_4
                                          try clear hfz34_5
                                          try clear hfz34_6
                                          try clear hfz34_7
                                          try clear hfz34_8
                                          try clear hfz35_0
                                          try clear hfz35_1
                                          try clear hfz35_2
                                          try clear hfz35_3
                                          try clear hfz35_4
                                          try clear hfz35_5
                                          try clear hfz35_6
                                          try clear hfz35_7
                                          try clear hfz35_8
                                          try clear hfz39_0
                                          try clear hfz39_1
                                          try clear hfz39_2
                                          try clear hfz39_3
                                          try clear hfz39_4
                                          try clear hfz39_5
                                          try clear hfz39_6
                                          try clear hfz39_7
                                          try clear hfz39_8
                                          try clear hfz41_0
                                          try clear hfz41_1
                                          try clear hfz41_2
                                          try clear hfz41_3
                                          try clear hfz41_4
                                          try clear hfz41_5
                                          try clear hfz41_6
                                          try clear hfz41_7
                                          try clear hfz41_8
                                          try clear hfz43_0
                                          try clear hfz43_1
                                          try clear hfz43_2
                                          try clear hfz43_3
                                          try clear hfz43_4
                                          try clear hfz43_5
                                          try clear hfz43_6
                                          try clear hfz43_7
                                          try clear hfz43_8
                                          try clear hfz44_0
                                          try clear hfz44_1
                                          try clear hfz44_2
                                          try clear hfz44_3
                                          try clear hfz44_4
                                          try clear hfz44_5
                                          try clear hfz44_6
                                          try clear hfz44_7
                                          try clear hfz44_8
                                          try clear hfz48_0
                                          try clear hfz48_1
                                          try clear hfz48_2
                                          try clear hfz48_3
                                          try clear hfz48_4
                                          try clear hfz48_5
                                          try clear hfz48_6
                                          try clear hfz48_7
                                          try clear hfz48_8
                                          try clear hfz49_0
                                          try clear hfz49_1
                                          try clear hfz49_2
                                          try clear hfz49_3
                                          try clear hfz49_4
                                          try clear hfz49_5
                                          try clear hfz49_6
                                          try clear hfz49_7
                                          try clear hfz49_8
                                          try clear hfz53_0
                                          try clear hfz53_1
                                          try clear hfz53_2
                                          try clear hfz53_3
                                          try clear hfz53_4
                                          try clear hfz53_5
                                          try clear hfz53_6
                                          try clear hfz53_7
                                          try clear hfz53_8
                                          try clear hfz5_0
                                          try clear hfz5_1
                                          try clear hfz5_2
                                          try clear hfz5_3
                                          try clear hfz5_4
                                          try clear hfz5_5
                                          try clear hfz5_6
                                          try clear hfz5_7
                                          try clear hfz5_8
                                          try clear hfz6_0
                                          try clear hfz6_1
                                          try clear hfz6_2
                                          try clear hfz6_3
                                          try clear hfz6_4
                                          try clear hfz6_5
                                          try clear hfz6_6
                                          try clear hfz6_7
                                          try clear hfz6_8
                                          try clear hfz8_0
                                          try clear hfz8_1
                                          try clear hfz8_2
                                          try clear hfz8_3
                                          try clear hfz8_4
                                          try clear hfz8_5
                                          try clear hfz8_6
                                          try clear hfz8_7
                                          try clear hfz8_8
                                          try clear p2
                                          obtain ⟨kq, x107_50, rfl, HA, HJ50, BK182, HB⟩ := hcut
                                          cases kq with
                                          | zero => exact absurd HA.out (by simp [vokref10_Rec_May.j7])
                                          | succ kj50 =>
                                            have H := HA.out
                                            clear HA
                                            simp only [vokref10_Rec_May.j7] at H
                                            by_cases c54 : x107_50 = true
                                            · subst c54
                                              have H1 : (some false) = some r := by rw [if_pos rfl] at H; exact H
                                              clear H
                                              have H := H1
                                              clear H1
                                              obtain rfl := Option.some.inj H
                                              go_wp2
                                              go_ret
                                              exact ⟨by first | rfl | (simp [errW_none, errW_some] <;> rfl) | (simp [*, errW_none, errW_some] <;> rfl), by repeat (first | (with_reducible first | exact HB.out | apply below_alloc | apply pw_below_drewN | apply below_drew1 | refine below_set ?_ GE182.out) | exact HB.out)⟩
                                            · replace c54 := Bool.eq_false_iff.mpr c54
                                              subst c54
                                              have H1 : ((vokref10_List.f kj50 l0_6 63 64).bind fun t183 => (if t183 = true then ((vokref10_List.f kj50 l0_7 15 16).bind fun t184 => (if t184 = true then (some (decide ((l0_8.length : Int) ≤ 4096))) else (some false))) else (some false))) = some r := by rw [if_neg (show ¬ (false = true) by decide)] at H; exact H
                                              clear H
                                              have H := H1
                                              clear H1
                                              replace H := Option.bind_eq_some_iff.mp H
                                              obtain ⟨t183, A550, H⟩ := H
                                              replace H : (if t183 = true then ((vokref10_List.f kj50 l0_7 15 16).bind fun t184 => (if t184 = true then (some (decide ((l0_8.length : Int) ≤ 4096))) else (some false))) else (some false)) = some r := H
                                              have A55 := Aside0.mk A550
                                              clear A550
                                              by_cases c56 : t183 = true
                                              · subst c56
                                                have H1 : ((vokref10_List.f kj50 l0_7 15 16).bind fun t184 => (if t184 = true then (some (decide ((l0_8.length : Int) ≤ 4096))) else (some false))) = some r := by rw [if_pos rfl] at H; exact H
                                                clear H
                                                have H := H1
                                                clear H1
                                                replace H := Option.bind_eq_some_iff.mp H
                                                obtain ⟨t184, A570, H⟩ := H
                                                replace H : (if t184 = true then (some (decide ((l0_8.length : Int) ≤ 4096))) else (some false)) = some r := H
                                                have A57 := Aside0.mk A570
                                                clear A570
                                                by_cases c58 : t184 = true
                                                · subst c58
                                                  have H1 : (some (decide ((l0_8.length : Int) ≤ 4096))) = some r := by rw [if_pos rfl] at H; exact H
                                                  clear H
                                                  have H := H1
                                                  clear H1
                                                  obtain rfl := Option.some.inj H
                                                  have hcz59_0 : wc.cell? ⟨gb182, 0, none⟩ = some (.int .i64 a0_0) := (blk_cell BK182.out 0).trans rfl
                                                  have hcz59_1 : wc.cell? ⟨gb182, 1, none⟩ = some (.int .i64 a0_1) := (blk_cell BK182.out 1).trans rfl
                                                  have hcz59_2 : wc.cell? ⟨gb182, 2, none⟩ = some (.int .i64 a0_2) := (blk_cell BK182.out 2).trans rfl
                                                  have hcz59_3 : wc.cell? ⟨gb182, 3, none⟩ = some (.int .i64 a0_3) := (blk_cell BK182.out 3).trans rfl
                                                  have hcz59_4 : wc.cell? ⟨gb182, 4, none⟩ = some (.int .i64 a0_4) := (blk_cell BK182.out 4).trans rfl
                                                  have hcz59_5 : wc.cell? ⟨gb182, 5, none⟩ = some (.bool a0_5) := (blk_cell BK182.out 5).trans rfl
                                                  have hcz59_6 : wc.cell? ⟨gb182, 6, none⟩ = some (.slice A0_6 l0_6.length c0_6) := (blk_cell BK182.out 6).trans rfl
                                                  have hcz59_7 : wc.cell? ⟨gb182, 7, none⟩ = some (.slice A0_7 l0_7.length c0_7) := (blk_cell BK182.out 7).trans rfl
                                                  have hcz59_8 : wc.cell? ⟨gb182, 8, none⟩ = some (.slice A0_8 l0_8.length c0_8) := (blk_cell BK182.out 8).trans rfl
                                                  have hfz59_0 := blk_frozen BK182.out 0
                                                  have hfz59_1 := blk_frozen BK182.out 1
                                                  have hfz59_2 := blk_frozen BK182.out 2
                                                  have hfz59_3 := blk_frozen BK182.out 3
                                                  have hfz59_4 := blk_frozen BK182.out 4
                                                  have hfz59_5 := blk_frozen BK182.out 5
                                                  have hfz59_6 := blk_frozen BK182.out 6
                                                  have hfz59_7 := blk_frozen BK182.out 7
                                                  have hfz59_8 := blk_frozen BK182.out 8
                                                  go_wp2_with (first | ((with_reducible refine gate_callee (f := 55) rfl ?_); refine goesL_ (some 126) rfl rfl Try.func55 (by kernel_rfl) rfl #[.slice A0_6 l0_6.length c0_6, .int .i64 63, .int .i64 64] rfl (by (try simp only [List.map_toArray, List.map_cons, List.map_nil]); first | done | rfl | (simp only [List.length_drop, List.length_take]; rfl)) ?_; (with_reducible refine (vokref10_List.calls kj50 _ _ l0_6 63 64 true _ ?side1 ?side2 A55.out).mono ?_); (case side1 => repeat (first | exact (Kd.C_below HR0_6.out HB.out) | (with_reducible refine Kd.C_alloc ?_ _) | (with_reducible refine Kd.C_drewN ?_ _) | (with_reducible refine Kd.C_drew ?_))); (case side2 => exact HC0_6.out); rintro e w' ⟨rfl, ⟨nd, rfl⟩⟩; refine ⟨_, rfl, ?_⟩) | (go_at_call 55; (with_reducible refine (vokref10_List.calls kj50 _ _ l0_7 15 16 true _ ?side1 ?side2 A57.out).mono ?_); (case side1 => repeat (first | exact (Kd.C_below HR0_7.out (by repeat (first | (with_reducible first | exact HB.out | apply below_alloc | apply pw_below_drewN | apply below_drew1 | refine below_set ?_ GE182.out) | exact HB.out))) | (with_reducible refine Kd.C_alloc ?_ _) | (with_reducible refine Kd.C_drewN ?_ _) | (with_reducible refine Kd.C_drew ?_))); (case side2 => exact HC0_7.out); rintro e w' ⟨rfl, ⟨nd, rfl⟩⟩))
                                                  go_ret
                                                  exact ⟨by first | rfl | (simp [errW_none, errW_some] <;> rfl) | (simp [*, errW_none, errW_some] <;> rfl), by repeat (first | (with_reducible first | exact HB.out | apply below_alloc | apply pw_below_drewN | apply below_drew1 | refine below_set ?_ GE182.out) | exact HB.out)⟩
                                                · replace c58 := Bool.eq_false_iff.mpr c58
                                                  subst c58
                                                  have H1 : (some false) = some r := by rw [if_neg (show ¬ (false = true) by decide)] at H; exact H
                                                  clear H
                                                  have H := H1
                                                  clear H1
                                                  obtain rfl := Option.some.inj H
                                                  have hcz60_0 : wc.cell? ⟨gb182, 0, none⟩ = some (.int .i64 a0_0) := (blk_cell BK182.out 0).trans rfl
                                                  have hcz60_1 : wc.cell? ⟨gb182, 1, none⟩ = some (.int .i64 a0_1) := (blk_cell BK182.out 1).trans rfl
                                                  have hcz60_2 : wc.cell? ⟨gb182, 2, none⟩ = some (.int .i64 a0_2) := (blk_cell BK182.out 2).trans rfl
                                                  have hcz60_3 : wc.cell? ⟨gb182, 3, none⟩ = some (.int .i64 a0_3) := (blk_cell BK182.out 3).trans rfl
                                                  have hcz60_4 : wc.cell? ⟨gb182, 4, none⟩ = some (.int .i64 a0_4) := (blk_cell BK182.out 4).trans rfl
                                                  have hcz60_5 : wc.cell? ⟨gb182, 5, none⟩ = some (.bool a0_5) := (blk_cell BK182.out 5).trans rfl
                                                  have hcz60_6 : wc.cell? ⟨gb182, 6, none⟩ = some (.slice A0_6 l0_6.length c0_6) := (blk_cell BK182.out 6).trans rfl
                                                  have hcz60_7 : wc.cell? ⟨gb182, 7, none⟩ = some (.slice A0_7 l0_7.length c0_7) := (blk_cell BK182.out 7).trans rfl
                                                  have hcz60_8 : wc.cell? ⟨gb182, 8, none⟩ = some (.slice A0_8 l0_8.length c0_8) := (blk_cell BK182.out 8).trans rfl
                                                  have hfz60_0 := blk_frozen BK182.out 0
                                                  have hfz60_1 := blk_frozen BK182.out 1
                                                  have hfz60_2 := blk_frozen BK182.out 2
                                                  have hfz60_3 := blk_frozen BK182.out 3
                                                  have hfz60_4 := blk_frozen BK182.out 4
                                                  have hfz60_5 := blk_frozen BK182.out 5
                                                  have hfz60_6 := blk_frozen BK182.out 6
                                                  have hfz60_7 := blk_frozen BK182.out 7
                                                  have hfz60_8 := blk_frozen BK182.out 8
                                                  go_wp2_with (first | ((with_reducible refine gate_callee (f := 55) rfl ?_); refine goesL_ (some 126) rfl rfl Try.func55 (by kernel_rfl) rfl #[.slice A0_6 l0_6.length c0_6, .int .i64 63, .int .i64 64] rfl (by (try simp only [List.map_toArray, List.map_cons, List.map_nil]); first | done | rfl | (simp only [List.length_drop, List.length_take]; rfl)) ?_; (with_reducible refine (vokref10_List.calls kj50 _ _ l0_6 63 64 true _ ?side1 ?side2 A55.out).mono ?_); (case side1 => repeat (first | exact (Kd.C_below HR0_6.out HB.out) | (with_reducible refine Kd.C_alloc ?_ _) | (with_reducible refine Kd.C_drewN ?_ _) | (with_reducible refine Kd.C_drew ?_))); (case side2 => exact HC0_6.out); rintro e w' ⟨rfl, ⟨nd, rfl⟩⟩; refine ⟨_, rfl, ?_⟩) | (go_at_call 55; (with_reducible refine (vokref10_List.calls kj50 _ _ l0_7 15 16 false _ ?side1 ?side2 A57.out).mono ?_); (case side1 => repeat (first | exact (Kd.C_below HR0_7.out (by repeat (first | (with_reducible first | exact HB.out | apply below_alloc | apply pw_below_drewN | apply below_drew1 | refine below_set ?_ GE182.out) | exact HB.out))) | (with_reducible refine Kd.C_alloc ?_ _) | (with_reducible refine Kd.C_drewN ?_ _) | (with_reducible refine Kd.C_drew ?_))); (case side2 => exact HC0_7.out); rintro e w' ⟨rfl, ⟨nd, rfl⟩⟩))
                                                  go_ret
                                                  exact ⟨by first | rfl | (simp [errW_none, errW_some] <;> rfl) | (simp [*, errW_none, errW_some] <;> rfl), by repeat (first | (with_reducible first | exact HB.out | apply below_alloc | apply pw_below_drewN | apply below_drew1 | refine below_set ?_ GE182.out) | exact HB.out)⟩
                                              · replace c56 := Bool.eq_false_iff.mpr c56
                                                subst c56
                                                have H1 : (some false) = some r := by rw [if_neg (show ¬ (false = true) by decide)] at H; exact H
                                                clear H
                                                have H := H1
                                                clear H1
                                                obtain rfl := Option.some.inj H
                                                have hcz61_0 : wc.cell? ⟨gb182, 0, none⟩ = some (.int .i64 a0_0) := (blk_cell BK182.out 0).trans rfl
                                                have hcz61_1 : wc.cell? ⟨gb182, 1, none⟩ = some (.int .i64 a0_1) := (blk_cell BK182.out 1).trans rfl
                                                have hcz61_2 : wc.cell? ⟨gb182, 2, none⟩ = some (.int .i64 a0_2) := (blk_cell BK182.out 2).trans rfl
                                                have hcz61_3 : wc.cell? ⟨gb182, 3, none⟩ = some (.int .i64 a0_3) := (blk_cell BK182.out 3).trans rfl
                                                have hcz61_4 : wc.cell? ⟨gb182, 4, none⟩ = some (.int .i64 a0_4) := (blk_cell BK182.out 4).trans rfl
                                                have hcz61_5 : wc.cell? ⟨gb182, 5, none⟩ = some (.bool a0_5) := (blk_cell BK182.out 5).trans rfl
                                                have hcz61_6 : wc.cell? ⟨gb182, 6, none⟩ = some (.slice A0_6 l0_6.length c0_6) := (blk_cell BK182.out 6).trans rfl
                                                have hcz61_7 : wc.cell? ⟨gb182, 7, none⟩ = some (.slice A0_7 l0_7.length c0_7) := (blk_cell BK182.out 7).trans rfl
                                                have hcz61_8 : wc.cell? ⟨gb182, 8, none⟩ = some (.slice A0_8 l0_8.length c0_8) := (blk_cell BK182.out 8).trans rfl
                                                have hfz61_0 := blk_frozen BK182.out 0
                                                have hfz61_1 := blk_frozen BK182.out 1
                                                have hfz61_2 := blk_frozen BK182.out 2
                                                have hfz61_3 := blk_frozen BK182.out 3
                                                have hfz61_4 := blk_frozen BK182.out 4
                                                have hfz61_5 := blk_frozen BK182.out 5
                                                have hfz61_6 := blk_frozen BK182.out 6
                                                have hfz61_7 := blk_frozen BK182.out 7
                                                have hfz61_8 := blk_frozen BK182.out 8
                                                go_wp2_with (first | ((with_reducible refine gate_callee (f := 55) rfl ?_); refine goesL_ (some 126) rfl rfl Try.func55 (by kernel_rfl) rfl #[.slice A0_6 l0_6.length c0_6, .int .i64 63, .int .i64 64] rfl (by (try simp only [List.map_toArray, List.map_cons, List.map_nil]); first | done | rfl | (simp only [List.length_drop, List.length_take]; rfl)) ?_; (with_reducible refine (vokref10_List.calls kj50 _ _ l0_6 63 64 false _ ?side1 ?side2 A55.out).mono ?_); (case side1 => repeat (first | exact (Kd.C_below HR0_6.out HB.out) | (with_reducible refine Kd.C_alloc ?_ _) | (with_reducible refine Kd.C_drewN ?_ _) | (with_reducible refine Kd.C_drew ?_))); (case side2 => exact HC0_6.out); rintro e w' ⟨rfl, ⟨nd, rfl⟩⟩; refine ⟨_, rfl, ?_⟩))
                                                go_ret
                                                exact ⟨by first | rfl | (simp [errW_none, errW_some] <;> rfl) | (simp [*, errW_none, errW_some] <;> rfl), by repeat (first | (with_reducible first | exact HB.out | apply below_alloc | apply pw_below_drewN | apply below_drew1 | refine below_set ?_ GE182.out) | exact HB.out)⟩

end Go.Proofs.Ytleljfmhefobeaa.GJ
