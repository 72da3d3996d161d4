-- laid by a program of this session (print_proof, changed for laws over structs) (packed)
import Derived.Test.YtohpimfanplloaaGreatDoorZGCExtR
import Derived.Test.YtohpimfanplloaaGreatDoorZGCExt
import Derived.Test.YtohpimfanplloaaGreatDoorZGCx0
namespace Go.Proofs.YtohpimfanplloaaGreatDoor.GC
open Go.RowKit Go.Proofs.YtohpimfanplloaaGreatDoorW.PrintWords Go.Proofs.YtohpimfanplloaaGreatDoorW.PrintLast Go.Proofs.YtohpimfanplloaaGreatDoorW.PrintMore
attribute [local go_sem] max2_int min2_int max_two min_two max_three min_three max_four min_four   -- for this text's walks alone
set_option linter.unusedVariables false
set_option linter.unusedSimpArgs false

/-! ### stamp_Day: function 69 -/
def stamp_Day.f (a0 : Int) : Option (Int × Int) := if (Int.tmod a0 86400) < 0 then (some (wrap64 ((wrap64 (Int.tdiv a0 86400)) - 1), wrap64 ((Int.tmod a0 86400) + 86400))) else (some (wrap64 (Int.tdiv a0 86400), Int.tmod a0 86400))
set_option maxHeartbeats 8000000 in
set_option maxRecDepth 100000 in
theorem stamp_Day.calls (a0 : Int) (r1 : Int) (r2 : Int) (w : World) (h : stamp_Day.f a0 = some (r1, r2)) :
  Calls Tryz.prog 69 #[.int .i64 a0] w fun e w' => e = .returned (.tuple #[.int .i64 r1, .int .i64 r2]) ∧ Drawn0 w w' := by
 have H : (if (Int.tmod a0 86400) < 0 then (some (wrap64 ((wrap64 (Int.tdiv a0 86400)) - 1), wrap64 ((Int.tmod a0 86400) + 86400))) else (some (wrap64 (Int.tdiv a0 86400), Int.tmod a0 86400))) = some (r1, r2) := h
 clear h
 by_cases c2 : (Int.tmod a0 86400) < 0
 ·rw [if_pos c2] at H
  have c2b0 : decide ((Int.tmod a0 86400) < 0) = true := decide_eq_true c2
  clear c2
  simp only [Option.some.injEq, Prod.mk.injEq] at H
  obtain ⟨rfl, rfl⟩ := H
  go_enter Tryz.func69, Tryz.ntmps69
  go_wp2
  go_ret2
  exact ⟨by first | rfl | (simp; done) | (simp [*]; done), by repeat (first | exact Drawn0.refl _ | apply Drawn0.step)⟩
 ·rw [if_neg c2] at H
  have c2b0 : decide ((Int.tmod a0 86400) < 0) = false := decide_eq_false c2
  clear c2
  simp only [Option.some.injEq, Prod.mk.injEq] at H
  obtain ⟨rfl, rfl⟩ := H
  go_enter Tryz.func69, Tryz.ntmps69
  go_wp2
  go_ret2
  exact ⟨by first | rfl | (simp; done) | (simp [*]; done), by repeat (first | exact Drawn0.refl _ | apply Drawn0.step)⟩

/-! ### civil_number: function 101 -/
def civil_number.f (a0 : Int) (a1 : Int) (a2 : Int) : Option (Int) := if a1 < 3 then (some (wrap64 ((wrap64 ((wrap64 ((wrap64 ((wrap64 ((wrap64 ((wrap64 ((wrap64 (365 * (wrap64 ((wrap64 (a0 - 1)) + 400)))) + (wrap64 (Int.tdiv (wrap64 ((wrap64 (a0 - 1)) + 400)) 4)))) - (wrap64 (Int.tdiv (wrap64 ((wrap64 (a0 - 1)) + 400)) 100)))) + (wrap64 (Int.tdiv (wrap64 ((wrap64 (a0 - 1)) + 400)) 400)))) + (wrap64 (Int.tdiv (wrap64 ((wrap64 (153 * (wrap64 ((wrap64 (a1 + 12)) - 3)))) + 2)) 5)))) + a2)) - 719469)) - 146097))) else (some (wrap64 ((wrap64 ((wrap64 ((wrap64 ((wrap64 ((wrap64 ((wrap64 ((wrap64 (365 * (wrap64 (a0 + 400)))) + (wrap64 (Int.tdiv (wrap64 (a0 + 400)) 4)))) - (wrap64 (Int.tdiv (wrap64 (a0 + 400)) 100)))) + (wrap64 (Int.tdiv (wrap64 (a0 + 400)) 400)))) + (wrap64 (Int.tdiv (wrap64 ((wrap64 (153 * (wrap64 (a1 - 3)))) + 2)) 5)))) + a2)) - 719469)) - 146097)))
set_option maxHeartbeats 8000000 in
set_option maxRecDepth 100000 in
theorem civil_number.calls (a0 : Int) (a1 : Int) (a2 : Int) (r : Int) (w : World) (h : civil_number.f a0 a1 a2 = some r) :
  Calls Tryz.prog 101 #[.int .i64 a0, .int .i64 a1, .int .i64 a2] w fun e w' => e = .returned (.int .i64 r) ∧ Drawn0 w w' := by
 have H : (if a1 < 3 then (some (wrap64 ((wrap64 ((wrap64 ((wrap64 ((wrap64 ((wrap64 ((wrap64 ((wrap64 (365 * (wrap64 ((wrap64 (a0 - 1)) + 400)))) + (wrap64 (Int.tdiv (wrap64 ((wrap64 (a0 - 1)) + 400)) 4)))) - (wrap64 (Int.tdiv (wrap64 ((wrap64 (a0 - 1)) + 400)) 100)))) + (wrap64 (Int.tdiv (wrap64 ((wrap64 (a0 - 1)) + 400)) 400)))) + (wrap64 (Int.tdiv (wrap64 ((wrap64 (153 * (wrap64 ((wrap64 (a1 + 12)) - 3)))) + 2)) 5)))) + a2)) - 719469)) - 146097))) else (some (wrap64 ((wrap64 ((wrap64 ((wrap64 ((wrap64 ((wrap64 ((wrap64 ((wrap64 (365 * (wrap64 (a0 + 400)))) + (wrap64 (Int.tdiv (wrap64 (a0 + 400)) 4)))) - (wrap64 (Int.tdiv (wrap64 (a0 + 400)) 100)))) + (wrap64 (Int.tdiv (wrap64 (a0 + 400)) 400)))) + (wrap64 (Int.tdiv (wrap64 ((wrap64 (153 * (wrap64 (a1 - 3)))) + 2)) 5)))) + a2)) - 719469)) - 146097)))) = some r := h
 clear h
 by_cases c4 : a1 < 3
 ·rw [if_pos c4] at H
  have c4b0 : decide (a1 < 3) = true := decide_eq_true c4
  clear c4
  obtain rfl := Option.some.inj H
  go_enter Tryz.func101, Tryz.ntmps101
  go_wp2
  go_ret
  exact ⟨by first | rfl | (simp; done) | (simp [*]; done), by repeat (first | exact Drawn0.refl _ | apply Drawn0.step)⟩
 ·rw [if_neg c4] at H
  have c4b0 : decide (a1 < 3) = false := decide_eq_false c4
  clear c4
  obtain rfl := Option.some.inj H
  go_enter Tryz.func101, Tryz.ntmps101
  go_wp2
  go_ret
  exact ⟨by first | rfl | (simp; done) | (simp [*]; done), by repeat (first | exact Drawn0.refl _ | apply Drawn0.step)⟩

/-! ### civil_day: function 109 -/
def civil_day.f (a0 : Int) : Option (Bool) := if a0 ≥ (-719162) then (some (decide (a0 ≤ 2932896))) else (some false)
set_option maxHeartbeats 8000000 in
set_option maxRecDepth 100000 in
theorem civil_day.calls (a0 : Int) (r : Bool) (w : World) (h : civil_day.f a0 = some r) :
  Calls Tryz.prog 109 #[.int .i64 a0] w fun e w' => e = .returned (.bool r) ∧ Drawn0 w w' := by
 have H : (if a0 ≥ (-719162) then (some (decide (a0 ≤ 2932896))) else (some false)) = some r := h
 clear h
 by_cases c2 : a0 ≥ (-719162)
 ·rw [if_pos c2] at H
  have c2b0 : decide ((-719162) ≤ a0) = true := decide_eq_true c2
  clear c2
  obtain rfl := Option.some.inj H
  go_enter Tryz.func109, Tryz.ntmps109
  go_wp2
  go_ret
  exact ⟨by first | rfl | (simp; done) | (simp [*]; done), by repeat (first | exact Drawn0.refl _ | apply Drawn0.step)⟩
 ·rw [if_neg c2] at H
  have c2b0 : decide ((-719162) ≤ a0) = false := decide_eq_false c2
  clear c2
  obtain rfl := Option.some.inj H
  go_enter Tryz.func109, Tryz.ntmps109
  go_wp2
  go_ret
  exact ⟨by first | rfl | (simp; done) | (simp [*]; done), by repeat (first | exact Drawn0.refl _ | apply Drawn0.step)⟩

/-! ### civil_Leap: function 133 -/
def civil_Leap.f (a0 : Int) : Option (Bool) := if (Int.tmod a0 4) = 0 then (if (Int.tmod a0 100) = 0 then (some ((Int.tmod a0 400) == 0)) else (some true)) else (some false)
set_option maxHeartbeats 8000000 in
set_option maxRecDepth 100000 in
theorem civil_Leap.calls (a0 : Int) (r : Bool) (w : World) (h : civil_Leap.f a0 = some r) :
  Calls Tryz.prog 133 #[.int .i64 a0] w fun e w' => e = .returned (.bool r) ∧ Drawn0 w w' := by
 have H : (if (Int.tmod a0 4) = 0 then (if (Int.tmod a0 100) = 0 then (some ((Int.tmod a0 400) == 0)) else (some true)) else (some false)) = some r := h
 clear h
 by_cases c2 : (Int.tmod a0 4) = 0
 ·rw [if_pos c2] at H
  have c2b0 : ((Int.tmod a0 4) == 0) = true := beq_iff_eq.mpr c2
  have c2b1 : ((Int.tmod a0 4) != 0) = false := bne_eq_false_iff_eq.mpr c2
  clear c2
  by_cases c3 : (Int.tmod a0 100) = 0
  ·rw [if_pos c3] at H
   have c3b0 : ((Int.tmod a0 100) == 0) = true := beq_iff_eq.mpr c3
   have c3b1 : ((Int.tmod a0 100) != 0) = false := bne_eq_false_iff_eq.mpr c3
   clear c3
   obtain rfl := Option.some.inj H
   go_enter Tryz.func133, Tryz.ntmps133
   go_wp2
   go_ret
   exact ⟨by first | rfl | (simp; done) | (simp [*]; done), by repeat (first | exact Drawn0.refl _ | apply Drawn0.step)⟩
  ·rw [if_neg c3] at H
   have c3b0 : ((Int.tmod a0 100) == 0) = false := beq_eq_false_iff_ne.mpr c3
   have c3b1 : ((Int.tmod a0 100) != 0) = true := bne_iff_ne.mpr c3
   obtain rfl := Option.some.inj H
   go_enter Tryz.func133, Tryz.ntmps133
   go_wp2
   go_ret
   exact ⟨by first | rfl | (simp; done) | (simp [*]; done), by repeat (first | exact Drawn0.refl _ | apply Drawn0.step)⟩
 ·rw [if_neg c2] at H
  have c2b0 : ((Int.tmod a0 4) == 0) = false := beq_eq_false_iff_ne.mpr c2
  have c2b1 : ((Int.tmod a0 4) != 0) = true := bne_iff_ne.mpr c2
  obtain rfl := Option.some.inj H
  go_enter Tryz.func133, Tryz.ntmps133
  go_wp2
  go_ret
  exact ⟨by first | rfl | (simp; done) | (simp [*]; done), by repeat (first | exact Drawn0.refl _ | apply Drawn0.step)⟩

/-! ### civil_Length: function 110 -/
def civil_Length.j0 : Nat → Int → Int → Bool → Option (Int)
 | 0, _, _, _ => none
 | k + 1, x0, x5, x6 => if x6 = true then (some 30) else (if x5 = 2 then ((civil_Leap.f x0).bind fun t101 => (if t101 = true then (some 29) else (some 28))) else (if x5 = 1 then (some 31) else (if x5 = 3 then (some 31) else (if x5 = 5 then (some 31) else (if x5 = 7 then (some 31) else (if x5 = 8 then (some 31) else (if x5 = 10 then (some 31) else (if x5 = 12 then (some 31) else (some 0)))))))))
def civil_Length.f (k : Nat) (a0 : Int) (a1 : Int) : Option (Int) := if a1 = 4 then (civil_Length.j0 k a0 a1 (a1 == 4)) else (if a1 = 6 then (civil_Length.j0 k a0 a1 (a1 == 6)) else (if a1 = 9 then (civil_Length.j0 k a0 a1 (a1 == 9)) else (civil_Length.j0 k a0 a1 (a1 == 11))))
theorem civil_Length.mono_l : ∀ k, (∀ y0 y1 y2, LeO (civil_Length.j0 k y0 y1 y2) (civil_Length.j0 (k + 1) y0 y1 y2))
 | 0 => fun _ _ _ r h => by simp [civil_Length.j0] at h
 | k + 1 => by
  have ih0 := civil_Length.mono_l k
  ·intro y0 y1 y2
   unfold civil_Length.j0
   repeat' first
   | (with_reducible exact ih0 _ _ _)
   | (with_reducible exact LeO.refl _)
   | (with_reducible exact LeO.none _)
   | (with_reducible refine LeO.ite ?_ ?_)
   | (with_reducible refine LeO.bind ?_ (fun _ => ?_))
   | exact ih0 _ _ _
   | exact LeO.none _
   | refine LeO.ite ?_ ?_
   | refine LeO.bind ?_ (fun _ => ?_)
theorem civil_Length.mono : ∀ a0 a1 k, LeO (civil_Length.f k a0 a1) (civil_Length.f (k + 1) a0 a1) := by
 intro a0 a1 k
 have ih0 := civil_Length.mono_l k
 unfold civil_Length.f
 repeat' first
   | (with_reducible exact ih0 _ _ _)
   | (with_reducible exact LeO.refl _)
   | (with_reducible exact LeO.none _)
   | (with_reducible refine LeO.ite ?_ ?_)
   | (with_reducible refine LeO.bind ?_ (fun _ => ?_))
   | exact ih0 _ _ _
   | exact LeO.none _
   | refine LeO.ite ?_ ?_
   | refine LeO.bind ?_ (fun _ => ?_)
set_option maxHeartbeats 8000000 in
set_option maxRecDepth 100000 in
theorem civil_Length.calls (k : Nat) (a0 : Int) (a1 : Int) (r : Int) (w : World) (h : civil_Length.f k a0 a1 = some r) :
  Calls Tryz.prog 110 #[.int .i64 a0, .int .i64 a1] w fun e w' => e = .returned (.int .i64 r) ∧ Drawn0 w w' := by
 have H : (if a1 = 4 then (civil_Length.j0 k a0 a1 (a1 == 4)) else (if a1 = 6 then (civil_Length.j0 k a0 a1 (a1 == 6)) else (if a1 = 9 then (civil_Length.j0 k a0 a1 (a1 == 9)) else (civil_Length.j0 k a0 a1 (a1 == 11))))) = some r := h
 clear h
 have HC3 := Aside0.mk H
 clear H
 go_enter Tryz.func110, Tryz.ntmps110
 go_upto_if 6 with (fail)
 go_cut [6] (fun v6 wc => ∃ (kq : Nat) (x6_2 : Bool), v6 = .bool x6_2 ∧ Aside0 (civil_Length.j0 kq a0 a1 x6_2 = some r) ∧ Aside0 (kq ≤ k) ∧ Drawn0 w wc)
 case first =>
  have H := HC3.out
  clear HC3
  by_cases c4 : a1 = 4
  ·rw [if_pos c4] at H
   have c4b0 : (a1 == 4) = true := beq_iff_eq.mpr c4
   have c4b1 : (a1 != 4) = false := bne_eq_false_iff_eq.mpr c4
   clear c4
   (first | rw [c4b0] | (simp only [i64_w, i32_w]; rw [c4b0]) | skip)
   have H' := Aside0.mk H
   clear H
   go_wp2
   go_meet
   case rel => exact ⟨_, ((a1 == 4)), (by first | rfl | (simp; done) | (simp [*]; done)), H', ⟨by first | omega | exact Nat.le_refl _⟩, by repeat (first | exact Drawn0.refl _ | apply Drawn0.step)⟩
  ·rw [if_neg c4] at H
   have c4b0 : (a1 == 4) = false := beq_eq_false_iff_ne.mpr c4
   have c4b1 : (a1 != 4) = true := bne_iff_ne.mpr c4
   (first | rw [c4b0] | (simp only [i64_w, i32_w]; rw [c4b0]) | skip)
   by_cases c5 : a1 = 6
   ·rw [if_pos c5] at H
    have c5b0 : (a1 == 6) = true := beq_iff_eq.mpr c5
    have c5b1 : (a1 != 6) = false := bne_eq_false_iff_eq.mpr c5
    clear c5
    have H' := Aside0.mk H
    clear H
    go_wp2
    go_meet
    case rel => exact ⟨_, ((a1 == 6)), (by first | rfl | (simp; done) | (simp [*]; done)), H', ⟨by first | omega | exact Nat.le_refl _⟩, by repeat (first | exact Drawn0.refl _ | apply Drawn0.step)⟩
   ·rw [if_neg c5] at H
    have c5b0 : (a1 == 6) = false := beq_eq_false_iff_ne.mpr c5
    have c5b1 : (a1 != 6) = true := bne_iff_ne.mpr c5
    by_cases c6 : a1 = 9
    ·rw [if_pos c6] at H
     have c6b0 : (a1 == 9) = true := beq_iff_eq.mpr c6
     have c6b1 : (a1 != 9) = false := bne_eq_false_iff_eq.mpr c6
     clear c6
     have H' := Aside0.mk H
     clear H
     go_wp2
     go_meet
     case rel => exact ⟨_, ((a1 == 9)), (by first | rfl | (simp; done) | (simp [*]; done)), H', ⟨by first | omega | exact Nat.le_refl _⟩, by repeat (first | exact Drawn0.refl _ | apply Drawn0.step)⟩
    ·rw [if_neg c6] at H
     have c6b0 : (a1 == 9) = false := beq_eq_false_iff_ne.mpr c6
     have c6b1 : (a1 != 9) = true := bne_iff_ne.mpr c6
     have H' := Aside0.mk H
     clear H
     go_wp2
     go_meet
     case rel => exact ⟨_, ((a1 == 11)), (by first | rfl | (simp; done) | (simp [*]; done)), H', ⟨by first | omega | exact Nat.le_refl _⟩, by repeat (first | exact Drawn0.refl _ | apply Drawn0.step)⟩
 case rest =>
  clear HC3
  try clear c1
  try clear p2
  try clear c4
  try clear c4b0
  try clear c4b1
  try clear c5
  try clear c5b0
  try clear c5b1
  try clear c6
  try clear c6b0
  try clear c6b1
  obtain ⟨kq, x6_2, rfl, HA, HJ2, ⟨mc2, rfl⟩⟩ := hcut
  cases kq with
  | zero => exact absurd HA.out (by simp [civil_Length.j0])
  | succ kj2 =>
   have H := HA.out
   clear HA
   simp only [civil_Length.j0] at H
   by_cases c7 : x6_2 = true
   ·subst c7
    have H1 : (some 30) = some r := by rw [if_pos rfl] at H; exact H
    clear H
    have H := H1
    clear H1
    obtain rfl := Option.some.inj H
    go_wp2
    go_ret
    exact ⟨by first | rfl | (simp; done) | (simp [*]; done), by repeat (first | exact Drawn0.refl _ | apply Drawn0.step)⟩
   ·replace c7 := Bool.eq_false_iff.mpr c7
    subst c7
    have H1 : (if a1 = 2 then ((civil_Leap.f a0).bind fun t101 => (if t101 = true then (some 29) else (some 28))) else (if a1 = 1 then (some 31) else (if a1 = 3 then (some 31) else (if a1 = 5 then (some 31) else (if a1 = 7 then (some 31) else (if a1 = 8 then (some 31) else (if a1 = 10 then (some 31) else (if a1 = 12 then (some 31) else (some 0))))))))) = some r := by rw [if_neg (show ¬ (false = true) by decide)] at H; exact H
    clear H
    have H := H1
    clear H1
    by_cases c8 : a1 = 2
    ·rw [if_pos c8] at H
     have c8b0 : (a1 == 2) = true := beq_iff_eq.mpr c8
     have c8b1 : (a1 != 2) = false := bne_eq_false_iff_eq.mpr c8
     clear c8
     replace H := Option.bind_eq_some_iff.mp H
     obtain ⟨t101, A90, H⟩ := H
     replace H : (if t101 = true then (some 29) else (some 28)) = some r := H
     have A9 := Aside0.mk A90
     clear A90
     by_cases c10 : t101 = true
     ·subst c10
      have H1 : (some 29) = some r := by rw [if_pos rfl] at H; exact H
      clear H
      have H := H1
      clear H1
      obtain rfl := Option.some.inj H
      go_wp2_with (first | ((with_reducible refine gate_callee (f := 133) rfl ?_); refine goesL_ (some 14) rfl rfl Tryz.func133 (by kernel_rfl) rfl #[.int .i64 a0] rfl (by (try simp only [List.map_toArray, List.map_cons, List.map_nil]); first | done | rfl | (simp only [List.length_drop, List.length_take]; rfl)) ?_; (with_reducible refine (civil_Leap.calls a0 true _ A9.out).mono ?_); rintro e w' ⟨rfl, ⟨nd, rfl⟩⟩; refine ⟨_, rfl, ?_⟩))
      go_ret
      exact ⟨by first | rfl | (simp; done) | (simp [*]; done), by repeat (first | exact Drawn0.refl _ | apply Drawn0.step)⟩
     ·replace c10 := Bool.eq_false_iff.mpr c10
      subst c10
      have H1 : (some 28) = some r := by rw [if_neg (show ¬ (false = true) by decide)] at H; exact H
      clear H
      have H := H1
      clear H1
      obtain rfl := Option.some.inj H
      go_wp2_with (first | ((with_reducible refine gate_callee (f := 133) rfl ?_); refine goesL_ (some 14) rfl rfl Tryz.func133 (by kernel_rfl) rfl #[.int .i64 a0] rfl (by (try simp only [List.map_toArray, List.map_cons, List.map_nil]); first | done | rfl | (simp only [List.length_drop, List.length_take]; rfl)) ?_; (with_reducible refine (civil_Leap.calls a0 false _ A9.out).mono ?_); rintro e w' ⟨rfl, ⟨nd, rfl⟩⟩; refine ⟨_, rfl, ?_⟩))
      go_ret
      exact ⟨by first | rfl | (simp; done) | (simp [*]; done), by repeat (first | exact Drawn0.refl _ | apply Drawn0.step)⟩
    ·rw [if_neg c8] at H
     have c8b0 : (a1 == 2) = false := beq_eq_false_iff_ne.mpr c8
     have c8b1 : (a1 != 2) = true := bne_iff_ne.mpr c8
     by_cases c11 : a1 = 1
     ·rw [if_pos c11] at H
      have c11b0 : (a1 == 1) = true := beq_iff_eq.mpr c11
      have c11b1 : (a1 != 1) = false := bne_eq_false_iff_eq.mpr c11
      clear c11
      obtain rfl := Option.some.inj H
      go_wp2
      go_ret
      exact ⟨by first | rfl | (simp; done) | (simp [*]; done), by repeat (first | exact Drawn0.refl _ | apply Drawn0.step)⟩
     ·rw [if_neg c11] at H
      have c11b0 : (a1 == 1) = false := beq_eq_false_iff_ne.mpr c11
      have c11b1 : (a1 != 1) = true := bne_iff_ne.mpr c11
      by_cases c12 : a1 = 3
      ·rw [if_pos c12] at H
       have c12b0 : (a1 == 3) = true := beq_iff_eq.mpr c12
       have c12b1 : (a1 != 3) = false := bne_eq_false_iff_eq.mpr c12
       clear c12
       obtain rfl := Option.some.inj H
       go_wp2
       go_ret
       exact ⟨by first | rfl | (simp; done) | (simp [*]; done), by repeat (first | exact Drawn0.refl _ | apply Drawn0.step)⟩
      ·rw [if_neg c12] at H
       have c12b0 : (a1 == 3) = false := beq_eq_false_iff_ne.mpr c12
       have c12b1 : (a1 != 3) = true := bne_iff_ne.mpr c12
       by_cases c13 : a1 = 5
       ·rw [if_pos c13] at H
        have c13b0 : (a1 == 5) = true := beq_iff_eq.mpr c13
        have c13b1 : (a1 != 5) = false := bne_eq_false_iff_eq.mpr c13
        clear c13
        obtain rfl := Option.some.inj H
        go_wp2
        go_ret
        exact ⟨by first | rfl | (simp; done) | (simp [*]; done), by repeat (first | exact Drawn0.refl _ | apply Drawn0.step)⟩
       ·rw [if_neg c13] at H
        have c13b0 : (a1 == 5) = false := beq_eq_false_iff_ne.mpr c13
        have c13b1 : (a1 != 5) = true := bne_iff_ne.mpr c13
        by_cases c14 : a1 = 7
        ·rw [if_pos c14] at H
         have c14b0 : (a1 == 7) = true := beq_iff_eq.mpr c14
         have c14b1 : (a1 != 7) = false := bne_eq_false_iff_eq.mpr c14
         clear c14
         obtain rfl := Option.some.inj H
         go_wp2
         go_ret
         exact ⟨by first | rfl | (simp; done) | (simp [*]; done), by repeat (first | exact Drawn0.refl _ | apply Drawn0.step)⟩
        ·rw [if_neg c14] at H
         have c14b0 : (a1 == 7) = false := beq_eq_false_iff_ne.mpr c14
         have c14b1 : (a1 != 7) = true := bne_iff_ne.mpr c14
         by_cases c15 : a1 = 8
         ·rw [if_pos c15] at H
          have c15b0 : (a1 == 8) = true := beq_iff_eq.mpr c15
          have c15b1 : (a1 != 8) = false := bne_eq_false_iff_eq.mpr c15
          clear c15
          obtain rfl := Option.some.inj H
          go_wp2
          go_ret
          exact ⟨by first | rfl | (simp; done) | (simp [*]; done), by repeat (first | exact Drawn0.refl _ | apply Drawn0.step)⟩
         ·rw [if_neg c15] at H
          have c15b0 : (a1 == 8) = false := beq_eq_false_iff_ne.mpr c15
          have c15b1 : (a1 != 8) = true := bne_iff_ne.mpr c15
          by_cases c16 : a1 = 10
          ·rw [if_pos c16] at H
           have c16b0 : (a1 == 10) = true := beq_iff_eq.mpr c16
           have c16b1 : (a1 != 10) = false := bne_eq_false_iff_eq.mpr c16
           clear c16
           obtain rfl := Option.some.inj H
           go_wp2
           go_ret
           exact ⟨by first | rfl | (simp; done) | (simp [*]; done), by repeat (first | exact Drawn0.refl _ | apply Drawn0.step)⟩
          ·rw [if_neg c16] at H
           have c16b0 : (a1 == 10) = false := beq_eq_false_iff_ne.mpr c16
           have c16b1 : (a1 != 10) = true := bne_iff_ne.mpr c16
           by_cases c17 : a1 = 12
           ·rw [if_pos c17] at H
            have c17b0 : (a1 == 12) = true := beq_iff_eq.mpr c17
            have c17b1 : (a1 != 12) = false := bne_eq_false_iff_eq.mpr c17
            clear c17
            obtain rfl := Option.some.inj H
            go_wp2
            go_ret
            exact ⟨by first | rfl | (simp; done) | (simp [*]; done), by repeat (first | exact Drawn0.refl _ | apply Drawn0.step)⟩
           ·rw [if_neg c17] at H
            have c17b0 : (a1 == 12) = false := beq_eq_false_iff_ne.mpr c17
            have c17b1 : (a1 != 12) = true := bne_iff_ne.mpr c17
            obtain rfl := Option.some.inj H
            go_wp2
            go_ret
            exact ⟨by first | rfl | (simp; done) | (simp [*]; done), by repeat (first | exact Drawn0.refl _ | apply Drawn0.step)⟩

/-! ### civil_Date: function 70 -/
mutual
def civil_Date.j1 : Nat → Int → Int → Option (Int × Int × Int × Int)
 | 0, _, _ => none
 | k + 1, x0, x7 => civil_Date.l1 k x0 x7
def civil_Date.l1 : Nat → Int → Int → Option (Int × Int × Int × Int)
 | 0, _, _ => none
 | k + 1, x0, x7 => (civil_number.f x7 1 1).bind fun t104 => (if t104 > x0 then (civil_Date.l1 k x0 (wrap64 (x7 - 1))) else ((civil_number.f x7 1 1).bind fun t105 => (civil_Date.l2 k x7 (wrap64 (x0 - t105)) 1)))
def civil_Date.l2 : Nat → Int → Int → Int → Option (Int × Int × Int × Int)
 | 0, _, _, _ => none
 | k + 1, x7, x8, x9 => (civil_Length.f k x7 x9).bind fun t106 => (if x8 ≥ t106 then ((civil_Length.f k x7 x9).bind fun t107 => (civil_Date.l2 k x7 (wrap64 (x8 - t107)) (wrap64 (x9 + 1)))) else (some (x7, x9, wrap64 (x8 + 1), 0)))
def civil_Date.l0 : Nat → Int → Int → Option (Int × Int × Int × Int)
 | 0, _, _ => none
 | k + 1, x0, x7 => if x7 < 9999 then ((civil_number.f (wrap64 (x7 + 1)) 1 1).bind fun t103 => (if t103 ≤ x0 then (civil_Date.l0 k x0 (wrap64 (x7 + 1))) else (civil_Date.j1 k x0 x7))) else (civil_Date.j1 k x0 x7)
end
def civil_Date.f (k : Nat) (a0 : Int) : Option (Int × Int × Int × Int) := (civil_day.f a0).bind fun t102 => (if t102 = true then (civil_Date.l0 k a0 (wrap64 ((wrap64 (Int.tdiv (wrap64 ((wrap64 (a0 - (-719162))) * 400)) 146097)) + 1))) else (some (0, 0, 0, 1)))
theorem civil_Date.mono_l : ∀ k, (∀ y0 y1, LeO (civil_Date.j1 k y0 y1) (civil_Date.j1 (k + 1) y0 y1)) ∧ (∀ y0 y1, LeO (civil_Date.l1 k y0 y1) (civil_Date.l1 (k + 1) y0 y1)) ∧ (∀ y0 y1 y2, LeO (civil_Date.l2 k y0 y1 y2) (civil_Date.l2 (k + 1) y0 y1 y2)) ∧ (∀ y0 y1, LeO (civil_Date.l0 k y0 y1) (civil_Date.l0 (k + 1) y0 y1))
 | 0 => ⟨fun _ _ r h => by simp [civil_Date.j1] at h, fun _ _ r h => by simp [civil_Date.l1] at h, fun _ _ _ r h => by simp [civil_Date.l2] at h, fun _ _ r h => by simp [civil_Date.l0] at h⟩
 | k + 1 => by
  obtain ⟨ih0, ih1, ih2, ih3⟩ := civil_Date.mono_l k
  refine ⟨?_, ?_, ?_, ?_⟩
  ·intro y0 y1
   unfold civil_Date.j1
   repeat' first
   | (with_reducible exact ih0 _ _)
   | (with_reducible exact ih1 _ _)
   | (with_reducible exact ih2 _ _ _)
   | (with_reducible exact ih3 _ _)
   | (with_reducible exact civil_Length.mono _ _ _)
   | (with_reducible exact LeO.refl _)
   | (with_reducible exact LeO.none _)
   | (with_reducible refine LeO.ite ?_ ?_)
   | (with_reducible refine LeO.bind ?_ (fun _ => ?_))
   | exact ih0 _ _
   | exact ih1 _ _
   | exact ih2 _ _ _
   | exact ih3 _ _
   | exact civil_Length.mono _ _ _
   | exact LeO.none _
   | refine LeO.ite ?_ ?_
   | refine LeO.bind ?_ (fun _ => ?_)
  ·intro y0 y1
   unfold civil_Date.l1
   repeat' first
   | (with_reducible exact ih0 _ _)
   | (with_reducible exact ih1 _ _)
   | (with_reducible exact ih2 _ _ _)
   | (with_reducible exact ih3 _ _)
   | (with_reducible exact civil_Length.mono _ _ _)
   | (with_reducible exact LeO.refl _)
   | (with_reducible exact LeO.none _)
   | (with_reducible refine LeO.ite ?_ ?_)
   | (with_reducible refine LeO.bind ?_ (fun _ => ?_))
   | exact ih0 _ _
   | exact ih1 _ _
   | exact ih2 _ _ _
   | exact ih3 _ _
   | exact civil_Length.mono _ _ _
   | exact LeO.none _
   | refine LeO.ite ?_ ?_
   | refine LeO.bind ?_ (fun _ => ?_)
  ·intro y0 y1 y2
   unfold civil_Date.l2
   repeat' first
   | (with_reducible exact ih0 _ _)
   | (with_reducible exact ih1 _ _)
   | (with_reducible exact ih2 _ _ _)
   | (with_reducible exact ih3 _ _)
   | (with_reducible exact civil_Length.mono _ _ _)
   | (with_reducible exact LeO.refl _)
   | (with_reducible exact LeO.none _)
   | (with_reducible refine LeO.ite ?_ ?_)
   | (with_reducible refine LeO.bind ?_ (fun _ => ?_))
   | exact ih0 _ _
   | exact ih1 _ _
   | exact ih2 _ _ _
   | exact ih3 _ _
   | exact civil_Length.mono _ _ _
   | exact LeO.none _
   | refine LeO.ite ?_ ?_
   | refine LeO.bind ?_ (fun _ => ?_)
  ·intro y0 y1
   unfold civil_Date.l0
   repeat' first
   | (with_reducible exact ih0 _ _)
   | (with_reducible exact ih1 _ _)
   | (with_reducible exact ih2 _ _ _)
   | (with_reducible exact ih3 _ _)
   | (with_reducible exact civil_Length.mono _ _ _)
   | (with_reducible exact LeO.refl _)
   | (with_reducible exact LeO.none _)
   | (with_reducible refine LeO.ite ?_ ?_)
   | (with_reducible refine LeO.bind ?_ (fun _ => ?_))
   | exact ih0 _ _
   | exact ih1 _ _
   | exact ih2 _ _ _
   | exact ih3 _ _
   | exact civil_Length.mono _ _ _
   | exact LeO.none _
   | refine LeO.ite ?_ ?_
   | refine LeO.bind ?_ (fun _ => ?_)
theorem civil_Date.mono : ∀ a0 k, LeO (civil_Date.f k a0) (civil_Date.f (k + 1) a0) := by
 intro a0 k
 obtain ⟨ih0, ih1, ih2, ih3⟩ := civil_Date.mono_l k
 unfold civil_Date.f
 repeat' first
   | (with_reducible exact ih0 _ _)
   | (with_reducible exact ih1 _ _)
   | (with_reducible exact ih2 _ _ _)
   | (with_reducible exact ih3 _ _)
   | (with_reducible exact civil_Length.mono _ _ _)
   | (with_reducible exact LeO.refl _)
   | (with_reducible exact LeO.none _)
   | (with_reducible refine LeO.ite ?_ ?_)
   | (with_reducible refine LeO.bind ?_ (fun _ => ?_))
   | exact ih0 _ _
   | exact ih1 _ _
   | exact ih2 _ _ _
   | exact ih3 _ _
   | exact civil_Length.mono _ _ _
   | exact LeO.none _
   | refine LeO.ite ?_ ?_
   | refine LeO.bind ?_ (fun _ => ?_)
set_option maxHeartbeats 8000000 in
set_option maxRecDepth 100000 in
theorem civil_Date.calls (k : Nat) (a0 : Int) (r1 : Int) (r2 : Int) (r3 : Int) (r4 : Int) (w : World) (h : civil_Date.f k a0 = some (r1, r2, r3, r4)) :
  Calls Tryz.prog 70 #[.int .i64 a0] w fun e w' => e = .returned (.tuple #[.int .i64 r1, .int .i64 r2, .int .i64 r3, .int .i64 r4]) ∧ Drawn0 w w' := by
 have H : ((civil_day.f a0).bind fun t102 => (if t102 = true then (civil_Date.l0 k a0 (wrap64 ((wrap64 (Int.tdiv (wrap64 ((wrap64 (a0 - (-719162))) * 400)) 146097)) + 1))) else (some (0, 0, 0, 1)))) = some (r1, r2, r3, r4) := h
 clear h
 replace H := Option.bind_eq_some_iff.mp H
 obtain ⟨t102, A20, H⟩ := H
 replace H : (if t102 = true then (civil_Date.l0 k a0 (wrap64 ((wrap64 (Int.tdiv (wrap64 ((wrap64 (a0 - (-719162))) * 400)) 146097)) + 1))) else (some (0, 0, 0, 1))) = some (r1, r2, r3, r4) := H
 have A2 := Aside0.mk A20
 clear A20
 by_cases c3 : t102 = true
 ·subst c3
  have H1 : (civil_Date.l0 k a0 (wrap64 ((wrap64 (Int.tdiv (wrap64 ((wrap64 (a0 - (-719162))) * 400)) 146097)) + 1))) = some (r1, r2, r3, r4) := by rw [if_pos rfl] at H; exact H
  clear H
  have H := H1
  clear H1
  have HC4 := Aside0.mk H
  clear H
  go_enter Tryz.func70, Tryz.ntmps70
  go_upto_block 0 with (first | ((with_reducible refine gate_callee (f := 109) rfl ?_); refine goesL_ (some 11) rfl rfl Tryz.func109 (by kernel_rfl) rfl #[.int .i64 a0] rfl (by (try simp only [List.map_toArray, List.map_cons, List.map_nil]); first | done | rfl | (simp only [List.length_drop, List.length_take]; rfl)) ?_; (with_reducible refine (civil_day.calls a0 true _ A2.out).mono ?_); rintro e w' ⟨rfl, ⟨nd, rfl⟩⟩; refine ⟨_, rfl, ?_⟩))
  (try simp only [Act.put, List.setIfInBounds_toArray, List.set_cons_zero, List.set_cons_succ])
  go_cut [7] (fun v7 wc => ∃ (kq : Nat) (x7_3 : Int), v7 = .int .i64 x7_3 ∧ Aside0 (civil_Date.j1 kq a0 x7_3 = some (r1, r2, r3, r4)) ∧ Aside0 (kq ≤ k) ∧ Drawn0 w wc)
  case first =>
   have H := HC4.out
   clear HC4
   have H' := Aside0.mk H
   clear H
   go_wp2
   go_loopg [7] k (fun kq v7 w' => ∃ (x7_1 : Int), v7 = .int .i64 x7_1 ∧ Aside0 (civil_Date.l0 kq a0 x7_1 = some (r1, r2, r3, r4)) ∧ Aside0 (kq ≤ k) ∧ Drawn0 w w')
   case atStart => exact ⟨(wrap64 ((wrap64 (Int.tdiv (wrap64 ((wrap64 (a0 - (-719162))) * 400)) 146097)) + 1)), (by first | rfl | (simp; done) | (simp [*]; done)), H', ⟨Nat.le_refl _⟩, by repeat (first | exact Drawn0.refl _ | apply Drawn0.step)⟩
   case round =>
    clear H'
    try clear c1
    try clear p2
    try clear c3
    obtain ⟨x7_1, rfl, HA, HK1, ⟨m1, rfl⟩⟩ := hrel
    cases gk with
    | zero => exact absurd HA.out (by simp [civil_Date.l0])
    | succ k1 =>
     have H := HA.out
     clear HA
     simp only [civil_Date.l0] at H
     by_cases c5 : x7_1 < 9999
     ·rw [if_pos c5] at H
      have c5b0 : decide (x7_1 < 9999) = true := decide_eq_true c5
      clear c5
      (first | rw [c5b0] | (simp only [i64_w, i32_w]; rw [c5b0]) | skip)
      replace H := Option.bind_eq_some_iff.mp H
      obtain ⟨t103, A60, H⟩ := H
      replace H : (if t103 ≤ a0 then (civil_Date.l0 k1 a0 (wrap64 (x7_1 + 1))) else (civil_Date.j1 k1 a0 x7_1)) = some (r1, r2, r3, r4) := H
      have A6 := Aside0.mk A60
      clear A60
      by_cases c7 : t103 ≤ a0
      ·rw [if_pos c7] at H
       have c7b0 : decide (t103 ≤ a0) = true := decide_eq_true c7
       clear c7
       have H' := Aside0.mk H
       clear H
       go_wp2_with (first | (go_at_call 101; (with_reducible refine (civil_number.calls (wrap64 (x7_1 + 1)) 1 1 t103 _ A6.out).mono ?_); rintro e w' ⟨rfl, ⟨nd, rfl⟩⟩))
       go_roundg k1
       case measure => have := HK1.out; omega
       case rel => exact ⟨(wrap64 (x7_1 + 1)), (by first | rfl | (simp; done) | (simp [*]; done)), H', ⟨by have := HK1.out; omega⟩, by repeat (first | exact Drawn0.refl _ | apply Drawn0.step)⟩
      ·rw [if_neg c7] at H
       have c7b0 : decide (t103 ≤ a0) = false := decide_eq_false c7
       clear c7
       have H' := Aside0.mk H
       clear H
       go_wp2_with (first | (go_at_call 101; (with_reducible refine (civil_number.calls (wrap64 (x7_1 + 1)) 1 1 t103 _ A6.out).mono ?_); rintro e w' ⟨rfl, ⟨nd, rfl⟩⟩))
       go_meet
       case rel => exact ⟨_, (x7_1), (by first | rfl | (simp; done) | (simp [*]; done)), H', ⟨by have := HK1.out; first | omega | exact Nat.le_refl _⟩, by repeat (first | exact Drawn0.refl _ | apply Drawn0.step)⟩
     ·rw [if_neg c5] at H
      have c5b0 : decide (x7_1 < 9999) = false := decide_eq_false c5
      clear c5
      (first | rw [c5b0] | (simp only [i64_w, i32_w]; rw [c5b0]) | skip)
      have H' := Aside0.mk H
      clear H
      go_wp2
      go_meet
      case rel => exact ⟨_, (x7_1), (by first | rfl | (simp; done) | (simp [*]; done)), H', ⟨by have := HK1.out; first | omega | exact Nat.le_refl _⟩, by repeat (first | exact Drawn0.refl _ | apply Drawn0.step)⟩
  case rest =>
   clear HC4
   try clear c1
   try clear p2
   try clear c3
   try clear c5
   try clear c5b0
   try clear p6
   try clear c7
   try clear c7b0
   try clear p2
   obtain ⟨kq, x7_3, rfl, HA, HJ3, ⟨mc3, rfl⟩⟩ := hcut
   cases kq with
   | zero => exact absurd HA.out (by simp [civil_Date.j1])
   | succ kj3 =>
    have H := HA.out
    clear HA
    simp only [civil_Date.j1] at H
    have H' := Aside0.mk H
    clear H
    go_wp2
    go_loopg [7] kj3 (fun kq v7 w' => ∃ (x7_2 : Int), v7 = .int .i64 x7_2 ∧ Aside0 (civil_Date.l1 kq a0 x7_2 = some (r1, r2, r3, r4)) ∧ Aside0 (kq ≤ kj3) ∧ Drawn0 w w')
    case atStart => exact ⟨(x7_3), (by first | rfl | (simp; done) | (simp [*]; done)), H', ⟨Nat.le_refl _⟩, by repeat (first | exact Drawn0.refl _ | apply Drawn0.step)⟩
    case round =>
     clear H'
     try clear c1
     try clear p2
     try clear c3
     try clear c5
     try clear c5b0
     try clear p6
     try clear c7
     try clear c7b0
     try clear p2
     try clear p6
     obtain ⟨x7_2, rfl, HA, HK2, ⟨m2, rfl⟩⟩ := hrel
     cases gk with
     | zero => exact absurd HA.out (by simp [civil_Date.l1])
     | succ k2 =>
      have H := HA.out
      clear HA
      simp only [civil_Date.l1] at H
      replace H := Option.bind_eq_some_iff.mp H
      obtain ⟨t104, A80, H⟩ := H
      replace H : (if t104 > a0 then (civil_Date.l1 k2 a0 (wrap64 (x7_2 - 1))) else ((civil_number.f x7_2 1 1).bind fun t105 => (civil_Date.l2 k2 x7_2 (wrap64 (a0 - t105)) 1))) = some (r1, r2, r3, r4) := H
      have A8 := Aside0.mk A80
      clear A80
      by_cases c9 : t104 > a0
      ·rw [if_pos c9] at H
       have c9b0 : decide (a0 < t104) = true := decide_eq_true c9
       clear c9
       have H' := Aside0.mk H
       clear H
       go_wp2_with (first | ((with_reducible refine gate_callee (f := 101) rfl ?_); refine goesL_ (some 31) rfl rfl Tryz.func101 (by kernel_rfl) rfl #[.int .i64 x7_2, .int .i64 1, .int .i64 1] rfl (by (try simp only [List.map_toArray, List.map_cons, List.map_nil]); first | done | rfl | (simp only [List.length_drop, List.length_take]; rfl)) ?_; (with_reducible refine (civil_number.calls x7_2 1 1 t104 _ A8.out).mono ?_); rintro e w' ⟨rfl, ⟨nd, rfl⟩⟩; refine ⟨_, rfl, ?_⟩))
       go_roundg k2
       case measure => have := HJ3.out; have := HK2.out; omega
       case rel => exact ⟨(wrap64 (x7_2 - 1)), (by first | rfl | (simp; done) | (simp [*]; done)), H', ⟨by have := HJ3.out; have := HK2.out; omega⟩, by repeat (first | exact Drawn0.refl _ | apply Drawn0.step)⟩
      ·rw [if_neg c9] at H
       have c9b0 : decide (a0 < t104) = false := decide_eq_false c9
       clear c9
       replace H := Option.bind_eq_some_iff.mp H
       obtain ⟨t105, A100, H⟩ := H
       replace H : (civil_Date.l2 k2 x7_2 (wrap64 (a0 - t105)) 1) = some (r1, r2, r3, r4) := H
       have A10 := Aside0.mk A100
       clear A100
       have H' := Aside0.mk H
       clear H
       go_wp2_with (first | ((with_reducible refine gate_callee (f := 101) rfl ?_); refine goesL_ (some 31) rfl rfl Tryz.func101 (by kernel_rfl) rfl #[.int .i64 x7_2, .int .i64 1, .int .i64 1] rfl (by (try simp only [List.map_toArray, List.map_cons, List.map_nil]); first | done | rfl | (simp only [List.length_drop, List.length_take]; rfl)) ?_; (with_reducible refine (civil_number.calls x7_2 1 1 t104 _ A8.out).mono ?_); rintro e w' ⟨rfl, ⟨nd, rfl⟩⟩; refine ⟨_, rfl, ?_⟩) | ((with_reducible refine gate_callee (f := 101) rfl ?_); refine goesL_ (some 38) rfl rfl Tryz.func101 (by kernel_rfl) rfl #[.int .i64 x7_2, .int .i64 1, .int .i64 1] rfl (by (try simp only [List.map_toArray, List.map_cons, List.map_nil]); first | done | rfl | (simp only [List.length_drop, List.length_take]; rfl)) ?_; (with_reducible refine (civil_number.calls x7_2 1 1 t105 _ A10.out).mono ?_); rintro e w' ⟨rfl, ⟨nd, rfl⟩⟩; refine ⟨_, rfl, ?_⟩))
       go_loopg [8, 9] k2 (fun kq v8 v9 w' => ∃ (x8_3 : Int) (x9_3 : Int), v8 = .int .i64 x8_3 ∧ v9 = .int .i64 x9_3 ∧ Aside0 (civil_Date.l2 kq x7_2 x8_3 x9_3 = some (r1, r2, r3, r4)) ∧ Aside0 (kq ≤ k2) ∧ Drawn0 w w')
       case atStart => exact ⟨(wrap64 (a0 - t105)), (1), (by first | rfl | (simp; done) | (simp [*]; done)), (by first | rfl | (simp; done) | (simp [*]; done)), H', ⟨Nat.le_refl _⟩, by repeat (first | exact Drawn0.refl _ | apply Drawn0.step)⟩
       case round =>
        clear H'
        try clear c1
        try clear p2
        try clear c3
        try clear c5
        try clear c5b0
        try clear p6
        try clear c7
        try clear c7b0
        try clear c9
        try clear c9b0
        try clear c10
        try clear p2
        try clear p6
        obtain ⟨x8_3, x9_3, rfl, rfl, HA, HK3, ⟨m3, rfl⟩⟩ := hrel
        cases gk with
        | zero => exact absurd HA.out (by simp [civil_Date.l2])
        | succ k3 =>
         have H := HA.out
         clear HA
         simp only [civil_Date.l2] at H
         replace H := Option.bind_eq_some_iff.mp H
         obtain ⟨t106, A110, H⟩ := H
         replace H : (if x8_3 ≥ t106 then ((civil_Length.f k3 x7_2 x9_3).bind fun t107 => (civil_Date.l2 k3 x7_2 (wrap64 (x8_3 - t107)) (wrap64 (x9_3 + 1)))) else (some (x7_2, x9_3, wrap64 (x8_3 + 1), 0))) = some (r1, r2, r3, r4) := H
         have A11 := Aside0.mk A110
         clear A110
         by_cases c12 : x8_3 ≥ t106
         ·rw [if_pos c12] at H
          have c12b0 : decide (t106 ≤ x8_3) = true := decide_eq_true c12
          clear c12
          replace H := Option.bind_eq_some_iff.mp H
          obtain ⟨t107, A130, H⟩ := H
          replace H : (civil_Date.l2 k3 x7_2 (wrap64 (x8_3 - t107)) (wrap64 (x9_3 + 1))) = some (r1, r2, r3, r4) := H
          have A13 := Aside0.mk A130
          clear A130
          have H' := Aside0.mk H
          clear H
          go_wp2_with (first | ((with_reducible refine gate_callee (f := 110) rfl ?_); refine goesL_ (some 43) rfl rfl Tryz.func110 (by kernel_rfl) rfl #[.int .i64 x7_2, .int .i64 x9_3] rfl (by (try simp only [List.map_toArray, List.map_cons, List.map_nil]); first | done | rfl | (simp only [List.length_drop, List.length_take]; rfl)) ?_; (with_reducible refine (civil_Length.calls k3 x7_2 x9_3 t106 _ A11.out).mono ?_); rintro e w' ⟨rfl, ⟨nd, rfl⟩⟩; refine ⟨_, rfl, ?_⟩) | ((with_reducible refine gate_callee (f := 110) rfl ?_); refine goesL_ (some 48) rfl rfl Tryz.func110 (by kernel_rfl) rfl #[.int .i64 x7_2, .int .i64 x9_3] rfl (by (try simp only [List.map_toArray, List.map_cons, List.map_nil]); first | done | rfl | (simp only [List.length_drop, List.length_take]; rfl)) ?_; (with_reducible refine (civil_Length.calls k3 x7_2 x9_3 t107 _ A13.out).mono ?_); rintro e w' ⟨rfl, ⟨nd, rfl⟩⟩; refine ⟨_, rfl, ?_⟩))
          go_roundg k3
          case measure => have := HJ3.out; have := HK2.out; have := HK3.out; omega
          case rel => exact ⟨(wrap64 (x8_3 - t107)), (wrap64 (x9_3 + 1)), (by first | rfl | (simp; done) | (simp [*]; done)), (by first | rfl | (simp; done) | (simp [*]; done)), H', ⟨by have := HJ3.out; have := HK2.out; have := HK3.out; omega⟩, by repeat (first | exact Drawn0.refl _ | apply Drawn0.step)⟩
         ·rw [if_neg c12] at H
          have c12b0 : decide (t106 ≤ x8_3) = false := decide_eq_false c12
          clear c12
          simp only [Option.some.injEq, Prod.mk.injEq] at H
          obtain ⟨rfl, rfl, rfl, rfl⟩ := H
          go_wp2_with (first | ((with_reducible refine gate_callee (f := 110) rfl ?_); refine goesL_ (some 43) rfl rfl Tryz.func110 (by kernel_rfl) rfl #[.int .i64 x7_2, .int .i64 x9_3] rfl (by (try simp only [List.map_toArray, List.map_cons, List.map_nil]); first | done | rfl | (simp only [List.length_drop, List.length_take]; rfl)) ?_; (with_reducible refine (civil_Length.calls k3 x7_2 x9_3 t106 _ A11.out).mono ?_); rintro e w' ⟨rfl, ⟨nd, rfl⟩⟩; refine ⟨_, rfl, ?_⟩))
          refine bodyPost_ret (results_list (rs := [.tmp 2, .tmp 3, .tmp 4, .tmp 5]) rfl (by simp) (.tmp (.tmp (.tmp (.tmp .nil))))) rfl ?_
          exact ⟨by first | rfl | (simp; done) | (simp [*]; done), by repeat (first | exact Drawn0.refl _ | apply Drawn0.step)⟩
 ·replace c3 := Bool.eq_false_iff.mpr c3
  subst c3
  have H1 : (some (0, 0, 0, 1)) = some (r1, r2, r3, r4) := by rw [if_neg (show ¬ (false = true) by decide)] at H; exact H
  clear H
  have H := H1
  clear H1
  simp only [Option.some.injEq, Prod.mk.injEq] at H
  obtain ⟨rfl, rfl, rfl, rfl⟩ := H
  go_enter Tryz.func70, Tryz.ntmps70
  go_wp2_with (first | ((with_reducible refine gate_callee (f := 109) rfl ?_); refine goesL_ (some 11) rfl rfl Tryz.func109 (by kernel_rfl) rfl #[.int .i64 a0] rfl (by (try simp only [List.map_toArray, List.map_cons, List.map_nil]); first | done | rfl | (simp only [List.length_drop, List.length_take]; rfl)) ?_; (with_reducible refine (civil_day.calls a0 false _ A2.out).mono ?_); rintro e w' ⟨rfl, ⟨nd, rfl⟩⟩; refine ⟨_, rfl, ?_⟩))
  refine bodyPost_ret (results_list (rs := [.tmp 2, .tmp 3, .tmp 4, .tmp 5]) rfl (by simp) (.tmp (.tmp (.tmp (.tmp .nil))))) rfl ?_
  exact ⟨by first | rfl | (simp; done) | (simp [*]; done), by repeat (first | exact Drawn0.refl _ | apply Drawn0.step)⟩

/-! ### stamp_digits: function 71 -/
def stamp_digits.f (a0 : Int) (a1 : Int) : Option (ByteArray) := (strconv_Itoa.f a0).bind fun t108 => ((strings_Repeat.f (⟨#[48]⟩ : ByteArray) (mx (wrap64 (a1 - (t108.size : Int))) 0)).bind fun t109 => (if t109.size + t108.size ≤ 9223372036854775807 then (some (t109 ++ t108)) else (none)))
set_option maxHeartbeats 8000000 in
set_option maxRecDepth 100000 in
theorem stamp_digits.calls (a0 : Int) (a1 : Int) (r : ByteArray) (w : World) (hG : Glob w) (h : stamp_digits.f a0 a1 = some r) :
  Calls Tryz.prog 71 #[.int .i64 a0, .int .i64 a1] w fun e w' => e = .returned (.string r) ∧ Below w.heap.size w w' := by
 have HG := Aside0.mk hG
 clear hG
 have HB := Aside0.mk (Below.refl w.heap.size w)
 have H : ((strconv_Itoa.f a0).bind fun t108 => ((strings_Repeat.f (⟨#[48]⟩ : ByteArray) (mx (wrap64 (a1 - (t108.size : Int))) 0)).bind fun t109 => (if t109.size + t108.size ≤ 9223372036854775807 then (some (t109 ++ t108)) else (none)))) = some r := h
 clear h
 replace H := Option.bind_eq_some_iff.mp H
 obtain ⟨t108, A30, H⟩ := H
 replace H : ((strings_Repeat.f (⟨#[48]⟩ : ByteArray) (mx (wrap64 (a1 - (t108.size : Int))) 0)).bind fun t109 => (if t109.size + t108.size ≤ 9223372036854775807 then (some (t109 ++ t108)) else (none))) = some r := H
 have A3 := Aside0.mk A30
 clear A30
 obtain ⟨ji4, hji4⟩ : ∃ j_ : Int, (mx (wrap64 (a1 - (t108.size : Int))) 0) = j_ := ⟨_, rfl⟩
 replace H : ((strings_Repeat.f (⟨#[48]⟩ : ByteArray) (ji4)).bind fun t109 => (if t109.size + t108.size ≤ 9223372036854775807 then (some (t109 ++ t108)) else (none))) = some r := by first | (rw [hji4] at H; exact H) | (simp only [hji4] at H ⊢; exact H)
 (try rw [hji4] at A3)
 (try (have hji4l : 0 ≤ ji4 := by (rw [← hji4]; unfold mx; (repeat' split) <;> omega)))
 (try (have hji4m : 0 ≤ ji4 := by omega))
 have hji4_ : (if (wrap64 (a1 - (t108.size : Int))) < 0 then 0 else (wrap64 (a1 - (t108.size : Int)))) = ji4 := hji4
 replace H := Option.bind_eq_some_iff.mp H
 obtain ⟨t109, A50, H⟩ := H
 replace H : (if t109.size + t108.size ≤ 9223372036854775807 then (some (t109 ++ t108)) else (none)) = some r := H
 have A5 := Aside0.mk A50
 clear A50
 by_cases c6 : t109.size + t108.size ≤ 9223372036854775807
 ·rw [if_pos c6] at H
  have c6b0 := eq_true c6
  have c6b1 : decide (t109.size + t108.size ≤ 9223372036854775807) = true := decide_eq_true c6
  try have c6b2 : (9223372036854775807 < t109.size + t108.size) = False := eq_false (Nat.not_lt.2 c6)
  obtain rfl := Option.some.inj H
  go_enter Tryz.func71, Tryz.ntmps71
  go_wp2_with (first | ((with_reducible refine gate_callee (f := 44) rfl ?_); refine goesL_ (some 7) rfl rfl Tryz.func44 (by kernel_rfl) rfl #[.int .i64 a0] rfl (by (try simp only [List.map_toArray, List.map_cons, List.map_nil]); first | done | rfl | (simp only [List.length_drop, List.length_take]; rfl)) ?_; (with_reducible refine (strconv_Itoa.calls a0 t108 _ (Glob.below HG.out (by repeat (first | (with_reducible first | exact HB.out | apply below_alloc | apply pw_below_drewN | apply below_drew1) | exact HB.out))) A3.out).mono ?_); rintro e w7 ⟨rfl, hb⟩; refine ⟨_, rfl, ?_⟩; have n0_ := Aside0.mk (below_step (by repeat (first | (with_reducible first | exact HB.out | apply below_alloc | apply pw_below_drewN | apply below_drew1) | exact HB.out)) hb); clear HB; have HB := n0_; clear n0_; (try clear hb); (try clear hb2); (try clear hk); (try clear hi)) | ((with_reducible refine gate_callee (f := 111) rfl ?_); refine goesL_ (some 13) rfl rfl Tryz.func111 (by kernel_rfl) rfl #[.string (⟨#[48]⟩ : ByteArray), .int .i64 ji4] rfl (by (try simp only [List.map_toArray, List.map_cons, List.map_nil]); first | done | (simp only [hji4]; rfl) | rfl | (simp only [List.length_drop, List.length_take]; rfl)) ?_; (with_reducible refine (strings_Repeat.calls (⟨#[48]⟩ : ByteArray) ji4 t109 _ A5.out).mono ?_); rintro e w8 ⟨rfl, hb⟩; refine ⟨_, rfl, ?_⟩; have n0_ := Aside0.mk (below_step (by repeat (first | (with_reducible first | exact HB.out | apply below_alloc | apply pw_below_drewN | apply below_drew1) | exact HB.out)) hb); clear HB; have HB := n0_; clear n0_; (try clear hb); (try clear hb2); (try clear hk); (try clear hi)))
  go_ret
  exact ⟨by first | rfl | (simp [errW_none, errW_some] <;> rfl) | (simp only [← hji4]; first | rfl | (simp [errW_none, errW_some] <;> rfl)) | (simp [*, errW_none, errW_some] <;> rfl), by repeat (first | (with_reducible first | exact HB.out | apply below_alloc | apply pw_below_drewN | apply below_drew1) | exact HB.out)⟩
 ·rw [if_neg c6] at H
  exact absurd H (by simp)

/-! ### stamp_Text: function 41 -/
def stamp_Text.f (k : Nat) (a0 : Int) : Option (ByteArray × Int) := (stamp_Day.f a0).bind fun bt110 => ((civil_Date.f k bt110.1).bind fun bt112 => (if bt112.2.2.2 = 0 then ((stamp_digits.f bt112.1 4).bind fun t116 => ((stamp_digits.f bt112.2.1 2).bind fun t117 => (if t116.size + t117.size ≤ 9223372036854775807 then ((stamp_digits.f bt112.2.2.1 2).bind fun t118 => (if (t116 ++ t117).size + t118.size ≤ 9223372036854775807 then (if ((t116 ++ t117) ++ t118).size + 1 ≤ 9223372036854775807 then ((stamp_digits.f (wrap64 (Int.tdiv bt110.2 3600)) 2).bind fun t119 => (if (((t116 ++ t117) ++ t118) ++ (⟨#[84]⟩ : ByteArray)).size + t119.size ≤ 9223372036854775807 then ((stamp_digits.f (Int.tmod (wrap64 (Int.tdiv bt110.2 60)) 60) 2).bind fun t120 => (if ((((t116 ++ t117) ++ t118) ++ (⟨#[84]⟩ : ByteArray)) ++ t119).size + t120.size ≤ 9223372036854775807 then ((stamp_digits.f (Int.tmod bt110.2 60) 2).bind fun t121 => (if (((((t116 ++ t117) ++ t118) ++ (⟨#[84]⟩ : ByteArray)) ++ t119) ++ t120).size + t121.size ≤ 9223372036854775807 then (some ((((((t116 ++ t117) ++ t118) ++ (⟨#[84]⟩ : ByteArray)) ++ t119) ++ t120) ++ t121, 0)) else (none))) else (none))) else (none))) else (none)) else (none))) else (none)))) else (some ((⟨#[]⟩ : ByteArray), 1))))
theorem stamp_Text.mono : ∀ a0 k, LeO (stamp_Text.f k a0) (stamp_Text.f (k + 1) a0) := by
 intro a0 k
 unfold stamp_Text.f
 repeat' first
   | (with_reducible exact civil_Date.mono _ _)
   | (with_reducible exact LeO.refl _)
   | (with_reducible exact LeO.none _)
   | (with_reducible refine LeO.ite ?_ ?_)
   | (with_reducible refine LeO.bind ?_ (fun _ => ?_))
   | exact civil_Date.mono _ _
   | exact LeO.none _
   | refine LeO.ite ?_ ?_
   | refine LeO.bind ?_ (fun _ => ?_)
set_option maxHeartbeats 8000000 in
set_option maxRecDepth 100000 in
theorem stamp_Text.calls (k : Nat) (a0 : Int) (r1 : ByteArray) (r2 : Int) (w : World) (hG : Glob w) (h : stamp_Text.f k a0 = some (r1, r2)) :
  Calls Tryz.prog 41 #[.int .i64 a0] w fun e w' => e = .returned (.tuple #[.string r1, .int .i64 r2]) ∧ Below w.heap.size w w' := by
 have HG := Aside0.mk hG
 clear hG
 have HB := Aside0.mk (Below.refl w.heap.size w)
 have H : ((stamp_Day.f a0).bind fun bt110 => ((civil_Date.f k bt110.1).bind fun bt112 => (if bt112.2.2.2 = 0 then ((stamp_digits.f bt112.1 4).bind fun t116 => ((stamp_digits.f bt112.2.1 2).bind fun t117 => (if t116.size + t117.size ≤ 9223372036854775807 then ((stamp_digits.f bt112.2.2.1 2).bind fun t118 => (if (t116 ++ t117).size + t118.size ≤ 9223372036854775807 then (if ((t116 ++ t117) ++ t118).size + 1 ≤ 9223372036854775807 then ((stamp_digits.f (wrap64 (Int.tdiv bt110.2 3600)) 2).bind fun t119 => (if (((t116 ++ t117) ++ t118) ++ (⟨#[84]⟩ : ByteArray)).size + t119.size ≤ 9223372036854775807 then ((stamp_digits.f (Int.tmod (wrap64 (Int.tdiv bt110.2 60)) 60) 2).bind fun t120 => (if ((((t116 ++ t117) ++ t118) ++ (⟨#[84]⟩ : ByteArray)) ++ t119).size + t120.size ≤ 9223372036854775807 then ((stamp_digits.f (Int.tmod bt110.2 60) 2).bind fun t121 => (if (((((t116 ++ t117) ++ t118) ++ (⟨#[84]⟩ : ByteArray)) ++ t119) ++ t120).size + t121.size ≤ 9223372036854775807 then (some ((((((t116 ++ t117) ++ t118) ++ (⟨#[84]⟩ : ByteArray)) ++ t119) ++ t120) ++ t121, 0)) else (none))) else (none))) else (none))) else (none)) else (none))) else (none)))) else (some ((⟨#[]⟩ : ByteArray), 1))))) = some (r1, r2) := h
 clear h
 replace H := Option.bind_eq_some_iff.mp H
 obtain ⟨⟨t110, t111⟩, A20, H⟩ := H
 replace H : ((civil_Date.f k t110).bind fun bt112 => (if bt112.2.2.2 = 0 then ((stamp_digits.f bt112.1 4).bind fun t116 => ((stamp_digits.f bt112.2.1 2).bind fun t117 => (if t116.size + t117.size ≤ 9223372036854775807 then ((stamp_digits.f bt112.2.2.1 2).bind fun t118 => (if (t116 ++ t117).size + t118.size ≤ 9223372036854775807 then (if ((t116 ++ t117) ++ t118).size + 1 ≤ 9223372036854775807 then ((stamp_digits.f (wrap64 (Int.tdiv t111 3600)) 2).bind fun t119 => (if (((t116 ++ t117) ++ t118) ++ (⟨#[84]⟩ : ByteArray)).size + t119.size ≤ 9223372036854775807 then ((stamp_digits.f (Int.tmod (wrap64 (Int.tdiv t111 60)) 60) 2).bind fun t120 => (if ((((t116 ++ t117) ++ t118) ++ (⟨#[84]⟩ : ByteArray)) ++ t119).size + t120.size ≤ 9223372036854775807 then ((stamp_digits.f (Int.tmod t111 60) 2).bind fun t121 => (if (((((t116 ++ t117) ++ t118) ++ (⟨#[84]⟩ : ByteArray)) ++ t119) ++ t120).size + t121.size ≤ 9223372036854775807 then (some ((((((t116 ++ t117) ++ t118) ++ (⟨#[84]⟩ : ByteArray)) ++ t119) ++ t120) ++ t121, 0)) else (none))) else (none))) else (none))) else (none)) else (none))) else (none)))) else (some ((⟨#[]⟩ : ByteArray), 1)))) = some (r1, r2) := H
 have A2 := Aside0.mk A20
 clear A20
 replace H := Option.bind_eq_some_iff.mp H
 obtain ⟨⟨t112, t113, t114, t115⟩, A30, H⟩ := H
 replace H : (if t115 = 0 then ((stamp_digits.f t112 4).bind fun t116 => ((stamp_digits.f t113 2).bind fun t117 => (if t116.size + t117.size ≤ 9223372036854775807 then ((stamp_digits.f t114 2).bind fun t118 => (if (t116 ++ t117).size + t118.size ≤ 9223372036854775807 then (if ((t116 ++ t117) ++ t118).size + 1 ≤ 9223372036854775807 then ((stamp_digits.f (wrap64 (Int.tdiv t111 3600)) 2).bind fun t119 => (if (((t116 ++ t117) ++ t118) ++ (⟨#[84]⟩ : ByteArray)).size + t119.size ≤ 9223372036854775807 then ((stamp_digits.f (Int.tmod (wrap64 (Int.tdiv t111 60)) 60) 2).bind fun t120 => (if ((((t116 ++ t117) ++ t118) ++ (⟨#[84]⟩ : ByteArray)) ++ t119).size + t120.size ≤ 9223372036854775807 then ((stamp_digits.f (Int.tmod t111 60) 2).bind fun t121 => (if (((((t116 ++ t117) ++ t118) ++ (⟨#[84]⟩ : ByteArray)) ++ t119) ++ t120).size + t121.size ≤ 9223372036854775807 then (some ((((((t116 ++ t117) ++ t118) ++ (⟨#[84]⟩ : ByteArray)) ++ t119) ++ t120) ++ t121, 0)) else (none))) else (none))) else (none))) else (none)) else (none))) else (none)))) else (some ((⟨#[]⟩ : ByteArray), 1))) = some (r1, r2) := H
 have A3 := Aside0.mk A30
 clear A30
 by_cases c4 : t115 = 0
 ·rw [if_pos c4] at H
  have c4b0 : (t115 == 0) = true := beq_iff_eq.mpr c4
  have c4b1 : (t115 != 0) = false := bne_eq_false_iff_eq.mpr c4
  clear c4
  replace H := Option.bind_eq_some_iff.mp H
  obtain ⟨t116, A50, H⟩ := H
  replace H : ((stamp_digits.f t113 2).bind fun t117 => (if t116.size + t117.size ≤ 9223372036854775807 then ((stamp_digits.f t114 2).bind fun t118 => (if (t116 ++ t117).size + t118.size ≤ 9223372036854775807 then (if ((t116 ++ t117) ++ t118).size + 1 ≤ 9223372036854775807 then ((stamp_digits.f (wrap64 (Int.tdiv t111 3600)) 2).bind fun t119 => (if (((t116 ++ t117) ++ t118) ++ (⟨#[84]⟩ : ByteArray)).size + t119.size ≤ 9223372036854775807 then ((stamp_digits.f (Int.tmod (wrap64 (Int.tdiv t111 60)) 60) 2).bind fun t120 => (if ((((t116 ++ t117) ++ t118) ++ (⟨#[84]⟩ : ByteArray)) ++ t119).size + t120.size ≤ 9223372036854775807 then ((stamp_digits.f (Int.tmod t111 60) 2).bind fun t121 => (if (((((t116 ++ t117) ++ t118) ++ (⟨#[84]⟩ : ByteArray)) ++ t119) ++ t120).size + t121.size ≤ 9223372036854775807 then (some ((((((t116 ++ t117) ++ t118) ++ (⟨#[84]⟩ : ByteArray)) ++ t119) ++ t120) ++ t121, 0)) else (none))) else (none))) else (none))) else (none)) else (none))) else (none))) = some (r1, r2) := H
  have A5 := Aside0.mk A50
  clear A50
  replace H := Option.bind_eq_some_iff.mp H
  obtain ⟨t117, A60, H⟩ := H
  replace H : (if t116.size + t117.size ≤ 9223372036854775807 then ((stamp_digits.f t114 2).bind fun t118 => (if (t116 ++ t117).size + t118.size ≤ 9223372036854775807 then (if ((t116 ++ t117) ++ t118).size + 1 ≤ 9223372036854775807 then ((stamp_digits.f (wrap64 (Int.tdiv t111 3600)) 2).bind fun t119 => (if (((t116 ++ t117) ++ t118) ++ (⟨#[84]⟩ : ByteArray)).size + t119.size ≤ 9223372036854775807 then ((stamp_digits.f (Int.tmod (wrap64 (Int.tdiv t111 60)) 60) 2).bind fun t120 => (if ((((t116 ++ t117) ++ t118) ++ (⟨#[84]⟩ : ByteArray)) ++ t119).size + t120.size ≤ 9223372036854775807 then ((stamp_digits.f (Int.tmod t111 60) 2).bind fun t121 => (if (((((t116 ++ t117) ++ t118) ++ (⟨#[84]⟩ : ByteArray)) ++ t119) ++ t120).size + t121.size ≤ 9223372036854775807 then (some ((((((t116 ++ t117) ++ t118) ++ (⟨#[84]⟩ : ByteArray)) ++ t119) ++ t120) ++ t121, 0)) else (none))) else (none))) else (none))) else (none)) else (none))) else (none)) = some (r1, r2) := H
  have A6 := Aside0.mk A60
  clear A60
  by_cases c7 : t116.size + t117.size ≤ 9223372036854775807
  ·rw [if_pos c7] at H
   have c7b0 := eq_true c7
   have c7b1 : decide (t116.size + t117.size ≤ 9223372036854775807) = true := decide_eq_true c7
   try have c7b2 : (9223372036854775807 < t116.size + t117.size) = False := eq_false (Nat.not_lt.2 c7)
   replace H := Option.bind_eq_some_iff.mp H
   obtain ⟨t118, A80, H⟩ := H
   replace H : (if (t116 ++ t117).size + t118.size ≤ 9223372036854775807 then (if ((t116 ++ t117) ++ t118).size + 1 ≤ 9223372036854775807 then ((stamp_digits.f (wrap64 (Int.tdiv t111 3600)) 2).bind fun t119 => (if (((t116 ++ t117) ++ t118) ++ (⟨#[84]⟩ : ByteArray)).size + t119.size ≤ 9223372036854775807 then ((stamp_digits.f (Int.tmod (wrap64 (Int.tdiv t111 60)) 60) 2).bind fun t120 => (if ((((t116 ++ t117) ++ t118) ++ (⟨#[84]⟩ : ByteArray)) ++ t119).size + t120.size ≤ 9223372036854775807 then ((stamp_digits.f (Int.tmod t111 60) 2).bind fun t121 => (if (((((t116 ++ t117) ++ t118) ++ (⟨#[84]⟩ : ByteArray)) ++ t119) ++ t120).size + t121.size ≤ 9223372036854775807 then (some ((((((t116 ++ t117) ++ t118) ++ (⟨#[84]⟩ : ByteArray)) ++ t119) ++ t120) ++ t121, 0)) else (none))) else (none))) else (none))) else (none)) else (none)) = some (r1, r2) := H
   have A8 := Aside0.mk A80
   clear A80
   by_cases c9 : (t116 ++ t117).size + t118.size ≤ 9223372036854775807
   ·rw [if_pos c9] at H
    have c9b0 := eq_true c9
    have c9b1 : decide ((t116 ++ t117).size + t118.size ≤ 9223372036854775807) = true := decide_eq_true c9
    try have c9b2 : (9223372036854775807 < (t116 ++ t117).size + t118.size) = False := eq_false (Nat.not_lt.2 c9)
    try have c9b3 : (9223372036854775807 < t116.size + t117.size + t118.size) = False := by have hz_ := c9b2; simp only [ByteArray.size_append] at hz_; exact hz_
    by_cases c10 : ((t116 ++ t117) ++ t118).size + 1 ≤ 9223372036854775807
    ·rw [if_pos c10] at H
     have c10b0 := eq_true c10
     have c10b1 : decide (((t116 ++ t117) ++ t118).size + 1 ≤ 9223372036854775807) = true := decide_eq_true c10
     try have c10b2 : (9223372036854775807 < ((t116 ++ t117) ++ t118).size + 1) = False := eq_false (Nat.not_lt.2 c10)
     try have c10b3 : (9223372036854775807 < t116.size + t117.size + t118.size + 1) = False := by have hz_ := c10b2; simp only [ByteArray.size_append] at hz_; exact hz_
     replace H := Option.bind_eq_some_iff.mp H
     obtain ⟨t119, A110, H⟩ := H
     replace H : (if (((t116 ++ t117) ++ t118) ++ (⟨#[84]⟩ : ByteArray)).size + t119.size ≤ 9223372036854775807 then ((stamp_digits.f (Int.tmod (wrap64 (Int.tdiv t111 60)) 60) 2).bind fun t120 => (if ((((t116 ++ t117) ++ t118) ++ (⟨#[84]⟩ : ByteArray)) ++ t119).size + t120.size ≤ 9223372036854775807 then ((stamp_digits.f (Int.tmod t111 60) 2).bind fun t121 => (if (((((t116 ++ t117) ++ t118) ++ (⟨#[84]⟩ : ByteArray)) ++ t119) ++ t120).size + t121.size ≤ 9223372036854775807 then (some ((((((t116 ++ t117) ++ t118) ++ (⟨#[84]⟩ : ByteArray)) ++ t119) ++ t120) ++ t121, 0)) else (none))) else (none))) else (none)) = some (r1, r2) := H
     have A11 := Aside0.mk A110
     clear A110
     by_cases c12 : (((t116 ++ t117) ++ t118) ++ (⟨#[84]⟩ : ByteArray)).size + t119.size ≤ 9223372036854775807
     ·rw [if_pos c12] at H
      have c12b0 := eq_true c12
      have c12b1 : decide ((((t116 ++ t117) ++ t118) ++ (⟨#[84]⟩ : ByteArray)).size + t119.size ≤ 9223372036854775807) = true := decide_eq_true c12
      try have c12b2 : (9223372036854775807 < (((t116 ++ t117) ++ t118) ++ (⟨#[84]⟩ : ByteArray)).size + t119.size) = False := eq_false (Nat.not_lt.2 c12)
      try have c12b3 : (9223372036854775807 < t116.size + t117.size + t118.size + 1 + t119.size) = False := by have hz_ := c12b2; simp only [ByteArray.size_append] at hz_; exact hz_
      replace H := Option.bind_eq_some_iff.mp H
      obtain ⟨t120, A130, H⟩ := H
      replace H : (if ((((t116 ++ t117) ++ t118) ++ (⟨#[84]⟩ : ByteArray)) ++ t119).size + t120.size ≤ 9223372036854775807 then ((stamp_digits.f (Int.tmod t111 60) 2).bind fun t121 => (if (((((t116 ++ t117) ++ t118) ++ (⟨#[84]⟩ : ByteArray)) ++ t119) ++ t120).size + t121.size ≤ 9223372036854775807 then (some ((((((t116 ++ t117) ++ t118) ++ (⟨#[84]⟩ : ByteArray)) ++ t119) ++ t120) ++ t121, 0)) else (none))) else (none)) = some (r1, r2) := H
      have A13 := Aside0.mk A130
      clear A130
      by_cases c14 : ((((t116 ++ t117) ++ t118) ++ (⟨#[84]⟩ : ByteArray)) ++ t119).size + t120.size ≤ 9223372036854775807
      ·rw [if_pos c14] at H
       have c14b0 := eq_true c14
       have c14b1 : decide (((((t116 ++ t117) ++ t118) ++ (⟨#[84]⟩ : ByteArray)) ++ t119).size + t120.size ≤ 9223372036854775807) = true := decide_eq_true c14
       try have c14b2 : (9223372036854775807 < ((((t116 ++ t117) ++ t118) ++ (⟨#[84]⟩ : ByteArray)) ++ t119).size + t120.size) = False := eq_false (Nat.not_lt.2 c14)
       try have c14b3 : (9223372036854775807 < t116.size + t117.size + t118.size + 1 + t119.size + t120.size) = False := by have hz_ := c14b2; simp only [ByteArray.size_append] at hz_; exact hz_
       replace H := Option.bind_eq_some_iff.mp H
       obtain ⟨t121, A150, H⟩ := H
       replace H : (if (((((t116 ++ t117) ++ t118) ++ (⟨#[84]⟩ : ByteArray)) ++ t119) ++ t120).size + t121.size ≤ 9223372036854775807 then (some ((((((t116 ++ t117) ++ t118) ++ (⟨#[84]⟩ : ByteArray)) ++ t119) ++ t120) ++ t121, 0)) else (none)) = some (r1, r2) := H
       have A15 := Aside0.mk A150
       clear A150
       by_cases c16 : (((((t116 ++ t117) ++ t118) ++ (⟨#[84]⟩ : ByteArray)) ++ t119) ++ t120).size + t121.size ≤ 9223372036854775807
       ·rw [if_pos c16] at H
        have c16b0 := eq_true c16
        have c16b1 : decide ((((((t116 ++ t117) ++ t118) ++ (⟨#[84]⟩ : ByteArray)) ++ t119) ++ t120).size + t121.size ≤ 9223372036854775807) = true := decide_eq_true c16
        try have c16b2 : (9223372036854775807 < (((((t116 ++ t117) ++ t118) ++ (⟨#[84]⟩ : ByteArray)) ++ t119) ++ t120).size + t121.size) = False := eq_false (Nat.not_lt.2 c16)
        try have c16b3 : (9223372036854775807 < t116.size + t117.size + t118.size + 1 + t119.size + t120.size + t121.size) = False := by have hz_ := c16b2; simp only [ByteArray.size_append] at hz_; exact hz_
        simp only [Option.some.injEq, Prod.mk.injEq] at H
        obtain ⟨rfl, rfl⟩ := H
        go_enter Tryz.func41, Tryz.ntmps41
        go_wp2_with (first | ((with_reducible refine gate_callee (f := 69) rfl ?_); refine goesL_ (some 12) rfl rfl Tryz.func69 (by kernel_rfl) rfl #[.int .i64 a0] rfl (by (try simp only [List.map_toArray, List.map_cons, List.map_nil]); first | done | rfl | (simp only [List.length_drop, List.length_take]; rfl)) ?_; (with_reducible refine (stamp_Day.calls a0 t110 t111 _ A2.out).mono ?_); rintro e w' ⟨rfl, ⟨nd, rfl⟩⟩; refine ⟨_, rfl, ?_⟩) | ((with_reducible refine gate_callee (f := 70) rfl ?_); refine goesL_ (some 17) rfl rfl Tryz.func70 (by kernel_rfl) rfl #[.int .i64 t110] rfl (by (try simp only [List.map_toArray, List.map_cons, List.map_nil]); first | done | rfl | (simp only [List.length_drop, List.length_take]; rfl)) ?_; (with_reducible refine (civil_Date.calls k t110 t112 t113 t114 t115 _ A3.out).mono ?_); rintro e w' ⟨rfl, ⟨nd, rfl⟩⟩; refine ⟨_, rfl, ?_⟩) | ((with_reducible refine gate_callee (f := 71) rfl ?_); refine goesL_ (some 25) rfl rfl Tryz.func71 (by kernel_rfl) rfl #[.int .i64 t112, .int .i64 4] rfl (by (try simp only [List.map_toArray, List.map_cons, List.map_nil]); first | done | rfl | (simp only [List.length_drop, List.length_take]; rfl)) ?_; (with_reducible refine (stamp_digits.calls t112 4 t116 _ (Glob.below HG.out (by repeat (first | (with_reducible first | exact HB.out | apply below_alloc | apply pw_below_drewN | apply below_drew1) | exact HB.out))) A5.out).mono ?_); rintro e w17 ⟨rfl, hb⟩; refine ⟨_, rfl, ?_⟩; have n0_ := Aside0.mk (below_step (by repeat (first | (with_reducible first | exact HB.out | apply below_alloc | apply pw_below_drewN | apply below_drew1) | exact HB.out)) hb); clear HB; have HB := n0_; clear n0_; (try clear hb); (try clear hb2); (try clear hk); (try clear hi)) | ((with_reducible refine gate_callee (f := 71) rfl ?_); refine goesL_ (some 27) rfl rfl Tryz.func71 (by kernel_rfl) rfl #[.int .i64 t113, .int .i64 2] rfl (by (try simp only [List.map_toArray, List.map_cons, List.map_nil]); first | done | rfl | (simp only [List.length_drop, List.length_take]; rfl)) ?_; (with_reducible refine (stamp_digits.calls t113 2 t117 _ (Glob.below HG.out (by repeat (first | (with_reducible first | exact HB.out | apply below_alloc | apply pw_below_drewN | apply below_drew1) | exact HB.out))) A6.out).mono ?_); rintro e w18 ⟨rfl, hb⟩; refine ⟨_, rfl, ?_⟩; have n0_ := Aside0.mk (below_step (by repeat (first | (with_reducible first | exact HB.out | apply below_alloc | apply pw_below_drewN | apply below_drew1) | exact HB.out)) hb); clear HB; have HB := n0_; clear n0_; (try clear hb); (try clear hb2); (try clear hk); (try clear hi)) | ((with_reducible refine gate_callee (f := 71) rfl ?_); refine goesL_ (some 30) rfl rfl Tryz.func71 (by kernel_rfl) rfl #[.int .i64 t114, .int .i64 2] rfl (by (try simp only [List.map_toArray, List.map_cons, List.map_nil]); first | done | rfl | (simp only [List.length_drop, List.length_take]; rfl)) ?_; (with_reducible refine (stamp_digits.calls t114 2 t118 _ (Glob.below HG.out (by repeat (first | (with_reducible first | exact HB.out | apply below_alloc | apply pw_below_drewN | apply below_drew1) | exact HB.out))) A8.out).mono ?_); rintro e w19 ⟨rfl, hb⟩; refine ⟨_, rfl, ?_⟩; have n0_ := Aside0.mk (below_step (by repeat (first | (with_reducible first | exact HB.out | apply below_alloc | apply pw_below_drewN | apply below_drew1) | exact HB.out)) hb); clear HB; have HB := n0_; clear n0_; (try clear hb); (try clear hb2); (try clear hk); (try clear hi)) | ((with_reducible refine gate_callee (f := 71) rfl ?_); refine goesL_ (some 35) rfl rfl Tryz.func71 (by kernel_rfl) rfl #[.int .i64 (wrap64 (Int.tdiv t111 3600)), .int .i64 2] rfl (by (try simp only [List.map_toArray, List.map_cons, List.map_nil]); first | done | rfl | (simp only [List.length_drop, List.length_take]; rfl)) ?_; (with_reducible refine (stamp_digits.calls (wrap64 (Int.tdiv t111 3600)) 2 t119 _ (Glob.below HG.out (by repeat (first | (with_reducible first | exact HB.out | apply below_alloc | apply pw_below_drewN | apply below_drew1) | exact HB.out))) A11.out).mono ?_); rintro e w20 ⟨rfl, hb⟩; refine ⟨_, rfl, ?_⟩; have n0_ := Aside0.mk (below_step (by repeat (first | (with_reducible first | exact HB.out | apply below_alloc | apply pw_below_drewN | apply below_drew1) | exact HB.out)) hb); clear HB; have HB := n0_; clear n0_; (try clear hb); (try clear hb2); (try clear hk); (try clear hi)) | ((with_reducible refine gate_callee (f := 71) rfl ?_); refine goesL_ (some 40) rfl rfl Tryz.func71 (by kernel_rfl) rfl #[.int .i64 (Int.tmod (wrap64 (Int.tdiv t111 60)) 60), .int .i64 2] rfl (by (try simp only [List.map_toArray, List.map_cons, List.map_nil]); first | done | rfl | (simp only [List.length_drop, List.length_take]; rfl)) ?_; (with_reducible refine (stamp_digits.calls (Int.tmod (wrap64 (Int.tdiv t111 60)) 60) 2 t120 _ (Glob.below HG.out (by repeat (first | (with_reducible first | exact HB.out | apply below_alloc | apply pw_below_drewN | apply below_drew1) | exact HB.out))) A13.out).mono ?_); rintro e w21 ⟨rfl, hb⟩; refine ⟨_, rfl, ?_⟩; have n0_ := Aside0.mk (below_step (by repeat (first | (with_reducible first | exact HB.out | apply below_alloc | apply pw_below_drewN | apply below_drew1) | exact HB.out)) hb); clear HB; have HB := n0_; clear n0_; (try clear hb); (try clear hb2); (try clear hk); (try clear hi)) | ((with_reducible refine gate_callee (f := 71) rfl ?_); refine goesL_ (some 44) rfl rfl Tryz.func71 (by kernel_rfl) rfl #[.int .i64 (Int.tmod t111 60), .int .i64 2] rfl (by (try simp only [List.map_toArray, List.map_cons, List.map_nil]); first | done | rfl | (simp only [List.length_drop, List.length_take]; rfl)) ?_; (with_reducible refine (stamp_digits.calls (Int.tmod t111 60) 2 t121 _ (Glob.below HG.out (by repeat (first | (with_reducible first | exact HB.out | apply below_alloc | apply pw_below_drewN | apply below_drew1) | exact HB.out))) A15.out).mono ?_); rintro e w22 ⟨rfl, hb⟩; refine ⟨_, rfl, ?_⟩; have n0_ := Aside0.mk (below_step (by repeat (first | (with_reducible first | exact HB.out | apply below_alloc | apply pw_below_drewN | apply below_drew1) | exact HB.out)) hb); clear HB; have HB := n0_; clear n0_; (try clear hb); (try clear hb2); (try clear hk); (try clear hi)))
        go_ret2
        exact ⟨by first | rfl | (simp [errW_none, errW_some] <;> rfl) | (simp [*, errW_none, errW_some] <;> rfl), by repeat (first | (with_reducible first | exact HB.out | apply below_alloc | apply pw_below_drewN | apply below_drew1) | exact HB.out)⟩
       ·rw [if_neg c16] at H
        exact absurd H (by simp)
      ·rw [if_neg c14] at H
       exact absurd H (by simp)
     ·rw [if_neg c12] at H
      exact absurd H (by simp)
    ·rw [if_neg c10] at H
     exact absurd H (by simp)
   ·rw [if_neg c9] at H
    exact absurd H (by simp)
  ·rw [if_neg c7] at H
   exact absurd H (by simp)
 ·rw [if_neg c4] at H
  have c4b0 : (t115 == 0) = false := beq_eq_false_iff_ne.mpr c4
  have c4b1 : (t115 != 0) = true := bne_iff_ne.mpr c4
  simp only [Option.some.injEq, Prod.mk.injEq] at H
  obtain ⟨rfl, rfl⟩ := H
  go_enter Tryz.func41, Tryz.ntmps41
  go_wp2_with (first | ((with_reducible refine gate_callee (f := 69) rfl ?_); refine goesL_ (some 12) rfl rfl Tryz.func69 (by kernel_rfl) rfl #[.int .i64 a0] rfl (by (try simp only [List.map_toArray, List.map_cons, List.map_nil]); first | done | rfl | (simp only [List.length_drop, List.length_take]; rfl)) ?_; (with_reducible refine (stamp_Day.calls a0 t110 t111 _ A2.out).mono ?_); rintro e w' ⟨rfl, ⟨nd, rfl⟩⟩; refine ⟨_, rfl, ?_⟩) | ((with_reducible refine gate_callee (f := 70) rfl ?_); refine goesL_ (some 17) rfl rfl Tryz.func70 (by kernel_rfl) rfl #[.int .i64 t110] rfl (by (try simp only [List.map_toArray, List.map_cons, List.map_nil]); first | done | rfl | (simp only [List.length_drop, List.length_take]; rfl)) ?_; (with_reducible refine (civil_Date.calls k t110 t112 t113 t114 t115 _ A3.out).mono ?_); rintro e w' ⟨rfl, ⟨nd, rfl⟩⟩; refine ⟨_, rfl, ?_⟩))
  go_ret2
  exact ⟨by first | rfl | (simp [errW_none, errW_some] <;> rfl) | (simp [*, errW_none, errW_some] <;> rfl), by repeat (first | (with_reducible first | exact HB.out | apply below_alloc | apply pw_below_drewN | apply below_drew1) | exact HB.out)⟩

/-! ### fold_plain: function 113 -/
def fold_plain.f (a0 : Int) : Option (Bool) := if a0 ≥ 32 then (some (decide (a0 ≤ 126))) else (some false)
set_option maxHeartbeats 8000000 in
set_option maxRecDepth 100000 in
theorem fold_plain.calls (a0 : Int) (r : Bool) (w : World) (h : fold_plain.f a0 = some r) :
  Calls Tryz.prog 113 #[.int .u8 a0] w fun e w' => e = .returned (.bool r) ∧ Drawn0 w w' := by
 have H : (if a0 ≥ 32 then (some (decide (a0 ≤ 126))) else (some false)) = some r := h
 clear h
 by_cases c2 : a0 ≥ 32
 ·rw [if_pos c2] at H
  have c2b0 : decide (32 ≤ a0) = true := decide_eq_true c2
  clear c2
  obtain rfl := Option.some.inj H
  go_enter Tryz.func113, Tryz.ntmps113
  go_wp2
  go_ret
  exact ⟨by first | rfl | (simp; done) | (simp [*]; done), by repeat (first | exact Drawn0.refl _ | apply Drawn0.step)⟩
 ·rw [if_neg c2] at H
  have c2b0 : decide (32 ≤ a0) = false := decide_eq_false c2
  clear c2
  obtain rfl := Option.some.inj H
  go_enter Tryz.func113, Tryz.ntmps113
  go_wp2
  go_ret
  exact ⟨by first | rfl | (simp; done) | (simp [*]; done), by repeat (first | exact Drawn0.refl _ | apply Drawn0.step)⟩

end Go.Proofs.YtohpimfanplloaaGreatDoor.GC
