-- laid by a program of this session (print_proof, changed for laws over structs)
import Derived.Test.YtleljfmhefobeaaGJx0
import Derived.Test.YtleljfmhefobeaaGJx7
namespace Go.Proofs.Ytleljfmhefobeaa.GJ
open Go.RowKit Go.Proofs.YtleljfmhefobeaaW.PrintWords Go.Proofs.YtleljfmhefobeaaW.PrintLast Go.Proofs.YtleljfmhefobeaaW.PrintMore
attribute [local go_sem] max2_int min2_int max_two min_two max_three min_three max_four min_four   -- for this text's walks alone
set_option linter.unusedVariables false
set_option linter.unusedSimpArgs false

/-! ### vokref10_Rec_body: function 57 -/
def vokref10_Rec_body.f (k : Nat) (a0_0 : Int) (a0_1 : Int) (a0_2 : Int) (a0_3 : Int) (a0_4 : Int) (a0_5 : Bool) (l0_6 : List Int) (l0_7 : List Int) (l0_8 : List Int) : Option (List Int) := (some (([(a0_0) % 256] : List Int) : List Int)).bind fun y196 => ((vokref10_Be.f k 6 a0_1).bind fun t199 => (if y196.length + t199.length < 140737488355328 then ((some (y196 ++ t199 : List Int)).bind fun y202 => ((vokref10_Be.f k 6 a0_2).bind fun t205 => (if y202.length + t205.length < 140737488355328 then ((some (y202 ++ t205 : List Int)).bind fun y208 => ((vokref10_Be.f k 6 a0_4).bind fun t211 => (if y208.length + t211.length < 140737488355328 then ((some (y208 ++ t211 : List Int)).bind fun y214 => ((vokref10_flag.f a0_5).bind fun t217 => ((some (([(a0_3) % 256, t217] : List Int) : List Int)).bind fun y218 => (if y214.length + y218.length < 140737488355328 then ((some (y214 ++ y218 : List Int)).bind fun y221 => ((vokref10_Short.f k l0_6).bind fun t224 => (if y221.length + t224.length < 140737488355328 then ((some (y221 ++ t224 : List Int)).bind fun y227 => ((vokref10_Short.f k l0_7).bind fun t230 => (if y227.length + t230.length < 140737488355328 then ((some (y227 ++ t230 : List Int)).bind fun y233 => ((vokref10_Be.f k 2 (l0_8.length : Int)).bind fun t236 => (if y233.length + t236.length < 140737488355328 then ((some (y233 ++ t236 : List Int)).bind fun y239 => (if y239.length + l0_8.length < 140737488355328 then (some (y239 ++ l0_8)) else (none))) else (none)))) else (none)))) else (none)))) else (none))))) else (none)))) else (none)))) else (none)))
theorem vokref10_Rec_body.mono : ∀ a0 a1 a2 a3 a4 a5 a6 a7 a8 k, LeO (vokref10_Rec_body.f k a0 a1 a2 a3 a4 a5 a6 a7 a8) (vokref10_Rec_body.f (k + 1) a0 a1 a2 a3 a4 a5 a6 a7 a8) := by
  intro a0 a1 a2 a3 a4 a5 a6 a7 a8 k
  unfold vokref10_Rec_body.f
  repeat' first
      | (with_reducible exact vokref10_Be.mono _ _ _)
      | (with_reducible exact vokref10_Short.mono _ _)
      | (with_reducible exact LeO.refl _)
      | (with_reducible exact LeO.none _)
      | (with_reducible refine LeO.ite ?_ ?_)
      | (with_reducible refine LeO.bind ?_ (fun _ => ?_))
      | exact vokref10_Be.mono _ _ _
      | exact vokref10_Short.mono _ _
      | exact LeO.none _
      | refine LeO.ite ?_ ?_
      | refine LeO.bind ?_ (fun _ => ?_)
def vokref10_Rec_body.T1 : Bool × List (List Nat × List Nat) := (true, [([], []), ([0], [0]), ([1], [1]), ([2], [2]), ([], []), ([4], [4]), ([5], [5]), ([3, 6, 6], [3, 6]), ([7, 7, 0, 1, 2, 3, 4, 5, 6, 7], [7])])
def vokref10_Rec_body.B1 : List Nat := [0, 1, 3, 7, 0, 16, 48, 127, 255]
theorem vokref10_Rec_body.tab1 : rtab .any (opsOf Try.f57 1) = vokref10_Rec_body.T1 := by kernel_rfl
theorem vokref10_Rec_body.bits1 : waitsOk vokref10_Rec_body.T1.2 vokref10_Rec_body.B1 = true := by kernel_rfl
def vokref10_Rec_body.T2 : Bool × List (List Nat × List Nat) := (true, [([], []), ([], []), ([1], [1]), ([2], [2]), ([0, 3, 3], [0, 3]), ([], []), ([5], [5]), ([6, 4], [6]), ([4, 7, 7], [4, 7]), ([8, 8, 0, 1, 2, 3, 4, 5, 6, 7, 8], [0, 8])])
def vokref10_Rec_body.B2 : List Nat := [0, 0, 2, 6, 15, 0, 32, 127, 255, 511]
theorem vokref10_Rec_body.tab2 : rtab .any (opsOf Try.f57 2) = vokref10_Rec_body.T2 := by kernel_rfl
theorem vokref10_Rec_body.bits2 : waitsOk vokref10_Rec_body.T2.2 vokref10_Rec_body.B2 = true := by kernel_rfl
def vokref10_Rec_body.T3 : Bool × List (List Nat × List Nat) := (true, [([], []), ([], []), ([1], [1]), ([2], [2]), ([], []), ([4], [4]), ([5], [5]), ([3, 6], [3, 6]), ([0, 7, 6], [0, 7]), ([8, 8, 0, 1, 2, 3, 4, 5, 6, 7, 8], [0, 8])])
def vokref10_Rec_body.B3 : List Nat := [0, 0, 2, 6, 0, 16, 48, 126, 255, 511]
theorem vokref10_Rec_body.tab3 : rtab .any (opsOf Try.f57 3) = vokref10_Rec_body.T3 := by kernel_rfl
theorem vokref10_Rec_body.bits3 : waitsOk vokref10_Rec_body.T3.2 vokref10_Rec_body.B3 = true := by kernel_rfl
def vokref10_Rec_body.T4 : Bool × List (List Nat × List Nat) := (true, [([], []), ([], []), ([1], [1]), ([2], [2]), ([0, 3, 3], [0, 3]), ([], []), ([5], [5]), ([6, 4], [6]), ([4, 7, 7], [4, 7]), ([8, 8, 0, 1, 2, 3, 4, 5, 6, 7, 8], [0, 8])])
def vokref10_Rec_body.B4 : List Nat := [0, 0, 2, 6, 15, 0, 32, 127, 255, 511]
theorem vokref10_Rec_body.tab4 : rtab .any (opsOf Try.f57 4) = vokref10_Rec_body.T4 := by kernel_rfl
theorem vokref10_Rec_body.bits4 : waitsOk vokref10_Rec_body.T4.2 vokref10_Rec_body.B4 = true := by kernel_rfl
def vokref10_Rec_body.T5 : Bool × List (List Nat × List Nat) := (true, [([], []), ([], []), ([1], [1]), ([2], [2]), ([3], [3]), ([0, 4, 4], [0, 4]), ([], []), ([6], [6]), ([5, 7, 5], [5, 7]), ([8, 8, 0, 1, 2, 3, 4, 5, 6, 7, 8], [8])])
def vokref10_Rec_body.B5 : List Nat := [0, 0, 2, 6, 14, 31, 0, 64, 255, 511]
theorem vokref10_Rec_body.tab5 : rtab .any (opsOf Try.f57 5) = vokref10_Rec_body.T5 := by kernel_rfl
theorem vokref10_Rec_body.bits5 : waitsOk vokref10_Rec_body.T5.2 vokref10_Rec_body.B5 = true := by kernel_rfl
set_option maxHeartbeats 8000000 in
set_option maxRecDepth 100000 in
theorem vokref10_Rec_body.calls (k : Nat) (a0_0 : Int) (a0_1 : Int) (a0_2 : Int) (a0_3 : Int) (a0_4 : Int) (a0_5 : Bool) (A0_6 : Option Addr) (c0_6 : Nat) (l0_6 : List Int) (A0_7 : Option Addr) (c0_7 : Nat) (l0_7 : List Int) (A0_8 : Option Addr) (c0_8 : Nat) (l0_8 : List Int) (r : List Int) (w : World) (hr0_6 : Kd.C (Kd.int .i64) w A0_6 l0_6.length l0_6) (hc0_6 : l0_6.length ≤ c0_6) (hr0_7 : Kd.C (Kd.int .i64) w A0_7 l0_7.length l0_7) (hc0_7 : l0_7.length ≤ c0_7) (hr0_8 : Kd.C (Kd.int .u8) w A0_8 l0_8.length l0_8) (hc0_8 : l0_8.length ≤ c0_8) (h : vokref10_Rec_body.f k a0_0 a0_1 a0_2 a0_3 a0_4 a0_5 l0_6 l0_7 l0_8 = some r) :
    Calls Try.prog 57 #[.agg #[.int .i64 a0_0, .int .i64 a0_1, .int .i64 a0_2, .int .i64 a0_3, .int .i64 a0_4, .bool a0_5, .slice A0_6 l0_6.length c0_6, .slice A0_7 l0_7.length c0_7, .slice A0_8 l0_8.length c0_8]] w fun e w' => ∃ v0_ : Value, e = .returned (v0_) ∧ Kd.R (Kd.int .u8) 5 w' w.heap.size (fun _ => True) v0_ r ∧ Below w.heap.size w w' := by
  have hu53 := Try.underlying53
  have HR0_6 := Aside0.mk hr0_6
  have HC0_6 := Aside0.mk hc0_6
  clear hr0_6 hc0_6
  have HR0_7 := Aside0.mk hr0_7
  have HC0_7 := Aside0.mk hc0_7
  clear hr0_7 hc0_7
  have HR0_8 := Aside0.mk hr0_8
  have HC0_8 := Aside0.mk hc0_8
  clear hr0_8 hc0_8
  have HB := Aside0.mk (Below.refl w.heap.size w)
  have H : ((some (([(a0_0) % 256] : List Int) : List Int)).bind fun y196 => ((vokref10_Be.f k 6 a0_1).bind fun t199 => (if y196.length + t199.length < 140737488355328 then ((some (y196 ++ t199 : List Int)).bind fun y202 => ((vokref10_Be.f k 6 a0_2).bind fun t205 => (if y202.length + t205.length < 140737488355328 then ((some (y202 ++ t205 : List Int)).bind fun y208 => ((vokref10_Be.f k 6 a0_4).bind fun t211 => (if y208.length + t211.length < 140737488355328 then ((some (y208 ++ t211 : List Int)).bind fun y214 => ((vokref10_flag.f a0_5).bind fun t217 => ((some (([(a0_3) % 256, t217] : List Int) : List Int)).bind fun y218 => (if y214.length + y218.length < 140737488355328 then ((some (y214 ++ y218 : List Int)).bind fun y221 => ((vokref10_Short.f k l0_6).bind fun t224 => (if y221.length + t224.length < 140737488355328 then ((some (y221 ++ t224 : List Int)).bind fun y227 => ((vokref10_Short.f k l0_7).bind fun t230 => (if y227.length + t230.length < 140737488355328 then ((some (y227 ++ t230 : List Int)).bind fun y233 => ((vokref10_Be.f k 2 (l0_8.length : Int)).bind fun t236 => (if y233.length + t236.length < 140737488355328 then ((some (y233 ++ t236 : List Int)).bind fun y239 => (if y239.length + l0_8.length < 140737488355328 then (some (y239 ++ l0_8)) else (none))) else (none)))) else (none)))) else (none)))) else (none))))) else (none)))) else (none)))) else (none)))) = some r := h
  clear h
  obtain ⟨y196, hy196⟩ : ∃ y_ : List Int, y_ = (([(a0_0) % 256] : List Int)) := ⟨_, rfl⟩
  replace H : ((vokref10_Be.f k 6 a0_1).bind fun t199 => (if y196.length + t199.length < 140737488355328 then ((some (y196 ++ t199 : List Int)).bind fun y202 => ((vokref10_Be.f k 6 a0_2).bind fun t205 => (if y202.length + t205.length < 140737488355328 then ((some (y202 ++ t205 : List Int)).bind fun y208 => ((vokref10_Be.f k 6 a0_4).bind fun t211 => (if y208.length + t211.length < 140737488355328 then ((some (y208 ++ t211 : List Int)).bind fun y214 => ((vokref10_flag.f a0_5).bind fun t217 => ((some (([(a0_3) % 256, t217] : List Int) : List Int)).bind fun y218 => (if y214.length + y218.length < 140737488355328 then ((some (y214 ++ y218 : List Int)).bind fun y221 => ((vokref10_Short.f k l0_6).bind fun t224 => (if y221.length + t224.length < 140737488355328 then ((some (y221 ++ t224 : List Int)).bind fun y227 => ((vokref10_Short.f k l0_7).bind fun t230 => (if y227.length + t230.length < 140737488355328 then ((some (y227 ++ t230 : List Int)).bind fun y233 => ((vokref10_Be.f k 2 (l0_8.length : Int)).bind fun t236 => (if y233.length + t236.length < 140737488355328 then ((some (y233 ++ t236 : List Int)).bind fun y239 => (if y239.length + l0_8.length < 140737488355328 then (some (y239 ++ l0_8)) else (none))) else (none)))) else (none)))) else (none)))) else (none))))) else (none)))) else (none)))) else (none))) = some r := by first | (rw [hy196]; with_reducible exact H) | (have H2_ := (Option.bind_some _ _).symm.trans H; rw [hy196]; with_reducible exact H2_) | (have H2_ := (Option.bind_some _ _).symm.trans H; with_reducible exact H2_) | with_reducible exact H | (rw [hy196]; exact H) | exact H
  have Ny196 := Aside0.mk hy196
  clear hy196
  replace H := Option.bind_eq_some_iff.mp H
  obtain ⟨t199, A20, H⟩ := H
  replace H : (if y196.length + t199.length < 140737488355328 then ((some (y196 ++ t199 : List Int)).bind fun y202 => ((vokref10_Be.f k 6 a0_2).bind fun t205 => (if y202.length + t205.length < 140737488355328 then ((some (y202 ++ t205 : List Int)).bind fun y208 => ((vokref10_Be.f k 6 a0_4).bind fun t211 => (if y208.length + t211.length < 140737488355328 then ((some (y208 ++ t211 : List Int)).bind fun y214 => ((vokref10_flag.f a0_5).bind fun t217 => ((some (([(a0_3) % 256, t217] : List Int) : List Int)).bind fun y218 => (if y214.length + y218.length < 140737488355328 then ((some (y214 ++ y218 : List Int)).bind fun y221 => ((vokref10_Short.f k l0_6).bind fun t224 => (if y221.length + t224.length < 140737488355328 then ((some (y221 ++ t224 : List Int)).bind fun y227 => ((vokref10_Short.f k l0_7).bind fun t230 => (if y227.length + t230.length < 140737488355328 then ((some (y227 ++ t230 : List Int)).bind fun y233 => ((vokref10_Be.f k 2 (l0_8.length : Int)).bind fun t236 => (if y233.length + t236.length < 140737488355328 then ((some (y233 ++ t236 : List Int)).bind fun y239 => (if y239.length + l0_8.length < 140737488355328 then (some (y239 ++ l0_8)) else (none))) else (none)))) else (none)))) else (none)))) else (none))))) else (none)))) else (none)))) else (none)) = some r := H
  have A2 := Aside0.mk A20
  clear A20
  by_cases c3 : y196.length + t199.length < 140737488355328
  · rw [if_pos c3] at H
    have LMc3 := Aside0.mk c3
    clear c3
    obtain ⟨y202, hy202⟩ : ∃ y_ : List Int, y_ = (y196 ++ t199) := ⟨_, rfl⟩
    replace H : ((vokref10_Be.f k 6 a0_2).bind fun t205 => (if y202.length + t205.length < 140737488355328 then ((some (y202 ++ t205 : List Int)).bind fun y208 => ((vokref10_Be.f k 6 a0_4).bind fun t211 => (if y208.length + t211.length < 140737488355328 then ((some (y208 ++ t211 : List Int)).bind fun y214 => ((vokref10_flag.f a0_5).bind fun t217 => ((some (([(a0_3) % 256, t217] : List Int) : List Int)).bind fun y218 => (if y214.length + y218.length < 140737488355328 then ((some (y214 ++ y218 : List Int)).bind fun y221 => ((vokref10_Short.f k l0_6).bind fun t224 => (if y221.length + t224.length < 140737488355328 then ((some (y221 ++ t224 : List Int)).bind fun y227 => ((vokref10_Short.f k l0_7).bind fun t230 => (if y227.length + t230.length < 140737488355328 then ((some (y227 ++ t230 : List Int)).bind fun y233 => ((vokref10_Be.f k 2 (l0_8.length : Int)).bind fun t236 => (if y233.length + t236.length < 140737488355328 then ((some (y233 ++ t236 : List Int)).bind fun y239 => (if y239.length + l0_8.length < 140737488355328 then (some (y239 ++ l0_8)) else (none))) else (none)))) else (none)))) else (none)))) else (none))))) else (none)))) else (none))) = some r := by first | (rw [hy202]; with_reducible exact H) | (have H2_ := (Option.bind_some _ _).symm.trans H; rw [hy202]; with_reducible exact H2_) | (have H2_ := (Option.bind_some _ _).symm.trans H; with_reducible exact H2_) | with_reducible exact H | (rw [hy202]; exact H) | exact H
    have Ny202 := Aside0.mk hy202
    clear hy202
    replace H := Option.bind_eq_some_iff.mp H
    obtain ⟨t205, A40, H⟩ := H
    replace H : (if y202.length + t205.length < 140737488355328 then ((some (y202 ++ t205 : List Int)).bind fun y208 => ((vokref10_Be.f k 6 a0_4).bind fun t211 => (if y208.length + t211.length < 140737488355328 then ((some (y208 ++ t211 : List Int)).bind fun y214 => ((vokref10_flag.f a0_5).bind fun t217 => ((some (([(a0_3) % 256, t217] : List Int) : List Int)).bind fun y218 => (if y214.length + y218.length < 140737488355328 then ((some (y214 ++ y218 : List Int)).bind fun y221 => ((vokref10_Short.f k l0_6).bind fun t224 => (if y221.length + t224.length < 140737488355328 then ((some (y221 ++ t224 : List Int)).bind fun y227 => ((vokref10_Short.f k l0_7).bind fun t230 => (if y227.length + t230.length < 140737488355328 then ((some (y227 ++ t230 : List Int)).bind fun y233 => ((vokref10_Be.f k 2 (l0_8.length : Int)).bind fun t236 => (if y233.length + t236.length < 140737488355328 then ((some (y233 ++ t236 : List Int)).bind fun y239 => (if y239.length + l0_8.length < 140737488355328 then (some (y239 ++ l0_8)) else (none))) else (none)))) else (none)))) else (none)))) else (none))))) else (none)))) else (none)) = some r := H
    have A4 := Aside0.mk A40
    clear A40
    by_cases c5 : y202.length + t205.length < 140737488355328
    · rw [if_pos c5] at H
      have LMc5 := Aside0.mk c5
      clear c5
      obtain ⟨y208, hy208⟩ : ∃ y_ : List Int, y_ = (y202 ++ t205) := ⟨_, rfl⟩
      replace H : ((vokref10_Be.f k 6 a0_4).bind fun t211 => (if y208.length + t211.length < 140737488355328 then ((some (y208 ++ t211 : List Int)).bind fun y214 => ((vokref10_flag.f a0_5).bind fun t217 => ((some (([(a0_3) % 256, t217] : List Int) : List Int)).bind fun y218 => (if y214.length + y218.length < 140737488355328 then ((some (y214 ++ y218 : List Int)).bind fun y221 => ((vokref10_Short.f k l0_6).bind fun t224 => (if y221.length + t224.length < 140737488355328 then ((some (y221 ++ t224 : List Int)).bind fun y227 => ((vokref10_Short.f k l0_7).bind fun t230 => (if y227.length + t230.length < 140737488355328 then ((some (y227 ++ t230 : List Int)).bind fun y233 => ((vokref10_Be.f k 2 (l0_8.length : Int)).bind fun t236 => (if y233.length + t236.length < 140737488355328 then ((some (y233 ++ t236 : List Int)).bind fun y239 => (if y239.length + l0_8.length < 140737488355328 then (some (y239 ++ l0_8)) else (none))) else (none)))) else (none)))) else (none)))) else (none))))) else (none))) = some r := by first | (rw [hy208]; with_reducible exact H) | (have H2_ := (Option.bind_some _ _).symm.trans H; rw [hy208]; with_reducible exact H2_) | (have H2_ := (Option.bind_some _ _).symm.trans H; with_reducible exact H2_) | with_reducible exact H | (rw [hy208]; exact H) | exact H
      have Ny208 := Aside0.mk hy208
      clear hy208
      replace H := Option.bind_eq_some_iff.mp H
      obtain ⟨t211, A60, H⟩ := H
      replace H : (if y208.length + t211.length < 140737488355328 then ((some (y208 ++ t211 : List Int)).bind fun y214 => ((vokref10_flag.f a0_5).bind fun t217 => ((some (([(a0_3) % 256, t217] : List Int) : List Int)).bind fun y218 => (if y214.length + y218.length < 140737488355328 then ((some (y214 ++ y218 : List Int)).bind fun y221 => ((vokref10_Short.f k l0_6).bind fun t224 => (if y221.length + t224.length < 140737488355328 then ((some (y221 ++ t224 : List Int)).bind fun y227 => ((vokref10_Short.f k l0_7).bind fun t230 => (if y227.length + t230.length < 140737488355328 then ((some (y227 ++ t230 : List Int)).bind fun y233 => ((vokref10_Be.f k 2 (l0_8.length : Int)).bind fun t236 => (if y233.length + t236.length < 140737488355328 then ((some (y233 ++ t236 : List Int)).bind fun y239 => (if y239.length + l0_8.length < 140737488355328 then (some (y239 ++ l0_8)) else (none))) else (none)))) else (none)))) else (none)))) else (none))))) else (none)) = some r := H
      have A6 := Aside0.mk A60
      clear A60
      by_cases c7 : y208.length + t211.length < 140737488355328
      · rw [if_pos c7] at H
        have LMc7 := Aside0.mk c7
        clear c7
        obtain ⟨y214, hy214⟩ : ∃ y_ : List Int, y_ = (y208 ++ t211) := ⟨_, rfl⟩
        replace H : ((vokref10_flag.f a0_5).bind fun t217 => ((some (([(a0_3) % 256, t217] : List Int) : List Int)).bind fun y218 => (if y214.length + y218.length < 140737488355328 then ((some (y214 ++ y218 : List Int)).bind fun y221 => ((vokref10_Short.f k l0_6).bind fun t224 => (if y221.length + t224.length < 140737488355328 then ((some (y221 ++ t224 : List Int)).bind fun y227 => ((vokref10_Short.f k l0_7).bind fun t230 => (if y227.length + t230.length < 140737488355328 then ((some (y227 ++ t230 : List Int)).bind fun y233 => ((vokref10_Be.f k 2 (l0_8.length : Int)).bind fun t236 => (if y233.length + t236.length < 140737488355328 then ((some (y233 ++ t236 : List Int)).bind fun y239 => (if y239.length + l0_8.length < 140737488355328 then (some (y239 ++ l0_8)) else (none))) else (none)))) else (none)))) else (none)))) else (none)))) = some r := by first | (rw [hy214]; with_reducible exact H) | (have H2_ := (Option.bind_some _ _).symm.trans H; rw [hy214]; with_reducible exact H2_) | (have H2_ := (Option.bind_some _ _).symm.trans H; with_reducible exact H2_) | with_reducible exact H | (rw [hy214]; exact H) | exact H
        have Ny214 := Aside0.mk hy214
        clear hy214
        replace H := Option.bind_eq_some_iff.mp H
        obtain ⟨t217, A80, H⟩ := H
        replace H : ((some (([(a0_3) % 256, t217] : List Int) : List Int)).bind fun y218 => (if y214.length + y218.length < 140737488355328 then ((some (y214 ++ y218 : List Int)).bind fun y221 => ((vokref10_Short.f k l0_6).bind fun t224 => (if y221.length + t224.length < 140737488355328 then ((some (y221 ++ t224 : List Int)).bind fun y227 => ((vokref10_Short.f k l0_7).bind fun t230 => (if y227.length + t230.length < 140737488355328 then ((some (y227 ++ t230 : List Int)).bind fun y233 => ((vokref10_Be.f k 2 (l0_8.length : Int)).bind fun t236 => (if y233.length + t236.length < 140737488355328 then ((some (y233 ++ t236 : List Int)).bind fun y239 => (if y239.length + l0_8.length < 140737488355328 then (some (y239 ++ l0_8)) else (none))) else (none)))) else (none)))) else (none)))) else (none))) = some r := H
        have A8 := Aside0.mk A80
        clear A80
        obtain ⟨y218, hy218⟩ : ∃ y_ : List Int, y_ = (([(a0_3) % 256, t217] : List Int)) := ⟨_, rfl⟩
        replace H : (if y214.length + y218.length < 140737488355328 then ((some (y214 ++ y218 : List Int)).bind fun y221 => ((vokref10_Short.f k l0_6).bind fun t224 => (if y221.length + t224.length < 140737488355328 then ((some (y221 ++ t224 : List Int)).bind fun y227 => ((vokref10_Short.f k l0_7).bind fun t230 => (if y227.length + t230.length < 140737488355328 then ((some (y227 ++ t230 : List Int)).bind fun y233 => ((vokref10_Be.f k 2 (l0_8.length : Int)).bind fun t236 => (if y233.length + t236.length < 140737488355328 then ((some (y233 ++ t236 : List Int)).bind fun y239 => (if y239.length + l0_8.length < 140737488355328 then (some (y239 ++ l0_8)) else (none))) else (none)))) else (none)))) else (none)))) else (none)) = some r := by first | (rw [hy218]; with_reducible exact H) | (have H2_ := (Option.bind_some _ _).symm.trans H; rw [hy218]; with_reducible exact H2_) | (have H2_ := (Option.bind_some _ _).symm.trans H; with_reducible exact H2_) | with_reducible exact H | (rw [hy218]; exact H) | exact H
        have Ny218 := Aside0.mk hy218
        clear hy218
        by_cases c9 : y214.length + y218.length < 140737488355328
        · rw [if_pos c9] at H
          have LMc9 := Aside0.mk c9
          clear c9
          obtain ⟨y221, hy221⟩ : ∃ y_ : List Int, y_ = (y214 ++ y218) := ⟨_, rfl⟩
          replace H : ((vokref10_Short.f k l0_6).bind fun t224 => (if y221.length + t224.length < 140737488355328 then ((some (y221 ++ t224 : List Int)).bind fun y227 => ((vokref10_Short.f k l0_7).bind fun t230 => (if y227.length + t230.length < 140737488355328 then ((some (y227 ++ t230 : List Int)).bind fun y233 => ((vokref10_Be.f k 2 (l0_8.length : Int)).bind fun t236 => (if y233.length + t236.length < 140737488355328 then ((some (y233 ++ t236 : List Int)).bind fun y239 => (if y239.length + l0_8.length < 140737488355328 then (some (y239 ++ l0_8)) else (none))) else (none)))) else (none)))) else (none))) = some r := by first | (rw [hy221]; with_reducible exact H) | (have H2_ := (Option.bind_some _ _).symm.trans H; rw [hy221]; with_reducible exact H2_) | (have H2_ := (Option.bind_some _ _).symm.trans H; with_reducible exact H2_) | with_reducible exact H | (rw [hy221]; exact H) | exact H
          have Ny221 := Aside0.mk hy221
          clear hy221
          replace H := Option.bind_eq_some_iff.mp H
          obtain ⟨t224, A100, H⟩ := H
          replace H : (if y221.length + t224.length < 140737488355328 then ((some (y221 ++ t224 : List Int)).bind fun y227 => ((vokref10_Short.f k l0_7).bind fun t230 => (if y227.length + t230.length < 140737488355328 then ((some (y227 ++ t230 : List Int)).bind fun y233 => ((vokref10_Be.f k 2 (l0_8.length : Int)).bind fun t236 => (if y233.length + t236.length < 140737488355328 then ((some (y233 ++ t236 : List Int)).bind fun y239 => (if y239.length + l0_8.length < 140737488355328 then (some (y239 ++ l0_8)) else (none))) else (none)))) else (none)))) else (none)) = some r := H
          have A10 := Aside0.mk A100
          clear A100
          by_cases c11 : y221.length + t224.length < 140737488355328
          · rw [if_pos c11] at H
            have LMc11 := Aside0.mk c11
            clear c11
            obtain ⟨y227, hy227⟩ : ∃ y_ : List Int, y_ = (y221 ++ t224) := ⟨_, rfl⟩
            replace H : ((vokref10_Short.f k l0_7).bind fun t230 => (if y227.length + t230.length < 140737488355328 then ((some (y227 ++ t230 : List Int)).bind fun y233 => ((vokref10_Be.f k 2 (l0_8.length : Int)).bind fun t236 => (if y233.length + t236.length < 140737488355328 then ((some (y233 ++ t236 : List Int)).bind fun y239 => (if y239.length + l0_8.length < 140737488355328 then (some (y239 ++ l0_8)) else (none))) else (none)))) else (none))) = some r := by first | (rw [hy227]; with_reducible exact H) | (have H2_ := (Option.bind_some _ _).symm.trans H; rw [hy227]; with_reducible exact H2_) | (have H2_ := (Option.bind_some _ _).symm.trans H; with_reducible exact H2_) | with_reducible exact H | (rw [hy227]; exact H) | exact H
            have Ny227 := Aside0.mk hy227
            clear hy227
            replace H := Option.bind_eq_some_iff.mp H
            obtain ⟨t230, A120, H⟩ := H
            replace H : (if y227.length + t230.length < 140737488355328 then ((some (y227 ++ t230 : List Int)).bind fun y233 => ((vokref10_Be.f k 2 (l0_8.length : Int)).bind fun t236 => (if y233.length + t236.length < 140737488355328 then ((some (y233 ++ t236 : List Int)).bind fun y239 => (if y239.length + l0_8.length < 140737488355328 then (some (y239 ++ l0_8)) else (none))) else (none)))) else (none)) = some r := H
            have A12 := Aside0.mk A120
            clear A120
            by_cases c13 : y227.length + t230.length < 140737488355328
            · rw [if_pos c13] at H
              have LMc13 := Aside0.mk c13
              clear c13
              obtain ⟨y233, hy233⟩ : ∃ y_ : List Int, y_ = (y227 ++ t230) := ⟨_, rfl⟩
              replace H : ((vokref10_Be.f k 2 (l0_8.length : Int)).bind fun t236 => (if y233.length + t236.length < 140737488355328 then ((some (y233 ++ t236 : List Int)).bind fun y239 => (if y239.length + l0_8.length < 140737488355328 then (some (y239 ++ l0_8)) else (none))) else (none))) = some r := by first | (rw [hy233]; with_reducible exact H) | (have H2_ := (Option.bind_some _ _).symm.trans H; rw [hy233]; with_reducible exact H2_) | (have H2_ := (Option.bind_some _ _).symm.trans H; with_reducible exact H2_) | with_reducible exact H | (rw [hy233]; exact H) | exact H
              have Ny233 := Aside0.mk hy233
              clear hy233
              replace H := Option.bind_eq_some_iff.mp H
              obtain ⟨t236, A140, H⟩ := H
              replace H : (if y233.length + t236.length < 140737488355328 then ((some (y233 ++ t236 : List Int)).bind fun y239 => (if y239.length + l0_8.length < 140737488355328 then (some (y239 ++ l0_8)) else (none))) else (none)) = some r := H
              have A14 := Aside0.mk A140
              clear A140
              by_cases c15 : y233.length + t236.length < 140737488355328
              · rw [if_pos c15] at H
                have LMc15 := Aside0.mk c15
                clear c15
                obtain ⟨y239, hy239⟩ : ∃ y_ : List Int, y_ = (y233 ++ t236) := ⟨_, rfl⟩
                replace H : (if y239.length + l0_8.length < 140737488355328 then (some (y239 ++ l0_8)) else (none)) = some r := by first | (rw [hy239]; with_reducible exact H) | (have H2_ := (Option.bind_some _ _).symm.trans H; rw [hy239]; with_reducible exact H2_) | (have H2_ := (Option.bind_some _ _).symm.trans H; with_reducible exact H2_) | with_reducible exact H | (rw [hy239]; exact H) | exact H
                have Ny239 := Aside0.mk hy239
                clear hy239
                by_cases c16 : y239.length + l0_8.length < 140737488355328
                · rw [if_pos c16] at H
                  have LMc16 := Aside0.mk c16
                  clear c16
                  obtain ⟨y242, hy242⟩ : ∃ y_ : List Int, y_ = (y239 ++ l0_8) := ⟨_, rfl⟩
                  replace H : (some y242) = some r := by first | (rw [hy242]; with_reducible exact H) | (have H2_ := (Option.bind_some _ _).symm.trans H; rw [hy242]; with_reducible exact H2_) | (have H2_ := (Option.bind_some _ _).symm.trans H; with_reducible exact H2_) | with_reducible exact H | (rw [hy242]; exact H) | exact H
                  have Ny242 := Aside0.mk hy242
                  clear hy242
                  obtain rfl := Option.some.inj H
                  go_enter Try.func57, Try.ntmps57
                  try go_wp2_with (first | ((with_reducible refine gate_dst (N := 1) rfl ?_); refine box_event ?hg (N := 1) ?hd (cs := #[.int .i64 a0_0, .int .i64 a0_1, .int .i64 a0_2, .int .i64 a0_3, .int .i64 a0_4, .bool a0_5, .slice A0_6 l0_6.length c0_6, .slice A0_7 l0_7.length c0_7, .slice A0_8 l0_8.length c0_8]) (t := 53) ?hr ?_; (case hd => rfl); (case hg => rfl); (case hr => first | (go_simp; done) | (go_simp; rfl)); intro gb195 hg w17 hbox hb; have n0_ := Aside0.mk (below_step (by repeat (first | (with_reducible first | exact HB.out | apply below_alloc | apply pw_below_drewN | apply below_drew1) | exact HB.out)) hb); have n1_ := Aside0.mk (hbox); have n2_ := Aside0.mk ((by rw [hg]; exact (below_size (by repeat (first | (with_reducible first | exact HB.out | apply below_alloc | apply pw_below_drewN | apply below_drew1) | exact HB.out))) : w.heap.size ≤ gb195)); have n3_ := Aside0.mk ((by rw [hg]; exact (below_size (by repeat (first | (with_reducible first | exact HB.out | apply below_alloc | apply pw_below_drewN | apply below_drew1) | exact HB.out))) : w.heap.size ≤ gb195)); clear HB; have HB := n0_; have BK195 := n1_; have GW195 := n2_; have GE195 := n3_; clear n0_ n1_ n2_ n3_; clear hb hbox hg))
                  have n0_ := Aside0.mk (blk_drew BK195.out)
                  have n1_ := Aside0.mk (below_drew1 HB.out)
                  clear BK195
                  clear HB
                  have BK195 := n0_
                  have HB := n1_
                  clear n0_ n1_
                  refine start_ (n := 9) (S := fun w' => w'.cell? ⟨gb195, 0, none⟩ = some (.int .i64 a0_0) ∧ w'.cell? ⟨gb195, 1, none⟩ = some (.int .i64 a0_1) ∧ w'.cell? ⟨gb195, 2, none⟩ = some (.int .i64 a0_2) ∧ w'.cell? ⟨gb195, 3, none⟩ = some (.int .i64 a0_3) ∧ w'.cell? ⟨gb195, 4, none⟩ = some (.int .i64 a0_4) ∧ w'.cell? ⟨gb195, 5, none⟩ = some (.bool a0_5) ∧ w'.cell? ⟨gb195, 6, none⟩ = some (.slice A0_6 l0_6.length c0_6) ∧ w'.cell? ⟨gb195, 7, none⟩ = some (.slice A0_7 l0_7.length c0_7) ∧ w'.cell? ⟨gb195, 8, none⟩ = some (.slice A0_8 l0_8.length c0_8)) (ds := []) #[false, false, false, false, false, false, false, false, false] (by kernel_rfl) rfl rfl ⟨(blk_cell BK195.out 0).trans rfl, (blk_cell BK195.out 1).trans rfl, (blk_cell BK195.out 2).trans rfl, (blk_cell BK195.out 3).trans rfl, (blk_cell BK195.out 4).trans rfl, (blk_cell BK195.out 5).trans rfl, (blk_cell BK195.out 6).trans rfl, (blk_cell BK195.out 7).trans rfl, (blk_cell BK195.out 8).trans rfl⟩ (fun hHeld => ?_); refine with_tabW vokref10_Rec_body.tab1 vokref10_Rec_body.bits1 (fun HT_ HW_ => ?_)
                  generalize w17.drew = w18 at BK195 HB hHeld ⊢
                  refine pure_ (i := 0) (N := some 4) (v := ?_) (a' := ?_) #[true, false, false, false, false, false, false, false, false] rfl rfl (any_of HT_.out (by kernel_rfl)) (fun _ _ _ h => h) (Or.inl ⟨by rfl, ?_⟩) ?_ ?_
                  rotate_left
                  · intro w'
                    go_simp
                    with_reducible rfl
                  rotate_left
                  · simp only [Act.put, List.setIfInBounds_toArray, List.set_cons_zero, List.set_cons_succ, i64_w, i32_w]
                    rfl
                  refine pure_ (i := 4) (N := some 8) (v := ?_) (a' := ?_) #[true, false, false, false, true, false, false, false, false] rfl rfl (any_of HT_.out (by kernel_rfl)) (fun _ _ _ h => h) (Or.inl ⟨by rfl, ?_⟩) ?_ ?_
                  rotate_left
                  · intro w'
                    go_simp
                    with_reducible rfl
                  rotate_left
                  · simp only [Act.put, List.setIfInBounds_toArray, List.set_cons_zero, List.set_cons_succ, i64_w, i32_w]
                    rfl
                  refine take_ (i := 1) (N := some 5) (v := ?_) (a' := ?_) #[true, true, false, false, true, false, false, false, false] rfl rfl (take_ofW HT_.out HW_.out (by kernel_rfl)) (fun _ _ _ h => h) (Or.inl ⟨by rfl, ?_⟩) hHeld ?_ ?_
                  rotate_left
                  · rintro w' ⟨s0, s1, s2, s3, s4, s5, s6, s7, s8⟩
                    go_simp
                    with_reducible rfl
                  rotate_left
                  · simp only [Act.put, List.setIfInBounds_toArray, List.set_cons_zero, List.set_cons_succ, i64_w, i32_w]
                    rfl
                  refine pure_ (i := 2) (N := some 6) (v := ?_) (a' := ?_) #[true, true, true, false, true, false, false, false, false] rfl rfl (any_of HT_.out (by kernel_rfl)) (fun _ _ _ h => h) (Or.inl ⟨by rfl, ?_⟩) ?_ ?_
                  rotate_left
                  · intro w'
                    go_simp
                    with_reducible rfl
                  rotate_left
                  · simp only [Act.put, List.setIfInBounds_toArray, List.set_cons_zero, List.set_cons_succ, i64_w, i32_w]
                    rfl
                  refine take_ (i := 5) (N := some 9) (v := ?_) (a' := ?_) #[true, true, true, false, true, true, false, false, false] rfl rfl (take_ofW HT_.out HW_.out (by kernel_rfl)) (fun _ _ _ h => h) (Or.inl ⟨by rfl, ?_⟩) hHeld ?_ ?_
                  rotate_left
                  · rintro w' ⟨s0, s1, s2, s3, s4, s5, s6, s7, s8⟩
                    go_simp
                    with_reducible rfl
                  rotate_left
                  · simp only [Act.put, List.setIfInBounds_toArray, List.set_cons_zero, List.set_cons_succ, i64_w, i32_w]
                    rfl
                  refine join_ (σ := Value × Value) 2 #[true, true, true, true, true, true, true, false, false] (fun s_ => [(7, s_.1), (10, s_.2)]) (fun s_ w' => (w'.cell? ⟨gb195, 0, none⟩ = some (.int .i64 a0_0) ∧ w'.cell? ⟨gb195, 1, none⟩ = some (.int .i64 a0_1) ∧ w'.cell? ⟨gb195, 2, none⟩ = some (.int .i64 a0_2) ∧ w'.cell? ⟨gb195, 3, none⟩ = some (.int .i64 a0_3) ∧ w'.cell? ⟨gb195, 4, none⟩ = some (.int .i64 a0_4) ∧ w'.cell? ⟨gb195, 5, none⟩ = some (.bool a0_5) ∧ w'.cell? ⟨gb195, 6, none⟩ = some (.slice A0_6 l0_6.length c0_6) ∧ w'.cell? ⟨gb195, 7, none⟩ = some (.slice A0_7 l0_7.length c0_7) ∧ w'.cell? ⟨gb195, 8, none⟩ = some (.slice A0_8 l0_8.length c0_8)) ∧ (Kd.R (Kd.int .u8) 5 w' w.heap.size (fun k_ => some k_ ≠ (s_.2 : Value).ownBlock) s_.1 y196) ∧ (Kd.R (Kd.int .u8) 5 w' w.heap.size (fun k_ => some k_ ≠ (s_.1 : Value).ownBlock) s_.2 t199) ∧ (w'.heap[gb195]? = some (.cells #[.int .i64 a0_0, .int .i64 a0_1, .int .i64 a0_2, .int .i64 a0_3, .int .i64 a0_4, .bool a0_5, .slice A0_6 l0_6.length c0_6, .slice A0_7 l0_7.length c0_7, .slice A0_8 l0_8.length c0_8] 53 (0, 0))) ∧ (Below w.heap.size w w')) ?_ ?_
                  rotate_left
                  · intro hCont
                    refine two_ (i := 3) (j := 6) (Ni := some 7) (Nj := some 10) #[true, true, true, true, true, true, false, false, false] #[true, true, true, false, true, true, true, false, false] rfl rfl rfl rfl (two_of HT_.out (by kernel_rfl)) (by decide) (by decide) (fun K hK => ?_) (fun K hK => ?_)
                    · skip
                      refine Kd.R_lit_step (Kd.int .u8) _ 5 ?hg (N := 7) ?hd (xs := ([(a0_0) % 256] : List Int)) (inner := [.int .u8 ((a0_0) % 256)]) (ok := fun _ => True) (okp := fun _ => True) ?hr ?hp (fun _ hk => hk) trivial (Below.refl _ _) (Nat.le_refl _) (by simp) ?_; (case hd => rfl); (case hg => rfl); (case hr => first | (go_simp; done) | (go_simp; rfl)); (case hp => exact (Reps.one (show Kd.M (Kd.int .u8) _ _ _ ((a0_0) % 256) [.int .u8 ((a0_0) % 256)] from rfl) (Reps.none _ _)))
                      intro v197 w19 ho20 hb hg_ hnew_
                      clear hg_ hnew_
                      (first | rw [← Ny196.out] at ho20 | (simp only [Int.reduceToNat] at ho20; rw [← Ny196.out] at ho20))
                      have n0_ := Aside0.mk (Kd.R_lower ho20 (below_size (by repeat (first | (with_reducible first | exact HB.out | apply below_alloc | apply pw_below_drewN | apply below_drew1 | refine below_set ?_ GE195.out) | exact HB.out))))
                      have n1_ := Aside0.mk (blk_below (g := gb195) (o := .cells #[.int .i64 a0_0, .int .i64 a0_1, .int .i64 a0_2, .int .i64 a0_3, .int .i64 a0_4, .bool a0_5, .slice A0_6 l0_6.length c0_6, .slice A0_7 l0_7.length c0_7, .slice A0_8 l0_8.length c0_8] 53 (0, 0)) (by (with_reducible repeat (first | refine blk_drewN ?_ _ | refine blk_drew ?_ | refine blk_alloc ?_ _)); exact BK195.out) hb)
                      have n2_ := Aside0.mk (below_step (by repeat (first | (with_reducible first | exact HB.out | apply below_alloc | apply pw_below_drewN | apply below_drew1 | refine below_set ?_ GE195.out) | exact HB.out)) hb)
                      clear BK195
                      clear HB
                      have HO198 := n0_
                      have BK195 := n1_
                      have HB := n2_
                      clear n0_ n1_ n2_
                      clear hb ho20
                      refine hK.out _ _ ⟨(blk_cell BK195.out 0).trans rfl, (blk_cell BK195.out 1).trans rfl, (blk_cell BK195.out 2).trans rfl, (blk_cell BK195.out 3).trans rfl, (blk_cell BK195.out 4).trans rfl, (blk_cell BK195.out 5).trans rfl, (blk_cell BK195.out 6).trans rfl, (blk_cell BK195.out 7).trans rfl, (blk_cell BK195.out 8).trans rfl⟩ (fun hHeld => ?_)
                      clear hK K
                      refine norm_ (a' := ?_) ?_ ?_
                      rotate_left
                      · show Act.put _ (some 7) _ = _
                        simp only [Act.put, List.setIfInBounds_toArray, List.set_cons_zero, List.set_cons_succ, i64_w, i32_w]
                        rfl
                      refine one_ (i := 6) (N := some 10) #[true, true, true, true, true, true, true, false, false] rfl rfl (one_of HT_.out (by kernel_rfl)) (by decide) (fun K hK => ?_)
                      refine goes_ Try.func61 (by kernel_rfl) rfl #[.int .i64 6, .int .i64 a0_1] (by rfl) rfl rfl (by (try simp only [List.map_toArray, List.map_cons, List.map_nil]); first | done | rfl | (simp only [List.length_drop, List.length_take]; rfl)) ?_
                      with_reducible refine (vokref10_Be.calls k 6 a0_1 t199 _ A2.out).mono ?_
                      rintro e w21 ⟨v200, rfl, ho0, hb⟩
                      refine ⟨_, rfl, ?_⟩
                      have n0_ := Aside0.mk (Kd.R_elder' (by (with_reducible repeat (first | apply Kd.R_alloc | apply Kd.R_drewN | apply Kd.R_drew)); exact HO198.out) (Kd.R_base ho0) hb)
                      have n1_ := Aside0.mk (Kd.R_lower (Kd.R_new' ho0 (Kd.R_lt (by (with_reducible repeat (first | apply Kd.R_alloc | apply Kd.R_drewN | apply Kd.R_drew)); exact HO198.out))) (below_size (by repeat (first | (with_reducible first | exact HB.out | apply below_alloc | apply pw_below_drewN | apply below_drew1 | refine below_set ?_ GE195.out) | exact HB.out))))
                      have n2_ := Aside0.mk (blk_below (g := gb195) (o := .cells #[.int .i64 a0_0, .int .i64 a0_1, .int .i64 a0_2, .int .i64 a0_3, .int .i64 a0_4, .bool a0_5, .slice A0_6 l0_6.length c0_6, .slice A0_7 l0_7.length c0_7, .slice A0_8 l0_8.length c0_8] 53 (0, 0)) (by (with_reducible repeat (first | refine blk_drewN ?_ _ | refine blk_drew ?_ | refine blk_alloc ?_ _)); exact BK195.out) hb)
                      have n3_ := Aside0.mk (below_step (by repeat (first | (with_reducible first | exact HB.out | apply below_alloc | apply pw_below_drewN | apply below_drew1 | refine below_set ?_ GE195.out) | exact HB.out)) hb)
                      clear HO198
                      clear BK195
                      clear HB
                      have HO198 := n0_
                      have HO201 := n1_
                      have BK195 := n2_
                      have HB := n3_
                      clear n0_ n1_ n2_ n3_
                      (try clear hb)
                      (try clear hb2)
                      (try clear hk)
                      (try clear hi)
                      (try clear ho0)
                      refine hK.out _ _ ⟨(blk_cell BK195.out 0).trans rfl, (blk_cell BK195.out 1).trans rfl, (blk_cell BK195.out 2).trans rfl, (blk_cell BK195.out 3).trans rfl, (blk_cell BK195.out 4).trans rfl, (blk_cell BK195.out 5).trans rfl, (blk_cell BK195.out 6).trans rfl, (blk_cell BK195.out 7).trans rfl, (blk_cell BK195.out 8).trans rfl⟩ (fun hHeld => ?_)
                      clear hK K
                      refine norm_ (a' := ?_) ?_ ?_
                      rotate_left
                      · show Act.put _ (some 10) _ = _
                        simp only [Act.put, List.setIfInBounds_toArray, List.set_cons_zero, List.set_cons_succ, i64_w, i32_w]
                        rfl
                      exact norm_ (by simp only [putAll, Act.put, List.setIfInBounds_toArray, List.set_cons_zero, List.set_cons_succ]) (hCont (v197, v200) _ ⟨hHeld, (by (with_reducible repeat (first | apply Kd.R_alloc | apply Kd.R_drewN | apply Kd.R_drew)); exact Kd.R_mono HO198.out (fun _ hk => hk.2)), (by (with_reducible repeat (first | apply Kd.R_alloc | apply Kd.R_drewN | apply Kd.R_drew)); exact Kd.R_mono HO201.out (fun _ hk => hk.2)), (by (with_reducible repeat (first | refine blk_drewN ?_ _ | refine blk_drew ?_ | refine blk_alloc ?_ _)); exact BK195.out), (by repeat (first | (with_reducible first | exact HB.out | apply below_alloc | apply pw_below_drewN | apply below_drew1 | refine below_set ?_ GE195.out) | exact HB.out))⟩)
                    · skip
                      refine goes_ Try.func61 (by kernel_rfl) rfl #[.int .i64 6, .int .i64 a0_1] (by rfl) rfl rfl (by (try simp only [List.map_toArray, List.map_cons, List.map_nil]); first | done | rfl | (simp only [List.length_drop, List.length_take]; rfl)) ?_
                      with_reducible refine (vokref10_Be.calls k 6 a0_1 t199 _ A2.out).mono ?_
                      rintro e w19 ⟨v200, rfl, ho0, hb⟩
                      refine ⟨_, rfl, ?_⟩
                      have n0_ := Aside0.mk (Kd.R_lower ho0 (below_size (by repeat (first | (with_reducible first | exact HB.out | apply below_alloc | apply pw_below_drewN | apply below_drew1 | refine below_set ?_ GE195.out) | exact HB.out))))
                      have n1_ := Aside0.mk (blk_below (g := gb195) (o := .cells #[.int .i64 a0_0, .int .i64 a0_1, .int .i64 a0_2, .int .i64 a0_3, .int .i64 a0_4, .bool a0_5, .slice A0_6 l0_6.length c0_6, .slice A0_7 l0_7.length c0_7, .slice A0_8 l0_8.length c0_8] 53 (0, 0)) (by (with_reducible repeat (first | refine blk_drewN ?_ _ | refine blk_drew ?_ | refine blk_alloc ?_ _)); exact BK195.out) hb)
                      have n2_ := Aside0.mk (below_step (by repeat (first | (with_reducible first | exact HB.out | apply below_alloc | apply pw_below_drewN | apply below_drew1 | refine below_set ?_ GE195.out) | exact HB.out)) hb)
                      clear BK195
                      clear HB
                      have HO201 := n0_
                      have BK195 := n1_
                      have HB := n2_
                      clear n0_ n1_ n2_
                      (try clear hb)
                      (try clear hb2)
                      (try clear hk)
                      (try clear hi)
                      (try clear ho0)
                      refine hK.out _ _ ⟨(blk_cell BK195.out 0).trans rfl, (blk_cell BK195.out 1).trans rfl, (blk_cell BK195.out 2).trans rfl, (blk_cell BK195.out 3).trans rfl, (blk_cell BK195.out 4).trans rfl, (blk_cell BK195.out 5).trans rfl, (blk_cell BK195.out 6).trans rfl, (blk_cell BK195.out 7).trans rfl, (blk_cell BK195.out 8).trans rfl⟩ (fun hHeld => ?_)
                      clear hK K
                      refine norm_ (a' := ?_) ?_ ?_
                      rotate_left
                      · show Act.put _ (some 10) _ = _
                        simp only [Act.put, List.setIfInBounds_toArray, List.set_cons_zero, List.set_cons_succ, i64_w, i32_w]
                        rfl
                      refine one_ (i := 3) (N := some 7) #[true, true, true, true, true, true, true, false, false] rfl rfl (one_of HT_.out (by kernel_rfl)) (by decide) (fun K hK => ?_)
                      refine Kd.R_lit_step (Kd.int .u8) _ 5 ?hg (N := 7) ?hd (xs := ([(a0_0) % 256] : List Int)) (inner := [.int .u8 ((a0_0) % 256)]) (ok := fun _ => True) (okp := fun _ => True) ?hr ?hp (fun _ hk => hk) trivial (Below.refl _ _) (Nat.le_refl _) (by simp) ?_; (case hd => rfl); (case hg => rfl); (case hr => first | (go_simp; done) | (go_simp; rfl)); (case hp => exact (Reps.one (show Kd.M (Kd.int .u8) _ _ _ ((a0_0) % 256) [.int .u8 ((a0_0) % 256)] from rfl) (Reps.none _ _)))
                      intro v197 w20 ho21 hb hg_ hnew_
                      clear hg_ hnew_
                      (first | rw [← Ny196.out] at ho21 | (simp only [Int.reduceToNat] at ho21; rw [← Ny196.out] at ho21))
                      have n0_ := Aside0.mk (Kd.R_elder' (by (with_reducible repeat (first | apply Kd.R_alloc | apply Kd.R_drewN | apply Kd.R_drew)); exact HO201.out) (Kd.R_base ho21) hb)
                      have n1_ := Aside0.mk (Kd.R_lower (Kd.R_new' ho21 (Kd.R_lt (by (with_reducible repeat (first | apply Kd.R_alloc | apply Kd.R_drewN | apply Kd.R_drew)); exact HO201.out))) (below_size (by repeat (first | (with_reducible first | exact HB.out | apply below_alloc | apply pw_below_drewN | apply below_drew1 | refine below_set ?_ GE195.out) | exact HB.out))))
                      have n2_ := Aside0.mk (blk_below (g := gb195) (o := .cells #[.int .i64 a0_0, .int .i64 a0_1, .int .i64 a0_2, .int .i64 a0_3, .int .i64 a0_4, .bool a0_5, .slice A0_6 l0_6.length c0_6, .slice A0_7 l0_7.length c0_7, .slice A0_8 l0_8.length c0_8] 53 (0, 0)) (by (with_reducible repeat (first | refine blk_drewN ?_ _ | refine blk_drew ?_ | refine blk_alloc ?_ _)); exact BK195.out) hb)
                      have n3_ := Aside0.mk (below_step (by repeat (first | (with_reducible first | exact HB.out | apply below_alloc | apply pw_below_drewN | apply below_drew1 | refine below_set ?_ GE195.out) | exact HB.out)) hb)
                      clear HO201
                      clear BK195
                      clear HB
                      have HO201 := n0_
                      have HO198 := n1_
                      have BK195 := n2_
                      have HB := n3_
                      clear n0_ n1_ n2_ n3_
                      clear hb ho21
                      refine hK.out _ _ ⟨(blk_cell BK195.out 0).trans rfl, (blk_cell BK195.out 1).trans rfl, (blk_cell BK195.out 2).trans rfl, (blk_cell BK195.out 3).trans rfl, (blk_cell BK195.out 4).trans rfl, (blk_cell BK195.out 5).trans rfl, (blk_cell BK195.out 6).trans rfl, (blk_cell BK195.out 7).trans rfl, (blk_cell BK195.out 8).trans rfl⟩ (fun hHeld => ?_)
                      clear hK K
                      refine norm_ (a' := ?_) ?_ ?_
                      rotate_left
                      · show Act.put _ (some 7) _ = _
                        simp only [Act.put, List.setIfInBounds_toArray, List.set_cons_zero, List.set_cons_succ, i64_w, i32_w]
                        rfl
                      exact norm_ (by simp only [putAll, Act.put, List.setIfInBounds_toArray, List.set_cons_zero, List.set_cons_succ]) (hCont (v197, v200) _ ⟨hHeld, (by (with_reducible repeat (first | apply Kd.R_alloc | apply Kd.R_drewN | apply Kd.R_drew)); exact Kd.R_mono HO198.out (fun _ hk => hk.2)), (by (with_reducible repeat (first | apply Kd.R_alloc | apply Kd.R_drewN | apply Kd.R_drew)); exact Kd.R_mono HO201.out (fun _ hk => hk.2)), (by (with_reducible repeat (first | refine blk_drewN ?_ _ | refine blk_drew ?_ | refine blk_alloc ?_ _)); exact BK195.out), (by repeat (first | (with_reducible first | exact HB.out | apply below_alloc | apply pw_below_drewN | apply below_drew1 | refine below_set ?_ GE195.out) | exact HB.out))⟩)
                  rintro ⟨v197, v200⟩ w22 ⟨hS_, h0_, h1_, h2_, h3_⟩
                  have n0_ : Aside0 (Kd.R (Kd.int .u8) 5 w22 w.heap.size (fun k_ => some k_ ≠ (v200 : Value).ownBlock) v197 y196) := ⟨h0_⟩
                  have n1_ : Aside0 (Kd.R (Kd.int .u8) 5 w22 w.heap.size (fun k_ => some k_ ≠ (v197 : Value).ownBlock) v200 t199) := ⟨h1_⟩
                  have n2_ : Aside0 (w22.heap[gb195]? = some (.cells #[.int .i64 a0_0, .int .i64 a0_1, .int .i64 a0_2, .int .i64 a0_3, .int .i64 a0_4, .bool a0_5, .slice A0_6 l0_6.length c0_6, .slice A0_7 l0_7.length c0_7, .slice A0_8 l0_8.length c0_8] 53 (0, 0))) := ⟨h2_⟩
                  have n3_ : Aside0 (Below w.heap.size w w22) := ⟨h3_⟩
                  clear BK195
                  clear HB
                  clear h0_ h1_ h2_ h3_
                  have HO198 := n0_
                  have HO201 := n1_
                  have BK195 := n2_
                  have HB := n3_
                  clear n0_ n1_ n2_ n3_
                  have hHeld : w22.cell? ⟨gb195, 0, none⟩ = some (.int .i64 a0_0) ∧ w22.cell? ⟨gb195, 1, none⟩ = some (.int .i64 a0_1) ∧ w22.cell? ⟨gb195, 2, none⟩ = some (.int .i64 a0_2) ∧ w22.cell? ⟨gb195, 3, none⟩ = some (.int .i64 a0_3) ∧ w22.cell? ⟨gb195, 4, none⟩ = some (.int .i64 a0_4) ∧ w22.cell? ⟨gb195, 5, none⟩ = some (.bool a0_5) ∧ w22.cell? ⟨gb195, 6, none⟩ = some (.slice A0_6 l0_6.length c0_6) ∧ w22.cell? ⟨gb195, 7, none⟩ = some (.slice A0_7 l0_7.length c0_7) ∧ w22.cell? ⟨gb195, 8, none⟩ = some (.slice A0_8 l0_8.length c0_8) := hS_
                  obtain ⟨Ao24, co24, eo24⟩ := Kd.R_slice HO201.out
                  (first | subst eo24 | (injection eo24 with f1_ f2_ f3_; have f4_ := f1_.symm; have f5_ := f3_.symm; clear f1_ f2_ f3_; subst f4_; subst f5_))
                  refine norm_ (a' := ?_) ?_ ?_
                  rotate_left
                  · simp only [putAll, Act.put, List.setIfInBounds_toArray, List.set_cons_zero, List.set_cons_succ]
                    rfl
                  refine one_ (i := 7) (N := some 11) #[true, true, true, true, true, true, true, true, false] rfl rfl (one_of HT_.out (by kernel_rfl)) (by decide) (fun K hK => ?_)
                  refine Kd.R_append_rows_step (Kd.int .u8) (w0 := w) w.heap.size (by rfl) (.tmp 7) (.tmp 10) 25 5 (.int .u8 0) 1 rfl Try.underlying25 info5 rfl (by decide) (by omega) v197 y196 t199 _ _ _ (fun k_ => some k_ ≠ (.slice Ao24 t199.length co24 : Value).ownBlock) (fun _ => False) rfl rfl ?aO ?aR (fun _ _ h => h) (fun _ h => h.elim) ?aF ?aB ?aS ?aL ?_
                  (case aR => repeat (first | exact (Kd.R_reads' HO201.out).2.2 | (with_reducible refine Kd.C_alloc ?_ _) | (with_reducible refine Kd.C_drewN ?_ _) | (with_reducible refine Kd.C_drew ?_)))
                  (case aB => exact (by repeat (first | (with_reducible first | exact HB.out | apply below_alloc | apply pw_below_drewN | apply below_drew1 | refine below_set ?_ GE195.out) | exact HB.out)))
                  (case aF => exact (fun k_ hk => Kd.fresh' (Kd.R_lt (by (with_reducible repeat (first | apply Kd.R_alloc | apply Kd.R_drewN | apply Kd.R_drew)); exact HO201.out)) k_ hk))
                  (case aO => exact (by (with_reducible repeat (first | apply Kd.R_alloc | apply Kd.R_drewN | apply Kd.R_drew)); exact HO198.out))
                  (case aS => exact (below_size (by repeat (first | (with_reducible first | exact HB.out | apply below_alloc | apply pw_below_drewN | apply below_drew1 | refine below_set ?_ GE195.out) | exact HB.out))))
                  (case aL => have := LMc3.out; omega)
                  intro v203 w23 ho hb hg hat
                  rw [← Ny202.out] at ho
                  have n0_ := Aside0.mk (blk_grown (g := gb195) (o := .cells #[.int .i64 a0_0, .int .i64 a0_1, .int .i64 a0_2, .int .i64 a0_3, .int .i64 a0_4, .bool a0_5, .slice A0_6 l0_6.length c0_6, .slice A0_7 l0_7.length c0_7, .slice A0_8 l0_8.length c0_8] 53 (0, 0)) (by (with_reducible repeat (first | refine blk_drewN ?_ _ | refine blk_drew ?_ | refine blk_alloc ?_ _)); exact BK195.out) hg (Kd.R_ne HO198.out BK195.out (by decide)))
                  have n1_ := Aside0.mk (Kd.R_after (ok := (fun _ => True)) (by (with_reducible repeat (first | apply Kd.R_alloc | apply Kd.R_drewN | apply Kd.R_drew)); exact Kd.R_mono HO201.out (fun _ hk => ⟨trivial, hk⟩)) hg hat)
                  have n2_ := Aside0.mk (hb)
                  have n3_ := Aside0.mk (ho)
                  clear BK195
                  clear HO201
                  clear HB
                  clear HO198
                  have BK195 := n0_
                  have HO201 := n1_
                  have HB := n2_
                  have HO204 := n3_
                  clear n0_ n1_ n2_ n3_
                  clear ho hb hg hat
                  refine hK.out _ _ ⟨(blk_cell BK195.out 0).trans rfl, (blk_cell BK195.out 1).trans rfl, (blk_cell BK195.out 2).trans rfl, (blk_cell BK195.out 3).trans rfl, (blk_cell BK195.out 4).trans rfl, (blk_cell BK195.out 5).trans rfl, (blk_cell BK195.out 6).trans rfl, (blk_cell BK195.out 7).trans rfl, (blk_cell BK195.out 8).trans rfl⟩ (fun hHeld => ?_)
                  clear hK K
                  refine norm_ (a' := ?_) ?_ ?_
                  rotate_left
                  · show Act.put _ (some 11) _ = _
                    simp only [Act.put, List.setIfInBounds_toArray, List.set_cons_zero, List.set_cons_succ, i64_w, i32_w]
                    rfl
                  refine pure_ (i := 8) (N := some 3) (v := ?_) (a' := ?_) #[true, true, true, true, true, true, true, true, true] rfl rfl (any_of HT_.out (by kernel_rfl)) (fun _ _ _ h => h) (Or.inl ⟨by rfl, ?_⟩) ?_ ?_
                  rotate_left
                  · intro w'
                    go_simp
                    with_reducible rfl
                  rotate_left
                  · simp only [Act.put, List.setIfInBounds_toArray, List.set_cons_zero, List.set_cons_succ, i64_w, i32_w]
                    rfl
                  refine done_ (done_of HT_.out (by kernel_rfl)) ?_
                  try go_wp2
                  have n0_ := Aside0.mk (Kd.R_drew HO201.out)
                  have n1_ := Aside0.mk (Kd.R_drew HO204.out)
                  have n2_ := Aside0.mk (blk_drew BK195.out)
                  have n3_ := Aside0.mk (below_drew1 HB.out)
                  clear HO201
                  clear HO204
                  clear BK195
                  clear HB
                  have HO201 := n0_
                  have HO204 := n1_
                  have BK195 := n2_
                  have HB := n3_
                  clear n0_ n1_ n2_ n3_
                  refine start_ (n := 10) (S := fun w' => w'.cell? ⟨gb195, 0, none⟩ = some (.int .i64 a0_0) ∧ w'.cell? ⟨gb195, 1, none⟩ = some (.int .i64 a0_1) ∧ w'.cell? ⟨gb195, 2, none⟩ = some (.int .i64 a0_2) ∧ w'.cell? ⟨gb195, 3, none⟩ = some (.int .i64 a0_3) ∧ w'.cell? ⟨gb195, 4, none⟩ = some (.int .i64 a0_4) ∧ w'.cell? ⟨gb195, 5, none⟩ = some (.bool a0_5) ∧ w'.cell? ⟨gb195, 6, none⟩ = some (.slice A0_6 l0_6.length c0_6) ∧ w'.cell? ⟨gb195, 7, none⟩ = some (.slice A0_7 l0_7.length c0_7) ∧ w'.cell? ⟨gb195, 8, none⟩ = some (.slice A0_8 l0_8.length c0_8)) (ds := []) #[false, false, false, false, false, false, false, false, false, false] (by kernel_rfl) rfl rfl ⟨(blk_cell BK195.out 0).trans rfl, (blk_cell BK195.out 1).trans rfl, (blk_cell BK195.out 2).trans rfl, (blk_cell BK195.out 3).trans rfl, (blk_cell BK195.out 4).trans rfl, (blk_cell BK195.out 5).trans rfl, (blk_cell BK195.out 6).trans rfl, (blk_cell BK195.out 7).trans rfl, (blk_cell BK195.out 8).trans rfl⟩ (fun hHeld => ?_); refine with_tabW vokref10_Rec_body.tab2 vokref10_Rec_body.bits2 (fun HT_ HW_ => ?_)
                  generalize w23.drew = w25 at HO201 HO204 BK195 HB hHeld ⊢
                  refine pure_ (i := 0) (N := some 12) (v := ?_) (a' := ?_) #[true, false, false, false, false, false, false, false, false, false] rfl rfl (any_of HT_.out (by kernel_rfl)) (fun _ _ _ h => h) (Or.inl ⟨by rfl, ?_⟩) ?_ ?_
                  rotate_left
                  · intro w'
                    go_simp
                    with_reducible rfl
                  rotate_left
                  · simp only [Act.put, List.setIfInBounds_toArray, List.set_cons_zero, List.set_cons_succ, i64_w, i32_w]
                    rfl
                  refine pure_ (i := 1) (N := some 13) (v := ?_) (a' := ?_) #[true, true, false, false, false, false, false, false, false, false] rfl rfl (any_of HT_.out (by kernel_rfl)) (fun _ _ _ h => h) (Or.inl ⟨by rfl, ?_⟩) ?_ ?_
                  rotate_left
                  · intro w'
                    go_simp
                    with_reducible rfl
                  rotate_left
                  · simp only [Act.put, List.setIfInBounds_toArray, List.set_cons_zero, List.set_cons_succ, i64_w, i32_w]
                    rfl
                  refine pure_ (i := 5) (N := some 17) (v := ?_) (a' := ?_) #[true, true, false, false, false, true, false, false, false, false] rfl rfl (any_of HT_.out (by kernel_rfl)) (fun _ _ _ h => h) (Or.inl ⟨by rfl, ?_⟩) ?_ ?_
                  rotate_left
                  · intro w'
                    go_simp
                    with_reducible rfl
                  rotate_left
                  · simp only [Act.put, List.setIfInBounds_toArray, List.set_cons_zero, List.set_cons_succ, i64_w, i32_w]
                    rfl
                  refine take_ (i := 2) (N := some 14) (v := ?_) (a' := ?_) #[true, true, true, false, false, true, false, false, false, false] rfl rfl (take_ofW HT_.out HW_.out (by kernel_rfl)) (fun _ _ _ h => h) (Or.inl ⟨by rfl, ?_⟩) hHeld ?_ ?_
                  rotate_left
                  · rintro w' ⟨s0, s1, s2, s3, s4, s5, s6, s7, s8⟩
                    go_simp
                    with_reducible rfl
                  rotate_left
                  · simp only [Act.put, List.setIfInBounds_toArray, List.set_cons_zero, List.set_cons_succ, i64_w, i32_w]
                    rfl
                  refine take_ (i := 6) (N := some 18) (v := ?_) (a' := ?_) #[true, true, true, false, false, true, true, false, false, false] rfl rfl (take_ofW HT_.out HW_.out (by kernel_rfl)) (fun _ _ _ h => h) (Or.inl ⟨by rfl, ?_⟩) hHeld ?_ ?_
                  rotate_left
                  · rintro w' ⟨s0, s1, s2, s3, s4, s5, s6, s7, s8⟩
                    go_simp
                    with_reducible rfl
                  rotate_left
                  · simp only [Act.put, List.setIfInBounds_toArray, List.set_cons_zero, List.set_cons_succ, i64_w, i32_w]
                    rfl
                  refine one_ (i := 3) (N := some 15) #[true, true, true, true, false, true, true, false, false, false] rfl rfl (one_of HT_.out (by kernel_rfl)) (by decide) (fun K hK => ?_)
                  refine goes_ Try.func61 (by kernel_rfl) rfl #[.int .i64 6, .int .i64 a0_2] (by rfl) rfl rfl (by (try simp only [List.map_toArray, List.map_cons, List.map_nil]); first | done | rfl | (simp only [List.length_drop, List.length_take]; rfl)) ?_
                  with_reducible refine (vokref10_Be.calls k 6 a0_2 t205 _ A4.out).mono ?_
                  rintro e w26 ⟨v206, rfl, ho0, hb⟩
                  refine ⟨_, rfl, ?_⟩
                  have n0_ := Aside0.mk (Kd.R_elder' (by (with_reducible repeat (first | apply Kd.R_alloc | apply Kd.R_drewN | apply Kd.R_drew)); exact HO201.out) (Kd.R_base ho0) hb)
                  have n1_ := Aside0.mk (Kd.R_elder' (by (with_reducible repeat (first | apply Kd.R_alloc | apply Kd.R_drewN | apply Kd.R_drew)); exact HO204.out) (Kd.R_base ho0) hb)
                  have n2_ := Aside0.mk (Kd.R_lower (Kd.R_new' (Kd.R_new' ho0 (Kd.R_lt (by (with_reducible repeat (first | apply Kd.R_alloc | apply Kd.R_drewN | apply Kd.R_drew)); exact HO201.out))) (Kd.R_lt (by (with_reducible repeat (first | apply Kd.R_alloc | apply Kd.R_drewN | apply Kd.R_drew)); exact HO204.out))) (below_size (by repeat (first | (with_reducible first | exact HB.out | apply below_alloc | apply pw_below_drewN | apply below_drew1 | refine below_set ?_ GE195.out) | exact HB.out))))
                  have n3_ := Aside0.mk (blk_below (g := gb195) (o := .cells #[.int .i64 a0_0, .int .i64 a0_1, .int .i64 a0_2, .int .i64 a0_3, .int .i64 a0_4, .bool a0_5, .slice A0_6 l0_6.length c0_6, .slice A0_7 l0_7.length c0_7, .slice A0_8 l0_8.length c0_8] 53 (0, 0)) (by (with_reducible repeat (first | refine blk_drewN ?_ _ | refine blk_drew ?_ | refine blk_alloc ?_ _)); exact BK195.out) hb)
                  have n4_ := Aside0.mk (below_step (by repeat (first | (with_reducible first | exact HB.out | apply below_alloc | apply pw_below_drewN | apply below_drew1 | refine below_set ?_ GE195.out) | exact HB.out)) hb)
                  clear HO201
                  clear HO204
                  clear BK195
                  clear HB
                  have HO201 := n0_
                  have HO204 := n1_
                  have HO207 := n2_
                  have BK195 := n3_
                  have HB := n4_
                  clear n0_ n1_ n2_ n3_ n4_
                  (try clear hb)
                  (try clear hb2)
                  (try clear hk)
                  (try clear hi)
                  (try clear ho0)
                  obtain ⟨Ao28, co28, eo28⟩ := Kd.R_slice HO207.out
                  (first | subst eo28 | (injection eo28 with f1_ f2_ f3_; have f4_ := f1_.symm; have f5_ := f3_.symm; clear f1_ f2_ f3_; subst f4_; subst f5_))
                  refine hK.out _ _ ⟨(blk_cell BK195.out 0).trans rfl, (blk_cell BK195.out 1).trans rfl, (blk_cell BK195.out 2).trans rfl, (blk_cell BK195.out 3).trans rfl, (blk_cell BK195.out 4).trans rfl, (blk_cell BK195.out 5).trans rfl, (blk_cell BK195.out 6).trans rfl, (blk_cell BK195.out 7).trans rfl, (blk_cell BK195.out 8).trans rfl⟩ (fun hHeld => ?_)
                  clear hK K
                  refine norm_ (a' := ?_) ?_ ?_
                  rotate_left
                  · show Act.put _ (some 15) _ = _
                    simp only [Act.put, List.setIfInBounds_toArray, List.set_cons_zero, List.set_cons_succ, i64_w, i32_w]
                    rfl
                  refine one_ (i := 4) (N := some 16) #[true, true, true, true, true, true, true, false, false, false] rfl rfl (one_of HT_.out (by kernel_rfl)) (by decide) (fun K hK => ?_)
                  refine Kd.R_append_rows_step (Kd.int .u8) (w0 := w) w.heap.size (by rfl) (.tmp 12) (.tmp 15) 25 5 (.int .u8 0) 1 rfl Try.underlying25 info5 rfl (by decide) (by omega) v203 y202 t205 _ _ _ (fun k_ => some k_ ≠ (.slice Ao24 t199.length co24 : Value).ownBlock ∧ some k_ ≠ (.slice Ao28 t205.length co28 : Value).ownBlock) (fun _ => False) rfl rfl ?aO ?aR (fun _ _ h => h) (fun _ h => h.elim) ?aF ?aB ?aS ?aL ?_
                  (case aR => repeat (first | exact (Kd.R_reads' HO207.out).2.2 | (with_reducible refine Kd.C_alloc ?_ _) | (with_reducible refine Kd.C_drewN ?_ _) | (with_reducible refine Kd.C_drew ?_)))
                  (case aB => exact (by repeat (first | (with_reducible first | exact HB.out | apply below_alloc | apply pw_below_drewN | apply below_drew1 | refine below_set ?_ GE195.out) | exact HB.out)))
                  (case aF => exact (fun k_ hk => ⟨Kd.fresh' (Kd.R_lt (by (with_reducible repeat (first | apply Kd.R_alloc | apply Kd.R_drewN | apply Kd.R_drew)); exact HO201.out)) k_ hk, Kd.fresh' (Kd.R_lt (by (with_reducible repeat (first | apply Kd.R_alloc | apply Kd.R_drewN | apply Kd.R_drew)); exact HO207.out)) k_ hk⟩))
                  (case aO => exact (by (with_reducible repeat (first | apply Kd.R_alloc | apply Kd.R_drewN | apply Kd.R_drew)); exact HO204.out))
                  (case aS => exact (below_size (by repeat (first | (with_reducible first | exact HB.out | apply below_alloc | apply pw_below_drewN | apply below_drew1 | refine below_set ?_ GE195.out) | exact HB.out))))
                  (case aL => have := LMc5.out; omega)
                  intro v209 w27 ho hb hg hat
                  rw [← Ny208.out] at ho
                  have n0_ := Aside0.mk (blk_grown (g := gb195) (o := .cells #[.int .i64 a0_0, .int .i64 a0_1, .int .i64 a0_2, .int .i64 a0_3, .int .i64 a0_4, .bool a0_5, .slice A0_6 l0_6.length c0_6, .slice A0_7 l0_7.length c0_7, .slice A0_8 l0_8.length c0_8] 53 (0, 0)) (by (with_reducible repeat (first | refine blk_drewN ?_ _ | refine blk_drew ?_ | refine blk_alloc ?_ _)); exact BK195.out) hg (Kd.R_ne HO204.out BK195.out (by decide)))
                  have n1_ := Aside0.mk (Kd.R_after (ok := (fun k_ => some k_ ≠ (.slice Ao28 t205.length co28 : Value).ownBlock)) (by (with_reducible repeat (first | apply Kd.R_alloc | apply Kd.R_drewN | apply Kd.R_drew)); exact Kd.R_mono HO201.out (fun _ hk => ⟨hk.2, hk.1.2⟩)) hg hat)
                  have n2_ := Aside0.mk (Kd.R_after (ok := (fun k_ => some k_ ≠ (.slice Ao24 t199.length co24 : Value).ownBlock)) (by (with_reducible repeat (first | apply Kd.R_alloc | apply Kd.R_drewN | apply Kd.R_drew)); exact Kd.R_mono HO207.out (fun _ hk => ⟨hk.1.2, hk.2⟩)) hg hat)
                  have n3_ := Aside0.mk (hb)
                  have n4_ := Aside0.mk (ho)
                  clear BK195
                  clear HO201
                  clear HO207
                  clear HB
                  clear HO204
                  have BK195 := n0_
                  have HO201 := n1_
                  have HO207 := n2_
                  have HB := n3_
                  have HO210 := n4_
                  clear n0_ n1_ n2_ n3_ n4_
                  clear ho hb hg hat
                  refine hK.out _ _ ⟨(blk_cell BK195.out 0).trans rfl, (blk_cell BK195.out 1).trans rfl, (blk_cell BK195.out 2).trans rfl, (blk_cell BK195.out 3).trans rfl, (blk_cell BK195.out 4).trans rfl, (blk_cell BK195.out 5).trans rfl, (blk_cell BK195.out 6).trans rfl, (blk_cell BK195.out 7).trans rfl, (blk_cell BK195.out 8).trans rfl⟩ (fun hHeld => ?_)
                  clear hK K
                  refine norm_ (a' := ?_) ?_ ?_
                  rotate_left
                  · show Act.put _ (some 16) _ = _
                    simp only [Act.put, List.setIfInBounds_toArray, List.set_cons_zero, List.set_cons_succ, i64_w, i32_w]
                    rfl
                  refine one_ (i := 7) (N := some 19) #[true, true, true, true, true, true, true, true, false, false] rfl rfl (one_of HT_.out (by kernel_rfl)) (by decide) (fun K hK => ?_)
                  refine goes_ Try.func61 (by kernel_rfl) rfl #[.int .i64 6, .int .i64 a0_4] (by rfl) rfl rfl (by (try simp only [List.map_toArray, List.map_cons, List.map_nil]); first | done | rfl | (simp only [List.length_drop, List.length_take]; rfl)) ?_
                  with_reducible refine (vokref10_Be.calls k 6 a0_4 t211 _ A6.out).mono ?_
                  rintro e w29 ⟨v212, rfl, ho0, hb⟩
                  refine ⟨_, rfl, ?_⟩
                  have n0_ := Aside0.mk (Kd.R_elder' (by (with_reducible repeat (first | apply Kd.R_alloc | apply Kd.R_drewN | apply Kd.R_drew)); exact HO201.out) (Kd.R_base ho0) hb)
                  have n1_ := Aside0.mk (Kd.R_elder' (by (with_reducible repeat (first | apply Kd.R_alloc | apply Kd.R_drewN | apply Kd.R_drew)); exact HO207.out) (Kd.R_base ho0) hb)
                  have n2_ := Aside0.mk (Kd.R_elder' (by (with_reducible repeat (first | apply Kd.R_alloc | apply Kd.R_drewN | apply Kd.R_drew)); exact HO210.out) (Kd.R_base ho0) hb)
                  have n3_ := Aside0.mk (Kd.R_lower (Kd.R_new' (Kd.R_new' (Kd.R_new' ho0 (Kd.R_lt (by (with_reducible repeat (first | apply Kd.R_alloc | apply Kd.R_drewN | apply Kd.R_drew)); exact HO201.out))) (Kd.R_lt (by (with_reducible repeat (first | apply Kd.R_alloc | apply Kd.R_drewN | apply Kd.R_drew)); exact HO207.out))) (Kd.R_lt (by (with_reducible repeat (first | apply Kd.R_alloc | apply Kd.R_drewN | apply Kd.R_drew)); exact HO210.out))) (below_size (by repeat (first | (with_reducible first | exact HB.out | apply below_alloc | apply pw_below_drewN | apply below_drew1 | refine below_set ?_ GE195.out) | exact HB.out))))
                  have n4_ := Aside0.mk (blk_below (g := gb195) (o := .cells #[.int .i64 a0_0, .int .i64 a0_1, .int .i64 a0_2, .int .i64 a0_3, .int .i64 a0_4, .bool a0_5, .slice A0_6 l0_6.length c0_6, .slice A0_7 l0_7.length c0_7, .slice A0_8 l0_8.length c0_8] 53 (0, 0)) (by (with_reducible repeat (first | refine blk_drewN ?_ _ | refine blk_drew ?_ | refine blk_alloc ?_ _)); exact BK195.out) hb)
                  have n5_ := Aside0.mk (below_step (by repeat (first | (with_reducible first | exact HB.out | apply below_alloc | apply pw_below_drewN | apply below_drew1 | refine below_set ?_ GE195.out) | exact HB.out)) hb)
                  clear HO201
                  clear HO207
                  clear HO210
                  clear BK195
                  clear HB
                  have HO201 := n0_
                  have HO207 := n1_
                  have HO210 := n2_
                  have HO213 := n3_
                  have BK195 := n4_
                  have HB := n5_
                  clear n0_ n1_ n2_ n3_ n4_ n5_
                  (try clear hb)
                  (try clear hb2)
                  (try clear hk)
                  (try clear hi)
                  (try clear ho0)
                  obtain ⟨Ao31, co31, eo31⟩ := Kd.R_slice HO213.out
                  (first | subst eo31 | (injection eo31 with f1_ f2_ f3_; have f4_ := f1_.symm; have f5_ := f3_.symm; clear f1_ f2_ f3_; subst f4_; subst f5_))
                  refine hK.out _ _ ⟨(blk_cell BK195.out 0).trans rfl, (blk_cell BK195.out 1).trans rfl, (blk_cell BK195.out 2).trans rfl, (blk_cell BK195.out 3).trans rfl, (blk_cell BK195.out 4).trans rfl, (blk_cell BK195.out 5).trans rfl, (blk_cell BK195.out 6).trans rfl, (blk_cell BK195.out 7).trans rfl, (blk_cell BK195.out 8).trans rfl⟩ (fun hHeld => ?_)
                  clear hK K
                  refine norm_ (a' := ?_) ?_ ?_
                  rotate_left
                  · show Act.put _ (some 19) _ = _
                    simp only [Act.put, List.setIfInBounds_toArray, List.set_cons_zero, List.set_cons_succ, i64_w, i32_w]
                    rfl
                  refine one_ (i := 8) (N := some 20) #[true, true, true, true, true, true, true, true, true, false] rfl rfl (one_of HT_.out (by kernel_rfl)) (by decide) (fun K hK => ?_)
                  refine Kd.R_append_rows_step (Kd.int .u8) (w0 := w) w.heap.size (by rfl) (.tmp 16) (.tmp 19) 25 5 (.int .u8 0) 1 rfl Try.underlying25 info5 rfl (by decide) (by omega) v209 y208 t211 _ _ _ (fun k_ => some k_ ≠ (.slice Ao24 t199.length co24 : Value).ownBlock ∧ some k_ ≠ (.slice Ao28 t205.length co28 : Value).ownBlock ∧ some k_ ≠ (.slice Ao31 t211.length co31 : Value).ownBlock) (fun _ => False) rfl rfl ?aO ?aR (fun _ _ h => h) (fun _ h => h.elim) ?aF ?aB ?aS ?aL ?_
                  (case aR => repeat (first | exact (Kd.R_reads' HO213.out).2.2 | (with_reducible refine Kd.C_alloc ?_ _) | (with_reducible refine Kd.C_drewN ?_ _) | (with_reducible refine Kd.C_drew ?_)))
                  (case aB => exact (by repeat (first | (with_reducible first | exact HB.out | apply below_alloc | apply pw_below_drewN | apply below_drew1 | refine below_set ?_ GE195.out) | exact HB.out)))
                  (case aF => exact (fun k_ hk => ⟨Kd.fresh' (Kd.R_lt (by (with_reducible repeat (first | apply Kd.R_alloc | apply Kd.R_drewN | apply Kd.R_drew)); exact HO201.out)) k_ hk, Kd.fresh' (Kd.R_lt (by (with_reducible repeat (first | apply Kd.R_alloc | apply Kd.R_drewN | apply Kd.R_drew)); exact HO207.out)) k_ hk, Kd.fresh' (Kd.R_lt (by (with_reducible repeat (first | apply Kd.R_alloc | apply Kd.R_drewN | apply Kd.R_drew)); exact HO213.out)) k_ hk⟩))
                  (case aO => exact (by (with_reducible repeat (first | apply Kd.R_alloc | apply Kd.R_drewN | apply Kd.R_drew)); exact Kd.R_mono HO210.out (fun _ hk => ⟨hk.1.1, ⟨hk.1.2, hk.2⟩⟩)))
                  (case aS => exact (below_size (by repeat (first | (with_reducible first | exact HB.out | apply below_alloc | apply pw_below_drewN | apply below_drew1 | refine below_set ?_ GE195.out) | exact HB.out))))
                  (case aL => have := LMc7.out; omega)
                  intro v215 w30 ho hb hg hat
                  rw [← Ny214.out] at ho
                  have n0_ := Aside0.mk (blk_grown (g := gb195) (o := .cells #[.int .i64 a0_0, .int .i64 a0_1, .int .i64 a0_2, .int .i64 a0_3, .int .i64 a0_4, .bool a0_5, .slice A0_6 l0_6.length c0_6, .slice A0_7 l0_7.length c0_7, .slice A0_8 l0_8.length c0_8] 53 (0, 0)) (by (with_reducible repeat (first | refine blk_drewN ?_ _ | refine blk_drew ?_ | refine blk_alloc ?_ _)); exact BK195.out) hg (Kd.R_ne HO210.out BK195.out (by decide)))
                  have n1_ := Aside0.mk (Kd.R_after (ok := (fun k_ => some k_ ≠ (.slice Ao28 t205.length co28 : Value).ownBlock ∧ some k_ ≠ (.slice Ao31 t211.length co31 : Value).ownBlock)) (by (with_reducible repeat (first | apply Kd.R_alloc | apply Kd.R_drewN | apply Kd.R_drew)); exact Kd.R_mono HO201.out (fun _ hk => ⟨⟨hk.1.1, hk.2⟩, hk.1.2⟩)) hg hat)
                  have n2_ := Aside0.mk (Kd.R_after (ok := (fun k_ => some k_ ≠ (.slice Ao24 t199.length co24 : Value).ownBlock ∧ some k_ ≠ (.slice Ao31 t211.length co31 : Value).ownBlock)) (by (with_reducible repeat (first | apply Kd.R_alloc | apply Kd.R_drewN | apply Kd.R_drew)); exact Kd.R_mono HO207.out (fun _ hk => ⟨⟨hk.1.1, hk.2⟩, hk.1.2⟩)) hg hat)
                  have n3_ := Aside0.mk (Kd.R_after (ok := (fun k_ => some k_ ≠ (.slice Ao24 t199.length co24 : Value).ownBlock ∧ some k_ ≠ (.slice Ao28 t205.length co28 : Value).ownBlock)) (by (with_reducible repeat (first | apply Kd.R_alloc | apply Kd.R_drewN | apply Kd.R_drew)); exact Kd.R_mono HO213.out (fun _ hk => ⟨⟨hk.1.1.2, hk.1.2⟩, hk.2⟩)) hg hat)
                  have n4_ := Aside0.mk (hb)
                  have n5_ := Aside0.mk (ho)
                  clear BK195
                  clear HO201
                  clear HO207
                  clear HO213
                  clear HB
                  clear HO210
                  have BK195 := n0_
                  have HO201 := n1_
                  have HO207 := n2_
                  have HO213 := n3_
                  have HB := n4_
                  have HO216 := n5_
                  clear n0_ n1_ n2_ n3_ n4_ n5_
                  clear ho hb hg hat
                  refine hK.out _ _ ⟨(blk_cell BK195.out 0).trans rfl, (blk_cell BK195.out 1).trans rfl, (blk_cell BK195.out 2).trans rfl, (blk_cell BK195.out 3).trans rfl, (blk_cell BK195.out 4).trans rfl, (blk_cell BK195.out 5).trans rfl, (blk_cell BK195.out 6).trans rfl, (blk_cell BK195.out 7).trans rfl, (blk_cell BK195.out 8).trans rfl⟩ (fun hHeld => ?_)
                  clear hK K
                  refine norm_ (a' := ?_) ?_ ?_
                  rotate_left
                  · show Act.put _ (some 20) _ = _
                    simp only [Act.put, List.setIfInBounds_toArray, List.set_cons_zero, List.set_cons_succ, i64_w, i32_w]
                    rfl
                  refine pure_ (i := 9) (N := some 3) (v := ?_) (a' := ?_) #[true, true, true, true, true, true, true, true, true, true] rfl rfl (any_of HT_.out (by kernel_rfl)) (fun _ _ _ h => h) (Or.inl ⟨by rfl, ?_⟩) ?_ ?_
                  rotate_left
                  · intro w'
                    go_simp
                    with_reducible rfl
                  rotate_left
                  · simp only [Act.put, List.setIfInBounds_toArray, List.set_cons_zero, List.set_cons_succ, i64_w, i32_w]
                    rfl
                  refine done_ (done_of HT_.out (by kernel_rfl)) ?_
                  try go_wp2
                  have n0_ := Aside0.mk (Kd.R_drew HO201.out)
                  have n1_ := Aside0.mk (Kd.R_drew HO207.out)
                  have n2_ := Aside0.mk (Kd.R_drew HO213.out)
                  have n3_ := Aside0.mk (Kd.R_drew HO216.out)
                  have n4_ := Aside0.mk (blk_drew BK195.out)
                  have n5_ := Aside0.mk (below_drew1 HB.out)
                  clear HO201
                  clear HO207
                  clear HO213
                  clear HO216
                  clear BK195
                  clear HB
                  have HO201 := n0_
                  have HO207 := n1_
                  have HO213 := n2_
                  have HO216 := n3_
                  have BK195 := n4_
                  have HB := n5_
                  clear n0_ n1_ n2_ n3_ n4_ n5_
                  refine start_ (n := 10) (S := fun w' => w'.cell? ⟨gb195, 0, none⟩ = some (.int .i64 a0_0) ∧ w'.cell? ⟨gb195, 1, none⟩ = some (.int .i64 a0_1) ∧ w'.cell? ⟨gb195, 2, none⟩ = some (.int .i64 a0_2) ∧ w'.cell? ⟨gb195, 3, none⟩ = some (.int .i64 a0_3) ∧ w'.cell? ⟨gb195, 4, none⟩ = some (.int .i64 a0_4) ∧ w'.cell? ⟨gb195, 5, none⟩ = some (.bool a0_5) ∧ w'.cell? ⟨gb195, 6, none⟩ = some (.slice A0_6 l0_6.length c0_6) ∧ w'.cell? ⟨gb195, 7, none⟩ = some (.slice A0_7 l0_7.length c0_7) ∧ w'.cell? ⟨gb195, 8, none⟩ = some (.slice A0_8 l0_8.length c0_8)) (ds := []) #[false, false, false, false, false, false, false, false, false, false] (by kernel_rfl) rfl rfl ⟨(blk_cell BK195.out 0).trans rfl, (blk_cell BK195.out 1).trans rfl, (blk_cell BK195.out 2).trans rfl, (blk_cell BK195.out 3).trans rfl, (blk_cell BK195.out 4).trans rfl, (blk_cell BK195.out 5).trans rfl, (blk_cell BK195.out 6).trans rfl, (blk_cell BK195.out 7).trans rfl, (blk_cell BK195.out 8).trans rfl⟩ (fun hHeld => ?_); refine with_tabW vokref10_Rec_body.tab3 vokref10_Rec_body.bits3 (fun HT_ HW_ => ?_)
                  generalize w30.drew = w32 at HO201 HO207 HO213 HO216 BK195 HB hHeld ⊢
                  refine pure_ (i := 0) (N := some 21) (v := ?_) (a' := ?_) #[true, false, false, false, false, false, false, false, false, false] rfl rfl (any_of HT_.out (by kernel_rfl)) (fun _ _ _ h => h) (Or.inl ⟨by rfl, ?_⟩) ?_ ?_
                  rotate_left
                  · intro w'
                    go_simp
                    with_reducible rfl
                  rotate_left
                  · simp only [Act.put, List.setIfInBounds_toArray, List.set_cons_zero, List.set_cons_succ, i64_w, i32_w]
                    rfl
                  refine pure_ (i := 1) (N := some 22) (v := ?_) (a' := ?_) #[true, true, false, false, false, false, false, false, false, false] rfl rfl (any_of HT_.out (by kernel_rfl)) (fun _ _ _ h => h) (Or.inl ⟨by rfl, ?_⟩) ?_ ?_
                  rotate_left
                  · intro w'
                    go_simp
                    with_reducible rfl
                  rotate_left
                  · simp only [Act.put, List.setIfInBounds_toArray, List.set_cons_zero, List.set_cons_succ, i64_w, i32_w]
                    rfl
                  refine pure_ (i := 4) (N := some 25) (v := ?_) (a' := ?_) #[true, true, false, false, true, false, false, false, false, false] rfl rfl (any_of HT_.out (by kernel_rfl)) (fun _ _ _ h => h) (Or.inl ⟨by rfl, ?_⟩) ?_ ?_
                  rotate_left
                  · intro w'
                    go_simp
                    with_reducible rfl
                  rotate_left
                  · simp only [Act.put, List.setIfInBounds_toArray, List.set_cons_zero, List.set_cons_succ, i64_w, i32_w]
                    rfl
                  refine take_ (i := 2) (N := some 23) (v := ?_) (a' := ?_) #[true, true, true, false, true, false, false, false, false, false] rfl rfl (take_ofW HT_.out HW_.out (by kernel_rfl)) (fun _ _ _ h => h) (Or.inl ⟨by rfl, ?_⟩) hHeld ?_ ?_
                  rotate_left
                  · rintro w' ⟨s0, s1, s2, s3, s4, s5, s6, s7, s8⟩
                    go_simp
                    with_reducible rfl
                  rotate_left
                  · simp only [Act.put, List.setIfInBounds_toArray, List.set_cons_zero, List.set_cons_succ, i64_w, i32_w]
                    rfl
                  refine pure_ (i := 3) (N := some 24) (v := ?_) (a' := ?_) #[true, true, true, true, true, false, false, false, false, false] rfl rfl (any_of HT_.out (by kernel_rfl)) (fun _ _ _ h => h) (Or.inl ⟨by rfl, ?_⟩) ?_ ?_
                  rotate_left
                  · intro w'
                    go_simp
                    with_reducible rfl
                  rotate_left
                  · simp only [Act.put, List.setIfInBounds_toArray, List.set_cons_zero, List.set_cons_succ, i64_w, i32_w]
                    rfl
                  refine take_ (i := 5) (N := some 26) (v := ?_) (a' := ?_) #[true, true, true, true, true, true, false, false, false, false] rfl rfl (take_ofW HT_.out HW_.out (by kernel_rfl)) (fun _ _ _ h => h) (Or.inl ⟨by rfl, ?_⟩) hHeld ?_ ?_
                  rotate_left
                  · rintro w' ⟨s0, s1, s2, s3, s4, s5, s6, s7, s8⟩
                    go_simp
                    with_reducible rfl
                  rotate_left
                  · simp only [Act.put, List.setIfInBounds_toArray, List.set_cons_zero, List.set_cons_succ, i64_w, i32_w]
                    rfl
                  refine one_ (i := 6) (N := some 27) #[true, true, true, true, true, true, true, false, false, false] rfl rfl (one_of HT_.out (by kernel_rfl)) (by decide) (fun K hK => ?_)
                  refine goes_ Try.func64 (by kernel_rfl) rfl #[.bool a0_5] (by rfl) rfl rfl (by (try simp only [List.map_toArray, List.map_cons, List.map_nil]); first | done | rfl | (simp only [List.length_drop, List.length_take]; rfl)) ?_
                  with_reducible refine (vokref10_flag.calls a0_5 t217 _ A8.out).mono ?_
                  rintro e w' ⟨rfl, ⟨nd, rfl⟩⟩
                  refine ⟨_, rfl, ?_⟩
                  refine hK.out _ _ ⟨(blk_cell BK195.out 0).trans rfl, (blk_cell BK195.out 1).trans rfl, (blk_cell BK195.out 2).trans rfl, (blk_cell BK195.out 3).trans rfl, (blk_cell BK195.out 4).trans rfl, (blk_cell BK195.out 5).trans rfl, (blk_cell BK195.out 6).trans rfl, (blk_cell BK195.out 7).trans rfl, (blk_cell BK195.out 8).trans rfl⟩ (fun hHeld => ?_)
                  clear hK K
                  refine norm_ (a' := ?_) ?_ ?_
                  rotate_left
                  · show Act.put _ (some 27) _ = _
                    simp only [Act.put, List.setIfInBounds_toArray, List.set_cons_zero, List.set_cons_succ, i64_w, i32_w]
                    rfl
                  refine one_ (i := 7) (N := some 28) #[true, true, true, true, true, true, true, true, false, false] rfl rfl (one_of HT_.out (by kernel_rfl)) (by decide) (fun K hK => ?_)
                  refine Kd.R_lit_step (Kd.int .u8) _ 5 ?hg (N := 28) ?hd (xs := ([(a0_3) % 256, t217] : List Int)) (inner := [.int .u8 ((a0_3) % 256), .int .u8 t217]) (ok := fun _ => True) (okp := fun _ => True) ?hr ?hp (fun _ hk => hk) trivial (Below.refl _ _) (Nat.le_refl _) (by simp) ?_; (case hd => rfl); (case hg => rfl); (case hr => first | (go_simp; done) | (go_simp; rfl)); (case hp => exact (Reps.one (show Kd.M (Kd.int .u8) _ _ _ ((a0_3) % 256) [.int .u8 ((a0_3) % 256)] from rfl) (Reps.one (show Kd.M (Kd.int .u8) _ _ _ t217 [.int .u8 t217] from rfl) (Reps.none _ _))))
                  intro v219 w33 ho34 hb hg_ hnew_
                  clear hg_ hnew_
                  (first | rw [← Ny218.out] at ho34 | (simp only [Int.reduceToNat] at ho34; rw [← Ny218.out] at ho34))
                  have n0_ := Aside0.mk (Kd.R_elder' (by (with_reducible repeat (first | apply Kd.R_alloc | apply Kd.R_drewN | apply Kd.R_drew)); exact HO201.out) (Kd.R_base ho34) hb)
                  have n1_ := Aside0.mk (Kd.R_elder' (by (with_reducible repeat (first | apply Kd.R_alloc | apply Kd.R_drewN | apply Kd.R_drew)); exact HO207.out) (Kd.R_base ho34) hb)
                  have n2_ := Aside0.mk (Kd.R_elder' (by (with_reducible repeat (first | apply Kd.R_alloc | apply Kd.R_drewN | apply Kd.R_drew)); exact HO213.out) (Kd.R_base ho34) hb)
                  have n3_ := Aside0.mk (Kd.R_elder' (by (with_reducible repeat (first | apply Kd.R_alloc | apply Kd.R_drewN | apply Kd.R_drew)); exact HO216.out) (Kd.R_base ho34) hb)
                  have n4_ := Aside0.mk (Kd.R_lower (Kd.R_new' (Kd.R_new' (Kd.R_new' (Kd.R_new' ho34 (Kd.R_lt (by (with_reducible repeat (first | apply Kd.R_alloc | apply Kd.R_drewN | apply Kd.R_drew)); exact HO201.out))) (Kd.R_lt (by (with_reducible repeat (first | apply Kd.R_alloc | apply Kd.R_drewN | apply Kd.R_drew)); exact HO207.out))) (Kd.R_lt (by (with_reducible repeat (first | apply Kd.R_alloc | apply Kd.R_drewN | apply Kd.R_drew)); exact HO213.out))) (Kd.R_lt (by (with_reducible repeat (first | apply Kd.R_alloc | apply Kd.R_drewN | apply Kd.R_drew)); exact HO216.out))) (below_size (by repeat (first | (with_reducible first | exact HB.out | apply below_alloc | apply pw_below_drewN | apply below_drew1 | refine below_set ?_ GE195.out) | exact HB.out))))
                  have n5_ := Aside0.mk (blk_below (g := gb195) (o := .cells #[.int .i64 a0_0, .int .i64 a0_1, .int .i64 a0_2, .int .i64 a0_3, .int .i64 a0_4, .bool a0_5, .slice A0_6 l0_6.length c0_6, .slice A0_7 l0_7.length c0_7, .slice A0_8 l0_8.length c0_8] 53 (0, 0)) (by (with_reducible repeat (first | refine blk_drewN ?_ _ | refine blk_drew ?_ | refine blk_alloc ?_ _)); exact BK195.out) hb)
                  have n6_ := Aside0.mk (below_step (by repeat (first | (with_reducible first | exact HB.out | apply below_alloc | apply pw_below_drewN | apply below_drew1 | refine below_set ?_ GE195.out) | exact HB.out)) hb)
                  clear HO201
                  clear HO207
                  clear HO213
                  clear HO216
                  clear BK195
                  clear HB
                  have HO201 := n0_
                  have HO207 := n1_
                  have HO213 := n2_
                  have HO216 := n3_
                  have HO220 := n4_
                  have BK195 := n5_
                  have HB := n6_
                  clear n0_ n1_ n2_ n3_ n4_ n5_ n6_
                  clear hb ho34
                  obtain ⟨Ao36, co36, eo36⟩ := Kd.R_slice HO220.out
                  (first | subst eo36 | (injection eo36 with f1_ f2_ f3_; have f4_ := f1_.symm; have f5_ := f3_.symm; clear f1_ f2_ f3_; subst f4_; subst f5_))
                  refine hK.out _ _ ⟨(blk_cell BK195.out 0).trans rfl, (blk_cell BK195.out 1).trans rfl, (blk_cell BK195.out 2).trans rfl, (blk_cell BK195.out 3).trans rfl, (blk_cell BK195.out 4).trans rfl, (blk_cell BK195.out 5).trans rfl, (blk_cell BK195.out 6).trans rfl, (blk_cell BK195.out 7).trans rfl, (blk_cell BK195.out 8).trans rfl⟩ (fun hHeld => ?_)
                  clear hK K
                  refine norm_ (a' := ?_) ?_ ?_
                  rotate_left
                  · show Act.put _ (some 28) _ = _
                    simp only [Act.put, List.setIfInBounds_toArray, List.set_cons_zero, List.set_cons_succ, i64_w, i32_w]
                    rfl
                  refine one_ (i := 8) (N := some 29) #[true, true, true, true, true, true, true, true, true, false] rfl rfl (one_of HT_.out (by kernel_rfl)) (by decide) (fun K hK => ?_)
                  refine Kd.R_append_rows_step (Kd.int .u8) (w0 := w) w.heap.size (by rfl) (.tmp 21) (.tmp 28) 25 5 (.int .u8 0) 1 rfl Try.underlying25 info5 rfl (by decide) (by omega) v215 y214 y218 _ _ _ (fun k_ => some k_ ≠ (.slice Ao24 t199.length co24 : Value).ownBlock ∧ some k_ ≠ (.slice Ao28 t205.length co28 : Value).ownBlock ∧ some k_ ≠ (.slice Ao31 t211.length co31 : Value).ownBlock ∧ some k_ ≠ (.slice Ao36 y218.length co36 : Value).ownBlock) (fun _ => False) rfl rfl ?aO ?aR (fun _ _ h => h) (fun _ h => h.elim) ?aF ?aB ?aS ?aL ?_
                  (case aR => repeat (first | exact (Kd.R_reads' HO220.out).2.2 | (with_reducible refine Kd.C_alloc ?_ _) | (with_reducible refine Kd.C_drewN ?_ _) | (with_reducible refine Kd.C_drew ?_)))
                  (case aB => exact (by repeat (first | (with_reducible first | exact HB.out | apply below_alloc | apply pw_below_drewN | apply below_drew1 | refine below_set ?_ GE195.out) | exact HB.out)))
                  (case aF => exact (fun k_ hk => ⟨Kd.fresh' (Kd.R_lt (by (with_reducible repeat (first | apply Kd.R_alloc | apply Kd.R_drewN | apply Kd.R_drew)); exact HO201.out)) k_ hk, Kd.fresh' (Kd.R_lt (by (with_reducible repeat (first | apply Kd.R_alloc | apply Kd.R_drewN | apply Kd.R_drew)); exact HO207.out)) k_ hk, Kd.fresh' (Kd.R_lt (by (with_reducible repeat (first | apply Kd.R_alloc | apply Kd.R_drewN | apply Kd.R_drew)); exact HO213.out)) k_ hk, Kd.fresh' (Kd.R_lt (by (with_reducible repeat (first | apply Kd.R_alloc | apply Kd.R_drewN | apply Kd.R_drew)); exact HO220.out)) k_ hk⟩))
                  (case aO => exact (by (with_reducible repeat (first | apply Kd.R_alloc | apply Kd.R_drewN | apply Kd.R_drew)); exact Kd.R_mono HO216.out (fun _ hk => ⟨hk.1.1, ⟨hk.1.2.1, ⟨hk.1.2.2, hk.2⟩⟩⟩)))
                  (case aS => exact (below_size (by repeat (first | (with_reducible first | exact HB.out | apply below_alloc | apply pw_below_drewN | apply below_drew1 | refine below_set ?_ GE195.out) | exact HB.out))))
                  (case aL => have := LMc9.out; omega)
                  intro v222 w35 ho hb hg hat
                  rw [← Ny221.out] at ho
                  have n0_ := Aside0.mk (blk_grown (g := gb195) (o := .cells #[.int .i64 a0_0, .int .i64 a0_1, .int .i64 a0_2, .int .i64 a0_3, .int .i64 a0_4, .bool a0_5, .slice A0_6 l0_6.length c0_6, .slice A0_7 l0_7.length c0_7, .slice A0_8 l0_8.length c0_8] 53 (0, 0)) (by (with_reducible repeat (first | refine blk_drewN ?_ _ | refine blk_drew ?_ | refine blk_alloc ?_ _)); exact BK195.out) hg (Kd.R_ne HO216.out BK195.out (by decide)))
                  have n1_ := Aside0.mk (Kd.R_after (ok := (fun k_ => some k_ ≠ (.slice Ao28 t205.length co28 : Value).ownBlock ∧ some k_ ≠ (.slice Ao31 t211.length co31 : Value).ownBlock ∧ some k_ ≠ (.slice Ao36 y218.length co36 : Value).ownBlock)) (by (with_reducible repeat (first | apply Kd.R_alloc | apply Kd.R_drewN | apply Kd.R_drew)); exact Kd.R_mono HO201.out (fun _ hk => ⟨⟨hk.1.1.1, ⟨hk.1.1.2, hk.2⟩⟩, hk.1.2⟩)) hg hat)
                  have n2_ := Aside0.mk (Kd.R_after (ok := (fun k_ => some k_ ≠ (.slice Ao24 t199.length co24 : Value).ownBlock ∧ some k_ ≠ (.slice Ao31 t211.length co31 : Value).ownBlock ∧ some k_ ≠ (.slice Ao36 y218.length co36 : Value).ownBlock)) (by (with_reducible repeat (first | apply Kd.R_alloc | apply Kd.R_drewN | apply Kd.R_drew)); exact Kd.R_mono HO207.out (fun _ hk => ⟨⟨hk.1.1.1, ⟨hk.1.1.2, hk.2⟩⟩, hk.1.2⟩)) hg hat)
                  have n3_ := Aside0.mk (Kd.R_after (ok := (fun k_ => some k_ ≠ (.slice Ao24 t199.length co24 : Value).ownBlock ∧ some k_ ≠ (.slice Ao28 t205.length co28 : Value).ownBlock ∧ some k_ ≠ (.slice Ao36 y218.length co36 : Value).ownBlock)) (by (with_reducible repeat (first | apply Kd.R_alloc | apply Kd.R_drewN | apply Kd.R_drew)); exact Kd.R_mono HO213.out (fun _ hk => ⟨⟨hk.1.1.1, ⟨hk.1.1.2, hk.2⟩⟩, hk.1.2⟩)) hg hat)
                  have n4_ := Aside0.mk (Kd.R_after (ok := (fun k_ => some k_ ≠ (.slice Ao24 t199.length co24 : Value).ownBlock ∧ some k_ ≠ (.slice Ao28 t205.length co28 : Value).ownBlock ∧ some k_ ≠ (.slice Ao31 t211.length co31 : Value).ownBlock)) (by (with_reducible repeat (first | apply Kd.R_alloc | apply Kd.R_drewN | apply Kd.R_drew)); exact Kd.R_mono HO220.out (fun _ hk => ⟨⟨hk.1.1.1.2, ⟨hk.1.1.2, hk.1.2⟩⟩, hk.2⟩)) hg hat)
                  have n5_ := Aside0.mk (hb)
                  have n6_ := Aside0.mk (ho)
                  clear BK195
                  clear HO201
                  clear HO207
                  clear HO213
                  clear HO220
                  clear HB
                  clear HO216
                  have BK195 := n0_
                  have HO201 := n1_
                  have HO207 := n2_
                  have HO213 := n3_
                  have HO220 := n4_
                  have HB := n5_
                  have HO223 := n6_
                  clear n0_ n1_ n2_ n3_ n4_ n5_ n6_
                  clear ho hb hg hat
                  refine hK.out _ _ ⟨(blk_cell BK195.out 0).trans rfl, (blk_cell BK195.out 1).trans rfl, (blk_cell BK195.out 2).trans rfl, (blk_cell BK195.out 3).trans rfl, (blk_cell BK195.out 4).trans rfl, (blk_cell BK195.out 5).trans rfl, (blk_cell BK195.out 6).trans rfl, (blk_cell BK195.out 7).trans rfl, (blk_cell BK195.out 8).trans rfl⟩ (fun hHeld => ?_)
                  clear hK K
                  refine norm_ (a' := ?_) ?_ ?_
                  rotate_left
                  · show Act.put _ (some 29) _ = _
                    simp only [Act.put, List.setIfInBounds_toArray, List.set_cons_zero, List.set_cons_succ, i64_w, i32_w]
                    rfl
                  refine pure_ (i := 9) (N := some 3) (v := ?_) (a' := ?_) #[true, true, true, true, true, true, true, true, true, true] rfl rfl (any_of HT_.out (by kernel_rfl)) (fun _ _ _ h => h) (Or.inl ⟨by rfl, ?_⟩) ?_ ?_
                  rotate_left
                  · intro w'
                    go_simp
                    with_reducible rfl
                  rotate_left
                  · simp only [Act.put, List.setIfInBounds_toArray, List.set_cons_zero, List.set_cons_succ, i64_w, i32_w]
                    rfl
                  refine done_ (done_of HT_.out (by kernel_rfl)) ?_
                  try go_wp2
                  have n0_ := Aside0.mk (Kd.R_drew HO201.out)
                  have n1_ := Aside0.mk (Kd.R_drew HO207.out)
                  have n2_ := Aside0.mk (Kd.R_drew HO213.out)
                  have n3_ := Aside0.mk (Kd.R_drew HO220.out)
                  have n4_ := Aside0.mk (Kd.R_drew HO223.out)
                  have n5_ := Aside0.mk (blk_drew BK195.out)
                  have n6_ := Aside0.mk (below_drew1 HB.out)
                  clear HO201
                  clear HO207
                  clear HO213
                  clear HO220
                  clear HO223
                  clear BK195
                  clear HB
                  have HO201 := n0_
                  have HO207 := n1_
                  have HO213 := n2_
                  have HO220 := n3_
                  have HO223 := n4_
                  have BK195 := n5_
                  have HB := n6_
                  clear n0_ n1_ n2_ n3_ n4_ n5_ n6_
                  refine start_ (n := 10) (S := fun w' => w'.cell? ⟨gb195, 0, none⟩ = some (.int .i64 a0_0) ∧ w'.cell? ⟨gb195, 1, none⟩ = some (.int .i64 a0_1) ∧ w'.cell? ⟨gb195, 2, none⟩ = some (.int .i64 a0_2) ∧ w'.cell? ⟨gb195, 3, none⟩ = some (.int .i64 a0_3) ∧ w'.cell? ⟨gb195, 4, none⟩ = some (.int .i64 a0_4) ∧ w'.cell? ⟨gb195, 5, none⟩ = some (.bool a0_5) ∧ w'.cell? ⟨gb195, 6, none⟩ = some (.slice A0_6 l0_6.length c0_6) ∧ w'.cell? ⟨gb195, 7, none⟩ = some (.slice A0_7 l0_7.length c0_7) ∧ w'.cell? ⟨gb195, 8, none⟩ = some (.slice A0_8 l0_8.length c0_8)) (ds := []) #[false, false, false, false, false, false, false, false, false, false] (by kernel_rfl) rfl rfl ⟨(blk_cell BK195.out 0).trans rfl, (blk_cell BK195.out 1).trans rfl, (blk_cell BK195.out 2).trans rfl, (blk_cell BK195.out 3).trans rfl, (blk_cell BK195.out 4).trans rfl, (blk_cell BK195.out 5).trans rfl, (blk_cell BK195.out 6).trans rfl, (blk_cell BK195.out 7).trans rfl, (blk_cell BK195.out 8).trans rfl⟩ (fun hHeld => ?_); refine with_tabW vokref10_Rec_body.tab4 vokref10_Rec_body.bits4 (fun HT_ HW_ => ?_)
                  generalize w35.drew = w37 at HO201 HO207 HO213 HO220 HO223 BK195 HB hHeld ⊢
                  refine pure_ (i := 0) (N := some 30) (v := ?_) (a' := ?_) #[true, false, false, false, false, false, false, false, false, false] rfl rfl (any_of HT_.out (by kernel_rfl)) (fun _ _ _ h => h) (Or.inl ⟨by rfl, ?_⟩) ?_ ?_
                  rotate_left
                  · intro w'
                    go_simp
                    with_reducible rfl
                  rotate_left
                  · simp only [Act.put, List.setIfInBounds_toArray, List.set_cons_zero, List.set_cons_succ, i64_w, i32_w]
                    rfl
                  refine pure_ (i := 1) (N := some 31) (v := ?_) (a' := ?_) #[true, true, false, false, false, false, false, false, false, false] rfl rfl (any_of HT_.out (by kernel_rfl)) (fun _ _ _ h => h) (Or.inl ⟨by rfl, ?_⟩) ?_ ?_
                  rotate_left
                  · intro w'
                    go_simp
                    with_reducible rfl
                  rotate_left
                  · simp only [Act.put, List.setIfInBounds_toArray, List.set_cons_zero, List.set_cons_succ, i64_w, i32_w]
                    rfl
                  refine pure_ (i := 5) (N := some 35) (v := ?_) (a' := ?_) #[true, true, false, false, false, true, false, false, false, false] rfl rfl (any_of HT_.out (by kernel_rfl)) (fun _ _ _ h => h) (Or.inl ⟨by rfl, ?_⟩) ?_ ?_
                  rotate_left
                  · intro w'
                    go_simp
                    with_reducible rfl
                  rotate_left
                  · simp only [Act.put, List.setIfInBounds_toArray, List.set_cons_zero, List.set_cons_succ, i64_w, i32_w]
                    rfl
                  refine take_ (i := 2) (N := some 32) (v := ?_) (a' := ?_) #[true, true, true, false, false, true, false, false, false, false] rfl rfl (take_ofW HT_.out HW_.out (by kernel_rfl)) (fun _ _ _ h => h) (Or.inl ⟨by rfl, ?_⟩) hHeld ?_ ?_
                  rotate_left
                  · rintro w' ⟨s0, s1, s2, s3, s4, s5, s6, s7, s8⟩
                    go_simp
                    with_reducible rfl
                  rotate_left
                  · simp only [Act.put, List.setIfInBounds_toArray, List.set_cons_zero, List.set_cons_succ, i64_w, i32_w]
                    rfl
                  refine take_ (i := 6) (N := some 36) (v := ?_) (a' := ?_) #[true, true, true, false, false, true, true, false, false, false] rfl rfl (take_ofW HT_.out HW_.out (by kernel_rfl)) (fun _ _ _ h => h) (Or.inl ⟨by rfl, ?_⟩) hHeld ?_ ?_
                  rotate_left
                  · rintro w' ⟨s0, s1, s2, s3, s4, s5, s6, s7, s8⟩
                    go_simp
                    with_reducible rfl
                  rotate_left
                  · simp only [Act.put, List.setIfInBounds_toArray, List.set_cons_zero, List.set_cons_succ, i64_w, i32_w]
                    rfl
                  refine one_ (i := 3) (N := some 33) #[true, true, true, true, false, true, true, false, false, false] rfl rfl (one_of HT_.out (by kernel_rfl)) (by decide) (fun K hK => ?_)
                  refine goes_ Try.func62 (by kernel_rfl) rfl #[.slice A0_6 l0_6.length c0_6] (by rfl) rfl rfl (by (try simp only [List.map_toArray, List.map_cons, List.map_nil]); first | done | rfl | (simp only [List.length_drop, List.length_take]; rfl)) ?_
                  with_reducible refine (vokref10_Short.calls k _ _ l0_6 t224 _ ?side1 ?side2 A10.out).mono ?_
                  (case side1 => repeat (first | exact (Kd.C_below HR0_6.out HB.out) | (with_reducible refine Kd.C_alloc ?_ _) | (with_reducible refine Kd.C_drewN ?_ _) | (with_reducible refine Kd.C_drew ?_)))
                  (case side2 => exact HC0_6.out)
                  rintro e w38 ⟨v225, rfl, ho0, hb⟩
                  refine ⟨_, rfl, ?_⟩
                  have n0_ := Aside0.mk (Kd.R_elder' (by (with_reducible repeat (first | apply Kd.R_alloc | apply Kd.R_drewN | apply Kd.R_drew)); exact HO201.out) (Kd.R_base ho0) hb)
                  have n1_ := Aside0.mk (Kd.R_elder' (by (with_reducible repeat (first | apply Kd.R_alloc | apply Kd.R_drewN | apply Kd.R_drew)); exact HO207.out) (Kd.R_base ho0) hb)
                  have n2_ := Aside0.mk (Kd.R_elder' (by (with_reducible repeat (first | apply Kd.R_alloc | apply Kd.R_drewN | apply Kd.R_drew)); exact HO213.out) (Kd.R_base ho0) hb)
                  have n3_ := Aside0.mk (Kd.R_elder' (by (with_reducible repeat (first | apply Kd.R_alloc | apply Kd.R_drewN | apply Kd.R_drew)); exact HO220.out) (Kd.R_base ho0) hb)
                  have n4_ := Aside0.mk (Kd.R_elder' (by (with_reducible repeat (first | apply Kd.R_alloc | apply Kd.R_drewN | apply Kd.R_drew)); exact HO223.out) (Kd.R_base ho0) hb)
                  have n5_ := Aside0.mk (Kd.R_lower (Kd.R_new' (Kd.R_new' (Kd.R_new' (Kd.R_new' (Kd.R_new' ho0 (Kd.R_lt (by (with_reducible repeat (first | apply Kd.R_alloc | apply Kd.R_drewN | apply Kd.R_drew)); exact HO201.out))) (Kd.R_lt (by (with_reducible repeat (first | apply Kd.R_alloc | apply Kd.R_drewN | apply Kd.R_drew)); exact HO207.out))) (Kd.R_lt (by (with_reducible repeat (first | apply Kd.R_alloc | apply Kd.R_drewN | apply Kd.R_drew)); exact HO213.out))) (Kd.R_lt (by (with_reducible repeat (first | apply Kd.R_alloc | apply Kd.R_drewN | apply Kd.R_drew)); exact HO220.out))) (Kd.R_lt (by (with_reducible repeat (first | apply Kd.R_alloc | apply Kd.R_drewN | apply Kd.R_drew)); exact HO223.out))) (below_size (by repeat (first | (with_reducible first | exact HB.out | apply below_alloc | apply pw_below_drewN | apply below_drew1 | refine below_set ?_ GE195.out) | exact HB.out))))
                  have n6_ := Aside0.mk (blk_below (g := gb195) (o := .cells #[.int .i64 a0_0, .int .i64 a0_1, .int .i64 a0_2, .int .i64 a0_3, .int .i64 a0_4, .bool a0_5, .slice A0_6 l0_6.length c0_6, .slice A0_7 l0_7.length c0_7, .slice A0_8 l0_8.length c0_8] 53 (0, 0)) (by (with_reducible repeat (first | refine blk_drewN ?_ _ | refine blk_drew ?_ | refine blk_alloc ?_ _)); exact BK195.out) hb)
                  have n7_ := Aside0.mk (below_step (by repeat (first | (with_reducible first | exact HB.out | apply below_alloc | apply pw_below_drewN | apply below_drew1 | refine below_set ?_ GE195.out) | exact HB.out)) hb)
                  clear HO201
                  clear HO207
                  clear HO213
                  clear HO220
                  clear HO223
                  clear BK195
                  clear HB
                  have HO201 := n0_
                  have HO207 := n1_
                  have HO213 := n2_
                  have HO220 := n3_
                  have HO223 := n4_
                  have HO226 := n5_
                  have BK195 := n6_
                  have HB := n7_
                  clear n0_ n1_ n2_ n3_ n4_ n5_ n6_ n7_
                  (try clear hb)
                  (try clear hb2)
                  (try clear hk)
                  (try clear hi)
                  (try clear ho0)
                  obtain ⟨Ao40, co40, eo40⟩ := Kd.R_slice HO226.out
                  (first | subst eo40 | (injection eo40 with f1_ f2_ f3_; have f4_ := f1_.symm; have f5_ := f3_.symm; clear f1_ f2_ f3_; subst f4_; subst f5_))
                  refine hK.out _ _ ⟨(blk_cell BK195.out 0).trans rfl, (blk_cell BK195.out 1).trans rfl, (blk_cell BK195.out 2).trans rfl, (blk_cell BK195.out 3).trans rfl, (blk_cell BK195.out 4).trans rfl, (blk_cell BK195.out 5).trans rfl, (blk_cell BK195.out 6).trans rfl, (blk_cell BK195.out 7).trans rfl, (blk_cell BK195.out 8).trans rfl⟩ (fun hHeld => ?_)
                  clear hK K
                  refine norm_ (a' := ?_) ?_ ?_
                  rotate_left
                  · show Act.put _ (some 33) _ = _
                    simp only [Act.put, List.setIfInBounds_toArray, List.set_cons_zero, List.set_cons_succ, i64_w, i32_w]
                    rfl
                  refine one_ (i := 4) (N := some 34) #[true, true, true, true, true, true, true, false, false, false] rfl rfl (one_of HT_.out (by kernel_rfl)) (by decide) (fun K hK => ?_)
                  refine Kd.R_append_rows_step (Kd.int .u8) (w0 := w) w.heap.size (by rfl) (.tmp 30) (.tmp 33) 25 5 (.int .u8 0) 1 rfl Try.underlying25 info5 rfl (by decide) (by omega) v222 y221 t224 _ _ _ (fun k_ => some k_ ≠ (.slice Ao24 t199.length co24 : Value).ownBlock ∧ some k_ ≠ (.slice Ao28 t205.length co28 : Value).ownBlock ∧ some k_ ≠ (.slice Ao31 t211.length co31 : Value).ownBlock ∧ some k_ ≠ (.slice Ao36 y218.length co36 : Value).ownBlock ∧ some k_ ≠ (.slice Ao40 t224.length co40 : Value).ownBlock) (fun _ => False) rfl rfl ?aO ?aR (fun _ _ h => h) (fun _ h => h.elim) ?aF ?aB ?aS ?aL ?_
                  (case aR => repeat (first | exact (Kd.R_reads' HO226.out).2.2 | (with_reducible refine Kd.C_alloc ?_ _) | (with_reducible refine Kd.C_drewN ?_ _) | (with_reducible refine Kd.C_drew ?_)))
                  (case aB => exact (by repeat (first | (with_reducible first | exact HB.out | apply below_alloc | apply pw_below_drewN | apply below_drew1 | refine below_set ?_ GE195.out) | exact HB.out)))
                  (case aF => exact (fun k_ hk => ⟨Kd.fresh' (Kd.R_lt (by (with_reducible repeat (first | apply Kd.R_alloc | apply Kd.R_drewN | apply Kd.R_drew)); exact HO201.out)) k_ hk, Kd.fresh' (Kd.R_lt (by (with_reducible repeat (first | apply Kd.R_alloc | apply Kd.R_drewN | apply Kd.R_drew)); exact HO207.out)) k_ hk, Kd.fresh' (Kd.R_lt (by (with_reducible repeat (first | apply Kd.R_alloc | apply Kd.R_drewN | apply Kd.R_drew)); exact HO213.out)) k_ hk, Kd.fresh' (Kd.R_lt (by (with_reducible repeat (first | apply Kd.R_alloc | apply Kd.R_drewN | apply Kd.R_drew)); exact HO220.out)) k_ hk, Kd.fresh' (Kd.R_lt (by (with_reducible repeat (first | apply Kd.R_alloc | apply Kd.R_drewN | apply Kd.R_drew)); exact HO226.out)) k_ hk⟩))
                  (case aO => exact (by (with_reducible repeat (first | apply Kd.R_alloc | apply Kd.R_drewN | apply Kd.R_drew)); exact Kd.R_mono HO223.out (fun _ hk => ⟨hk.1.1, ⟨hk.1.2.1, ⟨hk.1.2.2.1, ⟨hk.1.2.2.2, hk.2⟩⟩⟩⟩)))
                  (case aS => exact (below_size (by repeat (first | (with_reducible first | exact HB.out | apply below_alloc | apply pw_below_drewN | apply below_drew1 | refine below_set ?_ GE195.out) | exact HB.out))))
                  (case aL => have := LMc11.out; omega)
                  intro v228 w39 ho hb hg hat
                  rw [← Ny227.out] at ho
                  have n0_ := Aside0.mk (blk_grown (g := gb195) (o := .cells #[.int .i64 a0_0, .int .i64 a0_1, .int .i64 a0_2, .int .i64 a0_3, .int .i64 a0_4, .bool a0_5, .slice A0_6 l0_6.length c0_6, .slice A0_7 l0_7.length c0_7, .slice A0_8 l0_8.length c0_8] 53 (0, 0)) (by (with_reducible repeat (first | refine blk_drewN ?_ _ | refine blk_drew ?_ | refine blk_alloc ?_ _)); exact BK195.out) hg (Kd.R_ne HO223.out BK195.out (by decide)))
                  have n1_ := Aside0.mk (Kd.R_after (ok := (fun k_ => some k_ ≠ (.slice Ao28 t205.length co28 : Value).ownBlock ∧ some k_ ≠ (.slice Ao31 t211.length co31 : Value).ownBlock ∧ some k_ ≠ (.slice Ao36 y218.length co36 : Value).ownBlock ∧ some k_ ≠ (.slice Ao40 t224.length co40 : Value).ownBlock)) (by (with_reducible repeat (first | apply Kd.R_alloc | apply Kd.R_drewN | apply Kd.R_drew)); exact Kd.R_mono HO201.out (fun _ hk => ⟨⟨hk.1.1.1, ⟨hk.1.1.2.1, ⟨hk.1.1.2.2, hk.2⟩⟩⟩, hk.1.2⟩)) hg hat)
                  have n2_ := Aside0.mk (Kd.R_after (ok := (fun k_ => some k_ ≠ (.slice Ao24 t199.length co24 : Value).ownBlock ∧ some k_ ≠ (.slice Ao31 t211.length co31 : Value).ownBlock ∧ some k_ ≠ (.slice Ao36 y218.length co36 : Value).ownBlock ∧ some k_ ≠ (.slice Ao40 t224.length co40 : Value).ownBlock)) (by (with_reducible repeat (first | apply Kd.R_alloc | apply Kd.R_drewN | apply Kd.R_drew)); exact Kd.R_mono HO207.out (fun _ hk => ⟨⟨hk.1.1.1, ⟨hk.1.1.2.1, ⟨hk.1.1.2.2, hk.2⟩⟩⟩, hk.1.2⟩)) hg hat)
                  have n3_ := Aside0.mk (Kd.R_after (ok := (fun k_ => some k_ ≠ (.slice Ao24 t199.length co24 : Value).ownBlock ∧ some k_ ≠ (.slice Ao28 t205.length co28 : Value).ownBlock ∧ some k_ ≠ (.slice Ao36 y218.length co36 : Value).ownBlock ∧ some k_ ≠ (.slice Ao40 t224.length co40 : Value).ownBlock)) (by (with_reducible repeat (first | apply Kd.R_alloc | apply Kd.R_drewN | apply Kd.R_drew)); exact Kd.R_mono HO213.out (fun _ hk => ⟨⟨hk.1.1.1, ⟨hk.1.1.2.1, ⟨hk.1.1.2.2, hk.2⟩⟩⟩, hk.1.2⟩)) hg hat)
                  have n4_ := Aside0.mk (Kd.R_after (ok := (fun k_ => some k_ ≠ (.slice Ao24 t199.length co24 : Value).ownBlock ∧ some k_ ≠ (.slice Ao28 t205.length co28 : Value).ownBlock ∧ some k_ ≠ (.slice Ao31 t211.length co31 : Value).ownBlock ∧ some k_ ≠ (.slice Ao40 t224.length co40 : Value).ownBlock)) (by (with_reducible repeat (first | apply Kd.R_alloc | apply Kd.R_drewN | apply Kd.R_drew)); exact Kd.R_mono HO220.out (fun _ hk => ⟨⟨hk.1.1.1, ⟨hk.1.1.2.1, ⟨hk.1.1.2.2, hk.2⟩⟩⟩, hk.1.2⟩)) hg hat)
                  have n5_ := Aside0.mk (Kd.R_after (ok := (fun k_ => some k_ ≠ (.slice Ao24 t199.length co24 : Value).ownBlock ∧ some k_ ≠ (.slice Ao28 t205.length co28 : Value).ownBlock ∧ some k_ ≠ (.slice Ao31 t211.length co31 : Value).ownBlock ∧ some k_ ≠ (.slice Ao36 y218.length co36 : Value).ownBlock)) (by (with_reducible repeat (first | apply Kd.R_alloc | apply Kd.R_drewN | apply Kd.R_drew)); exact Kd.R_mono HO226.out (fun _ hk => ⟨⟨hk.1.1.1.1.2, ⟨hk.1.1.1.2, ⟨hk.1.1.2, hk.1.2⟩⟩⟩, hk.2⟩)) hg hat)
                  have n6_ := Aside0.mk (hb)
                  have n7_ := Aside0.mk (ho)
                  clear BK195
                  clear HO201
                  clear HO207
                  clear HO213
                  clear HO220
                  clear HO226
                  clear HB
                  clear HO223
                  have BK195 := n0_
                  have HO201 := n1_
                  have HO207 := n2_
                  have HO213 := n3_
                  have HO220 := n4_
                  have HO226 := n5_
                  have HB := n6_
                  have HO229 := n7_
                  clear n0_ n1_ n2_ n3_ n4_ n5_ n6_ n7_
                  clear ho hb hg hat
                  refine hK.out _ _ ⟨(blk_cell BK195.out 0).trans rfl, (blk_cell BK195.out 1).trans rfl, (blk_cell BK195.out 2).trans rfl, (blk_cell BK195.out 3).trans rfl, (blk_cell BK195.out 4).trans rfl, (blk_cell BK195.out 5).trans rfl, (blk_cell BK195.out 6).trans rfl, (blk_cell BK195.out 7).trans rfl, (blk_cell BK195.out 8).trans rfl⟩ (fun hHeld => ?_)
                  clear hK K
                  refine norm_ (a' := ?_) ?_ ?_
                  rotate_left
                  · show Act.put _ (some 34) _ = _
                    simp only [Act.put, List.setIfInBounds_toArray, List.set_cons_zero, List.set_cons_succ, i64_w, i32_w]
                    rfl
                  refine one_ (i := 7) (N := some 37) #[true, true, true, true, true, true, true, true, false, false] rfl rfl (one_of HT_.out (by kernel_rfl)) (by decide) (fun K hK => ?_)
                  refine goes_ Try.func62 (by kernel_rfl) rfl #[.slice A0_7 l0_7.length c0_7] (by rfl) rfl rfl (by (try simp only [List.map_toArray, List.map_cons, List.map_nil]); first | done | rfl | (simp only [List.length_drop, List.length_take]; rfl)) ?_
                  with_reducible refine (vokref10_Short.calls k _ _ l0_7 t230 _ ?side1 ?side2 A12.out).mono ?_
                  (case side1 => repeat (first | exact (Kd.C_below HR0_7.out HB.out) | (with_reducible refine Kd.C_alloc ?_ _) | (with_reducible refine Kd.C_drewN ?_ _) | (with_reducible refine Kd.C_drew ?_)))
                  (case side2 => exact HC0_7.out)
                  rintro e w41 ⟨v231, rfl, ho0, hb⟩
                  refine ⟨_, rfl, ?_⟩
                  have n0_ := Aside0.mk (Kd.R_elder' (by (with_reducible repeat (first | apply Kd.R_alloc | apply Kd.R_drewN | apply Kd.R_drew)); exact HO201.out) (Kd.R_base ho0) hb)
                  have n1_ := Aside0.mk (Kd.R_elder' (by (with_reducible repeat (first | apply Kd.R_alloc | apply Kd.R_drewN | apply Kd.R_drew)); exact HO207.out) (Kd.R_base ho0) hb)
                  have n2_ := Aside0.mk (Kd.R_elder' (by (with_reducible repeat (first | apply Kd.R_alloc | apply Kd.R_drewN | apply Kd.R_drew)); exact HO213.out) (Kd.R_base ho0) hb)
                  have n3_ := Aside0.mk (Kd.R_elder' (by (with_reducible repeat (first | apply Kd.R_alloc | apply Kd.R_drewN | apply Kd.R_drew)); exact HO220.out) (Kd.R_base ho0) hb)
                  have n4_ := Aside0.mk (Kd.R_elder' (by (with_reducible repeat (first | apply Kd.R_alloc | apply Kd.R_drewN | apply Kd.R_drew)); exact HO226.out) (Kd.R_base ho0) hb)
                  have n5_ := Aside0.mk (Kd.R_elder' (by (with_reducible repeat (first | apply Kd.R_alloc | apply Kd.R_drewN | apply Kd.R_drew)); exact HO229.out) (Kd.R_base ho0) hb)
                  have n6_ := Aside0.mk (Kd.R_lower (Kd.R_new' (Kd.R_new' (Kd.R_new' (Kd.R_new' (Kd.R_new' (Kd.R_new' ho0 (Kd.R_lt (by (with_reducible repeat (first | apply Kd.R_alloc | apply Kd.R_drewN | apply Kd.R_drew)); exact HO201.out))) (Kd.R_lt (by (with_reducible repeat (first | apply Kd.R_alloc | apply Kd.R_drewN | apply Kd.R_drew)); exact HO207.out))) (Kd.R_lt (by (with_reducible repeat (first | apply Kd.R_alloc | apply Kd.R_drewN | apply Kd.R_drew)); exact HO213.out))) (Kd.R_lt (by (with_reducible repeat (first | apply Kd.R_alloc | apply Kd.R_drewN | apply Kd.R_drew)); exact HO220.out))) (Kd.R_lt (by (with_reducible repeat (first | apply Kd.R_alloc | apply Kd.R_drewN | apply Kd.R_drew)); exact HO226.out))) (Kd.R_lt (by (with_reducible repeat (first | apply Kd.R_alloc | apply Kd.R_drewN | apply Kd.R_drew)); exact HO229.out))) (below_size (by repeat (first | (with_reducible first | exact HB.out | apply below_alloc | apply pw_below_drewN | apply below_drew1 | refine below_set ?_ GE195.out) | exact HB.out))))
                  have n7_ := Aside0.mk (blk_below (g := gb195) (o := .cells #[.int .i64 a0_0, .int .i64 a0_1, .int .i64 a0_2, .int .i64 a0_3, .int .i64 a0_4, .bool a0_5, .slice A0_6 l0_6.length c0_6, .slice A0_7 l0_7.length c0_7, .slice A0_8 l0_8.length c0_8] 53 (0, 0)) (by (with_reducible repeat (first | refine blk_drewN ?_ _ | refine blk_drew ?_ | refine blk_alloc ?_ _)); exact BK195.out) hb)
                  have n8_ := Aside0.mk (below_step (by repeat (first | (with_reducible first | exact HB.out | apply below_alloc | apply pw_below_drewN | apply below_drew1 | refine below_set ?_ GE195.out) | exact HB.out)) hb)
                  clear HO201
                  clear HO207
                  clear HO213
                  clear HO220
                  clear HO226
                  clear HO229
                  clear BK195
                  clear HB
                  have HO201 := n0_
                  have HO207 := n1_
                  have HO213 := n2_
                  have HO220 := n3_
                  have HO226 := n4_
                  have HO229 := n5_
                  have HO232 := n6_
                  have BK195 := n7_
                  have HB := n8_
                  clear n0_ n1_ n2_ n3_ n4_ n5_ n6_ n7_ n8_
                  (try clear hb)
                  (try clear hb2)
                  (try clear hk)
                  (try clear hi)
                  (try clear ho0)
                  obtain ⟨Ao43, co43, eo43⟩ := Kd.R_slice HO232.out
                  (first | subst eo43 | (injection eo43 with f1_ f2_ f3_; have f4_ := f1_.symm; have f5_ := f3_.symm; clear f1_ f2_ f3_; subst f4_; subst f5_))
                  refine hK.out _ _ ⟨(blk_cell BK195.out 0).trans rfl, (blk_cell BK195.out 1).trans rfl, (blk_cell BK195.out 2).trans rfl, (blk_cell BK195.out 3).trans rfl, (blk_cell BK195.out 4).trans rfl, (blk_cell BK195.out 5).trans rfl, (blk_cell BK195.out 6).trans rfl, (blk_cell BK195.out 7).trans rfl, (blk_cell BK195.out 8).trans rfl⟩ (fun hHeld => ?_)
                  clear hK K
                  refine norm_ (a' := ?_) ?_ ?_
                  rotate_left
                  · show Act.put _ (some 37) _ = _
                    simp only [Act.put, List.setIfInBounds_toArray, List.set_cons_zero, List.set_cons_succ, i64_w, i32_w]
                    rfl
                  refine one_ (i := 8) (N := some 38) #[true, true, true, true, true, true, true, true, true, false] rfl rfl (one_of HT_.out (by kernel_rfl)) (by decide) (fun K hK => ?_)
                  refine Kd.R_append_rows_step (Kd.int .u8) (w0 := w) w.heap.size (by rfl) (.tmp 34) (.tmp 37) 25 5 (.int .u8 0) 1 rfl Try.underlying25 info5 rfl (by decide) (by omega) v228 y227 t230 _ _ _ (fun k_ => some k_ ≠ (.slice Ao24 t199.length co24 : Value).ownBlock ∧ some k_ ≠ (.slice Ao28 t205.length co28 : Value).ownBlock ∧ some k_ ≠ (.slice Ao31 t211.length co31 : Value).ownBlock ∧ some k_ ≠ (.slice Ao36 y218.length co36 : Value).ownBlock ∧ some k_ ≠ (.slice Ao40 t224.length co40 : Value).ownBlock ∧ some k_ ≠ (.slice Ao43 t230.length co43 : Value).ownBlock) (fun _ => False) rfl rfl ?aO ?aR (fun _ _ h => h) (fun _ h => h.elim) ?aF ?aB ?aS ?aL ?_
                  (case aR => repeat (first | exact (Kd.R_reads' HO232.out).2.2 | (with_reducible refine Kd.C_alloc ?_ _) | (with_reducible refine Kd.C_drewN ?_ _) | (with_reducible refine Kd.C_drew ?_)))
                  (case aB => exact (by repeat (first | (with_reducible first | exact HB.out | apply below_alloc | apply pw_below_drewN | apply below_drew1 | refine below_set ?_ GE195.out) | exact HB.out)))
                  (case aF => exact (fun k_ hk => ⟨Kd.fresh' (Kd.R_lt (by (with_reducible repeat (first | apply Kd.R_alloc | apply Kd.R_drewN | apply Kd.R_drew)); exact HO201.out)) k_ hk, Kd.fresh' (Kd.R_lt (by (with_reducible repeat (first | apply Kd.R_alloc | apply Kd.R_drewN | apply Kd.R_drew)); exact HO207.out)) k_ hk, Kd.fresh' (Kd.R_lt (by (with_reducible repeat (first | apply Kd.R_alloc | apply Kd.R_drewN | apply Kd.R_drew)); exact HO213.out)) k_ hk, Kd.fresh' (Kd.R_lt (by (with_reducible repeat (first | apply Kd.R_alloc | apply Kd.R_drewN | apply Kd.R_drew)); exact HO220.out)) k_ hk, Kd.fresh' (Kd.R_lt (by (with_reducible repeat (first | apply Kd.R_alloc | apply Kd.R_drewN | apply Kd.R_drew)); exact HO226.out)) k_ hk, Kd.fresh' (Kd.R_lt (by (with_reducible repeat (first | apply Kd.R_alloc | apply Kd.R_drewN | apply Kd.R_drew)); exact HO232.out)) k_ hk⟩))
                  (case aO => exact (by (with_reducible repeat (first | apply Kd.R_alloc | apply Kd.R_drewN | apply Kd.R_drew)); exact Kd.R_mono HO229.out (fun _ hk => ⟨hk.1.1, ⟨hk.1.2.1, ⟨hk.1.2.2.1, ⟨hk.1.2.2.2.1, ⟨hk.1.2.2.2.2, hk.2⟩⟩⟩⟩⟩)))
                  (case aS => exact (below_size (by repeat (first | (with_reducible first | exact HB.out | apply below_alloc | apply pw_below_drewN | apply below_drew1 | refine below_set ?_ GE195.out) | exact HB.out))))
                  (case aL => have := LMc13.out; omega)
                  intro v234 w42 ho hb hg hat
                  rw [← Ny233.out] at ho
                  have n0_ := Aside0.mk (blk_grown (g := gb195) (o := .cells #[.int .i64 a0_0, .int .i64 a0_1, .int .i64 a0_2, .int .i64 a0_3, .int .i64 a0_4, .bool a0_5, .slice A0_6 l0_6.length c0_6, .slice A0_7 l0_7.length c0_7, .slice A0_8 l0_8.length c0_8] 53 (0, 0)) (by (with_reducible repeat (first | refine blk_drewN ?_ _ | refine blk_drew ?_ | refine blk_alloc ?_ _)); exact BK195.out) hg (Kd.R_ne HO229.out BK195.out (by decide)))
                  have n1_ := Aside0.mk (Kd.R_after (ok := (fun k_ => some k_ ≠ (.slice Ao28 t205.length co28 : Value).ownBlock ∧ some k_ ≠ (.slice Ao31 t211.length co31 : Value).ownBlock ∧ some k_ ≠ (.slice Ao36 y218.length co36 : Value).ownBlock ∧ some k_ ≠ (.slice Ao40 t224.length co40 : Value).ownBlock ∧ some k_ ≠ (.slice Ao43 t230.length co43 : Value).ownBlock)) (by (with_reducible repeat (first | apply Kd.R_alloc | apply Kd.R_drewN | apply Kd.R_drew)); exact Kd.R_mono HO201.out (fun _ hk => ⟨⟨hk.1.1.1, ⟨hk.1.1.2.1, ⟨hk.1.1.2.2.1, ⟨hk.1.1.2.2.2, hk.2⟩⟩⟩⟩, hk.1.2⟩)) hg hat)
                  have n2_ := Aside0.mk (Kd.R_after (ok := (fun k_ => some k_ ≠ (.slice Ao24 t199.length co24 : Value).ownBlock ∧ some k_ ≠ (.slice Ao31 t211.length co31 : Value).ownBlock ∧ some k_ ≠ (.slice Ao36 y218.length co36 : Value).ownBlock ∧ some k_ ≠ (.slice Ao40 t224.length co40 : Value).ownBlock ∧ some k_ ≠ (.slice Ao43 t230.length co43 : Value).ownBlock)) (by (with_reducible repeat (first | apply Kd.R_alloc | apply Kd.R_drewN | apply Kd.R_drew)); exact Kd.R_mono HO207.out (fun _ hk => ⟨⟨hk.1.1.1, ⟨hk.1.1.2.1, ⟨hk.1.1.2.2.1, ⟨hk.1.1.2.2.2, hk.2⟩⟩⟩⟩, hk.1.2⟩)) hg hat)
                  have n3_ := Aside0.mk (Kd.R_after (ok := (fun k_ => some k_ ≠ (.slice Ao24 t199.length co24 : Value).ownBlock ∧ some k_ ≠ (.slice Ao28 t205.length co28 : Value).ownBlock ∧ some k_ ≠ (.slice Ao36 y218.length co36 : Value).ownBlock ∧ some k_ ≠ (.slice Ao40 t224.length co40 : Value).ownBlock ∧ some k_ ≠ (.slice Ao43 t230.length co43 : Value).ownBlock)) (by (with_reducible repeat (first | apply Kd.R_alloc | apply Kd.R_drewN | apply Kd.R_drew)); exact Kd.R_mono HO213.out (fun _ hk => ⟨⟨hk.1.1.1, ⟨hk.1.1.2.1, ⟨hk.1.1.2.2.1, ⟨hk.1.1.2.2.2, hk.2⟩⟩⟩⟩, hk.1.2⟩)) hg hat)
                  have n4_ := Aside0.mk (Kd.R_after (ok := (fun k_ => some k_ ≠ (.slice Ao24 t199.length co24 : Value).ownBlock ∧ some k_ ≠ (.slice Ao28 t205.length co28 : Value).ownBlock ∧ some k_ ≠ (.slice Ao31 t211.length co31 : Value).ownBlock ∧ some k_ ≠ (.slice Ao40 t224.length co40 : Value).ownBlock ∧ some k_ ≠ (.slice Ao43 t230.length co43 : Value).ownBlock)) (by (with_reducible repeat (first | apply Kd.R_alloc | apply Kd.R_drewN | apply Kd.R_drew)); exact Kd.R_mono HO220.out (fun _ hk => ⟨⟨hk.1.1.1, ⟨hk.1.1.2.1, ⟨hk.1.1.2.2.1, ⟨hk.1.1.2.2.2, hk.2⟩⟩⟩⟩, hk.1.2⟩)) hg hat)
                  have n5_ := Aside0.mk (Kd.R_after (ok := (fun k_ => some k_ ≠ (.slice Ao24 t199.length co24 : Value).ownBlock ∧ some k_ ≠ (.slice Ao28 t205.length co28 : Value).ownBlock ∧ some k_ ≠ (.slice Ao31 t211.length co31 : Value).ownBlock ∧ some k_ ≠ (.slice Ao36 y218.length co36 : Value).ownBlock ∧ some k_ ≠ (.slice Ao43 t230.length co43 : Value).ownBlock)) (by (with_reducible repeat (first | apply Kd.R_alloc | apply Kd.R_drewN | apply Kd.R_drew)); exact Kd.R_mono HO226.out (fun _ hk => ⟨⟨hk.1.1.1, ⟨hk.1.1.2.1, ⟨hk.1.1.2.2.1, ⟨hk.1.1.2.2.2, hk.2⟩⟩⟩⟩, hk.1.2⟩)) hg hat)
                  have n6_ := Aside0.mk (Kd.R_after (ok := (fun k_ => some k_ ≠ (.slice Ao24 t199.length co24 : Value).ownBlock ∧ some k_ ≠ (.slice Ao28 t205.length co28 : Value).ownBlock ∧ some k_ ≠ (.slice Ao31 t211.length co31 : Value).ownBlock ∧ some k_ ≠ (.slice Ao36 y218.length co36 : Value).ownBlock ∧ some k_ ≠ (.slice Ao40 t224.length co40 : Value).ownBlock)) (by (with_reducible repeat (first | apply Kd.R_alloc | apply Kd.R_drewN | apply Kd.R_drew)); exact Kd.R_mono HO232.out (fun _ hk => ⟨⟨hk.1.1.1.1.1.2, ⟨hk.1.1.1.1.2, ⟨hk.1.1.1.2, ⟨hk.1.1.2, hk.1.2⟩⟩⟩⟩, hk.2⟩)) hg hat)
                  have n7_ := Aside0.mk (hb)
                  have n8_ := Aside0.mk (ho)
                  clear BK195
                  clear HO201
                  clear HO207
                  clear HO213
                  clear HO220
                  clear HO226
                  clear HO232
                  clear HB
                  clear HO229
                  have BK195 := n0_
                  have HO201 := n1_
                  have HO207 := n2_
                  have HO213 := n3_
                  have HO220 := n4_
                  have HO226 := n5_
                  have HO232 := n6_
                  have HB := n7_
                  have HO235 := n8_
                  clear n0_ n1_ n2_ n3_ n4_ n5_ n6_ n7_ n8_
                  clear ho hb hg hat
                  refine hK.out _ _ ⟨(blk_cell BK195.out 0).trans rfl, (blk_cell BK195.out 1).trans rfl, (blk_cell BK195.out 2).trans rfl, (blk_cell BK195.out 3).trans rfl, (blk_cell BK195.out 4).trans rfl, (blk_cell BK195.out 5).trans rfl, (blk_cell BK195.out 6).trans rfl, (blk_cell BK195.out 7).trans rfl, (blk_cell BK195.out 8).trans rfl⟩ (fun hHeld => ?_)
                  clear hK K
                  refine norm_ (a' := ?_) ?_ ?_
                  rotate_left
                  · show Act.put _ (some 38) _ = _
                    simp only [Act.put, List.setIfInBounds_toArray, List.set_cons_zero, List.set_cons_succ, i64_w, i32_w]
                    rfl
                  refine pure_ (i := 9) (N := some 3) (v := ?_) (a' := ?_) #[true, true, true, true, true, true, true, true, true, true] rfl rfl (any_of HT_.out (by kernel_rfl)) (fun _ _ _ h => h) (Or.inl ⟨by rfl, ?_⟩) ?_ ?_
                  rotate_left
                  · intro w'
                    go_simp
                    with_reducible rfl
                  rotate_left
                  · simp only [Act.put, List.setIfInBounds_toArray, List.set_cons_zero, List.set_cons_succ, i64_w, i32_w]
                    rfl
                  refine done_ (done_of HT_.out (by kernel_rfl)) ?_
                  try go_wp2
                  have n0_ := Aside0.mk (Kd.R_drew HO201.out)
                  have n1_ := Aside0.mk (Kd.R_drew HO207.out)
                  have n2_ := Aside0.mk (Kd.R_drew HO213.out)
                  have n3_ := Aside0.mk (Kd.R_drew HO220.out)
                  have n4_ := Aside0.mk (Kd.R_drew HO226.out)
                  have n5_ := Aside0.mk (Kd.R_drew HO232.out)
                  have n6_ := Aside0.mk (Kd.R_drew HO235.out)
                  have n7_ := Aside0.mk (blk_drew BK195.out)
                  have n8_ := Aside0.mk (below_drew1 HB.out)
                  clear HO201
                  clear HO207
                  clear HO213
                  clear HO220
                  clear HO226
                  clear HO232
                  clear HO235
                  clear BK195
                  clear HB
                  have HO201 := n0_
                  have HO207 := n1_
                  have HO213 := n2_
                  have HO220 := n3_
                  have HO226 := n4_
                  have HO232 := n5_
                  have HO235 := n6_
                  have BK195 := n7_
                  have HB := n8_
                  clear n0_ n1_ n2_ n3_ n4_ n5_ n6_ n7_ n8_
                  refine start_ (n := 10) (S := fun w' => w'.cell? ⟨gb195, 0, none⟩ = some (.int .i64 a0_0) ∧ w'.cell? ⟨gb195, 1, none⟩ = some (.int .i64 a0_1) ∧ w'.cell? ⟨gb195, 2, none⟩ = some (.int .i64 a0_2) ∧ w'.cell? ⟨gb195, 3, none⟩ = some (.int .i64 a0_3) ∧ w'.cell? ⟨gb195, 4, none⟩ = some (.int .i64 a0_4) ∧ w'.cell? ⟨gb195, 5, none⟩ = some (.bool a0_5) ∧ w'.cell? ⟨gb195, 6, none⟩ = some (.slice A0_6 l0_6.length c0_6) ∧ w'.cell? ⟨gb195, 7, none⟩ = some (.slice A0_7 l0_7.length c0_7) ∧ w'.cell? ⟨gb195, 8, none⟩ = some (.slice A0_8 l0_8.length c0_8)) (ds := []) #[false, false, false, false, false, false, false, false, false, false] (by kernel_rfl) rfl rfl ⟨(blk_cell BK195.out 0).trans rfl, (blk_cell BK195.out 1).trans rfl, (blk_cell BK195.out 2).trans rfl, (blk_cell BK195.out 3).trans rfl, (blk_cell BK195.out 4).trans rfl, (blk_cell BK195.out 5).trans rfl, (blk_cell BK195.out 6).trans rfl, (blk_cell BK195.out 7).trans rfl, (blk_cell BK195.out 8).trans rfl⟩ (fun hHeld => ?_); refine with_tabW vokref10_Rec_body.tab5 vokref10_Rec_body.bits5 (fun HT_ HW_ => ?_)
                  generalize w42.drew = w44 at HO201 HO207 HO213 HO220 HO226 HO232 HO235 BK195 HB hHeld ⊢
                  refine pure_ (i := 0) (N := some 39) (v := ?_) (a' := ?_) #[true, false, false, false, false, false, false, false, false, false] rfl rfl (any_of HT_.out (by kernel_rfl)) (fun _ _ _ h => h) (Or.inl ⟨by rfl, ?_⟩) ?_ ?_
                  rotate_left
                  · intro w'
                    go_simp
                    with_reducible rfl
                  rotate_left
                  · simp only [Act.put, List.setIfInBounds_toArray, List.set_cons_zero, List.set_cons_succ, i64_w, i32_w]
                    rfl
                  refine pure_ (i := 1) (N := some 40) (v := ?_) (a' := ?_) #[true, true, false, false, false, false, false, false, false, false] rfl rfl (any_of HT_.out (by kernel_rfl)) (fun _ _ _ h => h) (Or.inl ⟨by rfl, ?_⟩) ?_ ?_
                  rotate_left
                  · intro w'
                    go_simp
                    with_reducible rfl
                  rotate_left
                  · simp only [Act.put, List.setIfInBounds_toArray, List.set_cons_zero, List.set_cons_succ, i64_w, i32_w]
                    rfl
                  refine pure_ (i := 6) (N := some 45) (v := ?_) (a' := ?_) #[true, true, false, false, false, false, true, false, false, false] rfl rfl (any_of HT_.out (by kernel_rfl)) (fun _ _ _ h => h) (Or.inl ⟨by rfl, ?_⟩) ?_ ?_
                  rotate_left
                  · intro w'
                    go_simp
                    with_reducible rfl
                  rotate_left
                  · simp only [Act.put, List.setIfInBounds_toArray, List.set_cons_zero, List.set_cons_succ, i64_w, i32_w]
                    rfl
                  refine take_ (i := 2) (N := some 41) (v := ?_) (a' := ?_) #[true, true, true, false, false, false, true, false, false, false] rfl rfl (take_ofW HT_.out HW_.out (by kernel_rfl)) (fun _ _ _ h => h) (Or.inl ⟨by rfl, ?_⟩) hHeld ?_ ?_
                  rotate_left
                  · rintro w' ⟨s0, s1, s2, s3, s4, s5, s6, s7, s8⟩
                    go_simp
                    with_reducible rfl
                  rotate_left
                  · simp only [Act.put, List.setIfInBounds_toArray, List.set_cons_zero, List.set_cons_succ, i64_w, i32_w]
                    rfl
                  refine pure_ (i := 3) (N := some 42) (v := ?_) (a' := ?_) #[true, true, true, true, false, false, true, false, false, false] rfl rfl (any_of HT_.out (by kernel_rfl)) (fun _ _ _ h => h) (Or.inl ⟨by rfl, ?_⟩) ?_ ?_
                  rotate_left
                  · intro w'
                    go_simp
                    with_reducible rfl
                  rotate_left
                  · simp only [Act.put, List.setIfInBounds_toArray, List.set_cons_zero, List.set_cons_succ, i64_w, i32_w]
                    rfl
                  refine take_ (i := 7) (N := some 46) (v := ?_) (a' := ?_) #[true, true, true, true, false, false, true, true, false, false] rfl rfl (take_ofW HT_.out HW_.out (by kernel_rfl)) (fun _ _ _ h => h) (Or.inl ⟨by rfl, ?_⟩) hHeld ?_ ?_
                  rotate_left
                  · rintro w' ⟨s0, s1, s2, s3, s4, s5, s6, s7, s8⟩
                    go_simp
                    with_reducible rfl
                  rotate_left
                  · simp only [Act.put, List.setIfInBounds_toArray, List.set_cons_zero, List.set_cons_succ, i64_w, i32_w]
                    rfl
                  refine one_ (i := 4) (N := some 43) #[true, true, true, true, true, false, true, true, false, false] rfl rfl (one_of HT_.out (by kernel_rfl)) (by decide) (fun K hK => ?_)
                  refine goes_ Try.func61 (by kernel_rfl) rfl #[.int .i64 2, .int .i64 (l0_8.length : Int)] (by rfl) rfl rfl (by (try simp only [List.map_toArray, List.map_cons, List.map_nil]); first | done | rfl | (simp only [List.length_drop, List.length_take]; rfl)) ?_
                  with_reducible refine (vokref10_Be.calls k 2 (l0_8.length : Int) t236 _ A14.out).mono ?_
                  rintro e w45 ⟨v237, rfl, ho0, hb⟩
                  refine ⟨_, rfl, ?_⟩
                  have n0_ := Aside0.mk (Kd.R_elder' (by (with_reducible repeat (first | apply Kd.R_alloc | apply Kd.R_drewN | apply Kd.R_drew)); exact HO201.out) (Kd.R_base ho0) hb)
                  have n1_ := Aside0.mk (Kd.R_elder' (by (with_reducible repeat (first | apply Kd.R_alloc | apply Kd.R_drewN | apply Kd.R_drew)); exact HO207.out) (Kd.R_base ho0) hb)
                  have n2_ := Aside0.mk (Kd.R_elder' (by (with_reducible repeat (first | apply Kd.R_alloc | apply Kd.R_drewN | apply Kd.R_drew)); exact HO213.out) (Kd.R_base ho0) hb)
                  have n3_ := Aside0.mk (Kd.R_elder' (by (with_reducible repeat (first | apply Kd.R_alloc | apply Kd.R_drewN | apply Kd.R_drew)); exact HO220.out) (Kd.R_base ho0) hb)
                  have n4_ := Aside0.mk (Kd.R_elder' (by (with_reducible repeat (first | apply Kd.R_alloc | apply Kd.R_drewN | apply Kd.R_drew)); exact HO226.out) (Kd.R_base ho0) hb)
                  have n5_ := Aside0.mk (Kd.R_elder' (by (with_reducible repeat (first | apply Kd.R_alloc | apply Kd.R_drewN | apply Kd.R_drew)); exact HO232.out) (Kd.R_base ho0) hb)
                  have n6_ := Aside0.mk (Kd.R_elder' (by (with_reducible repeat (first | apply Kd.R_alloc | apply Kd.R_drewN | apply Kd.R_drew)); exact HO235.out) (Kd.R_base ho0) hb)
                  have n7_ := Aside0.mk (Kd.R_lower (Kd.R_new' (Kd.R_new' (Kd.R_new' (Kd.R_new' (Kd.R_new' (Kd.R_new' (Kd.R_new' ho0 (Kd.R_lt (by (with_reducible repeat (first | apply Kd.R_alloc | apply Kd.R_drewN | apply Kd.R_drew)); exact HO201.out))) (Kd.R_lt (by (with_reducible repeat (first | apply Kd.R_alloc | apply Kd.R_drewN | apply Kd.R_drew)); exact HO207.out))) (Kd.R_lt (by (with_reducible repeat (first | apply Kd.R_alloc | apply Kd.R_drewN | apply Kd.R_drew)); exact HO213.out))) (Kd.R_lt (by (with_reducible repeat (first | apply Kd.R_alloc | apply Kd.R_drewN | apply Kd.R_drew)); exact HO220.out))) (Kd.R_lt (by (with_reducible repeat (first | apply Kd.R_alloc | apply Kd.R_drewN | apply Kd.R_drew)); exact HO226.out))) (Kd.R_lt (by (with_reducible repeat (first | apply Kd.R_alloc | apply Kd.R_drewN | apply Kd.R_drew)); exact HO232.out))) (Kd.R_lt (by (with_reducible repeat (first | apply Kd.R_alloc | apply Kd.R_drewN | apply Kd.R_drew)); exact HO235.out))) (below_size (by repeat (first | (with_reducible first | exact HB.out | apply below_alloc | apply pw_below_drewN | apply below_drew1 | refine below_set ?_ GE195.out) | exact HB.out))))
                  have n8_ := Aside0.mk (blk_below (g := gb195) (o := .cells #[.int .i64 a0_0, .int .i64 a0_1, .int .i64 a0_2, .int .i64 a0_3, .int .i64 a0_4, .bool a0_5, .slice A0_6 l0_6.length c0_6, .slice A0_7 l0_7.length c0_7, .slice A0_8 l0_8.length c0_8] 53 (0, 0)) (by (with_reducible repeat (first | refine blk_drewN ?_ _ | refine blk_drew ?_ | refine blk_alloc ?_ _)); exact BK195.out) hb)
                  have n9_ := Aside0.mk (below_step (by repeat (first | (with_reducible first | exact HB.out | apply below_alloc | apply pw_below_drewN | apply below_drew1 | refine below_set ?_ GE195.out) | exact HB.out)) hb)
                  clear HO201
                  clear HO207
                  clear HO213
                  clear HO220
                  clear HO226
                  clear HO232
                  clear HO235
                  clear BK195
                  clear HB
                  have HO201 := n0_
                  have HO207 := n1_
                  have HO213 := n2_
                  have HO220 := n3_
                  have HO226 := n4_
                  have HO232 := n5_
                  have HO235 := n6_
                  have HO238 := n7_
                  have BK195 := n8_
                  have HB := n9_
                  clear n0_ n1_ n2_ n3_ n4_ n5_ n6_ n7_ n8_ n9_
                  (try clear hb)
                  (try clear hb2)
                  (try clear hk)
                  (try clear hi)
                  (try clear ho0)
                  obtain ⟨Ao47, co47, eo47⟩ := Kd.R_slice HO238.out
                  (first | subst eo47 | (injection eo47 with f1_ f2_ f3_; have f4_ := f1_.symm; have f5_ := f3_.symm; clear f1_ f2_ f3_; subst f4_; subst f5_))
                  refine hK.out _ _ ⟨(blk_cell BK195.out 0).trans rfl, (blk_cell BK195.out 1).trans rfl, (blk_cell BK195.out 2).trans rfl, (blk_cell BK195.out 3).trans rfl, (blk_cell BK195.out 4).trans rfl, (blk_cell BK195.out 5).trans rfl, (blk_cell BK195.out 6).trans rfl, (blk_cell BK195.out 7).trans rfl, (blk_cell BK195.out 8).trans rfl⟩ (fun hHeld => ?_)
                  clear hK K
                  refine norm_ (a' := ?_) ?_ ?_
                  rotate_left
                  · show Act.put _ (some 43) _ = _
                    simp only [Act.put, List.setIfInBounds_toArray, List.set_cons_zero, List.set_cons_succ, i64_w, i32_w]
                    rfl
                  refine one_ (i := 5) (N := some 44) #[true, true, true, true, true, true, true, true, false, false] rfl rfl (one_of HT_.out (by kernel_rfl)) (by decide) (fun K hK => ?_)
                  refine Kd.R_append_rows_step (Kd.int .u8) (w0 := w) w.heap.size (by rfl) (.tmp 39) (.tmp 43) 25 5 (.int .u8 0) 1 rfl Try.underlying25 info5 rfl (by decide) (by omega) v234 y233 t236 _ _ _ (fun k_ => some k_ ≠ (.slice Ao24 t199.length co24 : Value).ownBlock ∧ some k_ ≠ (.slice Ao28 t205.length co28 : Value).ownBlock ∧ some k_ ≠ (.slice Ao31 t211.length co31 : Value).ownBlock ∧ some k_ ≠ (.slice Ao36 y218.length co36 : Value).ownBlock ∧ some k_ ≠ (.slice Ao40 t224.length co40 : Value).ownBlock ∧ some k_ ≠ (.slice Ao43 t230.length co43 : Value).ownBlock ∧ some k_ ≠ (.slice Ao47 t236.length co47 : Value).ownBlock) (fun _ => False) rfl rfl ?aO ?aR (fun _ _ h => h) (fun _ h => h.elim) ?aF ?aB ?aS ?aL ?_
                  (case aR => repeat (first | exact (Kd.R_reads' HO238.out).2.2 | (with_reducible refine Kd.C_alloc ?_ _) | (with_reducible refine Kd.C_drewN ?_ _) | (with_reducible refine Kd.C_drew ?_)))
                  (case aB => exact (by repeat (first | (with_reducible first | exact HB.out | apply below_alloc | apply pw_below_drewN | apply below_drew1 | refine below_set ?_ GE195.out) | exact HB.out)))
                  (case aF => exact (fun k_ hk => ⟨Kd.fresh' (Kd.R_lt (by (with_reducible repeat (first | apply Kd.R_alloc | apply Kd.R_drewN | apply Kd.R_drew)); exact HO201.out)) k_ hk, Kd.fresh' (Kd.R_lt (by (with_reducible repeat (first | apply Kd.R_alloc | apply Kd.R_drewN | apply Kd.R_drew)); exact HO207.out)) k_ hk, Kd.fresh' (Kd.R_lt (by (with_reducible repeat (first | apply Kd.R_alloc | apply Kd.R_drewN | apply Kd.R_drew)); exact HO213.out)) k_ hk, Kd.fresh' (Kd.R_lt (by (with_reducible repeat (first | apply Kd.R_alloc | apply Kd.R_drewN | apply Kd.R_drew)); exact HO220.out)) k_ hk, Kd.fresh' (Kd.R_lt (by (with_reducible repeat (first | apply Kd.R_alloc | apply Kd.R_drewN | apply Kd.R_drew)); exact HO226.out)) k_ hk, Kd.fresh' (Kd.R_lt (by (with_reducible repeat (first | apply Kd.R_alloc | apply Kd.R_drewN | apply Kd.R_drew)); exact HO232.out)) k_ hk, Kd.fresh' (Kd.R_lt (by (with_reducible repeat (first | apply Kd.R_alloc | apply Kd.R_drewN | apply Kd.R_drew)); exact HO238.out)) k_ hk⟩))
                  (case aO => exact (by (with_reducible repeat (first | apply Kd.R_alloc | apply Kd.R_drewN | apply Kd.R_drew)); exact Kd.R_mono HO235.out (fun _ hk => ⟨hk.1.1, ⟨hk.1.2.1, ⟨hk.1.2.2.1, ⟨hk.1.2.2.2.1, ⟨hk.1.2.2.2.2.1, ⟨hk.1.2.2.2.2.2, hk.2⟩⟩⟩⟩⟩⟩)))
                  (case aS => exact (below_size (by repeat (first | (with_reducible first | exact HB.out | apply below_alloc | apply pw_below_drewN | apply below_drew1 | refine below_set ?_ GE195.out) | exact HB.out))))
                  (case aL => have := LMc15.out; omega)
                  intro v240 w46 ho hb hg hat
                  rw [← Ny239.out] at ho
                  have n0_ := Aside0.mk (blk_grown (g := gb195) (o := .cells #[.int .i64 a0_0, .int .i64 a0_1, .int .i64 a0_2, .int .i64 a0_3, .int .i64 a0_4, .bool a0_5, .slice A0_6 l0_6.length c0_6, .slice A0_7 l0_7.length c0_7, .slice A0_8 l0_8.length c0_8] 53 (0, 0)) (by (with_reducible repeat (first | refine blk_drewN ?_ _ | refine blk_drew ?_ | refine blk_alloc ?_ _)); exact BK195.out) hg (Kd.R_ne HO235.out BK195.out (by decide)))
                  have n1_ := Aside0.mk (Kd.R_after (ok := (fun k_ => some k_ ≠ (.slice Ao28 t205.length co28 : Value).ownBlock ∧ some k_ ≠ (.slice Ao31 t211.length co31 : Value).ownBlock ∧ some k_ ≠ (.slice Ao36 y218.length co36 : Value).ownBlock ∧ some k_ ≠ (.slice Ao40 t224.length co40 : Value).ownBlock ∧ some k_ ≠ (.slice Ao43 t230.length co43 : Value).ownBlock ∧ some k_ ≠ (.slice Ao47 t236.length co47 : Value).ownBlock)) (by (with_reducible repeat (first | apply Kd.R_alloc | apply Kd.R_drewN | apply Kd.R_drew)); exact Kd.R_mono HO201.out (fun _ hk => ⟨⟨hk.1.1.1, ⟨hk.1.1.2.1, ⟨hk.1.1.2.2.1, ⟨hk.1.1.2.2.2.1, ⟨hk.1.1.2.2.2.2, hk.2⟩⟩⟩⟩⟩, hk.1.2⟩)) hg hat)
                  have n2_ := Aside0.mk (Kd.R_after (ok := (fun k_ => some k_ ≠ (.slice Ao24 t199.length co24 : Value).ownBlock ∧ some k_ ≠ (.slice Ao31 t211.length co31 : Value).ownBlock ∧ some k_ ≠ (.slice Ao36 y218.length co36 : Value).ownBlock ∧ some k_ ≠ (.slice Ao40 t224.length co40 : Value).ownBlock ∧ some k_ ≠ (.slice Ao43 t230.length co43 : Value).ownBlock ∧ some k_ ≠ (.slice Ao47 t236.length co47 : Value).ownBlock)) (by (with_reducible repeat (first | apply Kd.R_alloc | apply Kd.R_drewN | apply Kd.R_drew)); exact Kd.R_mono HO207.out (fun _ hk => ⟨⟨hk.1.1.1, ⟨hk.1.1.2.1, ⟨hk.1.1.2.2.1, ⟨hk.1.1.2.2.2.1, ⟨hk.1.1.2.2.2.2, hk.2⟩⟩⟩⟩⟩, hk.1.2⟩)) hg hat)
                  have n3_ := Aside0.mk (Kd.R_after (ok := (fun k_ => some k_ ≠ (.slice Ao24 t199.length co24 : Value).ownBlock ∧ some k_ ≠ (.slice Ao28 t205.length co28 : Value).ownBlock ∧ some k_ ≠ (.slice Ao36 y218.length co36 : Value).ownBlock ∧ some k_ ≠ (.slice Ao40 t224.length co40 : Value).ownBlock ∧ some k_ ≠ (.slice Ao43 t230.length co43 : Value).ownBlock ∧ some k_ ≠ (.slice Ao47 t236.length co47 : Value).ownBlock)) (by (with_reducible repeat (first | apply Kd.R_alloc | apply Kd.R_drewN | apply Kd.R_drew)); exact Kd.R_mono HO213.out (fun _ hk => ⟨⟨hk.1.1.1, ⟨hk.1.1.2.1, ⟨hk.1.1.2.2.1, ⟨hk.1.1.2.2.2.1, ⟨hk.1.1.2.2.2.2, hk.2⟩⟩⟩⟩⟩, hk.1.2⟩)) hg hat)
                  have n4_ := Aside0.mk (Kd.R_after (ok := (fun k_ => some k_ ≠ (.slice Ao24 t199.length co24 : Value).ownBlock ∧ some k_ ≠ (.slice Ao28 t205.length co28 : Value).ownBlock ∧ some k_ ≠ (.slice Ao31 t211.length co31 : Value).ownBlock ∧ some k_ ≠ (.slice Ao40 t224.length co40 : Value).ownBlock ∧ some k_ ≠ (.slice Ao43 t230.length co43 : Value).ownBlock ∧ some k_ ≠ (.slice Ao47 t236.length co47 : Value).ownBlock)) (by (with_reducible repeat (first | apply Kd.R_alloc | apply Kd.R_drewN | apply Kd.R_drew)); exact Kd.R_mono HO220.out (fun _ hk => ⟨⟨hk.1.1.1, ⟨hk.1.1.2.1, ⟨hk.1.1.2.2.1, ⟨hk.1.1.2.2.2.1, ⟨hk.1.1.2.2.2.2, hk.2⟩⟩⟩⟩⟩, hk.1.2⟩)) hg hat)
                  have n5_ := Aside0.mk (Kd.R_after (ok := (fun k_ => some k_ ≠ (.slice Ao24 t199.length co24 : Value).ownBlock ∧ some k_ ≠ (.slice Ao28 t205.length co28 : Value).ownBlock ∧ some k_ ≠ (.slice Ao31 t211.length co31 : Value).ownBlock ∧ some k_ ≠ (.slice Ao36 y218.length co36 : Value).ownBlock ∧ some k_ ≠ (.slice Ao43 t230.length co43 : Value).ownBlock ∧ some k_ ≠ (.slice Ao47 t236.length co47 : Value).ownBlock)) (by (with_reducible repeat (first | apply Kd.R_alloc | apply Kd.R_drewN | apply Kd.R_drew)); exact Kd.R_mono HO226.out (fun _ hk => ⟨⟨hk.1.1.1, ⟨hk.1.1.2.1, ⟨hk.1.1.2.2.1, ⟨hk.1.1.2.2.2.1, ⟨hk.1.1.2.2.2.2, hk.2⟩⟩⟩⟩⟩, hk.1.2⟩)) hg hat)
                  have n6_ := Aside0.mk (Kd.R_after (ok := (fun k_ => some k_ ≠ (.slice Ao24 t199.length co24 : Value).ownBlock ∧ some k_ ≠ (.slice Ao28 t205.length co28 : Value).ownBlock ∧ some k_ ≠ (.slice Ao31 t211.length co31 : Value).ownBlock ∧ some k_ ≠ (.slice Ao36 y218.length co36 : Value).ownBlock ∧ some k_ ≠ (.slice Ao40 t224.length co40 : Value).ownBlock ∧ some k_ ≠ (.slice Ao47 t236.length co47 : Value).ownBlock)) (by (with_reducible repeat (first | apply Kd.R_alloc | apply Kd.R_drewN | apply Kd.R_drew)); exact Kd.R_mono HO232.out (fun _ hk => ⟨⟨hk.1.1.1, ⟨hk.1.1.2.1, ⟨hk.1.1.2.2.1, ⟨hk.1.1.2.2.2.1, ⟨hk.1.1.2.2.2.2, hk.2⟩⟩⟩⟩⟩, hk.1.2⟩)) hg hat)
                  have n7_ := Aside0.mk (Kd.R_after (ok := (fun k_ => some k_ ≠ (.slice Ao24 t199.length co24 : Value).ownBlock ∧ some k_ ≠ (.slice Ao28 t205.length co28 : Value).ownBlock ∧ some k_ ≠ (.slice Ao31 t211.length co31 : Value).ownBlock ∧ some k_ ≠ (.slice Ao36 y218.length co36 : Value).ownBlock ∧ some k_ ≠ (.slice Ao40 t224.length co40 : Value).ownBlock ∧ some k_ ≠ (.slice Ao43 t230.length co43 : Value).ownBlock)) (by (with_reducible repeat (first | apply Kd.R_alloc | apply Kd.R_drewN | apply Kd.R_drew)); exact Kd.R_mono HO238.out (fun _ hk => ⟨⟨hk.1.1.1.1.1.1.2, ⟨hk.1.1.1.1.1.2, ⟨hk.1.1.1.1.2, ⟨hk.1.1.1.2, ⟨hk.1.1.2, hk.1.2⟩⟩⟩⟩⟩, hk.2⟩)) hg hat)
                  have n8_ := Aside0.mk (hb)
                  have n9_ := Aside0.mk (ho)
                  clear BK195
                  clear HO201
                  clear HO207
                  clear HO213
                  clear HO220
                  clear HO226
                  clear HO232
                  clear HO238
                  clear HB
                  clear HO235
                  have BK195 := n0_
                  have HO201 := n1_
                  have HO207 := n2_
                  have HO213 := n3_
                  have HO220 := n4_
                  have HO226 := n5_
                  have HO232 := n6_
                  have HO238 := n7_
                  have HB := n8_
                  have HO241 := n9_
                  clear n0_ n1_ n2_ n3_ n4_ n5_ n6_ n7_ n8_ n9_
                  clear ho hb hg hat
                  refine hK.out _ _ ⟨(blk_cell BK195.out 0).trans rfl, (blk_cell BK195.out 1).trans rfl, (blk_cell BK195.out 2).trans rfl, (blk_cell BK195.out 3).trans rfl, (blk_cell BK195.out 4).trans rfl, (blk_cell BK195.out 5).trans rfl, (blk_cell BK195.out 6).trans rfl, (blk_cell BK195.out 7).trans rfl, (blk_cell BK195.out 8).trans rfl⟩ (fun hHeld => ?_)
                  clear hK K
                  refine norm_ (a' := ?_) ?_ ?_
                  rotate_left
                  · show Act.put _ (some 44) _ = _
                    simp only [Act.put, List.setIfInBounds_toArray, List.set_cons_zero, List.set_cons_succ, i64_w, i32_w]
                    rfl
                  refine one_ (i := 8) (N := some 47) #[true, true, true, true, true, true, true, true, true, false] rfl rfl (one_of HT_.out (by kernel_rfl)) (by decide) (fun K hK => ?_)
                  refine Kd.R_append_rows_step (Kd.int .u8) (w0 := w) w.heap.size (by rfl) (.tmp 44) (.tmp 46) 25 5 (.int .u8 0) 1 rfl Try.underlying25 info5 rfl (by decide) (by omega) v240 y239 l0_8 _ _ _ (fun k_ => some k_ ≠ (.slice Ao24 t199.length co24 : Value).ownBlock ∧ some k_ ≠ (.slice Ao28 t205.length co28 : Value).ownBlock ∧ some k_ ≠ (.slice Ao31 t211.length co31 : Value).ownBlock ∧ some k_ ≠ (.slice Ao36 y218.length co36 : Value).ownBlock ∧ some k_ ≠ (.slice Ao40 t224.length co40 : Value).ownBlock ∧ some k_ ≠ (.slice Ao43 t230.length co43 : Value).ownBlock ∧ some k_ ≠ (.slice Ao47 t236.length co47 : Value).ownBlock) (fun _ => False) rfl rfl ?aO ?aR (fun _ _ h => h) (fun _ h => h.elim) ?aF ?aB ?aS ?aL ?_
                  (case aR => repeat (first | exact (Kd.C_below HR0_8.out HB.out) | (with_reducible refine Kd.C_alloc ?_ _) | (with_reducible refine Kd.C_drewN ?_ _) | (with_reducible refine Kd.C_drew ?_)))
                  (case aB => exact (by repeat (first | (with_reducible first | exact HB.out | apply below_alloc | apply pw_below_drewN | apply below_drew1 | refine below_set ?_ GE195.out) | exact HB.out)))
                  (case aF => exact (fun k_ hk => ⟨Kd.fresh' (Kd.R_lt (by (with_reducible repeat (first | apply Kd.R_alloc | apply Kd.R_drewN | apply Kd.R_drew)); exact HO201.out)) k_ hk, Kd.fresh' (Kd.R_lt (by (with_reducible repeat (first | apply Kd.R_alloc | apply Kd.R_drewN | apply Kd.R_drew)); exact HO207.out)) k_ hk, Kd.fresh' (Kd.R_lt (by (with_reducible repeat (first | apply Kd.R_alloc | apply Kd.R_drewN | apply Kd.R_drew)); exact HO213.out)) k_ hk, Kd.fresh' (Kd.R_lt (by (with_reducible repeat (first | apply Kd.R_alloc | apply Kd.R_drewN | apply Kd.R_drew)); exact HO220.out)) k_ hk, Kd.fresh' (Kd.R_lt (by (with_reducible repeat (first | apply Kd.R_alloc | apply Kd.R_drewN | apply Kd.R_drew)); exact HO226.out)) k_ hk, Kd.fresh' (Kd.R_lt (by (with_reducible repeat (first | apply Kd.R_alloc | apply Kd.R_drewN | apply Kd.R_drew)); exact HO232.out)) k_ hk, Kd.fresh' (Kd.R_lt (by (with_reducible repeat (first | apply Kd.R_alloc | apply Kd.R_drewN | apply Kd.R_drew)); exact HO238.out)) k_ hk⟩))
                  (case aO => exact (by (with_reducible repeat (first | apply Kd.R_alloc | apply Kd.R_drewN | apply Kd.R_drew)); exact HO241.out))
                  (case aS => exact (below_size (by repeat (first | (with_reducible first | exact HB.out | apply below_alloc | apply pw_below_drewN | apply below_drew1 | refine below_set ?_ GE195.out) | exact HB.out))))
                  (case aL => have := LMc16.out; omega)
                  intro v243 w48 ho hb hg hat
                  rw [← Ny242.out] at ho
                  have n0_ := Aside0.mk (blk_grown (g := gb195) (o := .cells #[.int .i64 a0_0, .int .i64 a0_1, .int .i64 a0_2, .int .i64 a0_3, .int .i64 a0_4, .bool a0_5, .slice A0_6 l0_6.length c0_6, .slice A0_7 l0_7.length c0_7, .slice A0_8 l0_8.length c0_8] 53 (0, 0)) (by (with_reducible repeat (first | refine blk_drewN ?_ _ | refine blk_drew ?_ | refine blk_alloc ?_ _)); exact BK195.out) hg (Kd.R_ne HO241.out BK195.out (by decide)))
                  have n1_ := Aside0.mk (Kd.R_after (ok := (fun k_ => some k_ ≠ (.slice Ao28 t205.length co28 : Value).ownBlock ∧ some k_ ≠ (.slice Ao31 t211.length co31 : Value).ownBlock ∧ some k_ ≠ (.slice Ao36 y218.length co36 : Value).ownBlock ∧ some k_ ≠ (.slice Ao40 t224.length co40 : Value).ownBlock ∧ some k_ ≠ (.slice Ao43 t230.length co43 : Value).ownBlock ∧ some k_ ≠ (.slice Ao47 t236.length co47 : Value).ownBlock)) (by (with_reducible repeat (first | apply Kd.R_alloc | apply Kd.R_drewN | apply Kd.R_drew)); exact HO201.out) hg hat)
                  have n2_ := Aside0.mk (Kd.R_after (ok := (fun k_ => some k_ ≠ (.slice Ao24 t199.length co24 : Value).ownBlock ∧ some k_ ≠ (.slice Ao31 t211.length co31 : Value).ownBlock ∧ some k_ ≠ (.slice Ao36 y218.length co36 : Value).ownBlock ∧ some k_ ≠ (.slice Ao40 t224.length co40 : Value).ownBlock ∧ some k_ ≠ (.slice Ao43 t230.length co43 : Value).ownBlock ∧ some k_ ≠ (.slice Ao47 t236.length co47 : Value).ownBlock)) (by (with_reducible repeat (first | apply Kd.R_alloc | apply Kd.R_drewN | apply Kd.R_drew)); exact HO207.out) hg hat)
                  have n3_ := Aside0.mk (Kd.R_after (ok := (fun k_ => some k_ ≠ (.slice Ao24 t199.length co24 : Value).ownBlock ∧ some k_ ≠ (.slice Ao28 t205.length co28 : Value).ownBlock ∧ some k_ ≠ (.slice Ao36 y218.length co36 : Value).ownBlock ∧ some k_ ≠ (.slice Ao40 t224.length co40 : Value).ownBlock ∧ some k_ ≠ (.slice Ao43 t230.length co43 : Value).ownBlock ∧ some k_ ≠ (.slice Ao47 t236.length co47 : Value).ownBlock)) (by (with_reducible repeat (first | apply Kd.R_alloc | apply Kd.R_drewN | apply Kd.R_drew)); exact HO213.out) hg hat)
                  have n4_ := Aside0.mk (Kd.R_after (ok := (fun k_ => some k_ ≠ (.slice Ao24 t199.length co24 : Value).ownBlock ∧ some k_ ≠ (.slice Ao28 t205.length co28 : Value).ownBlock ∧ some k_ ≠ (.slice Ao31 t211.length co31 : Value).ownBlock ∧ some k_ ≠ (.slice Ao40 t224.length co40 : Value).ownBlock ∧ some k_ ≠ (.slice Ao43 t230.length co43 : Value).ownBlock ∧ some k_ ≠ (.slice Ao47 t236.length co47 : Value).ownBlock)) (by (with_reducible repeat (first | apply Kd.R_alloc | apply Kd.R_drewN | apply Kd.R_drew)); exact HO220.out) hg hat)
                  have n5_ := Aside0.mk (Kd.R_after (ok := (fun k_ => some k_ ≠ (.slice Ao24 t199.length co24 : Value).ownBlock ∧ some k_ ≠ (.slice Ao28 t205.length co28 : Value).ownBlock ∧ some k_ ≠ (.slice Ao31 t211.length co31 : Value).ownBlock ∧ some k_ ≠ (.slice Ao36 y218.length co36 : Value).ownBlock ∧ some k_ ≠ (.slice Ao43 t230.length co43 : Value).ownBlock ∧ some k_ ≠ (.slice Ao47 t236.length co47 : Value).ownBlock)) (by (with_reducible repeat (first | apply Kd.R_alloc | apply Kd.R_drewN | apply Kd.R_drew)); exact HO226.out) hg hat)
                  have n6_ := Aside0.mk (Kd.R_after (ok := (fun k_ => some k_ ≠ (.slice Ao24 t199.length co24 : Value).ownBlock ∧ some k_ ≠ (.slice Ao28 t205.length co28 : Value).ownBlock ∧ some k_ ≠ (.slice Ao31 t211.length co31 : Value).ownBlock ∧ some k_ ≠ (.slice Ao36 y218.length co36 : Value).ownBlock ∧ some k_ ≠ (.slice Ao40 t224.length co40 : Value).ownBlock ∧ some k_ ≠ (.slice Ao47 t236.length co47 : Value).ownBlock)) (by (with_reducible repeat (first | apply Kd.R_alloc | apply Kd.R_drewN | apply Kd.R_drew)); exact HO232.out) hg hat)
                  have n7_ := Aside0.mk (Kd.R_after (ok := (fun k_ => some k_ ≠ (.slice Ao24 t199.length co24 : Value).ownBlock ∧ some k_ ≠ (.slice Ao28 t205.length co28 : Value).ownBlock ∧ some k_ ≠ (.slice Ao31 t211.length co31 : Value).ownBlock ∧ some k_ ≠ (.slice Ao36 y218.length co36 : Value).ownBlock ∧ some k_ ≠ (.slice Ao40 t224.length co40 : Value).ownBlock ∧ some k_ ≠ (.slice Ao43 t230.length co43 : Value).ownBlock)) (by (with_reducible repeat (first | apply Kd.R_alloc | apply Kd.R_drewN | apply Kd.R_drew)); exact HO238.out) hg hat)
                  have n8_ := Aside0.mk (hb)
                  have n9_ := Aside0.mk (ho)
                  clear BK195
                  clear HO201
                  clear HO207
                  clear HO213
                  clear HO220
                  clear HO226
                  clear HO232
                  clear HO238
                  clear HB
                  clear HO241
                  have BK195 := n0_
                  have HO201 := n1_
                  have HO207 := n2_
                  have HO213 := n3_
                  have HO220 := n4_
                  have HO226 := n5_
                  have HO232 := n6_
                  have HO238 := n7_
                  have HB := n8_
                  have HO244 := n9_
                  clear n0_ n1_ n2_ n3_ n4_ n5_ n6_ n7_ n8_ n9_
                  clear ho hb hg hat
                  refine hK.out _ _ ⟨(blk_cell BK195.out 0).trans rfl, (blk_cell BK195.out 1).trans rfl, (blk_cell BK195.out 2).trans rfl, (blk_cell BK195.out 3).trans rfl, (blk_cell BK195.out 4).trans rfl, (blk_cell BK195.out 5).trans rfl, (blk_cell BK195.out 6).trans rfl, (blk_cell BK195.out 7).trans rfl, (blk_cell BK195.out 8).trans rfl⟩ (fun hHeld => ?_)
                  clear hK K
                  refine norm_ (a' := ?_) ?_ ?_
                  rotate_left
                  · show Act.put _ (some 47) _ = _
                    simp only [Act.put, List.setIfInBounds_toArray, List.set_cons_zero, List.set_cons_succ, i64_w, i32_w]
                    rfl
                  refine pure_ (i := 9) (N := some 2) (v := ?_) (a' := ?_) #[true, true, true, true, true, true, true, true, true, true] rfl rfl (any_of HT_.out (by kernel_rfl)) (fun _ _ _ h => h) (Or.inl ⟨by rfl, ?_⟩) ?_ ?_
                  rotate_left
                  · intro w'
                    go_simp
                    with_reducible rfl
                  rotate_left
                  · simp only [Act.put, List.setIfInBounds_toArray, List.set_cons_zero, List.set_cons_succ, i64_w, i32_w]
                    rfl
                  refine done_ (done_of HT_.out (by kernel_rfl)) ?_
                  try go_wp2
                  go_ret
                  exact ⟨_, by first | rfl | (simp [errW_none, errW_some] <;> rfl) | (simp [*, errW_none, errW_some] <;> rfl), by (with_reducible repeat (first | apply Kd.R_alloc | apply Kd.R_drewN | apply Kd.R_drew)); exact Kd.R_mono HO244.out (fun _ hk => trivial), by repeat (first | (with_reducible first | exact HB.out | apply below_alloc | apply pw_below_drewN | apply below_drew1 | refine below_set ?_ GE195.out) | exact HB.out)⟩
                · rw [if_neg c16] at H
                  exact absurd H (by simp)
              · rw [if_neg c15] at H
                exact absurd H (by simp)
            · rw [if_neg c13] at H
              exact absurd H (by simp)
          · rw [if_neg c11] at H
            exact absurd H (by simp)
        · rw [if_neg c9] at H
          exact absurd H (by simp)
      · rw [if_neg c7] at H
        exact absurd H (by simp)
    · rw [if_neg c5] at H
      exact absurd H (by simp)
  · rw [if_neg c3] at H
    exact absurd H (by simp)

end Go.Proofs.Ytleljfmhefobeaa.GJ
