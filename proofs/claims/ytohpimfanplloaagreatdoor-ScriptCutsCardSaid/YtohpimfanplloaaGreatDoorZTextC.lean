/- script.Text, in the printed form. -/
import Derived.Test.YtohpimfanplloaaGreatDoorZTextH
import Derived.Test.YtohpimfanplloaaGreatDoorZGCExt2
import Derived.WalkKit
import Derived.Lib.Hide
import Derived.Laws.Bits64
set_option linter.unusedVariables false
set_option linter.unusedSimpArgs false
namespace Go.Proofs.YtohpimfanplloaaGreatDoor.GC
open Go.RowKit Go.Proofs.YtohpimfanplloaaGreatDoorW.PrintWords Go.Proofs.YtohpimfanplloaaGreatDoorW.PrintLast Go.Proofs.YtohpimfanplloaaGreatDoorW.PrintMore Go.Proofs.YtohpimfanplloaaGreatDoor.TextH Go.Proofs.YtohpimfanplloaaGreatDoor.MP
theorem and255 (a : Int) : Go.bits .and .i64 a 255 = a % 256 := by
  show IntKind.i64.wrap ((BitVec.ofInt 64 a &&& BitVec.ofInt 64 255).toNat : Int) = _
  rw [BitVec.toNat_and, BitVec.toNat_ofInt, show (BitVec.ofInt 64 255).toNat = 2 ^ 8 - 1 from rfl, Nat.and_two_pow_sub_one_eq_mod]
  have h : (((a % (2 ^ 64 : Nat)).toNat % 2 ^ 8 : Nat) : Int) = a % 256 := by omega
  rw [h]
  exact IntWalk.i64_in _ (by omega)
/-- What script.Text answers at x, y, z of 0 to 255. -/
def textOf (x y z : Int) : Option (List Int) :=
  if 127 < x then (meet_Print.f (x % 2) (1767225600 + (4 + y % 8) * 86400 + (8 + z % 8) * 3600) ((1 + x % 3) * 3600) true (4 - y % 2) 1 (1 + z % 4) 0 0 false [] [] [] [] [] [] [] [] [] [] []).map (·.1)
  else (meet_Print.f (x % 2) (1767225600 + (4 + y % 8) * 86400 + (8 + z % 8) * 3600) ((1 + x % 3) * 3600) false 0 0 0 0 0 false [] [] [] [] [] [] [] [] [] [] []).map (·.1)
def script_Text.f (k : Nat) (a0 : Int) (a1 : Int) (a2 : Int) : Option (List Int) := textOf (a0 % 256) (a1 % 256) (a2 % 256)
theorem script_Text.mono : ∀ a0 a1 a2 k, LeO (script_Text.f k a0 a1 a2) (script_Text.f (k + 1) a0 a1 a2) := fun _ _ _ _ => LeO.refl _
theorem begin_is : script_begin.f 60 = some 1767225600 := by kernel_rfl
theorem begin_any (W : World) : Calls Tryz.prog 26 #[] W (Ret (.int .i64 1767225600) W) := (script_begin.calls 60 _ W begin_is).mono fun e w' h => ⟨h.1, drawn_below h.2⟩
set_option maxRecDepth 100000 in
theorem script_Text.calls (k : Nat) (a0 : Int) (a1 : Int) (a2 : Int) (r : List Int) (w : World) (hG : Glob w) (h : script_Text.f k a0 a1 a2 = some r) :
    Calls Tryz.prog 16 #[.int .i64 a0, .int .i64 a1, .int .i64 a2] w fun e w' => ∃ v0_ : Value, e = .returned (v0_) ∧ Kd.R (Kd.int .u8) 5 w' w.heap.size (fun _ => True) v0_ r ∧ Below w.heap.size w w' := by
  unfold script_Text.f textOf at h
  have bx : 0 ≤ a0 % 256 ∧ a0 % 256 ≤ 255 := by omega
  have by' : 0 ≤ a1 % 256 ∧ a1 % 256 ≤ 255 := by omega
  have bz : 0 ≤ a2 % 256 ∧ a2 % 256 ≤ 255 := by omega
  by_cases hr : 127 < a0 % 256
  · rw [if_pos hr] at h
    obtain ⟨⟨q1, q2⟩, hq, rfl⟩ := Option.map_eq_some_iff.1 h
    exact text_rec a0 a1 a2 _ _ _ (and255 a0) (and255 a1) (and255 a2) bx by' bz (decide_eq_true hr) w Glob (fun W hb => hG.below hb) q1 q2 begin_any
      (fun W hW => meet_Print.calls _ _ _ true _ _ _ _ _ false none 0 [] none 0 [] none 0 [] none 0 [] none 0 [] none 0 [] none 0 [] none 0 [] none 0 [] none 0 [] none 0 [] q1 q2 W
        (Kd.C_nil _ _) (Nat.le_refl _) (Kd.C_nil _ _) (Nat.le_refl _) (Kd.C_nil _ _) (Nat.le_refl _) (Kd.C_nil _ _) (Nat.le_refl _) (Kd.C_nil _ _) (Nat.le_refl _) (Kd.C_nil _ _) (Nat.le_refl _) (Kd.C_nil _ _) (Nat.le_refl _) (Kd.C_nil _ _) (Nat.le_refl _) (Kd.C_nil _ _) (Nat.le_refl _) (Kd.C_nil _ _) (Nat.le_refl _) (Kd.C_nil _ _) (Nat.le_refl _) hW hq)
  · rw [if_neg hr] at h
    obtain ⟨⟨q1, q2⟩, hq, rfl⟩ := Option.map_eq_some_iff.1 h
    exact text_one a0 a1 a2 _ _ _ (and255 a0) (and255 a1) (and255 a2) bx by' bz (decide_eq_false hr) w Glob (fun W hb => hG.below hb) q1 q2 begin_any
      (fun W hW => meet_Print.calls _ _ _ false _ _ _ _ _ false none 0 [] none 0 [] none 0 [] none 0 [] none 0 [] none 0 [] none 0 [] none 0 [] none 0 [] none 0 [] none 0 [] q1 q2 W
        (Kd.C_nil _ _) (Nat.le_refl _) (Kd.C_nil _ _) (Nat.le_refl _) (Kd.C_nil _ _) (Nat.le_refl _) (Kd.C_nil _ _) (Nat.le_refl _) (Kd.C_nil _ _) (Nat.le_refl _) (Kd.C_nil _ _) (Nat.le_refl _) (Kd.C_nil _ _) (Nat.le_refl _) (Kd.C_nil _ _) (Nat.le_refl _) (Kd.C_nil _ _) (Nat.le_refl _) (Kd.C_nil _ _) (Nat.le_refl _) (Kd.C_nil _ _) (Nat.le_refl _) hW hq)
end Go.Proofs.YtohpimfanplloaaGreatDoor.GC
