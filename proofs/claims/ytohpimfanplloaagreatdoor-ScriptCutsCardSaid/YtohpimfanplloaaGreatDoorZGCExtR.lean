/- strings.Repeat, in the printed form. -/
import Derived.Test.YtohpimfanplloaaGreatDoorZGCx0
import Derived.Test.YtohpimfanplloaaGreatDoorZShelf
import Derived.WalkKit
set_option linter.unusedVariables false
set_option linter.unusedSimpArgs false
namespace Go.Proofs.YtohpimfanplloaaGreatDoor.GC
open Go.RowKit Go.Proofs.YtohpimfanplloaaGreatDoorW.PrintWords Go.Proofs.YtohpimfanplloaaGreatDoorW.PrintLast Go.Proofs.YtohpimfanplloaaGreatDoorW.PrintMore
def strings_Repeat.f (a0 : ByteArray) (a1 : Int) : Option ByteArray := if 0 ≤ a1 ∧ a1 ≤ 100 ∧ a0.size = 1 then some ⟨(Lib.repeatL a0.data.toList a1.toNat).toArray⟩ else none
theorem strings_Repeat.calls (a0 : ByteArray) (a1 : Int) (r : ByteArray) (w : World) (h : strings_Repeat.f a0 a1 = some r) :
    Calls Tryz.prog 111 #[.string a0, .int .i64 a1] w fun e w' => e = .returned (.string r) ∧ Below w.heap.size w w' := by
  unfold strings_Repeat.f at h
  by_cases c : 0 ≤ a1 ∧ a1 ≤ 100 ∧ a0.size = 1
  · rw [if_pos c] at h
    obtain rfl := Option.some.inj h
    obtain ⟨n, rfl⟩ := Int.eq_ofNat_of_zero_le c.1
    rw [Int.toNat_natCast]
    match n, c with
    | 0, _ =>
      refine (Tryz.strings_Repeat_zero a0 w).mono ?_
      rintro e w' ⟨rfl, rfl⟩
      exact ⟨rfl, Below.refl _ _⟩
    | 1, _ =>
      refine (Tryz.strings_Repeat_one a0 w).mono ?_
      rintro e w' ⟨rfl, rfl⟩
      refine ⟨?_, Below.refl _ _⟩
      have : Lib.repeatL a0.data.toList 1 = a0.data.toList := by simp [Lib.repeatL]
      rw [this]
    | n + 2, c =>
      exact Tryz.strings_Repeat_main a0 (n + 2) w (by omega) (by omega) (by rw [c.2.2]; omega) (by omega)
  · rw [if_neg c] at h; cases h
end Go.Proofs.YtohpimfanplloaaGreatDoor.GC
