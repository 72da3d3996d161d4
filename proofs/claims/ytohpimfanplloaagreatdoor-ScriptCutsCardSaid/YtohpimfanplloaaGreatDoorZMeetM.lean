/- meet's leaves at small rules. -/
import Derived.Test.YtohpimfanplloaaGreatDoorZGCx2
import Derived.WalkKit
import Derived.WalkSpells
import Derived.Lib.Hide
set_option linter.unusedVariables false
set_option linter.unusedSimpArgs false
namespace Go.Proofs.YtohpimfanplloaaGreatDoor.MeetM
open Go.RowKit Go.Proofs.YtohpimfanplloaaGreatDoorW.PrintWords Go.Proofs.YtohpimfanplloaaGreatDoorW.PrintLast Go.Proofs.YtohpimfanplloaaGreatDoorW.PrintMore Go.Proofs.YtohpimfanplloaaGreatDoor.GC
set_option maxHeartbeats 1000000 in
theorem mlist_nil (A : Option Addr) (c : Nat) (w : World) : Calls Tryz.prog 66 #[.slice A 0 c] w fun e w' => e = .returned (.bool true) ∧ Below w.heap.size w w' := by
  go_enter Tryz.func66, Tryz.ntmps66
  go_wp2_with fail
  go_loopw [7] (fun i wr => i = .int .i64 0 ∧ Hid (wr = w)) (fun i _ => 0)
  case atStart => exact ⟨rfl, Lib.hid rfl⟩
  case round =>
    obtain ⟨rfl, HE⟩ := hrel
    have he := HE.out
    clear HE
    subst he
    go_wp2
    go_ret
    exact ⟨rfl, Below.refl _ _⟩
set_option maxHeartbeats 1000000 in
theorem eqi_nil (A : Option Addr) (c : Nat) (w : World) : Calls Tryz.prog 107 #[.slice A 0 c, .slice none 0 0] w fun e w' => e = .returned (.bool true) ∧ Below w.heap.size w w' := by
  go_enter Tryz.func107, Tryz.ntmps107
  go_wp2_with fail
  go_loopw [13] (fun i wr => i = .int .i64 0 ∧ Hid (wr = w)) (fun i _ => 0)
  case atStart => exact ⟨rfl, Lib.hid rfl⟩
  case round =>
    obtain ⟨rfl, HE⟩ := hrel
    have he := HE.out
    clear HE
    subst he
    go_wp2
    go_ret
    exact ⟨rfl, Below.refl _ _⟩
set_option maxHeartbeats 1000000 in
theorem eqd_nil (A : Option Addr) (c : Nat) (w : World) : Calls Tryz.prog 108 #[.slice A 0 c, .slice none 0 0] w fun e w' => e = .returned (.bool true) ∧ Below w.heap.size w w' := by
  go_enter Tryz.func108, Tryz.ntmps108
  go_wp2_with fail
  go_loopw [13] (fun i wr => i = .int .i64 0 ∧ Hid (wr = w)) (fun i _ => 0)
  case atStart => exact ⟨rfl, Lib.hid rfl⟩
  case round =>
    obtain ⟨rfl, HE⟩ := hrel
    have he := HE.out
    clear HE
    subst he
    go_wp2
    go_ret
    exact ⟨rfl, Below.refl _ _⟩
theorem year_lo (w : World) : Calls Tryz.prog 104 #[.int .i64 2] w fun e w' => e = .returned (.int .i64 (-62104060800)) ∧ Below w.heap.size w w' := by
  have HM := Lib.hid (fun w => stamp_Make.calls 20 2 1 1 0 0 0 (-62104060800) 0 w (by decide +kernel))
  go_enter Tryz.func104, Tryz.ntmps104
  go_wp2_with fail
  refine (HM.out _).mono ?_
  rintro e w1 ⟨rfl, hd⟩
  have HB := Lib.hid hd.below
  clear hd
  go_wp2
  go_ret
  exact ⟨rfl, HB.out⟩
theorem year_hi (w : World) : Calls Tryz.prog 104 #[.int .i64 9999] w fun e w' => e = .returned (.int .i64 (253370764800)) ∧ Below w.heap.size w w' := by
  have HM := Lib.hid (fun w => stamp_Make.calls 20 9999 1 1 0 0 0 (253370764800) 0 w (by decide +kernel))
  go_enter Tryz.func104, Tryz.ntmps104
  go_wp2_with fail
  refine (HM.out _).mono ?_
  rintro e w1 ⟨rfl, hd⟩
  have HB := Lib.hid hd.below
  clear hd
  go_wp2
  go_ret
  exact ⟨rfl, HB.out⟩
theorem inner_ok (t : Int) (h1 : -62104060800 ≤ t) (h2 : t < 253370764800) (w : World) : Calls Tryz.prog 65 #[.int .i64 t] w fun e w' => e = .returned (.bool true) ∧ Below w.heap.size w w' := by
  have d1 : decide (t ≥ -62104060800) = true := decide_eq_true h1
  have d2 : decide (t < 253370764800) = true := decide_eq_true h2
  go_enter Tryz.func65, Tryz.ntmps65
  go_wp2_with fail
  refine (year_lo _).mono ?_
  rintro e w1 ⟨rfl, hb⟩
  have HB := Lib.hid hb
  clear hb
  go_wp2_with fail
  refine (year_hi _).mono ?_
  rintro e w2 ⟨rfl, hb⟩
  have HB2 := Lib.hid (HB.out.trans (hb.mono HB.out.size))
  clear hb
  go_wp2
  go_ret
  exact ⟨rfl, HB2.out⟩
end Go.Proofs.YtohpimfanplloaaGreatDoor.MeetM
