/- rule.Same of nothing at small rules. -/
import Derived.Test.YtohpimfanplloaaGreatDoorZMeetM
import Derived.Test.YtohpimfanplloaaGreatDoorZGCx0
import Derived.WalkKit
import Derived.WalkSpells
import Derived.Lib.Hide
set_option linter.unusedVariables false
set_option linter.unusedSimpArgs false
namespace Go.Proofs.YtohpimfanplloaaGreatDoor.RuleS
open Go.Proofs.YtohpimfanplloaaGreatDoor.MeetM Go.RowKit Go.Proofs.YtohpimfanplloaaGreatDoorW.PrintWords Go.Proofs.YtohpimfanplloaaGreatDoorW.PrintLast Go.Proofs.YtohpimfanplloaaGreatDoorW.PrintMore Go.Proofs.YtohpimfanplloaaGreatDoor.GC
set_option maxRecDepth 100000 in
set_option maxHeartbeats 4000000 in
theorem rsame_zero (A1 : Option Addr) (c1 : Nat) (A2 : Option Addr) (c2 : Nat) (A3 : Option Addr) (c3 : Nat) (A4 : Option Addr) (c4 : Nat) (A5 : Option Addr) (c5 : Nat) (A6 : Option Addr) (c6 : Nat) (A7 : Option Addr) (c7 : Nat) (A8 : Option Addr) (c8 : Nat) (A9 : Option Addr) (c9 : Nat) (w : World) : Calls Tryz.prog 68 #[.agg #[.int .i64 0, .int .i64 0, .int .i64 0, .int .i64 0, .int .i64 0, .bool false, .slice A1 0 c1, .slice A2 0 c2, .slice A3 0 c3, .slice A4 0 c4, .slice A5 0 c5, .slice A6 0 c6, .slice A7 0 c7, .slice A8 0 c8, .slice A9 0 c9], .agg #[.int .i64 0, .int .i64 0, .int .i64 0, .int .i64 0, .int .i64 0, .bool false, .slice none 0 0, .slice none 0 0, .slice none 0 0, .slice none 0 0, .slice none 0 0, .slice none 0 0, .slice none 0 0, .slice none 0 0, .slice none 0 0]] w fun e w' => e = .returned (.bool true) ∧ Below w.heap.size w w' := by
  obtain ⟨g, hg⟩ : ∃ g, g = w.heap.size := ⟨_, rfl⟩
  have HB := Lib.hid (((Below.refl w.heap.size w).alloc (Nat.le_refl _) (.cells #[.int .i64 0, .int .i64 0, .int .i64 0, .int .i64 0, .int .i64 0, .bool false, .slice A1 0 c1, .slice A2 0 c2, .slice A3 0 c3, .slice A4 0 c4, .slice A5 0 c5, .slice A6 0 c6, .slice A7 0 c7, .slice A8 0 c8, .slice A9 0 c9] 79)).alloc (by simp) (.cells #[.int .i64 0, .int .i64 0, .int .i64 0, .int .i64 0, .int .i64 0, .bool false, .slice none 0 0, .slice none 0 0, .slice none 0 0, .slice none 0 0, .slice none 0 0, .slice none 0 0, .slice none 0 0, .slice none 0 0, .slice none 0 0] 79))
  have HA := Lib.hid (blk_alloc (blk_new w (.cells #[.int .i64 0, .int .i64 0, .int .i64 0, .int .i64 0, .int .i64 0, .bool false, .slice A1 0 c1, .slice A2 0 c2, .slice A3 0 c3, .slice A4 0 c4, .slice A5 0 c5, .slice A6 0 c6, .slice A7 0 c7, .slice A8 0 c8, .slice A9 0 c9] 79)) (.cells #[.int .i64 0, .int .i64 0, .int .i64 0, .int .i64 0, .int .i64 0, .bool false, .slice none 0 0, .slice none 0 0, .slice none 0 0, .slice none 0 0, .slice none 0 0, .slice none 0 0, .slice none 0 0, .slice none 0 0, .slice none 0 0] 79))
  have HZ0 := Lib.hid (blk_new (w.alloc (.cells #[.int .i64 0, .int .i64 0, .int .i64 0, .int .i64 0, .int .i64 0, .bool false, .slice A1 0 c1, .slice A2 0 c2, .slice A3 0 c3, .slice A4 0 c4, .slice A5 0 c5, .slice A6 0 c6, .slice A7 0 c7, .slice A8 0 c8, .slice A9 0 c9] 79)) (.cells #[.int .i64 0, .int .i64 0, .int .i64 0, .int .i64 0, .int .i64 0, .bool false, .slice none 0 0, .slice none 0 0, .slice none 0 0, .slice none 0 0, .slice none 0 0, .slice none 0 0, .slice none 0 0, .slice none 0 0, .slice none 0 0] 79))
  have HZ := Lib.hid ((congrArg (fun i => (((w.alloc (.cells #[.int .i64 0, .int .i64 0, .int .i64 0, .int .i64 0, .int .i64 0, .bool false, .slice A1 0 c1, .slice A2 0 c2, .slice A3 0 c3, .slice A4 0 c4, .slice A5 0 c5, .slice A6 0 c6, .slice A7 0 c7, .slice A8 0 c8, .slice A9 0 c9] 79)).alloc (.cells #[.int .i64 0, .int .i64 0, .int .i64 0, .int .i64 0, .int .i64 0, .bool false, .slice none 0 0, .slice none 0 0, .slice none 0 0, .slice none 0 0, .slice none 0 0, .slice none 0 0, .slice none 0 0, .slice none 0 0, .slice none 0 0] 79))).heap[i]?) (show w.heap.size + 1 = (w.alloc (.cells #[.int .i64 0, .int .i64 0, .int .i64 0, .int .i64 0, .int .i64 0, .bool false, .slice A1 0 c1, .slice A2 0 c2, .slice A3 0 c3, .slice A4 0 c4, .slice A5 0 c5, .slice A6 0 c6, .slice A7 0 c7, .slice A8 0 c8, .slice A9 0 c9] 79)).heap.size by simp)).trans HZ0.out)
  clear HZ0
  go_enter Tryz.func68, Tryz.ntmps68
  go_wp2_with fail
  refine (eqi_nil _ _ _).mono ?_
  rintro e w1 ⟨rfl, hb⟩
  have HB' := Lib.hid (HB.out.trans (hb.mono HB.out.size))
  have HA' := Lib.hid (blk_below HA.out hb)
  have HZ' := Lib.hid (blk_below HZ.out hb)
  clear HB HA HZ hb
  have HB := HB'
  have HA := HA'
  have HZ := HZ'
  clear HB' HA' HZ'
  have k := (blk_cell HA.out 7).trans rfl
  have j := (blk_cell HZ.out 7).trans rfl
  go_wp2_with fail
  refine (eqi_nil _ _ _).mono ?_
  rintro e w1 ⟨rfl, hb⟩
  clear k j
  have HB' := Lib.hid (HB.out.trans (hb.mono HB.out.size))
  have HA' := Lib.hid (blk_below HA.out hb)
  have HZ' := Lib.hid (blk_below HZ.out hb)
  clear HB HA HZ hb
  have HB := HB'
  have HA := HA'
  have HZ := HZ'
  clear HB' HA' HZ'
  have k := (blk_cell HA.out 8).trans rfl
  have j := (blk_cell HZ.out 8).trans rfl
  go_wp2_with fail
  refine (eqi_nil _ _ _).mono ?_
  rintro e w1 ⟨rfl, hb⟩
  clear k j
  have HB' := Lib.hid (HB.out.trans (hb.mono HB.out.size))
  have HA' := Lib.hid (blk_below HA.out hb)
  have HZ' := Lib.hid (blk_below HZ.out hb)
  clear HB HA HZ hb
  have HB := HB'
  have HA := HA'
  have HZ := HZ'
  clear HB' HA' HZ'
  have k := (blk_cell HA.out 9).trans rfl
  have j := (blk_cell HZ.out 9).trans rfl
  go_wp2_with fail
  refine (eqi_nil _ _ _).mono ?_
  rintro e w1 ⟨rfl, hb⟩
  clear k j
  have HB' := Lib.hid (HB.out.trans (hb.mono HB.out.size))
  have HA' := Lib.hid (blk_below HA.out hb)
  have HZ' := Lib.hid (blk_below HZ.out hb)
  clear HB HA HZ hb
  have HB := HB'
  have HA := HA'
  have HZ := HZ'
  clear HB' HA' HZ'
  have k := (blk_cell HA.out 10).trans rfl
  have j := (blk_cell HZ.out 10).trans rfl
  go_wp2_with fail
  refine (eqd_nil _ _ _).mono ?_
  rintro e w1 ⟨rfl, hb⟩
  clear k j
  have HB' := Lib.hid (HB.out.trans (hb.mono HB.out.size))
  have HA' := Lib.hid (blk_below HA.out hb)
  have HZ' := Lib.hid (blk_below HZ.out hb)
  clear HB HA HZ hb
  have HB := HB'
  have HA := HA'
  have HZ := HZ'
  clear HB' HA' HZ'
  have k := (blk_cell HA.out 11).trans rfl
  have j := (blk_cell HZ.out 11).trans rfl
  go_wp2_with fail
  refine (eqi_nil _ _ _).mono ?_
  rintro e w1 ⟨rfl, hb⟩
  clear k j
  have HB' := Lib.hid (HB.out.trans (hb.mono HB.out.size))
  have HA' := Lib.hid (blk_below HA.out hb)
  have HZ' := Lib.hid (blk_below HZ.out hb)
  clear HB HA HZ hb
  have HB := HB'
  have HA := HA'
  have HZ := HZ'
  clear HB' HA' HZ'
  have k := (blk_cell HA.out 12).trans rfl
  have j := (blk_cell HZ.out 12).trans rfl
  go_wp2_with fail
  refine (eqi_nil _ _ _).mono ?_
  rintro e w1 ⟨rfl, hb⟩
  clear k j
  have HB' := Lib.hid (HB.out.trans (hb.mono HB.out.size))
  have HA' := Lib.hid (blk_below HA.out hb)
  have HZ' := Lib.hid (blk_below HZ.out hb)
  clear HB HA HZ hb
  have HB := HB'
  have HA := HA'
  have HZ := HZ'
  clear HB' HA' HZ'
  have k := (blk_cell HA.out 13).trans rfl
  have j := (blk_cell HZ.out 13).trans rfl
  go_wp2_with fail
  refine (eqi_nil _ _ _).mono ?_
  rintro e w1 ⟨rfl, hb⟩
  clear k j
  have HB' := Lib.hid (HB.out.trans (hb.mono HB.out.size))
  have HA' := Lib.hid (blk_below HA.out hb)
  have HZ' := Lib.hid (blk_below HZ.out hb)
  clear HB HA HZ hb
  have HB := HB'
  have HA := HA'
  have HZ := HZ'
  clear HB' HA' HZ'
  have k := (blk_cell HA.out 14).trans rfl
  have j := (blk_cell HZ.out 14).trans rfl
  go_wp2_with fail
  refine (eqi_nil _ _ _).mono ?_
  rintro e w1 ⟨rfl, hb⟩
  clear k j
  have HB' := Lib.hid (HB.out.trans (hb.mono HB.out.size))
  have HA' := Lib.hid (blk_below HA.out hb)
  have HZ' := Lib.hid (blk_below HZ.out hb)
  clear HB HA HZ hb
  have HB := HB'
  have HA := HA'
  have HZ := HZ'
  clear HB' HA' HZ'
  go_wp2
  go_ret
  exact ⟨rfl, HB.out⟩
end Go.Proofs.YtohpimfanplloaaGreatDoor.RuleS
