/- meet.May at small meetings at small rules. -/
import Derived.Test.YtohpimfanplloaaGreatDoorZMeetM
import Derived.Test.YtohpimfanplloaaGreatDoorZRuleS
import Derived.Test.YtohpimfanplloaaGreatDoorZRuleM
import Derived.WalkKit
import Derived.WalkSpells
import Derived.Lib.Hide
set_option linter.unusedVariables false
set_option linter.unusedSimpArgs false
namespace Go.Proofs.YtohpimfanplloaaGreatDoor.MeetY
open Go.Proofs.YtohpimfanplloaaGreatDoor.MeetM Go.Proofs.YtohpimfanplloaaGreatDoor.RuleS Go.Proofs.YtohpimfanplloaaGreatDoor.RuleM Go.RowKit Go.Proofs.YtohpimfanplloaaGreatDoorW.PrintWords Go.Proofs.YtohpimfanplloaaGreatDoorW.PrintLast Go.Proofs.YtohpimfanplloaaGreatDoorW.PrintMore Go.Proofs.YtohpimfanplloaaGreatDoor.GC
set_option maxRecDepth 100000 in
set_option maxHeartbeats 4000000 in
theorem mmay_rec (zone start dur : Int) (hz : 0 ≤ zone ∧ zone < 16) (hs : -62104060800 ≤ start ∧ start < 253370764800) (hd : 1 ≤ dur ∧ dur ≤ 2678400) (f n : Int) (hf : f = 3 ∨ f = 4) (hn : 1 ≤ n ∧ n ≤ 4) (A1 : Option Addr) (c1 : Nat) (A2 : Option Addr) (c2 : Nat) (A3 : Option Addr) (c3 : Nat) (A4 : Option Addr) (c4 : Nat) (A5 : Option Addr) (c5 : Nat) (A6 : Option Addr) (c6 : Nat) (A7 : Option Addr) (c7 : Nat) (A8 : Option Addr) (c8 : Nat) (A9 : Option Addr) (c9 : Nat) (A10 : Option Addr) (c10 : Nat) (A11 : Option Addr) (c11 : Nat) (w : World) : Calls Tryz.prog 40 #[.agg #[.int .i64 zone, .int .i64 start, .int .i64 dur, .bool true, .int .i64 f, .int .i64 1, .int .i64 n, .int .i64 0, .int .i64 0, .bool false, .slice A1 0 c1, .slice A2 0 c2, .slice A3 0 c3, .slice A4 0 c4, .slice A5 0 c5, .slice A6 0 c6, .slice A7 0 c7, .slice A8 0 c8, .slice A9 0 c9, .slice A10 0 c10, .slice A11 0 c11]] w fun e w' => e = .returned (.bool true) ∧ Below w.heap.size w w' := by
  have HR := Lib.hid (fun w => rulemay_ok f n hf hn A1 c1 A2 c2 A3 c3 A4 c4 A5 c5 A6 c6 A7 c7 A8 c8 A9 c9 w)
  have HI := Lib.hid (fun w => inner_ok start hs.1 hs.2 w)
  have d1 : decide (zone < 0) = false := decide_eq_false (by omega)
  have d2 : decide (16 ≤ zone) = false := decide_eq_false (by omega)
  have d3 : decide (dur < 1) = false := decide_eq_false (by omega)
  have d4 : decide (2678400 < dur) = false := decide_eq_false (by omega)
  clear hz hs hd hf hn
  have HB := Lib.hid ((Below.refl w.heap.size w).alloc (Nat.le_refl _) (.cells #[.int .i64 zone, .int .i64 start, .int .i64 dur, .bool true, .int .i64 f, .int .i64 1, .int .i64 n, .int .i64 0, .int .i64 0, .bool false, .slice A1 0 c1, .slice A2 0 c2, .slice A3 0 c3, .slice A4 0 c4, .slice A5 0 c5, .slice A6 0 c6, .slice A7 0 c7, .slice A8 0 c8, .slice A9 0 c9, .slice A10 0 c10, .slice A11 0 c11] 81))
  have HA := Lib.hid (blk_new w (.cells #[.int .i64 zone, .int .i64 start, .int .i64 dur, .bool true, .int .i64 f, .int .i64 1, .int .i64 n, .int .i64 0, .int .i64 0, .bool false, .slice A1 0 c1, .slice A2 0 c2, .slice A3 0 c3, .slice A4 0 c4, .slice A5 0 c5, .slice A6 0 c6, .slice A7 0 c7, .slice A8 0 c8, .slice A9 0 c9, .slice A10 0 c10, .slice A11 0 c11] 81))
  go_enter Tryz.func40, Tryz.ntmps40
  go_wp2_with fail
  refine (HI.out _).mono ?_
  rintro e w1 ⟨rfl, hb⟩
  have HB' := Lib.hid (HB.out.trans (hb.mono HB.out.size))
  have HA' := Lib.hid (blk_below HA.out hb)
  clear HB HA hb
  have HB := HB'
  have HA := HA'
  clear HB' HA'
  have k0 := (blk_cell HA.out 0).trans rfl
  have k1 := (blk_cell HA.out 1).trans rfl
  have k2 := (blk_cell HA.out 2).trans rfl
  have k3 := (blk_cell HA.out 3).trans rfl
  have k4 := (blk_cell HA.out 4).trans rfl
  have k5 := (blk_cell HA.out 5).trans rfl
  have k6 := (blk_cell HA.out 6).trans rfl
  have k7 := (blk_cell HA.out 7).trans rfl
  have k8 := (blk_cell HA.out 8).trans rfl
  have k9 := (blk_cell HA.out 9).trans rfl
  have k10 := (blk_cell HA.out 10).trans rfl
  have k11 := (blk_cell HA.out 11).trans rfl
  have k12 := (blk_cell HA.out 12).trans rfl
  have k13 := (blk_cell HA.out 13).trans rfl
  have k14 := (blk_cell HA.out 14).trans rfl
  have k15 := (blk_cell HA.out 15).trans rfl
  have k16 := (blk_cell HA.out 16).trans rfl
  have k17 := (blk_cell HA.out 17).trans rfl
  have k18 := (blk_cell HA.out 18).trans rfl
  have k19 := (blk_cell HA.out 19).trans rfl
  have k20 := (blk_cell HA.out 20).trans rfl
  go_wp2_with fail
  refine (mlist_nil _ _ _).mono ?_
  rintro e w1 ⟨rfl, hb⟩
  clear k0 k1 k2 k3 k4 k5 k6 k7 k8 k9 k10 k11 k12 k13 k14 k15 k16 k17 k18 k19 k20
  have HB' := Lib.hid (HB.out.trans (hb.mono HB.out.size))
  have HA' := Lib.hid (blk_below HA.out hb)
  clear HB HA hb
  have HB := HB'
  have HA := HA'
  clear HB' HA'
  have k0 := (blk_cell HA.out 0).trans rfl
  have k1 := (blk_cell HA.out 1).trans rfl
  have k2 := (blk_cell HA.out 2).trans rfl
  have k3 := (blk_cell HA.out 3).trans rfl
  have k4 := (blk_cell HA.out 4).trans rfl
  have k5 := (blk_cell HA.out 5).trans rfl
  have k6 := (blk_cell HA.out 6).trans rfl
  have k7 := (blk_cell HA.out 7).trans rfl
  have k8 := (blk_cell HA.out 8).trans rfl
  have k9 := (blk_cell HA.out 9).trans rfl
  have k10 := (blk_cell HA.out 10).trans rfl
  have k11 := (blk_cell HA.out 11).trans rfl
  have k12 := (blk_cell HA.out 12).trans rfl
  have k13 := (blk_cell HA.out 13).trans rfl
  have k14 := (blk_cell HA.out 14).trans rfl
  have k15 := (blk_cell HA.out 15).trans rfl
  have k16 := (blk_cell HA.out 16).trans rfl
  have k17 := (blk_cell HA.out 17).trans rfl
  have k18 := (blk_cell HA.out 18).trans rfl
  have k19 := (blk_cell HA.out 19).trans rfl
  have k20 := (blk_cell HA.out 20).trans rfl
  go_wp2_with fail
  refine (mlist_nil _ _ _).mono ?_
  rintro e w1 ⟨rfl, hb⟩
  clear k0 k1 k2 k3 k4 k5 k6 k7 k8 k9 k10 k11 k12 k13 k14 k15 k16 k17 k18 k19 k20
  have HB' := Lib.hid (HB.out.trans (hb.mono HB.out.size))
  have HA' := Lib.hid (blk_below HA.out hb)
  clear HB HA hb
  have HB := HB'
  have HA := HA'
  clear HB' HA'
  have k0 := (blk_cell HA.out 0).trans rfl
  have k1 := (blk_cell HA.out 1).trans rfl
  have k2 := (blk_cell HA.out 2).trans rfl
  have k3 := (blk_cell HA.out 3).trans rfl
  have k4 := (blk_cell HA.out 4).trans rfl
  have k5 := (blk_cell HA.out 5).trans rfl
  have k6 := (blk_cell HA.out 6).trans rfl
  have k7 := (blk_cell HA.out 7).trans rfl
  have k8 := (blk_cell HA.out 8).trans rfl
  have k9 := (blk_cell HA.out 9).trans rfl
  have k10 := (blk_cell HA.out 10).trans rfl
  have k11 := (blk_cell HA.out 11).trans rfl
  have k12 := (blk_cell HA.out 12).trans rfl
  have k13 := (blk_cell HA.out 13).trans rfl
  have k14 := (blk_cell HA.out 14).trans rfl
  have k15 := (blk_cell HA.out 15).trans rfl
  have k16 := (blk_cell HA.out 16).trans rfl
  have k17 := (blk_cell HA.out 17).trans rfl
  have k18 := (blk_cell HA.out 18).trans rfl
  have k19 := (blk_cell HA.out 19).trans rfl
  have k20 := (blk_cell HA.out 20).trans rfl
  go_wp2_with fail
  refine (HR.out _).mono ?_
  rintro e w1 ⟨rfl, hb⟩
  clear k0 k1 k2 k3 k4 k5 k6 k7 k8 k9 k10 k11 k12 k13 k14 k15 k16 k17 k18 k19 k20
  have HB' := Lib.hid (HB.out.trans (hb.mono HB.out.size))
  have HA' := Lib.hid (blk_below HA.out hb)
  clear HB HA hb
  have HB := HB'
  have HA := HA'
  clear HB' HA'
  go_wp2
  go_ret
  exact ⟨rfl, HB.out⟩
set_option maxRecDepth 100000 in
set_option maxHeartbeats 4000000 in
theorem mmay_zero (zone start dur : Int) (hz : 0 ≤ zone ∧ zone < 16) (hs : -62104060800 ≤ start ∧ start < 253370764800) (hd : 1 ≤ dur ∧ dur ≤ 2678400)  (A1 : Option Addr) (c1 : Nat) (A2 : Option Addr) (c2 : Nat) (A3 : Option Addr) (c3 : Nat) (A4 : Option Addr) (c4 : Nat) (A5 : Option Addr) (c5 : Nat) (A6 : Option Addr) (c6 : Nat) (A7 : Option Addr) (c7 : Nat) (A8 : Option Addr) (c8 : Nat) (A9 : Option Addr) (c9 : Nat) (A10 : Option Addr) (c10 : Nat) (A11 : Option Addr) (c11 : Nat) (w : World) : Calls Tryz.prog 40 #[.agg #[.int .i64 zone, .int .i64 start, .int .i64 dur, .bool false, .int .i64 0, .int .i64 0, .int .i64 0, .int .i64 0, .int .i64 0, .bool false, .slice A1 0 c1, .slice A2 0 c2, .slice A3 0 c3, .slice A4 0 c4, .slice A5 0 c5, .slice A6 0 c6, .slice A7 0 c7, .slice A8 0 c8, .slice A9 0 c9, .slice A10 0 c10, .slice A11 0 c11]] w fun e w' => e = .returned (.bool true) ∧ Below w.heap.size w w' := by
  have HR := Lib.hid (fun w => rsame_zero A1 c1 A2 c2 A3 c3 A4 c4 A5 c5 A6 c6 A7 c7 A8 c8 A9 c9 w)
  have HI := Lib.hid (fun w => inner_ok start hs.1 hs.2 w)
  have d1 : decide (zone < 0) = false := decide_eq_false (by omega)
  have d2 : decide (16 ≤ zone) = false := decide_eq_false (by omega)
  have d3 : decide (dur < 1) = false := decide_eq_false (by omega)
  have d4 : decide (2678400 < dur) = false := decide_eq_false (by omega)
  clear hz hs hd
  have HB := Lib.hid ((Below.refl w.heap.size w).alloc (Nat.le_refl _) (.cells #[.int .i64 zone, .int .i64 start, .int .i64 dur, .bool false, .int .i64 0, .int .i64 0, .int .i64 0, .int .i64 0, .int .i64 0, .bool false, .slice A1 0 c1, .slice A2 0 c2, .slice A3 0 c3, .slice A4 0 c4, .slice A5 0 c5, .slice A6 0 c6, .slice A7 0 c7, .slice A8 0 c8, .slice A9 0 c9, .slice A10 0 c10, .slice A11 0 c11] 81))
  have HA := Lib.hid (blk_new w (.cells #[.int .i64 zone, .int .i64 start, .int .i64 dur, .bool false, .int .i64 0, .int .i64 0, .int .i64 0, .int .i64 0, .int .i64 0, .bool false, .slice A1 0 c1, .slice A2 0 c2, .slice A3 0 c3, .slice A4 0 c4, .slice A5 0 c5, .slice A6 0 c6, .slice A7 0 c7, .slice A8 0 c8, .slice A9 0 c9, .slice A10 0 c10, .slice A11 0 c11] 81))
  go_enter Tryz.func40, Tryz.ntmps40
  go_wp2_with fail
  refine (HI.out _).mono ?_
  rintro e w1 ⟨rfl, hb⟩
  have HB' := Lib.hid (HB.out.trans (hb.mono HB.out.size))
  have HA' := Lib.hid (blk_below HA.out hb)
  clear HB HA hb
  have HB := HB'
  have HA := HA'
  clear HB' HA'
  have k0 := (blk_cell HA.out 0).trans rfl
  have k1 := (blk_cell HA.out 1).trans rfl
  have k2 := (blk_cell HA.out 2).trans rfl
  have k3 := (blk_cell HA.out 3).trans rfl
  have k4 := (blk_cell HA.out 4).trans rfl
  have k5 := (blk_cell HA.out 5).trans rfl
  have k6 := (blk_cell HA.out 6).trans rfl
  have k7 := (blk_cell HA.out 7).trans rfl
  have k8 := (blk_cell HA.out 8).trans rfl
  have k9 := (blk_cell HA.out 9).trans rfl
  have k10 := (blk_cell HA.out 10).trans rfl
  have k11 := (blk_cell HA.out 11).trans rfl
  have k12 := (blk_cell HA.out 12).trans rfl
  have k13 := (blk_cell HA.out 13).trans rfl
  have k14 := (blk_cell HA.out 14).trans rfl
  have k15 := (blk_cell HA.out 15).trans rfl
  have k16 := (blk_cell HA.out 16).trans rfl
  have k17 := (blk_cell HA.out 17).trans rfl
  have k18 := (blk_cell HA.out 18).trans rfl
  have k19 := (blk_cell HA.out 19).trans rfl
  have k20 := (blk_cell HA.out 20).trans rfl
  go_wp2_with fail
  refine (mlist_nil _ _ _).mono ?_
  rintro e w1 ⟨rfl, hb⟩
  clear k0 k1 k2 k3 k4 k5 k6 k7 k8 k9 k10 k11 k12 k13 k14 k15 k16 k17 k18 k19 k20
  have HB' := Lib.hid (HB.out.trans (hb.mono HB.out.size))
  have HA' := Lib.hid (blk_below HA.out hb)
  clear HB HA hb
  have HB := HB'
  have HA := HA'
  clear HB' HA'
  have k0 := (blk_cell HA.out 0).trans rfl
  have k1 := (blk_cell HA.out 1).trans rfl
  have k2 := (blk_cell HA.out 2).trans rfl
  have k3 := (blk_cell HA.out 3).trans rfl
  have k4 := (blk_cell HA.out 4).trans rfl
  have k5 := (blk_cell HA.out 5).trans rfl
  have k6 := (blk_cell HA.out 6).trans rfl
  have k7 := (blk_cell HA.out 7).trans rfl
  have k8 := (blk_cell HA.out 8).trans rfl
  have k9 := (blk_cell HA.out 9).trans rfl
  have k10 := (blk_cell HA.out 10).trans rfl
  have k11 := (blk_cell HA.out 11).trans rfl
  have k12 := (blk_cell HA.out 12).trans rfl
  have k13 := (blk_cell HA.out 13).trans rfl
  have k14 := (blk_cell HA.out 14).trans rfl
  have k15 := (blk_cell HA.out 15).trans rfl
  have k16 := (blk_cell HA.out 16).trans rfl
  have k17 := (blk_cell HA.out 17).trans rfl
  have k18 := (blk_cell HA.out 18).trans rfl
  have k19 := (blk_cell HA.out 19).trans rfl
  have k20 := (blk_cell HA.out 20).trans rfl
  go_wp2_with fail
  refine (mlist_nil _ _ _).mono ?_
  rintro e w1 ⟨rfl, hb⟩
  clear k0 k1 k2 k3 k4 k5 k6 k7 k8 k9 k10 k11 k12 k13 k14 k15 k16 k17 k18 k19 k20
  have HB' := Lib.hid (HB.out.trans (hb.mono HB.out.size))
  have HA' := Lib.hid (blk_below HA.out hb)
  clear HB HA hb
  have HB := HB'
  have HA := HA'
  clear HB' HA'
  have k0 := (blk_cell HA.out 0).trans rfl
  have k1 := (blk_cell HA.out 1).trans rfl
  have k2 := (blk_cell HA.out 2).trans rfl
  have k3 := (blk_cell HA.out 3).trans rfl
  have k4 := (blk_cell HA.out 4).trans rfl
  have k5 := (blk_cell HA.out 5).trans rfl
  have k6 := (blk_cell HA.out 6).trans rfl
  have k7 := (blk_cell HA.out 7).trans rfl
  have k8 := (blk_cell HA.out 8).trans rfl
  have k9 := (blk_cell HA.out 9).trans rfl
  have k10 := (blk_cell HA.out 10).trans rfl
  have k11 := (blk_cell HA.out 11).trans rfl
  have k12 := (blk_cell HA.out 12).trans rfl
  have k13 := (blk_cell HA.out 13).trans rfl
  have k14 := (blk_cell HA.out 14).trans rfl
  have k15 := (blk_cell HA.out 15).trans rfl
  have k16 := (blk_cell HA.out 16).trans rfl
  have k17 := (blk_cell HA.out 17).trans rfl
  have k18 := (blk_cell HA.out 18).trans rfl
  have k19 := (blk_cell HA.out 19).trans rfl
  have k20 := (blk_cell HA.out 20).trans rfl
  go_wp2_with fail
  refine (HR.out _).mono ?_
  rintro e w1 ⟨rfl, hb⟩
  clear k0 k1 k2 k3 k4 k5 k6 k7 k8 k9 k10 k11 k12 k13 k14 k15 k16 k17 k18 k19 k20
  have HB' := Lib.hid (HB.out.trans (hb.mono HB.out.size))
  have HA' := Lib.hid (blk_below HA.out hb)
  clear HB HA hb
  have HB := HB'
  have HA := HA'
  clear HB' HA'
  go_wp2
  go_ret
  exact ⟨rfl, HB.out⟩
end Go.Proofs.YtohpimfanplloaaGreatDoor.MeetY
