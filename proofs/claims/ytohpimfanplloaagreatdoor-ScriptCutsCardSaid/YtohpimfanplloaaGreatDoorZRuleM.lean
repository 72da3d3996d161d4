/- rule.May at small rules. -/
import Derived.Test.YtohpimfanplloaaGreatDoorZGCx0
import Derived.WalkKit
import Derived.WalkSpells
import Derived.Lib.Hide
set_option linter.unusedVariables false
set_option linter.unusedSimpArgs false
namespace Go.Proofs.YtohpimfanplloaaGreatDoor.RuleM
open Go.RowKit Go.Proofs.YtohpimfanplloaaGreatDoorW.PrintWords Go.Proofs.YtohpimfanplloaaGreatDoorW.PrintLast Go.Proofs.YtohpimfanplloaaGreatDoorW.PrintMore Go.Proofs.YtohpimfanplloaaGreatDoor.GC
set_option maxHeartbeats 1000000 in
theorem within_nil (A : Option Addr) (c : Nat) (lo hi : Int) (z : Bool) (w : World) : Calls Tryz.prog 131 #[.slice A 0 c, .int .i64 lo, .int .i64 hi, .bool z] w fun e w' => e = .returned (.bool true) ∧ Below w.heap.size w w' := by
  go_enter Tryz.func131, Tryz.ntmps131
  go_wp2_with fail
  go_loopw [13] (fun i wr => i = .int .i64 0 ∧ Hid (wr = w)) (fun i _ => 0)
  case atStart => exact ⟨rfl, Lib.hid rfl⟩
  case round =>
    obtain ⟨rfl, HE⟩ := hrel
    have he := HE.out
    clear HE
    subst he
    go_wp2
    go_ret
    exact ⟨rfl, Below.refl _ _⟩
set_option maxRecDepth 100000 in
set_option maxHeartbeats 4000000 in
theorem days_ok (f n : Int) (A1 : Option Addr) (c1 : Nat) (A2 : Option Addr) (c2 : Nat) (A3 : Option Addr) (c3 : Nat) (A4 : Option Addr) (c4 : Nat) (A5 : Option Addr) (c5 : Nat) (A6 : Option Addr) (c6 : Nat) (A7 : Option Addr) (c7 : Nat) (A8 : Option Addr) (c8 : Nat) (A9 : Option Addr) (c9 : Nat) (w : World) : Calls Tryz.prog 132 #[.agg #[.int .i64 f, .int .i64 1, .int .i64 n, .int .i64 0, .int .i64 0, .bool false, .slice A1 0 c1, .slice A2 0 c2, .slice A3 0 c3, .slice A4 0 c4, .slice A5 0 c5, .slice A6 0 c6, .slice A7 0 c7, .slice A8 0 c8, .slice A9 0 c9]] w fun e w' => e = .returned (.bool true) ∧ Below w.heap.size w w' := by
  have HB := Lib.hid ((Below.refl w.heap.size w).alloc (Nat.le_refl _) (.cells #[.int .i64 f, .int .i64 1, .int .i64 n, .int .i64 0, .int .i64 0, .bool false, .slice A1 0 c1, .slice A2 0 c2, .slice A3 0 c3, .slice A4 0 c4, .slice A5 0 c5, .slice A6 0 c6, .slice A7 0 c7, .slice A8 0 c8, .slice A9 0 c9] 79))
  have HA := Lib.hid (blk_new w (.cells #[.int .i64 f, .int .i64 1, .int .i64 n, .int .i64 0, .int .i64 0, .bool false, .slice A1 0 c1, .slice A2 0 c2, .slice A3 0 c3, .slice A4 0 c4, .slice A5 0 c5, .slice A6 0 c6, .slice A7 0 c7, .slice A8 0 c8, .slice A9 0 c9] 79))
  go_enter Tryz.func132, Tryz.ntmps132
  go_wp2_with fail
  have k0 := (blk_cell HA.out 0).trans rfl
  have k1 := (blk_cell HA.out 1).trans rfl
  have k2 := (blk_cell HA.out 2).trans rfl
  have k3 := (blk_cell HA.out 3).trans rfl
  have k4 := (blk_cell HA.out 4).trans rfl
  have k5 := (blk_cell HA.out 5).trans rfl
  have k6 := (blk_cell HA.out 6).trans rfl
  have k7 := (blk_cell HA.out 7).trans rfl
  have k8 := (blk_cell HA.out 8).trans rfl
  have k9 := (blk_cell HA.out 9).trans rfl
  have k10 := (blk_cell HA.out 10).trans rfl
  have k11 := (blk_cell HA.out 11).trans rfl
  have k12 := (blk_cell HA.out 12).trans rfl
  have k13 := (blk_cell HA.out 13).trans rfl
  have k14 := (blk_cell HA.out 14).trans rfl
  go_wp2_with fail
  go_loopw [8] (fun i wr => i = .int .i64 0 ∧ Hid (wr = w.alloc (.cells #[.int .i64 f, .int .i64 1, .int .i64 n, .int .i64 0, .int .i64 0, .bool false, .slice A1 0 c1, .slice A2 0 c2, .slice A3 0 c3, .slice A4 0 c4, .slice A5 0 c5, .slice A6 0 c6, .slice A7 0 c7, .slice A8 0 c8, .slice A9 0 c9] 79))) (fun i _ => 0)
  case atStart => exact ⟨rfl, Lib.hid rfl⟩
  case round =>
    obtain ⟨rfl, HE⟩ := hrel
    have he := HE.out
    clear HE
    subst he
    go_wp2
    go_ret
    exact ⟨rfl, HB.out⟩
set_option maxRecDepth 100000 in
set_option maxHeartbeats 4000000 in
theorem numbers_ok (f n : Int) (hf : f = 3 ∨ f = 4) (hn : 1 ≤ n ∧ n ≤ 4) (A1 : Option Addr) (c1 : Nat) (A2 : Option Addr) (c2 : Nat) (A3 : Option Addr) (c3 : Nat) (A4 : Option Addr) (c4 : Nat) (A5 : Option Addr) (c5 : Nat) (A6 : Option Addr) (c6 : Nat) (A7 : Option Addr) (c7 : Nat) (A8 : Option Addr) (c8 : Nat) (A9 : Option Addr) (c9 : Nat) (w : World) : Calls Tryz.prog 105 #[.agg #[.int .i64 f, .int .i64 1, .int .i64 n, .int .i64 0, .int .i64 0, .bool false, .slice A1 0 c1, .slice A2 0 c2, .slice A3 0 c3, .slice A4 0 c4, .slice A5 0 c5, .slice A6 0 c6, .slice A7 0 c7, .slice A8 0 c8, .slice A9 0 c9]] w fun e w' => e = .returned (.bool true) ∧ Below w.heap.size w w' := by
  have hf1 : decide (f < 1) = false := decide_eq_false (by omega)
  have hf2 : decide (7 < f) = false := decide_eq_false (by omega)
  have hn1 : decide (n < 0) = false := decide_eq_false (by omega)
  have hn2 : decide (1000 < n) = false := decide_eq_false (by omega)
  have hn3 : decide (4096 < n) = false := decide_eq_false (by omega)
  clear hf hn
  have HB := Lib.hid ((Below.refl w.heap.size w).alloc (Nat.le_refl _) (.cells #[.int .i64 f, .int .i64 1, .int .i64 n, .int .i64 0, .int .i64 0, .bool false, .slice A1 0 c1, .slice A2 0 c2, .slice A3 0 c3, .slice A4 0 c4, .slice A5 0 c5, .slice A6 0 c6, .slice A7 0 c7, .slice A8 0 c8, .slice A9 0 c9] 79))
  have HA := Lib.hid (blk_new w (.cells #[.int .i64 f, .int .i64 1, .int .i64 n, .int .i64 0, .int .i64 0, .bool false, .slice A1 0 c1, .slice A2 0 c2, .slice A3 0 c3, .slice A4 0 c4, .slice A5 0 c5, .slice A6 0 c6, .slice A7 0 c7, .slice A8 0 c8, .slice A9 0 c9] 79))
  go_enter Tryz.func105, Tryz.ntmps105
  have k0 := (blk_cell HA.out 0).trans rfl
  have k1 := (blk_cell HA.out 1).trans rfl
  have k2 := (blk_cell HA.out 2).trans rfl
  have k3 := (blk_cell HA.out 3).trans rfl
  have k4 := (blk_cell HA.out 4).trans rfl
  have k5 := (blk_cell HA.out 5).trans rfl
  have k6 := (blk_cell HA.out 6).trans rfl
  have k7 := (blk_cell HA.out 7).trans rfl
  have k8 := (blk_cell HA.out 8).trans rfl
  have k9 := (blk_cell HA.out 9).trans rfl
  have k10 := (blk_cell HA.out 10).trans rfl
  have k11 := (blk_cell HA.out 11).trans rfl
  have k12 := (blk_cell HA.out 12).trans rfl
  have k13 := (blk_cell HA.out 13).trans rfl
  have k14 := (blk_cell HA.out 14).trans rfl
  go_wp2
  go_ret
  exact ⟨rfl, HB.out⟩
set_option maxRecDepth 100000 in
set_option maxHeartbeats 4000000 in
theorem lists_ok (f n : Int) (A1 : Option Addr) (c1 : Nat) (A2 : Option Addr) (c2 : Nat) (A3 : Option Addr) (c3 : Nat) (A4 : Option Addr) (c4 : Nat) (A5 : Option Addr) (c5 : Nat) (A6 : Option Addr) (c6 : Nat) (A7 : Option Addr) (c7 : Nat) (A8 : Option Addr) (c8 : Nat) (A9 : Option Addr) (c9 : Nat) (w : World) : Calls Tryz.prog 106 #[.agg #[.int .i64 f, .int .i64 1, .int .i64 n, .int .i64 0, .int .i64 0, .bool false, .slice A1 0 c1, .slice A2 0 c2, .slice A3 0 c3, .slice A4 0 c4, .slice A5 0 c5, .slice A6 0 c6, .slice A7 0 c7, .slice A8 0 c8, .slice A9 0 c9]] w fun e w' => e = .returned (.bool true) ∧ Below w.heap.size w w' := by
  have HB := Lib.hid ((Below.refl w.heap.size w).alloc (Nat.le_refl _) (.cells #[.int .i64 f, .int .i64 1, .int .i64 n, .int .i64 0, .int .i64 0, .bool false, .slice A1 0 c1, .slice A2 0 c2, .slice A3 0 c3, .slice A4 0 c4, .slice A5 0 c5, .slice A6 0 c6, .slice A7 0 c7, .slice A8 0 c8, .slice A9 0 c9] 79))
  have HA := Lib.hid (blk_new w (.cells #[.int .i64 f, .int .i64 1, .int .i64 n, .int .i64 0, .int .i64 0, .bool false, .slice A1 0 c1, .slice A2 0 c2, .slice A3 0 c3, .slice A4 0 c4, .slice A5 0 c5, .slice A6 0 c6, .slice A7 0 c7, .slice A8 0 c8, .slice A9 0 c9] 79))
  go_enter Tryz.func106, Tryz.ntmps106
  have k0 := (blk_cell HA.out 0).trans rfl
  have k1 := (blk_cell HA.out 1).trans rfl
  have k2 := (blk_cell HA.out 2).trans rfl
  have k3 := (blk_cell HA.out 3).trans rfl
  have k4 := (blk_cell HA.out 4).trans rfl
  have k5 := (blk_cell HA.out 5).trans rfl
  have k6 := (blk_cell HA.out 6).trans rfl
  have k7 := (blk_cell HA.out 7).trans rfl
  have k8 := (blk_cell HA.out 8).trans rfl
  have k9 := (blk_cell HA.out 9).trans rfl
  have k10 := (blk_cell HA.out 10).trans rfl
  have k11 := (blk_cell HA.out 11).trans rfl
  have k12 := (blk_cell HA.out 12).trans rfl
  have k13 := (blk_cell HA.out 13).trans rfl
  have k14 := (blk_cell HA.out 14).trans rfl
  go_wp2_with fail
  refine (within_nil _ _ _ _ _ _).mono ?_
  rintro e w1 ⟨rfl, hb⟩
  clear k0 k1 k2 k3 k4 k5 k6 k7 k8 k9 k10 k11 k12 k13 k14
  have HB' := Lib.hid (HB.out.trans (hb.mono HB.out.size))
  have HA' := Lib.hid (blk_below HA.out hb)
  clear HB HA hb
  have HB := HB'
  have HA := HA'
  clear HB' HA'
  have k0 := (blk_cell HA.out 0).trans rfl
  have k1 := (blk_cell HA.out 1).trans rfl
  have k2 := (blk_cell HA.out 2).trans rfl
  have k3 := (blk_cell HA.out 3).trans rfl
  have k4 := (blk_cell HA.out 4).trans rfl
  have k5 := (blk_cell HA.out 5).trans rfl
  have k6 := (blk_cell HA.out 6).trans rfl
  have k7 := (blk_cell HA.out 7).trans rfl
  have k8 := (blk_cell HA.out 8).trans rfl
  have k9 := (blk_cell HA.out 9).trans rfl
  have k10 := (blk_cell HA.out 10).trans rfl
  have k11 := (blk_cell HA.out 11).trans rfl
  have k12 := (blk_cell HA.out 12).trans rfl
  have k13 := (blk_cell HA.out 13).trans rfl
  have k14 := (blk_cell HA.out 14).trans rfl
  go_wp2_with fail
  refine (within_nil _ _ _ _ _ _).mono ?_
  rintro e w2 ⟨rfl, hb⟩
  clear k0 k1 k2 k3 k4 k5 k6 k7 k8 k9 k10 k11 k12 k13 k14
  have HB' := Lib.hid (HB.out.trans (hb.mono HB.out.size))
  have HA' := Lib.hid (blk_below HA.out hb)
  clear HB HA hb
  have HB := HB'
  have HA := HA'
  clear HB' HA'
  have k0 := (blk_cell HA.out 0).trans rfl
  have k1 := (blk_cell HA.out 1).trans rfl
  have k2 := (blk_cell HA.out 2).trans rfl
  have k3 := (blk_cell HA.out 3).trans rfl
  have k4 := (blk_cell HA.out 4).trans rfl
  have k5 := (blk_cell HA.out 5).trans rfl
  have k6 := (blk_cell HA.out 6).trans rfl
  have k7 := (blk_cell HA.out 7).trans rfl
  have k8 := (blk_cell HA.out 8).trans rfl
  have k9 := (blk_cell HA.out 9).trans rfl
  have k10 := (blk_cell HA.out 10).trans rfl
  have k11 := (blk_cell HA.out 11).trans rfl
  have k12 := (blk_cell HA.out 12).trans rfl
  have k13 := (blk_cell HA.out 13).trans rfl
  have k14 := (blk_cell HA.out 14).trans rfl
  go_wp2_with fail
  refine (within_nil _ _ _ _ _ _).mono ?_
  rintro e w3 ⟨rfl, hb⟩
  clear k0 k1 k2 k3 k4 k5 k6 k7 k8 k9 k10 k11 k12 k13 k14
  have HB' := Lib.hid (HB.out.trans (hb.mono HB.out.size))
  have HA' := Lib.hid (blk_below HA.out hb)
  clear HB HA hb
  have HB := HB'
  have HA := HA'
  clear HB' HA'
  have k0 := (blk_cell HA.out 0).trans rfl
  have k1 := (blk_cell HA.out 1).trans rfl
  have k2 := (blk_cell HA.out 2).trans rfl
  have k3 := (blk_cell HA.out 3).trans rfl
  have k4 := (blk_cell HA.out 4).trans rfl
  have k5 := (blk_cell HA.out 5).trans rfl
  have k6 := (blk_cell HA.out 6).trans rfl
  have k7 := (blk_cell HA.out 7).trans rfl
  have k8 := (blk_cell HA.out 8).trans rfl
  have k9 := (blk_cell HA.out 9).trans rfl
  have k10 := (blk_cell HA.out 10).trans rfl
  have k11 := (blk_cell HA.out 11).trans rfl
  have k12 := (blk_cell HA.out 12).trans rfl
  have k13 := (blk_cell HA.out 13).trans rfl
  have k14 := (blk_cell HA.out 14).trans rfl
  go_wp2_with fail
  refine (within_nil _ _ _ _ _ _).mono ?_
  rintro e w4 ⟨rfl, hb⟩
  clear k0 k1 k2 k3 k4 k5 k6 k7 k8 k9 k10 k11 k12 k13 k14
  have HB' := Lib.hid (HB.out.trans (hb.mono HB.out.size))
  have HA' := Lib.hid (blk_below HA.out hb)
  clear HB HA hb
  have HB := HB'
  have HA := HA'
  clear HB' HA'
  have k0 := (blk_cell HA.out 0).trans rfl
  have k1 := (blk_cell HA.out 1).trans rfl
  have k2 := (blk_cell HA.out 2).trans rfl
  have k3 := (blk_cell HA.out 3).trans rfl
  have k4 := (blk_cell HA.out 4).trans rfl
  have k5 := (blk_cell HA.out 5).trans rfl
  have k6 := (blk_cell HA.out 6).trans rfl
  have k7 := (blk_cell HA.out 7).trans rfl
  have k8 := (blk_cell HA.out 8).trans rfl
  have k9 := (blk_cell HA.out 9).trans rfl
  have k10 := (blk_cell HA.out 10).trans rfl
  have k11 := (blk_cell HA.out 11).trans rfl
  have k12 := (blk_cell HA.out 12).trans rfl
  have k13 := (blk_cell HA.out 13).trans rfl
  have k14 := (blk_cell HA.out 14).trans rfl
  go_wp2_with fail
  refine (within_nil _ _ _ _ _ _).mono ?_
  rintro e w5 ⟨rfl, hb⟩
  clear k0 k1 k2 k3 k4 k5 k6 k7 k8 k9 k10 k11 k12 k13 k14
  have HB' := Lib.hid (HB.out.trans (hb.mono HB.out.size))
  have HA' := Lib.hid (blk_below HA.out hb)
  clear HB HA hb
  have HB := HB'
  have HA := HA'
  clear HB' HA'
  have k0 := (blk_cell HA.out 0).trans rfl
  have k1 := (blk_cell HA.out 1).trans rfl
  have k2 := (blk_cell HA.out 2).trans rfl
  have k3 := (blk_cell HA.out 3).trans rfl
  have k4 := (blk_cell HA.out 4).trans rfl
  have k5 := (blk_cell HA.out 5).trans rfl
  have k6 := (blk_cell HA.out 6).trans rfl
  have k7 := (blk_cell HA.out 7).trans rfl
  have k8 := (blk_cell HA.out 8).trans rfl
  have k9 := (blk_cell HA.out 9).trans rfl
  have k10 := (blk_cell HA.out 10).trans rfl
  have k11 := (blk_cell HA.out 11).trans rfl
  have k12 := (blk_cell HA.out 12).trans rfl
  have k13 := (blk_cell HA.out 13).trans rfl
  have k14 := (blk_cell HA.out 14).trans rfl
  go_wp2_with fail
  refine (within_nil _ _ _ _ _ _).mono ?_
  rintro e w6 ⟨rfl, hb⟩
  clear k0 k1 k2 k3 k4 k5 k6 k7 k8 k9 k10 k11 k12 k13 k14
  have HB' := Lib.hid (HB.out.trans (hb.mono HB.out.size))
  have HA' := Lib.hid (blk_below HA.out hb)
  clear HB HA hb
  have HB := HB'
  have HA := HA'
  clear HB' HA'
  have k0 := (blk_cell HA.out 0).trans rfl
  have k1 := (blk_cell HA.out 1).trans rfl
  have k2 := (blk_cell HA.out 2).trans rfl
  have k3 := (blk_cell HA.out 3).trans rfl
  have k4 := (blk_cell HA.out 4).trans rfl
  have k5 := (blk_cell HA.out 5).trans rfl
  have k6 := (blk_cell HA.out 6).trans rfl
  have k7 := (blk_cell HA.out 7).trans rfl
  have k8 := (blk_cell HA.out 8).trans rfl
  have k9 := (blk_cell HA.out 9).trans rfl
  have k10 := (blk_cell HA.out 10).trans rfl
  have k11 := (blk_cell HA.out 11).trans rfl
  have k12 := (blk_cell HA.out 12).trans rfl
  have k13 := (blk_cell HA.out 13).trans rfl
  have k14 := (blk_cell HA.out 14).trans rfl
  go_wp2_with fail
  refine (within_nil _ _ _ _ _ _).mono ?_
  rintro e w7 ⟨rfl, hb⟩
  clear k0 k1 k2 k3 k4 k5 k6 k7 k8 k9 k10 k11 k12 k13 k14
  have HB' := Lib.hid (HB.out.trans (hb.mono HB.out.size))
  have HA' := Lib.hid (blk_below HA.out hb)
  clear HB HA hb
  have HB := HB'
  have HA := HA'
  clear HB' HA'
  have k0 := (blk_cell HA.out 0).trans rfl
  have k1 := (blk_cell HA.out 1).trans rfl
  have k2 := (blk_cell HA.out 2).trans rfl
  have k3 := (blk_cell HA.out 3).trans rfl
  have k4 := (blk_cell HA.out 4).trans rfl
  have k5 := (blk_cell HA.out 5).trans rfl
  have k6 := (blk_cell HA.out 6).trans rfl
  have k7 := (blk_cell HA.out 7).trans rfl
  have k8 := (blk_cell HA.out 8).trans rfl
  have k9 := (blk_cell HA.out 9).trans rfl
  have k10 := (blk_cell HA.out 10).trans rfl
  have k11 := (blk_cell HA.out 11).trans rfl
  have k12 := (blk_cell HA.out 12).trans rfl
  have k13 := (blk_cell HA.out 13).trans rfl
  have k14 := (blk_cell HA.out 14).trans rfl
  go_wp2_with fail
  refine (within_nil _ _ _ _ _ _).mono ?_
  rintro e w8 ⟨rfl, hb⟩
  clear k0 k1 k2 k3 k4 k5 k6 k7 k8 k9 k10 k11 k12 k13 k14
  have HB' := Lib.hid (HB.out.trans (hb.mono HB.out.size))
  have HA' := Lib.hid (blk_below HA.out hb)
  clear HB HA hb
  have HB := HB'
  have HA := HA'
  clear HB' HA'
  have k0 := (blk_cell HA.out 0).trans rfl
  have k1 := (blk_cell HA.out 1).trans rfl
  have k2 := (blk_cell HA.out 2).trans rfl
  have k3 := (blk_cell HA.out 3).trans rfl
  have k4 := (blk_cell HA.out 4).trans rfl
  have k5 := (blk_cell HA.out 5).trans rfl
  have k6 := (blk_cell HA.out 6).trans rfl
  have k7 := (blk_cell HA.out 7).trans rfl
  have k8 := (blk_cell HA.out 8).trans rfl
  have k9 := (blk_cell HA.out 9).trans rfl
  have k10 := (blk_cell HA.out 10).trans rfl
  have k11 := (blk_cell HA.out 11).trans rfl
  have k12 := (blk_cell HA.out 12).trans rfl
  have k13 := (blk_cell HA.out 13).trans rfl
  have k14 := (blk_cell HA.out 14).trans rfl
  go_wp2_with fail
  refine (days_ok f n A1 c1 A2 c2 A3 c3 A4 c4 A5 c5 A6 c6 A7 c7 A8 c8 A9 c9 _).mono ?_
  rintro e w9 ⟨rfl, hb⟩
  clear k0 k1 k2 k3 k4 k5 k6 k7 k8 k9 k10 k11 k12 k13 k14
  have HB' := Lib.hid (HB.out.trans (hb.mono HB.out.size))
  have HA' := Lib.hid (blk_below HA.out hb)
  clear HB HA hb
  have HB := HB'
  have HA := HA'
  clear HB' HA'
  have k0 := (blk_cell HA.out 0).trans rfl
  have k1 := (blk_cell HA.out 1).trans rfl
  have k2 := (blk_cell HA.out 2).trans rfl
  have k3 := (blk_cell HA.out 3).trans rfl
  have k4 := (blk_cell HA.out 4).trans rfl
  have k5 := (blk_cell HA.out 5).trans rfl
  have k6 := (blk_cell HA.out 6).trans rfl
  have k7 := (blk_cell HA.out 7).trans rfl
  have k8 := (blk_cell HA.out 8).trans rfl
  have k9 := (blk_cell HA.out 9).trans rfl
  have k10 := (blk_cell HA.out 10).trans rfl
  have k11 := (blk_cell HA.out 11).trans rfl
  have k12 := (blk_cell HA.out 12).trans rfl
  have k13 := (blk_cell HA.out 13).trans rfl
  have k14 := (blk_cell HA.out 14).trans rfl
  go_wp2
  go_ret
  exact ⟨rfl, HB.out⟩
set_option maxRecDepth 100000 in
set_option maxHeartbeats 4000000 in
theorem rulemay_ok (f n : Int) (hf : f = 3 ∨ f = 4) (hn : 1 ≤ n ∧ n ≤ 4) (A1 : Option Addr) (c1 : Nat) (A2 : Option Addr) (c2 : Nat) (A3 : Option Addr) (c3 : Nat) (A4 : Option Addr) (c4 : Nat) (A5 : Option Addr) (c5 : Nat) (A6 : Option Addr) (c6 : Nat) (A7 : Option Addr) (c7 : Nat) (A8 : Option Addr) (c8 : Nat) (A9 : Option Addr) (c9 : Nat) (w : World) : Calls Tryz.prog 67 #[.agg #[.int .i64 f, .int .i64 1, .int .i64 n, .int .i64 0, .int .i64 0, .bool false, .slice A1 0 c1, .slice A2 0 c2, .slice A3 0 c3, .slice A4 0 c4, .slice A5 0 c5, .slice A6 0 c6, .slice A7 0 c7, .slice A8 0 c8, .slice A9 0 c9]] w fun e w' => e = .returned (.bool true) ∧ Below w.heap.size w w' := by
  have HN := Lib.hid (fun w => numbers_ok f n hf hn A1 c1 A2 c2 A3 c3 A4 c4 A5 c5 A6 c6 A7 c7 A8 c8 A9 c9 w)
  have hf4 : decide (4 < f) = false := decide_eq_false (by omega)
  clear hf hn
  have HB := Lib.hid ((Below.refl w.heap.size w).alloc (Nat.le_refl _) (.cells #[.int .i64 f, .int .i64 1, .int .i64 n, .int .i64 0, .int .i64 0, .bool false, .slice A1 0 c1, .slice A2 0 c2, .slice A3 0 c3, .slice A4 0 c4, .slice A5 0 c5, .slice A6 0 c6, .slice A7 0 c7, .slice A8 0 c8, .slice A9 0 c9] 79))
  have HA := Lib.hid (blk_new w (.cells #[.int .i64 f, .int .i64 1, .int .i64 n, .int .i64 0, .int .i64 0, .bool false, .slice A1 0 c1, .slice A2 0 c2, .slice A3 0 c3, .slice A4 0 c4, .slice A5 0 c5, .slice A6 0 c6, .slice A7 0 c7, .slice A8 0 c8, .slice A9 0 c9] 79))
  go_enter Tryz.func67, Tryz.ntmps67
  have k0 := (blk_cell HA.out 0).trans rfl
  have k1 := (blk_cell HA.out 1).trans rfl
  have k2 := (blk_cell HA.out 2).trans rfl
  have k3 := (blk_cell HA.out 3).trans rfl
  have k4 := (blk_cell HA.out 4).trans rfl
  have k5 := (blk_cell HA.out 5).trans rfl
  have k6 := (blk_cell HA.out 6).trans rfl
  have k7 := (blk_cell HA.out 7).trans rfl
  have k8 := (blk_cell HA.out 8).trans rfl
  have k9 := (blk_cell HA.out 9).trans rfl
  have k10 := (blk_cell HA.out 10).trans rfl
  have k11 := (blk_cell HA.out 11).trans rfl
  have k12 := (blk_cell HA.out 12).trans rfl
  have k13 := (blk_cell HA.out 13).trans rfl
  have k14 := (blk_cell HA.out 14).trans rfl
  go_wp2_with fail
  refine (HN.out _).mono ?_
  rintro e w1 ⟨rfl, hb⟩
  clear k0 k1 k2 k3 k4 k5 k6 k7 k8 k9 k10 k11 k12 k13 k14
  have HB' := Lib.hid (HB.out.trans (hb.mono HB.out.size))
  have HA' := Lib.hid (blk_below HA.out hb)
  clear HB HA hb
  have HB := HB'
  have HA := HA'
  clear HB' HA'
  have k0 := (blk_cell HA.out 0).trans rfl
  have k1 := (blk_cell HA.out 1).trans rfl
  have k2 := (blk_cell HA.out 2).trans rfl
  have k3 := (blk_cell HA.out 3).trans rfl
  have k4 := (blk_cell HA.out 4).trans rfl
  have k5 := (blk_cell HA.out 5).trans rfl
  have k6 := (blk_cell HA.out 6).trans rfl
  have k7 := (blk_cell HA.out 7).trans rfl
  have k8 := (blk_cell HA.out 8).trans rfl
  have k9 := (blk_cell HA.out 9).trans rfl
  have k10 := (blk_cell HA.out 10).trans rfl
  have k11 := (blk_cell HA.out 11).trans rfl
  have k12 := (blk_cell HA.out 12).trans rfl
  have k13 := (blk_cell HA.out 13).trans rfl
  have k14 := (blk_cell HA.out 14).trans rfl
  go_wp2_with fail
  refine (lists_ok f n A1 c1 A2 c2 A3 c3 A4 c4 A5 c5 A6 c6 A7 c7 A8 c8 A9 c9 _).mono ?_
  rintro e w2 ⟨rfl, hb⟩
  clear k0 k1 k2 k3 k4 k5 k6 k7 k8 k9 k10 k11 k12 k13 k14
  have HB' := Lib.hid (HB.out.trans (hb.mono HB.out.size))
  have HA' := Lib.hid (blk_below HA.out hb)
  clear HB HA hb
  have HB := HB'
  have HA := HA'
  clear HB' HA'
  have k0 := (blk_cell HA.out 0).trans rfl
  have k1 := (blk_cell HA.out 1).trans rfl
  have k2 := (blk_cell HA.out 2).trans rfl
  have k3 := (blk_cell HA.out 3).trans rfl
  have k4 := (blk_cell HA.out 4).trans rfl
  have k5 := (blk_cell HA.out 5).trans rfl
  have k6 := (blk_cell HA.out 6).trans rfl
  have k7 := (blk_cell HA.out 7).trans rfl
  have k8 := (blk_cell HA.out 8).trans rfl
  have k9 := (blk_cell HA.out 9).trans rfl
  have k10 := (blk_cell HA.out 10).trans rfl
  have k11 := (blk_cell HA.out 11).trans rfl
  have k12 := (blk_cell HA.out 12).trans rfl
  have k13 := (blk_cell HA.out 13).trans rfl
  have k14 := (blk_cell HA.out 14).trans rfl
  go_wp2
  go_ret
  exact ⟨rfl, HB.out⟩
end Go.Proofs.YtohpimfanplloaaGreatDoor.RuleM
