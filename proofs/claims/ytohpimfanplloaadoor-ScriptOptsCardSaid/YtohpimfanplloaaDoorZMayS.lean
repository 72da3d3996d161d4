/- zone.mayShifts, in the printed form. -/
import Derived.Test.YtohpimfanplloaaDoorZGOx0
import Derived.WalkKit
import Derived.WalkSpells
import Derived.Lib.Hide
import Derived.Deep.QuietTactic
import Derived.BigQuiet
set_option linter.unusedVariables false
set_option linter.unusedSimpArgs false
namespace Go.Proofs.YtohpimfanplloaaDoor.GO
open Go.RowKit Go.Proofs.YtohpimfanplloaaDoorW.PrintWords Go.Proofs.YtohpimfanplloaaDoorW.PrintLast Go.Proofs.YtohpimfanplloaaDoorW.PrintMore

def stampB (t : Int) : Bool := decide (-62135596800 ≤ t) && decide (t ≤ 253402300799)
def offB (n : Int) : Bool := decide (-64800 ≤ n) && decide (n ≤ 64800)
theorem stampB_any (t : Int) (w : World) : Calls Tryd.prog 42 #[.int .i64 t] w fun e w' => e = .returned (.bool (stampB t)) ∧ w' = w := by
  unfold stampB
  by_cases h1 : -62135596800 ≤ t
  · have d1 : decide (-62135596800 ≤ t) = true := decide_eq_true h1
    by_cases h2 : t ≤ 253402300799
    · have d2 : decide (t ≤ 253402300799) = true := decide_eq_true h2
      rw [d1, d2]
      go_enter Tryd.func42, Tryd.ntmps42
      go_wp2
      go_ret
      exact ⟨rfl, rfl⟩
    · have d2 : decide (t ≤ 253402300799) = false := decide_eq_false h2
      rw [d1, d2]
      go_enter Tryd.func42, Tryd.ntmps42
      go_wp2
      go_ret
      exact ⟨rfl, rfl⟩
  · have d1 : decide (-62135596800 ≤ t) = false := decide_eq_false h1
    rw [d1]
    go_enter Tryd.func42, Tryd.ntmps42
    go_wp2
    go_ret
    exact ⟨rfl, rfl⟩
theorem offB_any (t : Int) (w : World) : Calls Tryd.prog 28 #[.int .i64 t] w fun e w' => e = .returned (.bool (offB t)) ∧ w' = w := by
  unfold offB
  by_cases h1 : -64800 ≤ t
  · have d1 : decide (-64800 ≤ t) = true := decide_eq_true h1
    by_cases h2 : t ≤ 64800
    · have d2 : decide (t ≤ 64800) = true := decide_eq_true h2
      rw [d1, d2]
      go_enter Tryd.func28, Tryd.ntmps28
      go_wp2
      go_ret
      exact ⟨rfl, rfl⟩
    · have d2 : decide (t ≤ 64800) = false := decide_eq_false h2
      rw [d1, d2]
      go_enter Tryd.func28, Tryd.ntmps28
      go_wp2
      go_ret
      exact ⟨rfl, rfl⟩
  · have d1 : decide (-64800 ≤ t) = false := decide_eq_false h1
    rw [d1]
    go_enter Tryd.func28, Tryd.ntmps28
    go_wp2
    go_ret
    exact ⟨rfl, rfl⟩
def shAt (l : List S79) (i : Nat) : S79 := l.getD i z79
def shOk (l : List S79) (i : Nat) : Bool := stampB (shAt l i).f0 && (offB (shAt l i).f1 && (decide (i = 0) || !decide ((shAt l i).f0 < (shAt l (i - 1)).f0 + 200000)))
def mayS (l : List S79) : Bool := (List.range l.length).all (shOk l) && decide (l.length ≤ 64)
def zone_mayShifts.f (l : List S79) : Option Bool := some (mayS l)
theorem mayS_no {l : List S79} {i : Nat} (hi : i < l.length) (h : shOk l i = false) : mayS l = false := by
  unfold mayS
  rw [show (List.range l.length).all (shOk l) = false from ?_]
  · rfl
  · rw [List.all_eq_false]
    exact ⟨i, List.mem_range.2 hi, by rw [h]; decide⟩
def ShAt (w : World) (l : List S79) (k : Nat) (wr : World) : Prop := (∀ i, i < k → shOk l i = true) ∧ Below w.heap.size w wr
theorem stampB_bd {t : Int} (h : stampB t = true) : -62135596800 ≤ t ∧ t ≤ 253402300799 := by simpa [stampB] using h
set_option maxHeartbeats 2000000 in
set_option maxRecDepth 100000 in
theorem zone_mayShifts.calls (A : Option Addr) (c : Nat) (l : List S79) (r : Bool) (w : World) (hr : Kd.C k79 w A l.length l) (hc : l.length ≤ c) (h : zone_mayShifts.f l = some r) :
    Calls Tryd.prog 29 #[.slice A l.length c] w fun e w' => e = .returned (.bool r) ∧ Below w.heap.size w w' := by
  have hm := Kd.C_max hr
  have HR := Lib.hid hr
  have hr' : r = mayS l := (Option.some.inj h).symm
  subst hr'
  clear hr h
  go_enter Tryd.func29, Tryd.ntmps29
  go_wp2
  go_loopw [7] (fun i wr => ∃ k : Nat, i = .int .i64 k ∧ k ≤ l.length ∧ Hid (ShAt w l k wr)) (fun i _ => l.length - (intOf i).toNat)
  case atStart => exact ⟨0, by go_num, Nat.zero_le _, Lib.hid ⟨fun i hi => absurd hi (Nat.not_lt_zero _), Below.refl _ _⟩⟩
  case round =>
    obtain ⟨k, rfl, hk, HA⟩ := hrel
    by_cases hlt : k < l.length
    · obtain ⟨ad, rfl, e0, e1⟩ := at_T79 (Kd.C_below HR.out HA.out.2) (k : Int) (by omega) (by omega)
      rw [Int.toNat_natCast] at e0 e1
      have hx0 : rd_T79 l (k : Int) = shAt l k := rfl
      rw [hx0] at e0 e1
      have hok : shOk l k = (stampB (shAt l k).f0 && (offB (shAt l k).f1 && (decide (k = 0) || !decide ((shAt l k).f0 < (shAt l (k - 1)).f0 + 200000)))) := rfl
      generalize shAt l k = x at e0 e1 hok
      have n0 : wr.heap.size ≠ (ad.add (k * 2)).block := Nat.ne_of_gt (World.block_lt_of_cell? wr _ e0)
      have HOk := Lib.hid hok
      have HS := Lib.hid (fun W => stampB_any x.f0 W)
      have HO := Lib.hid (fun W => offB_any x.f1 W)
      clear hx0 hok
      cases h1 : stampB x.f0 with
      | false =>
        rw [h1] at HS
        have HF : Hid (mayS l = false) := Lib.hid (mayS_no hlt (by rw [HOk.out, h1]; rfl))
        clear h1
        go_wp2_with fail
        go_quiet ((go_at_call 42; exact Calls.quiet_of_same (HS.out _)))
        go_wp2
        go_ret
        exact ⟨by rw [HF.out]; rfl, pw_below_drewN (HA.out.2.alloc HA.out.2.size _) _⟩
      | true =>
        rw [h1] at HS
        cases h2 : offB x.f1 with
        | false =>
          rw [h2] at HO
          have HF : Hid (mayS l = false) := Lib.hid (mayS_no hlt (by rw [HOk.out, h1, h2]; rfl))
          clear h1 h2
          go_wp2_with fail
          go_quiet (first | (go_at_call 42; exact Calls.quiet_of_same (HS.out _)) | (go_at_call 28; exact Calls.quiet_of_same (HO.out _)))
          go_wp2
          go_ret
          exact ⟨by rw [HF.out]; rfl, pw_below_drewN (HA.out.2.alloc HA.out.2.size _) _⟩
        | true =>
          rw [h2] at HO
          by_cases hk0 : k = 0
          · have d3 : decide ((0 : Int) < (k : Int)) = false := decide_eq_false (by omega)
            have d4 : decide (0 < k) = false := decide_eq_false (by omega)
            have HT : Hid (shOk l k = true) := Lib.hid (by rw [HOk.out, h1, h2, hk0]; rfl)
            have hk1 : (k : Int) ≤ 0 := by omega
            clear h1 h2 hk0
            go_wp2_with fail
            go_quiet (first | (go_at_call 42; exact Calls.quiet_of_same (HS.out _)) | (go_at_call 28; exact Calls.quiet_of_same (HO.out _)))
            go_wp2
            go_roundw
            case measure => simp [intOf]; omega
            case rel => exact ⟨k + 1, by go_num, by omega, Lib.hid ⟨fun i hi => by
              by_cases he : i = k
              · rw [he]; exact HT.out
              · exact HA.out.1 i (by omega), pw_below_drewN (HA.out.2.alloc HA.out.2.size _) _⟩⟩
          · obtain ⟨m, rfl⟩ : ∃ m, k = m + 1 := ⟨k - 1, by omega⟩
            have d3 : decide ((0 : Int) < (m : Int) + 1) = true := decide_eq_true (by omega)
            have d4 : decide ((0 : Int) < ((m + 1 : Nat) : Int)) = true := decide_eq_true (by omega)
            obtain ⟨ad', he, g0, g1⟩ := at_T79 (Kd.C_below HR.out HA.out.2) (m : Int) (by omega) (by omega)
            cases he
            rw [Int.toNat_natCast] at g0
            have hx0 : rd_T79 l (m : Int) = shAt l m := rfl
            rw [hx0] at g0
            have hb := stampB_bd (show stampB (shAt l m).f0 = true by
              have := HA.out.1 m (by omega)
              unfold shOk at this
              simp only [Bool.and_eq_true] at this
              exact this.1)
            have hpm : shAt l (m + 1 - 1) = shAt l m := by rw [Nat.add_sub_cancel]
            rw [hpm] at HOk
            clear g1 hx0 hpm
            have n2 : wr.heap.size ≠ (ad.add (m * 2)).block := Nat.ne_of_gt (World.block_lt_of_cell? wr _ g0)
            have n3 : (ad.add (m * 2)).block < wr.heap.size := World.block_lt_of_cell? wr _ g0
            have n4 : (ad.add (m * 2)).block ≠ wr.heap.size := by omega
            have b1 : (0 : Int) ≤ (m : Int) := by omega
            have b2 : (m : Int) < (l.length : Int) := by omega
            have e1' : IntKind.i64.wrap ((m : Int) + 1 - 1) = (m : Int) := by rw [IntKind.wrap_i64]; omega
            have e2' : IntKind.i64.wrap (m : Int) = (m : Int) := by rw [IntKind.wrap_i64]; omega
            generalize hy : (shAt l m).f0 = y at g0 hb HOk
            have HY := Lib.hid hy
            have hb1 := hb.1
            have hb2 := hb.2
            have e4 : IntKind.i64.wrap (y + 200000) = y + 200000 := by rw [IntKind.wrap_i64]; omega
            clear hb hy
            by_cases hlt2 : x.f0 < y + 200000
            · have d5 : decide (x.f0 < y + 200000) = true := decide_eq_true hlt2
              have HF : Hid (mayS l = false) := Lib.hid (mayS_no hlt (by rw [HOk.out, h1, h2, d5]; simp))
              clear h1 h2 hk0
              go_wp2_with fail
              go_quiet (first | (go_at_call 42; exact Calls.quiet_of_same (HS.out _)) | (go_at_call 28; exact Calls.quiet_of_same (HO.out _)))
              go_wp2
              go_ret
              exact ⟨by rw [HF.out]; rfl, pw_below_drewN (HA.out.2.alloc HA.out.2.size _) _⟩
            · have d5 : decide (x.f0 < y + 200000) = false := decide_eq_false hlt2
              have HT : Hid (shOk l (m + 1) = true) := Lib.hid (by rw [HOk.out, h1, h2, d5]; simp)
              clear h1 h2 hk0
              go_wp2_with fail
              go_quiet (first | (go_at_call 42; exact Calls.quiet_of_same (HS.out _)) | (go_at_call 28; exact Calls.quiet_of_same (HO.out _)))
              go_wp2
              go_roundw
              case measure => simp [intOf]; omega
              case rel => exact ⟨m + 1 + 1, by go_num, by omega, Lib.hid ⟨fun i hi => by
                by_cases he : i = m + 1
                · rw [he]; exact HT.out
                · exact HA.out.1 i (by omega), pw_below_drewN (HA.out.2.alloc HA.out.2.size _) _⟩⟩
    · obtain rfl : k = l.length := by omega
      have hall : (List.range l.length).all (shOk l) = true := by
        rw [List.all_eq_true]
        intro i hi
        exact HA.out.1 i (List.mem_range.1 hi)
      have HF : Hid (mayS l = decide (l.length ≤ 64)) := Lib.hid (by unfold mayS; rw [hall]; rfl)
      clear hall
      go_wp2
      go_ret
      exact ⟨by rw [HF.out]; simp <;> omega, HA.out.2⟩
end Go.Proofs.YtohpimfanplloaaDoor.GO
