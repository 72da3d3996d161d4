/- stamp.DurText at the few arguments that script.Text makes, in the printed form. -/
import Derived.Test.YtohpimfanplloaaGreatDoorZGCExt
import Derived.WalkKit
import Derived.WalkSpells
import Derived.Lib.Hide
set_option linter.unusedVariables false
set_option linter.unusedSimpArgs false
namespace Go.Proofs.YtohpimfanplloaaGreatDoor.GC
open Go.RowKit Go.Proofs.YtohpimfanplloaaGreatDoorW.PrintWords Go.Proofs.YtohpimfanplloaaGreatDoorW.PrintLast Go.Proofs.YtohpimfanplloaaGreatDoorW.PrintMore
def durTxt (c : UInt8) : ByteArray := ⟨#[80, 84, c, 72]⟩
def stamp_DurText.f (a0 : Int) : Option (ByteArray × Int) := if a0 = 3600 then some (durTxt 49, 0) else if a0 = 7200 then some (durTxt 50, 0) else if a0 = 10800 then some (durTxt 51, 0) else none
theorem itoa_dig (n : Int) (h : n = 1 ∨ n = 2 ∨ n = 3 ∨ n = 4) : strconv_Itoa.f n = some ⟨#[UInt8.ofNat (48 + n.toNat)]⟩ := by
  rcases h with rfl | rfl | rfl | rfl <;> (unfold strconv_Itoa.f Lib.itoa; rw [if_pos (by decide), if_neg (by decide), Lib.decDigits, dif_pos (by decide)])
theorem durp_zero (s : ByteArray) (w : World) : Calls Tryz.prog 72 #[.int .i64 0, .string s] w fun e w' => e = .returned (.string ⟨#[]⟩) ∧ w' = w := by
  go_enter Tryz.func72, Tryz.ntmps72
  go_wp2
  go_ret
  exact ⟨rfl, rfl⟩
theorem app_B (a b : List UInt8) : (⟨a.toArray⟩ : ByteArray) ++ ⟨b.toArray⟩ = ⟨(a ++ b).toArray⟩ := by
  apply ByteArray.ext
  simp [ByteArray.data_append]
theorem durp_one (c : UInt8) (n : Int) (h : n = 1 ∨ n = 2 ∨ n = 3) (hc : c = UInt8.ofNat (48 + n.toNat)) (w : World) (hG : Glob w) : Calls Tryz.prog 72 #[.int .i64 n, .string ⟨#[72]⟩] w fun e w' => e = .returned (.string ⟨#[c, 72]⟩) ∧ Below w.heap.size w w' := by
  have d : (n == 0) = false := by rcases h with rfl | rfl | rfl <;> rfl
  have HI := Lib.hid (strconv_Itoa.calls n ⟨#[c]⟩ w hG (by rw [hc]; exact itoa_dig n (by omega)))
  have e1 : (⟨#[c]⟩ : ByteArray) ++ ⟨#[72]⟩ = ⟨#[c, 72]⟩ := app_B [c] [72]
  clear hG h hc
  go_enter Tryz.func72, Tryz.ntmps72
  go_wp2_with fail
  refine HI.out.mono ?_
  rintro e w1 ⟨rfl, hb⟩
  have HB := Lib.hid hb
  clear hb
  go_wp2
  go_ret
  exact ⟨rfl, HB.out⟩
set_option maxHeartbeats 1000000 in
theorem dur_one (n : Int) (h : n = 1 ∨ n = 2 ∨ n = 3) (w : World) (hG : Glob w) : Calls Tryz.prog 42 #[.int .i64 (n * 3600)] w fun e w' => e = .returned (.tuple #[.string (durTxt (UInt8.ofNat (48 + n.toNat))), .int .i64 0]) ∧ Below w.heap.size w w' := by
  obtain ⟨c, hc⟩ : ∃ c, c = UInt8.ofNat (48 + n.toNat) := ⟨_, rfl⟩
  have HP := Lib.hid (fun w => durp_one c n h hc w)
  rw [← hc]
  have e1 : (⟨#[80]⟩ : ByteArray) ++ ⟨#[]⟩ = ⟨#[80]⟩ := app_B [80] []
  have e2 : (⟨#[84]⟩ : ByteArray) ++ ⟨#[c, 72]⟩ = ⟨#[84, c, 72]⟩ := app_B [84] [c, 72]
  have e3 : (⟨#[84, c, 72]⟩ : ByteArray) ++ ⟨#[]⟩ = ⟨#[84, c, 72]⟩ := app_B [84, c, 72] []
  have e4 : (⟨#[80]⟩ : ByteArray) ++ ⟨#[84, c, 72]⟩ = durTxt c := app_B [80] [84, c, 72]
  have l1 : decide (n * 3600 < 1) = false := decide_eq_false (by omega)
  have l2 : decide (2147483648 < n * 3600) = false := decide_eq_false (by omega)
  have HG := Lib.hid hG
  clear hG hc
  rcases h with rfl | rfl | rfl
  all_goals
    go_enter Tryz.func42, Tryz.ntmps42
    go_wp2_with fail
    refine (durp_zero _ _).mono ?_
    rintro e w1 ⟨rfl, rfl⟩
    go_wp2_with fail
    refine (HP.out _ HG.out).mono ?_
    rintro e w2 ⟨rfl, hb⟩
    have HB := Lib.hid hb
    clear hb
    go_wp2_with fail
    refine (durp_zero _ _).mono ?_
    rintro e w3 ⟨rfl, rfl⟩
    go_wp2_with fail
    refine (durp_zero _ _).mono ?_
    rintro e w4 ⟨rfl, rfl⟩
    go_wp2
    go_ret2
    exact ⟨rfl, HB.out⟩
theorem stamp_DurText.calls (a0 : Int) (r1 : ByteArray) (r2 : Int) (w : World) (hG : Glob w) (h : stamp_DurText.f a0 = some (r1, r2)) :
    Calls Tryz.prog 42 #[.int .i64 a0] w fun e w' => e = .returned (.tuple #[.string r1, .int .i64 r2]) ∧ Below w.heap.size w w' := by
  unfold stamp_DurText.f at h
  by_cases h1 : a0 = 3600
  · subst h1
    rw [if_pos rfl] at h
    cases h
    exact dur_one 1 (.inl rfl) w hG
  · rw [if_neg h1] at h
    by_cases h2 : a0 = 7200
    · subst h2
      rw [if_pos rfl] at h
      cases h
      exact dur_one 2 (.inr (.inl rfl)) w hG
    · rw [if_neg h2] at h
      by_cases h3 : a0 = 10800
      · subst h3
        rw [if_pos rfl] at h
        cases h
        exact dur_one 3 (.inr (.inr rfl)) w hG
      · rw [if_neg h3] at h
        cases h
end Go.Proofs.YtohpimfanplloaaGreatDoor.GC
