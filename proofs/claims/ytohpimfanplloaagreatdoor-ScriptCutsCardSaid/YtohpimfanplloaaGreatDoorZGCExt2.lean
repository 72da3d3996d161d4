/- meet.Print at the small meetings that script.Text makes, in the printed form. -/
import Derived.Test.YtohpimfanplloaaGreatDoorZDurT
import Derived.Test.YtohpimfanplloaaGreatDoorZMeetY
import Derived.Test.YtohpimfanplloaaGreatDoorZMP
import Derived.Test.YtohpimfanplloaaGreatDoorZGCExt
import Derived.Test.YtohpimfanplloaaGreatDoorZGCx1
import Derived.Test.YtohpimfanplloaaGreatDoorZGCx2
import Derived.Test.YtohpimfanplloaaGreatDoorZRuleP
import Derived.Test.YtohpimfanplloaaGreatDoorZRuleP4
import Derived.WalkKit
import Derived.Lib.Hide
set_option linter.unusedVariables false
set_option linter.unusedSimpArgs false
namespace Go.Proofs.YtohpimfanplloaaGreatDoor.GC
open Go.RowKit Go.Proofs.YtohpimfanplloaaGreatDoorW.PrintWords Go.Proofs.YtohpimfanplloaaGreatDoorW.PrintLast Go.Proofs.YtohpimfanplloaaGreatDoorW.PrintMore Go.Proofs.YtohpimfanplloaaGreatDoor.MP Go.Proofs.YtohpimfanplloaaGreatDoor.MeetY
structure S127 where
  f0 : Int
  f1 : Int
def z127 : S127 := ⟨(0 : Int), (0 : Int)⟩
def k127 : Kd S127 := Kd.iso (Kd.pair (Kd.int .i64) (Kd.int .i64)) (fun x : S127 => (x.f0, x.f1))
def NoLists (month : List Int) (week : List Int) (yday : List Int) (mday : List Int) (day : List (S127)) (hour : List Int) (minute : List Int) (second : List Int) (pos : List Int) (dates : List Int) (except : List Int) : Prop := month.length = 0 ∧ week.length = 0 ∧ yday.length = 0 ∧ mday.length = 0 ∧ day.length = 0 ∧ hour.length = 0 ∧ minute.length = 0 ∧ second.length = 0 ∧ pos.length = 0 ∧ dates.length = 0 ∧ except.length = 0
instance (month : List Int) (week : List Int) (yday : List Int) (mday : List Int) (day : List (S127)) (hour : List Int) (minute : List Int) (second : List Int) (pos : List Int) (dates : List Int) (except : List Int) : Decidable (NoLists month week yday mday day hour minute second pos dates except) := by unfold NoLists; infer_instance
def SmallRule (freq interval count untl wkst : Int) (ends : Bool) : Prop := (freq = 3 ∨ freq = 4) ∧ interval = 1 ∧ (1 ≤ count ∧ count ≤ 4) ∧ untl = 0 ∧ wkst = 0 ∧ ends = false
instance (freq interval count untl wkst : Int) (ends : Bool) : Decidable (SmallRule freq interval count untl wkst ends) := by unfold SmallRule; infer_instance
def SmallMeet (zone start dur : Int) (recurs : Bool) (freq interval count untl wkst : Int) (ends : Bool) : Prop :=
  (0 ≤ zone ∧ zone ≤ 1) ∧ (1767225600 ≤ start ∧ start ≤ 1772409600) ∧ (3600 ≤ dur ∧ dur ≤ 10800) ∧ ((recurs = true ∧ SmallRule freq interval count untl wkst ends) ∨ (recurs = false ∧ freq = 0 ∧ interval = 0 ∧ count = 0 ∧ untl = 0 ∧ wkst = 0 ∧ ends = false))
instance (zone start dur : Int) (recurs : Bool) (freq interval count untl wkst : Int) (ends : Bool) : Decidable (SmallMeet zone start dur recurs freq interval count untl wkst ends) := by unfold SmallMeet; infer_instance
def dg (n : Int) : UInt8 := UInt8.ofNat (48 + n.toNat)
def ruleT (freq count : Int) : ByteArray := if freq = 3 then ⟨#[70, 82, 69, 81, 61, 87, 69, 69, 75, 76, 89, 59, 67, 79, 85, 78, 84, 61, dg count]⟩ else ⟨#[70, 82, 69, 81, 61, 68, 65, 73, 76, 89, 59, 67, 79, 85, 78, 84, 61, dg count]⟩
def F0 : ByteArray := ⟨#[68, 84, 83, 84, 65, 82, 84, 59, 84, 90, 73, 68, 61]⟩
def F1 : ByteArray := ⟨#[68, 85, 82, 65, 84, 73, 79, 78, 58]⟩
def F2 : ByteArray := ⟨#[82, 82, 85, 76, 69, 58]⟩
def mlines (zone : Int) (t d : ByteArray) (recurs : Bool) (freq count : Int) : List ByteArray := if recurs = true then [F0 ++ ⟨#[dg zone]⟩ ++ ⟨#[58]⟩ ++ t, F1 ++ d, F2 ++ ruleT freq count] else [F0 ++ ⟨#[dg zone]⟩ ++ ⟨#[58]⟩ ++ t, F1 ++ d]
def meet_Print.f (zone start dur : Int) (recurs : Bool) (freq interval count untl wkst : Int) (ends : Bool) (month : List Int) (week : List Int) (yday : List Int) (mday : List Int) (day : List (S127)) (hour : List Int) (minute : List Int) (second : List Int) (pos : List Int) (dates : List Int) (except : List Int) : Option (List Int × Int) :=
  if SmallMeet zone start dur recurs freq interval count untl wkst ends ∧ NoLists month week yday mday day hour minute second pos dates except then (stamp_Text.f 60 start).bind fun t => (stamp_DurText.f dur).bind fun d => if t.1.size ≤ 64 ∧ d.1.size ≤ 64 ∧ d.2 = 0 then fold_Join.f 60 (mlines zone t.1 d.1 recurs freq count) else none else none
theorem itoa_dg (n : Int) (h : 0 ≤ n ∧ n ≤ 4) : strconv_Itoa.f n = some ⟨#[dg n]⟩ := by
  rcases (by omega : n = 0 ∨ n = 1 ∨ n = 2 ∨ n = 3 ∨ n = 4) with rfl | rfl | rfl | rfl | rfl <;> (unfold strconv_Itoa.f Lib.itoa; rw [if_pos (by decide), if_neg (by decide), Lib.decDigits, dif_pos (by decide)]; rfl)
theorem ruleT_size (f n : Int) : (ruleT f n).size ≤ 100 := by unfold ruleT; split <;> exact Nat.le_of_ble_eq_true rfl
theorem drawn_below {w w' : World} (h : Drawn0 w w') : Below w.heap.size w w' := by
  obtain ⟨n, rfl⟩ := h
  exact pw_below_drewN (Below.refl _ _) n
theorem front_any (i : Int) (r : ByteArray) (h : meet_front.f i = some r) (W : World) : Calls Tryz.prog 43 #[.int .i64 i] W (Ret (.string r) W) := (meet_front.calls i r W h).mono fun e w' h => ⟨h.1, drawn_below h.2⟩
theorem rule_any (f n : Int) (hf : f = 3 ∨ f = 4) (hn : 1 ≤ n ∧ n ≤ 4) (A1 : Option Addr) (c1 : Nat) (A2 : Option Addr) (c2 : Nat) (A3 : Option Addr) (c3 : Nat) (A4 : Option Addr) (c4 : Nat) (A5 : Option Addr) (c5 : Nat) (A6 : Option Addr) (c6 : Nat) (A7 : Option Addr) (c7 : Nat) (A8 : Option Addr) (c8 : Nat) (A9 : Option Addr) (c9 : Nat) (w : World) (hG : Glob w) : Calls Tryz.prog 45 #[.agg #[.int .i64 f, .int .i64 1, .int .i64 n, .int .i64 0, .int .i64 0, .bool false, .slice A1 0 c1, .slice A2 0 c2, .slice A3 0 c3, .slice A4 0 c4, .slice A5 0 c5, .slice A6 0 c6, .slice A7 0 c7, .slice A8 0 c8, .slice A9 0 c9]] w (Ret (.tuple #[.string (ruleT f n), .int .i64 0]) w) := by
  rcases hf with rfl | rfl
  · exact RuleP.rprint_3 n hn (dg n) rfl A1 c1 A2 c2 A3 c3 A4 c4 A5 c5 A6 c6 A7 c7 A8 c8 A9 c9 w hG
  · exact RuleP4.rprint_4 n hn (dg n) rfl A1 c1 A2 c2 A3 c3 A4 c4 A5 c5 A6 c6 A7 c7 A8 c8 A9 c9 w hG
set_option maxRecDepth 100000 in
theorem meet_Print.calls (zone start dur : Int) (recurs : Bool) (freq interval count untl wkst : Int) (ends : Bool) (A_month : Option Addr) (c_month : Nat) (month : List Int) (A_week : Option Addr) (c_week : Nat) (week : List Int) (A_yday : Option Addr) (c_yday : Nat) (yday : List Int) (A_mday : Option Addr) (c_mday : Nat) (mday : List Int) (A_day : Option Addr) (c_day : Nat) (day : List (S127)) (A_hour : Option Addr) (c_hour : Nat) (hour : List Int) (A_minute : Option Addr) (c_minute : Nat) (minute : List Int) (A_second : Option Addr) (c_second : Nat) (second : List Int) (A_pos : Option Addr) (c_pos : Nat) (pos : List Int) (A_dates : Option Addr) (c_dates : Nat) (dates : List Int) (A_except : Option Addr) (c_except : Nat) (except : List Int) (r1 : List Int) (r2 : Int) (w : World) (hr_month : Kd.C (Kd.int .i64) w A_month month.length month) (hc_month : month.length ≤ c_month) (hr_week : Kd.C (Kd.int .i64) w A_week week.length week) (hc_week : week.length ≤ c_week) (hr_yday : Kd.C (Kd.int .i64) w A_yday yday.length yday) (hc_yday : yday.length ≤ c_yday) (hr_mday : Kd.C (Kd.int .i64) w A_mday mday.length mday) (hc_mday : mday.length ≤ c_mday) (hr_day : Kd.C k127 w A_day day.length day) (hc_day : day.length ≤ c_day) (hr_hour : Kd.C (Kd.int .i64) w A_hour hour.length hour) (hc_hour : hour.length ≤ c_hour) (hr_minute : Kd.C (Kd.int .i64) w A_minute minute.length minute) (hc_minute : minute.length ≤ c_minute) (hr_second : Kd.C (Kd.int .i64) w A_second second.length second) (hc_second : second.length ≤ c_second) (hr_pos : Kd.C (Kd.int .i64) w A_pos pos.length pos) (hc_pos : pos.length ≤ c_pos) (hr_dates : Kd.C (Kd.int .i64) w A_dates dates.length dates) (hc_dates : dates.length ≤ c_dates) (hr_except : Kd.C (Kd.int .i64) w A_except except.length except) (hc_except : except.length ≤ c_except) (hG : Glob w)
    (h : meet_Print.f zone start dur recurs freq interval count untl wkst ends month week yday mday day hour minute second pos dates except = some (r1, r2)) :
    Calls Tryz.prog 29 #[.agg #[.int .i64 zone, .int .i64 start, .int .i64 dur, .bool recurs, .int .i64 freq, .int .i64 interval, .int .i64 count, .int .i64 untl, .int .i64 wkst, .bool ends, .slice A_month month.length c_month, .slice A_week week.length c_week, .slice A_yday yday.length c_yday, .slice A_mday mday.length c_mday, .slice A_day day.length c_day, .slice A_hour hour.length c_hour, .slice A_minute minute.length c_minute, .slice A_second second.length c_second, .slice A_pos pos.length c_pos, .slice A_dates dates.length c_dates, .slice A_except except.length c_except]] w fun e w' => ∃ v0_ : Value, e = .returned (.tuple #[v0_, .int .i64 r2]) ∧ Kd.R (Kd.int .u8) 5 w' w.heap.size (fun _ => True) v0_ r1 ∧ Below w.heap.size w w' := by
  clear hr_month hc_month hr_week hc_week hr_yday hc_yday hr_mday hc_mday hr_day hc_day hr_hour hc_hour hr_minute hc_minute hr_second hc_second hr_pos hc_pos hr_dates hc_dates hr_except hc_except
  unfold meet_Print.f at h
  by_cases hs : SmallMeet zone start dur recurs freq interval count untl wkst ends ∧ NoLists month week yday mday day hour minute second pos dates except
  · rw [if_pos hs] at h
    obtain ⟨⟨hz, ht, hd, hr⟩, hn⟩ := hs
    obtain ⟨n0, n1, n2, n3, n4, n5, n6, n7, n8, n9, n10⟩ := hn
    rw [n0, n1, n2, n3, n4, n5, n6, n7, n8, n9, n10]
    cases et : stamp_Text.f 60 start with
    | none => rw [et] at h; simp at h
    | some t =>
      obtain ⟨t, tr⟩ := t
      rw [et] at h
      simp only [Option.bind_some] at h
      cases ed : stamp_DurText.f dur with
      | none => rw [ed] at h; simp at h
      | some d =>
        obtain ⟨d, d0⟩ := d
        rw [ed] at h
        simp only [Option.bind_some] at h
        by_cases hsz : t.size ≤ 64 ∧ d.size ≤ 64 ∧ d0 = 0
        · rw [if_pos hsz] at h
          obtain ⟨hs1, hs2, rfl⟩ := hsz
          rcases hr with ⟨rfl, hf, rfl, hc, rfl, rfl, rfl⟩ | ⟨rfl, rfl, rfl, rfl, rfl, rfl, rfl⟩
          · have hj : fold_Join.f 60 [F0 ++ ⟨#[dg zone]⟩ ++ ⟨#[58]⟩ ++ t, F1 ++ d, F2 ++ ruleT freq count] = some (r1, r2) := by unfold mlines at h; rw [if_pos rfl] at h; exact h
            exact mprint_rec zone start dur freq 1 count 0 0 false A_month c_month A_week c_week A_yday c_yday A_mday c_mday A_day c_day A_hour c_hour A_minute c_minute A_second c_second A_pos c_pos A_dates c_dates A_except c_except w Glob (fun W hb => hG.below hb) F0 F1 F2 ⟨#[dg zone]⟩ t d (ruleT freq count) tr r1 r2
              (fun W => mmay_rec zone start dur (by omega) (by omega) (by omega) freq count hf hc A_month c_month A_week c_week A_yday c_yday A_mday c_mday A_day c_day A_hour c_hour A_minute c_minute A_second c_second A_pos c_pos A_dates c_dates A_except c_except W) (fun W hW => stamp_Text.calls 60 start t tr W hW et) (fun W hW => stamp_DurText.calls dur d 0 W hW ed) (fun W hW => strconv_Itoa.calls zone _ W hW (itoa_dg zone (by omega)))
              (front_any 0 F0 rfl) (front_any 1 F1 rfl) (fun W hW => rule_any freq count hf hc A_month c_month A_week c_week A_yday c_yday A_mday c_mday A_day c_day A_hour c_hour A_minute c_minute A_second c_second A_pos c_pos W hW) (front_any 2 F2 rfl) (ruleT_size _ _) (Nat.le_of_ble_eq_true rfl)
              (fun W A c hC hc => fold_Join.calls 60 A c [F0 ++ ⟨#[dg zone]⟩ ++ ⟨#[58]⟩ ++ t, F1 ++ d, F2 ++ ruleT freq count] r1 r2 W hC hc hj) (Nat.le_of_ble_eq_true rfl) (Nat.le_of_ble_eq_true rfl) (Nat.le_of_ble_eq_true rfl) (by omega) (by omega)
          · have hj : fold_Join.f 60 [F0 ++ ⟨#[dg zone]⟩ ++ ⟨#[58]⟩ ++ t, F1 ++ d] = some (r1, r2) := by unfold mlines at h; rw [if_neg (by decide)] at h; exact h
            exact mprint_zero zone start dur 0 0 0 0 0 false A_month c_month A_week c_week A_yday c_yday A_mday c_mday A_day c_day A_hour c_hour A_minute c_minute A_second c_second A_pos c_pos A_dates c_dates A_except c_except w Glob (fun W hb => hG.below hb) F0 F1 F2 ⟨#[dg zone]⟩ t d d tr r1 r2
              (fun W => mmay_zero zone start dur (by omega) (by omega) (by omega) A_month c_month A_week c_week A_yday c_yday A_mday c_mday A_day c_day A_hour c_hour A_minute c_minute A_second c_second A_pos c_pos A_dates c_dates A_except c_except W) (fun W hW => stamp_Text.calls 60 start t tr W hW et) (fun W hW => stamp_DurText.calls dur d 0 W hW ed) (fun W hW => strconv_Itoa.calls zone _ W hW (itoa_dg zone (by omega)))
              (front_any 0 F0 rfl) (front_any 1 F1 rfl)
              (fun W A c hC hc => fold_Join.calls 60 A c [F0 ++ ⟨#[dg zone]⟩ ++ ⟨#[58]⟩ ++ t, F1 ++ d] r1 r2 W hC hc hj) (Nat.le_of_ble_eq_true rfl) (Nat.le_of_ble_eq_true rfl) (Nat.le_of_ble_eq_true rfl) (by omega) (by omega)
        · rw [if_neg hsz] at h; cases h
  · rw [if_neg hs] at h; cases h
end Go.Proofs.YtohpimfanplloaaGreatDoor.GC
