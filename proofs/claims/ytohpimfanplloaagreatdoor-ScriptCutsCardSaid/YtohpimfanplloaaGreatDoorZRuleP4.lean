/- rule.Print at small rules. -/
import Derived.Test.YtohpimfanplloaaGreatDoorZRuleP
import Derived.Test.YtohpimfanplloaaGreatDoorZRuleM
import Derived.Test.YtohpimfanplloaaGreatDoorZGCExt
import Derived.Test.YtohpimfanplloaaGreatDoorZGCx1
import Derived.Laws.EntriesVeiled
import Derived.WalkKit
import Derived.WalkSpells
import Derived.Lib.Hide
import Derived.Deep.RegionHeld3
import Derived.Deep.QuietTactic
import Derived.BigQuiet
set_option linter.unusedVariables false
set_option linter.unusedSimpArgs false
namespace Go.Proofs.YtohpimfanplloaaGreatDoor.RuleP4
open Go.Proofs.YtohpimfanplloaaGreatDoor.RuleM Go.Proofs.YtohpimfanplloaaGreatDoor.RuleP Go.RowKit Go.Proofs.YtohpimfanplloaaGreatDoorW.PrintWords Go.Proofs.YtohpimfanplloaaGreatDoorW.PrintLast Go.Proofs.YtohpimfanplloaaGreatDoorW.PrintMore Go.Proofs.YtohpimfanplloaaGreatDoor.GC
set_option maxRecDepth 100000 in
set_option maxHeartbeats 4000000 in
theorem put_count4 {w : World} {g : Nat} {vals : Array Value} {b p : Nat} {wc : World} (c : UInt8) (h : PP w g vals ⟨#[70, 82, 69, 81, 61, 68, 65, 73, 76, 89]⟩ b p wc) (bo : Bool) (hbo : bo = true) : Calls Tryz.prog 75 #[.string ⟨#[67, 79, 85, 78, 84]⟩, .string ⟨#[c]⟩, .bool bo, .pointer (some ⟨b, 0, none⟩)] wc fun e w' => e = .returned (.tuple #[]) ∧ PP w g vals ⟨#[70, 82, 69, 81, 61, 68, 65, 73, 76, 89, 59, 67, 79, 85, 78, 84, 61, c]⟩ b p w' := by
  subst hbo
  have H := Lib.hid h
  have kb := h.cb
  have kf := blk_frozen h.text 0
  have e1 : (⟨#[59]⟩ : ByteArray) ++ ⟨#[67, 79, 85, 78, 84]⟩ = ⟨#[59, 67, 79, 85, 78, 84]⟩ := app_L [59] [67, 79, 85, 78, 84]
  have e2 : (⟨#[59, 67, 79, 85, 78, 84]⟩ : ByteArray) ++ ⟨#[61]⟩ = ⟨#[59, 67, 79, 85, 78, 84, 61]⟩ := app_L [59, 67, 79, 85, 78, 84] [61]
  have e3 : (⟨#[59, 67, 79, 85, 78, 84, 61]⟩ : ByteArray) ++ ⟨#[c]⟩ = ⟨#[59, 67, 79, 85, 78, 84, 61, c]⟩ := app_L [59, 67, 79, 85, 78, 84, 61] [c]
  have e4 : (⟨#[70, 82, 69, 81, 61, 68, 65, 73, 76, 89]⟩ : ByteArray) ++ ⟨#[59, 67, 79, 85, 78, 84, 61, c]⟩ = ⟨#[70, 82, 69, 81, 61, 68, 65, 73, 76, 89, 59, 67, 79, 85, 78, 84, 61, c]⟩ := app_L [70, 82, 69, 81, 61, 68, 65, 73, 76, 89] [59, 67, 79, 85, 78, 84, 61, c]
  clear h
  go_enter Tryz.func75, Tryz.ntmps75
  go_wp2
  first | go_ret | go_ret2 | go_end0 | skip
  refine ⟨rfl, ?_⟩
  have h := H.out
  exact ⟨h.bel.setCell (by exact h.wb) _, blk_far h.rule h.gb _, blk_put h.text 0 _ rfl, blk_far h.put h.pb _, h.gb, h.pg, h.pb, h.wb⟩
set_option maxRecDepth 100000 in
set_option maxHeartbeats 4000000 in
theorem rprint_4 (n : Int) (hn : 1 ≤ n ∧ n ≤ 4) (c : UInt8) (hc : c = UInt8.ofNat (48 + n.toNat)) (A1 : Option Addr) (c1 : Nat) (A2 : Option Addr) (c2 : Nat) (A3 : Option Addr) (c3 : Nat) (A4 : Option Addr) (c4 : Nat) (A5 : Option Addr) (c5 : Nat) (A6 : Option Addr) (c6 : Nat) (A7 : Option Addr) (c7 : Nat) (A8 : Option Addr) (c8 : Nat) (A9 : Option Addr) (c9 : Nat) (w : World) (hG : Glob w) : Calls Tryz.prog 45 #[.agg #[.int .i64 4, .int .i64 1, .int .i64 n, .int .i64 0, .int .i64 0, .bool false, .slice A1 0 c1, .slice A2 0 c2, .slice A3 0 c3, .slice A4 0 c4, .slice A5 0 c5, .slice A6 0 c6, .slice A7 0 c7, .slice A8 0 c8, .slice A9 0 c9]] w fun e w' => e = .returned (.tuple #[.string ⟨#[70, 82, 69, 81, 61, 68, 65, 73, 76, 89, 59, 67, 79, 85, 78, 84, 61, c]⟩, .int .i64 0]) ∧ Below w.heap.size w w' := by
  have HG := Lib.hid hG
  have HM := Lib.hid (fun w => rulemay_ok 4 n (by omega) hn A1 c1 A2 c2 A3 c3 A4 c4 A5 c5 A6 c6 A7 c7 A8 c8 A9 c9 w)
  have HI := Lib.hid (fun w hG => strconv_Itoa.calls n ⟨#[c]⟩ w hG (by rw [hc]; exact itoa_dg n hn))
  have HI1 := Lib.hid (fun w hG => strconv_Itoa.calls 1 ⟨#[49]⟩ w hG (itoa_dg 1 (by omega)))
  have n0 : (n == 0) = false := by simp; omega
  have HN := Lib.hid hn
  clear hG hn hc
  have e1 : (⟨#[70, 82, 69, 81, 61]⟩ : ByteArray) ++ ⟨#[68, 65, 73, 76, 89]⟩ = ⟨#[70, 82, 69, 81, 61, 68, 65, 73, 76, 89]⟩ := app_L [70, 82, 69, 81, 61] [68, 65, 73, 76, 89]
  have HB := Lib.hid ((Below.refl w.heap.size w).alloc (Nat.le_refl _) (.cells #[.int .i64 4, .int .i64 1, .int .i64 n, .int .i64 0, .int .i64 0, .bool false, .slice A1 0 c1, .slice A2 0 c2, .slice A3 0 c3, .slice A4 0 c4, .slice A5 0 c5, .slice A6 0 c6, .slice A7 0 c7, .slice A8 0 c8, .slice A9 0 c9] 79))
  have HA := Lib.hid (blk_new w (.cells #[.int .i64 4, .int .i64 1, .int .i64 n, .int .i64 0, .int .i64 0, .bool false, .slice A1 0 c1, .slice A2 0 c2, .slice A3 0 c3, .slice A4 0 c4, .slice A5 0 c5, .slice A6 0 c6, .slice A7 0 c7, .slice A8 0 c8, .slice A9 0 c9] 79))
  go_enter Tryz.func45, Tryz.ntmps45
  have k0 := (blk_cell HA.out 0).trans rfl
  have k1 := (blk_cell HA.out 1).trans rfl
  have k2 := (blk_cell HA.out 2).trans rfl
  have k3 := (blk_cell HA.out 3).trans rfl
  have k4 := (blk_cell HA.out 4).trans rfl
  have k5 := (blk_cell HA.out 5).trans rfl
  have k6 := (blk_cell HA.out 6).trans rfl
  have k7 := (blk_cell HA.out 7).trans rfl
  have k8 := (blk_cell HA.out 8).trans rfl
  have k9 := (blk_cell HA.out 9).trans rfl
  have k10 := (blk_cell HA.out 10).trans rfl
  have k11 := (blk_cell HA.out 11).trans rfl
  have k12 := (blk_cell HA.out 12).trans rfl
  have k13 := (blk_cell HA.out 13).trans rfl
  have k14 := (blk_cell HA.out 14).trans rfl
  obtain ⟨g, hg⟩ : ∃ g, g = w.heap.size := ⟨_, rfl⟩
  have Hg := Lib.hid hg
  rw [← hg] at HA
  clear hg
  go_wp2_with fail
  refine (HM.out _).mono ?_
  rintro e w1 ⟨rfl, hb⟩
  clear k0 k1 k2 k3 k4 k5 k6 k7 k8 k9 k10 k11 k12 k13 k14
  have HB' := Lib.hid (HB.out.trans (hb.mono HB.out.size))
  have HA' := Lib.hid (blk_below HA.out hb)
  clear HB HA hb
  have HB := HB'
  have HA := HA'
  clear HB' HA'
  rw [← Hg.out]
  have k0 := (blk_cell HA.out 0).trans rfl
  have k1 := (blk_cell HA.out 1).trans rfl
  have k2 := (blk_cell HA.out 2).trans rfl
  have k3 := (blk_cell HA.out 3).trans rfl
  have k4 := (blk_cell HA.out 4).trans rfl
  have k5 := (blk_cell HA.out 5).trans rfl
  have k6 := (blk_cell HA.out 6).trans rfl
  have k7 := (blk_cell HA.out 7).trans rfl
  have k8 := (blk_cell HA.out 8).trans rfl
  have k9 := (blk_cell HA.out 9).trans rfl
  have k10 := (blk_cell HA.out 10).trans rfl
  have k11 := (blk_cell HA.out 11).trans rfl
  have k12 := (blk_cell HA.out 12).trans rfl
  have k13 := (blk_cell HA.out 13).trans rfl
  have k14 := (blk_cell HA.out 14).trans rfl
  go_wp2_with fail
  have hg1 := blk_lt HA.out
  have hg2 : g ≠ w1.heap.size := by omega
  have hg3 : w1.heap.size ≠ g := by omega
  have hg4 : g ≠ w1.heap.size + 1 := by omega
  have hg5 : w1.heap.size + 1 ≠ g := by omega
  go_cut [4] (fun v4 wc => ∃ b : Nat, v4 = .pointer (some ⟨b, 0, none⟩) ∧ Hid (RP w g #[.int .i64 4, .int .i64 1, .int .i64 n, .int .i64 0, .int .i64 0, .bool false, .slice A1 0 c1, .slice A2 0 c2, .slice A3 0 c3, .slice A4 0 c4, .slice A5 0 c5, .slice A6 0 c6, .slice A7 0 c7, .slice A8 0 c8, .slice A9 0 c9] ⟨#[70, 82, 69, 81, 61, 68, 65, 73, 76, 89]⟩ b wc))
  case first =>
    go_region_with (go_at_call 74; refine (words_any _).mono ?_; rintro e w5 ⟨rfl, rfl⟩)
    all_goals
      go_wp2_with fail
      go_meet
      first | exact ⟨_, rfl, Lib.hid (rp_a HB.out HA.out _ _)⟩ | exact ⟨_, rfl, Lib.hid (rp_b HB.out HA.out _ _)⟩ | fail
  case rest =>
    clear k0 k1 k2 k3 k4 k5 k6 k7 k8 k9 k10 k11 k12 k13 k14 hg1 hg2 hg3 hg4 hg5
    obtain ⟨b, rfl, HR⟩ := hcut
    have HB' := Lib.hid HR.out.1
    have HA' := Lib.hid HR.out.2.1
    have HS := Lib.hid HR.out.2.2.1
    have hgb := HR.out.2.2.2.1
    have HWB := Lib.hid HR.out.2.2.2.2
    clear HA HB
    have HB := HB'
    have HA := HA'
    clear HB' HA'
    have hg1 := blk_lt HA.out
    have hg2 : g ≠ wc.heap.size := by omega
    have hg3 : wc.heap.size ≠ g := by omega
    have hb1 := blk_lt HS.out
    have hb2 : b ≠ wc.heap.size := by omega
    have hb3 : wc.heap.size ≠ b := by omega
    have k0 := (blk_cell HA.out 0).trans rfl
    have k1 := (blk_cell HA.out 1).trans rfl
    have k2 := (blk_cell HA.out 2).trans rfl
    have k3 := (blk_cell HA.out 3).trans rfl
    have k4 := (blk_cell HA.out 4).trans rfl
    have k5 := (blk_cell HA.out 5).trans rfl
    have k6 := (blk_cell HA.out 6).trans rfl
    have k7 := (blk_cell HA.out 7).trans rfl
    have k8 := (blk_cell HA.out 8).trans rfl
    have k9 := (blk_cell HA.out 9).trans rfl
    have k10 := (blk_cell HA.out 10).trans rfl
    have k11 := (blk_cell HA.out 11).trans rfl
    have k12 := (blk_cell HA.out 12).trans rfl
    have k13 := (blk_cell HA.out 13).trans rfl
    have k14 := (blk_cell HA.out 14).trans rfl
    obtain ⟨q, hq⟩ : ∃ q, stamp_Text.f 20 0 = some q := Option.isSome_iff_exists.1 (by decide +kernel)
    have HT := Lib.hid (fun w hG => stamp_Text.calls 20 0 q.1 q.2 w hG hq)
    have HP := Lib.hid (pp_new HR.out)
    obtain ⟨p, hp⟩ : ∃ p, p = wc.heap.size := ⟨_, rfl⟩
    clear hq
    go_wp2_with fail
    refine (HT.out _ (HG.out.below HP.out.bel)).mono ?_
    rintro e w2 ⟨rfl, hb⟩
    have HP' := Lib.hid (HP.out.below hb)
    clear hb HP k0 k1 k2 k3 k4 k5 k6 k7 k8 k9 k10 k11 k12 k13 k14 hg1 hg2 hg3 hb1 hb2 hb3
    have HP := HP'
    clear HP' HT
    go_wp2_with fail
    have kp := HP.out.cp
    have k1 := HP.out.cg 1 _ rfl
    have HIw := Lib.hid (HI1.out _ (HG.out.below HP.out.drew.bel))
    go_region_held3 (fun w' => w'.cell? ⟨wc.heap.size, 0, none⟩ = some (.func (.func 75) #[] #[.pointer (some ⟨b, 0, none⟩)]) ∧ w'.cell? ⟨g, 1, none⟩ = some (.int .i64 1)) (((try dsimp only); (repeat' apply And.intro) <;> first | (with_reducible assumption) | go_keep)) (first | (go_at_call 44; (with_reducible refine HIw.out.mono ?_); rintro e w5 ⟨rfl, hb5⟩; (have hp5 := HP.out.next hb5); (have kp5 := hp5.cp); (have k5 := hp5.cg 1 _ rfl)) | (go_at_call 75; refine (put_no _ _ _ _).mono ?_; rintro e w6 ⟨rfl, rfl⟩))
    have HP' := Lib.hid hp5
    clear kp k1 HIw HP kp5 k5 hp5 hb5
    have HP := HP'
    clear HP'
    go_wp2_with fail
    have kp := HP.out.cp
    have k2 := HP.out.cg 2 _ rfl
    have HIw := Lib.hid (HI.out _ (HG.out.below HP.out.drew.bel))
    go_region_held3 (fun w' => w'.cell? ⟨wc.heap.size, 0, none⟩ = some (.func (.func 75) #[] #[.pointer (some ⟨b, 0, none⟩)]) ∧ w'.cell? ⟨g, 2, none⟩ = some (.int .i64 n)) (((try dsimp only); (repeat' apply And.intro) <;> first | (with_reducible assumption) | go_keep)) (first | (go_at_call 44; (with_reducible refine HIw.out.mono ?_); rintro e w5 ⟨rfl, hb5⟩; (have hp5 := HP.out.next hb5); (have kp5 := hp5.cp); (have k5 := hp5.cg 2 _ rfl)) | (go_at_call 75; refine (put_count4 c hp5 _ ?_).mono ?_; (· (have hnn := HN.out; first | rfl | (simp; omega))); rintro e w6 ⟨rfl, hp6⟩; (have kp6 := hp6.cp); (have k6 := hp6.cg 2 _ rfl)))
    have HP' := Lib.hid hp6
    clear kp k2 HIw HP kp5 k5 hp5 hb5 kp6 k6 hp6
    have HP := HP'
    clear HP'
    have kp := HP.out.cp
    have k5 := HP.out.cg 5 _ rfl
    go_wp2_with fail
    refine (put_no _ _ _ _).mono ?_
    rintro e w7 ⟨rfl, rfl⟩
    clear k5
    have k6 := HP.out.cg 6 _ rfl
    go_wp2_with fail
    refine (list_nil _ _ _ _ _ _ HP.out.put).mono ?_
    rintro e w8 ⟨rfl, hb⟩
    have HP' := Lib.hid (HP.out.below hb)
    clear hb HP kp k6
    have HP := HP'
    clear HP'
    have kp := HP.out.cp
    have k7 := HP.out.cg 7 _ rfl
    go_wp2_with fail
    refine (list_nil _ _ _ _ _ _ HP.out.put).mono ?_
    rintro e w8 ⟨rfl, hb⟩
    have HP' := Lib.hid (HP.out.below hb)
    clear hb HP kp k7
    have HP := HP'
    clear HP'
    have kp := HP.out.cp
    have k8 := HP.out.cg 8 _ rfl
    go_wp2_with fail
    refine (list_nil _ _ _ _ _ _ HP.out.put).mono ?_
    rintro e w8 ⟨rfl, hb⟩
    have HP' := Lib.hid (HP.out.below hb)
    clear hb HP kp k8
    have HP := HP'
    clear HP'
    have kp := HP.out.cp
    have k9 := HP.out.cg 9 _ rfl
    go_wp2_with fail
    refine (list_nil _ _ _ _ _ _ HP.out.put).mono ?_
    rintro e w8 ⟨rfl, hb⟩
    have HP' := Lib.hid (HP.out.below hb)
    clear hb HP kp k9
    have HP := HP'
    clear HP'
    have kp := HP.out.cp
    go_wp2_with fail
    clear kp
    have kp := HP.out.cp
    have k10 := HP.out.cg 10 _ rfl
    have HIw := Lib.hid (rdays_nil A5 c5 w8.drew)
    go_region_held3 (fun w' => w'.cell? ⟨wc.heap.size, 0, none⟩ = some (.func (.func 75) #[] #[.pointer (some ⟨b, 0, none⟩)]) ∧ w'.cell? ⟨g, 10, none⟩ = some (.slice A5 0 c5)) (((try dsimp only); (repeat' apply And.intro) <;> first | (with_reducible assumption) | go_keep)) (first | (go_at_call 78; (with_reducible refine HIw.out.mono ?_); rintro e w5 ⟨rfl, hb5⟩; (have hp5 := HP.out.next hb5); (have kp5 := hp5.cp); (have k5 := hp5.cg 10 _ rfl)) | (go_at_call 75; refine (put_no _ _ _ _).mono ?_; rintro e w6 ⟨rfl, rfl⟩))
    have HP' := Lib.hid hp5
    clear kp k10 HIw HP kp5 k5 hp5 hb5
    have HP := HP'
    clear HP'
    have kp := HP.out.cp
    have k11 := HP.out.cg 11 _ rfl
    go_wp2_with fail
    refine (list_nil _ _ _ _ _ _ HP.out.put).mono ?_
    rintro e w8 ⟨rfl, hb⟩
    have HP' := Lib.hid (HP.out.below hb)
    clear hb HP kp k11
    have HP := HP'
    clear HP'
    have kp := HP.out.cp
    have k12 := HP.out.cg 12 _ rfl
    go_wp2_with fail
    refine (list_nil _ _ _ _ _ _ HP.out.put).mono ?_
    rintro e w8 ⟨rfl, hb⟩
    have HP' := Lib.hid (HP.out.below hb)
    clear hb HP kp k12
    have HP := HP'
    clear HP'
    have kp := HP.out.cp
    have k13 := HP.out.cg 13 _ rfl
    go_wp2_with fail
    refine (list_nil _ _ _ _ _ _ HP.out.put).mono ?_
    rintro e w8 ⟨rfl, hb⟩
    have HP' := Lib.hid (HP.out.below hb)
    clear hb HP kp k13
    have HP := HP'
    clear HP'
    have kp := HP.out.cp
    have k14 := HP.out.cg 14 _ rfl
    go_wp2_with fail
    refine (list_nil _ _ _ _ _ _ HP.out.put).mono ?_
    rintro e w8 ⟨rfl, hb⟩
    have HP' := Lib.hid (HP.out.below hb)
    clear hb HP kp k14
    have HP := HP'
    clear HP'
    have kp := HP.out.cp
    go_wp2_with fail
    have kb := HP.out.cb
    have k4 := HP.out.cg 4 _ rfl
    have l1 := blk_lt HP.out.put
    have l2 := blk_lt HP.out.rule
    have l3 := blk_lt HP.out.text
    have m1 : wc.heap.size ≠ w8.heap.size := by omega
    have m2 : w8.heap.size ≠ wc.heap.size := by omega
    have m3 : g ≠ w8.heap.size := by omega
    have m4 : w8.heap.size ≠ g := by omega
    have m5 : b ≠ w8.heap.size := by omega
    have m6 : w8.heap.size ≠ b := by omega
    go_region_with (first | (go_at_call 79; refine (wd_any _).mono ?_; rintro e w5 ⟨rfl, rfl⟩) | (go_at_call 75; refine (put_no _ _ _ _).mono ?_; rintro e w6 ⟨rfl, rfl⟩))
    all_goals
      go_wp2
      first | go_ret | go_ret2 | skip
      first | exact ⟨rfl, (HP.out.bel.alloc HP.out.bel.size _).drew⟩ | exact ⟨rfl, HP.out.bel.drew.alloc HP.out.bel.size _⟩ | fail
end Go.Proofs.YtohpimfanplloaaGreatDoor.RuleP4
