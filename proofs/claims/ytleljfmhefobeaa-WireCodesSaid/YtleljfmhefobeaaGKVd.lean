/- The reference's Decode: a walk by hand. -/
import Derived.Test.YtleljfmhefobeaaGKTail
import Derived.Test.YtleljfmhefobeaaGKRr
import Derived.WalkKit
import Derived.WalkSpells
import Derived.Lib.Hide
import Derived.Deep.RegionHeld3
import Derived.Deep.DeepCutAuto
import Derived.Deep.CutRange
set_option linter.unusedVariables false
set_option linter.unusedSimpArgs false
namespace Go.Proofs.Ytleljfmhefobeaa.GKVd
open Go.RowKit Go.Proofs.YtleljfmhefobeaaW.PrintWords Go.Proofs.YtleljfmhefobeaaW.PrintLast Go.Proofs.YtleljfmhefobeaaW.PrintMore Go.Proofs.Ytleljfmhefobeaa.GK Go.Proofs.Ytleljfmhefobeaa.GKPa Go.Proofs.Ytleljfmhefobeaa.GKPe Go.Proofs.Ytleljfmhefobeaa.GKPw Go.Proofs.Ytleljfmhefobeaa.GKSrc Go.Proofs.Ytleljfmhefobeaa.GKDec Go.Proofs.Ytleljfmhefobeaa.GKRd Go.Proofs.Ytleljfmhefobeaa.GKRa Go.Proofs.Ytleljfmhefobeaa.GKRr Go.Proofs.Ytleljfmhefobeaa.GKTail Go.Proofs.Ytleljfmhefobeaa.GKB

set_option maxHeartbeats 400000 in
theorem num_any (xs : List Int) (A : Option Addr) (c : Nat) (w : World) (hb : bytesL xs) (h6 : xs.length ≤ 6) (hc : xs.length ≤ c) (hC : Kd.C (Kd.int .u8) w A xs.length xs) :
    Calls Try.prog 52 #[.slice A xs.length c] w (fun e w' => e = .returned (.int .i64 (num xs)) ∧ w' = w) := by
  go_enter Try.func52, Try.ntmps52
  go_wp2
  go_loop [3, 4] (fun v i => ∃ k : Nat, k ≤ xs.length ∧ i = .int .i64 k ∧ v = .int .i64 (num (xs.take k))) (fun _ i => xs.length - (intOf i).toNat)
  case atStart => exact ⟨0, Nat.zero_le _, rfl, rfl⟩
  case round =>
    obtain ⟨k, hk, rfl, rfl⟩ := hrel
    by_cases hlt : k < xs.length
    · obtain ⟨ad, rfl, hcell⟩ := Kd.at_int hC (k : Int) (by omega) (by omega)
      rw [Int.toNat_natCast] at hcell
      have hx := hb (rd xs k) (by rw [rd_get hlt]; exact List.getElem_mem _)
      have hx0 := hx.1
      have hx1 := hx.2
      have hns := num_small (xs.take k) (fun x hx => hb x (List.mem_of_mem_take hx)) (by rw [List.length_take]; omega)
      have hn0 := hns.1
      have hn1 := hns.2
      have HS := Lib.hid (show num (xs.take (k + 1)) = num (xs.take k) * 256 + rd xs k by rw [take_succ_rd xs k hlt, num_snoc])
      clear hx hns hb hC
      generalize num (xs.take k) = v at *
      generalize rd xs k = x at *
      have hw1 : IntKind.i64.wrap (256 * v) = 256 * v := by rw [IntKind.wrap_i64]; omega
      have hw2 : IntKind.i64.wrap (256 * v + x) = 256 * v + x := by rw [IntKind.wrap_i64]; omega
      go_wp2
      exact ⟨⟨k + 1, by omega, by go_num, by rw [HS.out, Int.mul_comm v 256]⟩, by simp [intOf]; omega⟩
    · obtain rfl : k = xs.length := by omega
      clear hlt
      go_wp2
      go_ret
      exact ⟨rfl, rfl⟩
/-- A piece of code whose ways all end in one state: what follows is shown once. -/
theorem wp_once {P : Program} {c : Code} {Q : Exit → Act → World → Prop} {a : Act} {w : World} (h : ∃ A W, c.wp P (fun e a' w' => e = Exit.normal ∧ a' = A ∧ w' = W) a w ∧ Q .normal A W) : c.wp P Q a w := by
  obtain ⟨A, W, h1, h2⟩ := h
  exact Code.wp_mono (fun e a' w' hq => by obtain ⟨rfl, rfl, rfl⟩ := hq; exact h2) h1
theorem one_len {s us r : List Int} (h : one s = some (us, r)) : us.length ≤ s.length ∧ r.length ≤ s.length := by
  cases s with
  | nil => cases h
  | cons n t =>
    simp only [one] at h
    by_cases g : t.length < n.toNat
    · rw [if_pos g] at h; cases h
    · rw [if_neg g] at h
      cases h
      simp only [List.length_take, List.length_drop, List.length_cons]
      omega
theorem one_bytes {s us r : List Int} (h : one s = some (us, r)) (hb : bytesL s) : bytesL us ∧ bytesL r := by
  cases s with
  | nil => cases h
  | cons n t =>
    simp only [one] at h
    by_cases g : t.length < n.toNat
    · rw [if_pos g] at h; cases h
    · rw [if_neg g] at h
      cases h
      exact ⟨fun x hx => hb x (List.mem_cons_of_mem _ (List.mem_of_mem_take hx)), fun x hx => hb x (List.mem_cons_of_mem _ (List.mem_of_mem_drop hx))⟩
theorem vtail_ok (b : List Int) (p : Nat) (hb : bytesL b) : (vtail b p).1.length ≤ b.length ∧ (vtail b p).2.1.length ≤ b.length ∧ (vtail b p).2.2.1.length ≤ b.length ∧ bytesL (vtail b p).2.2.1 := by
  have no : bytesL [] := fun x hx => by cases hx
  unfold vtail
  have hl0 : (b.drop p).length ≤ b.length := by rw [List.length_drop]; omega
  have hb0 : bytesL (b.drop p) := fun x hx => hb x (List.mem_of_mem_drop hx)
  cases h1 : one (b.drop p) with
  | none => exact ⟨Nat.zero_le _, Nat.zero_le _, Nat.zero_le _, no⟩
  | some x =>
    obtain ⟨us, s1⟩ := x
    obtain ⟨l1, l2⟩ := one_len h1
    obtain ⟨b1, b2⟩ := one_bytes h1 hb0
    simp only
    cases h2 : one s1 with
    | none => exact ⟨Nat.zero_le _, Nat.zero_le _, Nat.zero_le _, no⟩
    | some y =>
      obtain ⟨ns, s2⟩ := y
      obtain ⟨l3, l4⟩ := one_len h2
      obtain ⟨b3, b4⟩ := one_bytes h2 b2
      simp only
      have l5 : (s2.drop 2).length ≤ s2.length := by rw [List.length_drop]; omega
      have b5 : bytesL (s2.drop 2) := fun x hx => b4 x (List.mem_of_mem_drop hx)
      generalize s2.drop 2 = s3 at *
      repeat' split
      all_goals first | exact ⟨Nat.zero_le _, Nat.zero_le _, Nat.zero_le _, no⟩ | exact ⟨by simp only; omega, by simp only; omega, by simp only; omega, b5⟩
/-- The head's numbers as the walk reads them. -/
def hd (b us ns tx : List Int) : M := ⟨rd b 0, rd b 1, rd b 2, num ((b.drop 6).take 6), num ((b.drop 12).take 6), rd b 3, num ((b.drop 18).take 6), rd b 4, num ((b.drop 24).take 6), decide (rd b 5 = 1), num ((b.drop 30).take 6), num ((b.drop 36).take 6), us, ns, tx⟩
theorem take1 (b : List Int) (p : Nat) (h : p < b.length) : num ((b.drop p).take 1) = rd b p := by
  rw [List.drop_eq_getElem_cons h, List.take_succ_cons, List.take_zero, rd_get h]
  simp [num]
theorem hd_eq {b us ns tx : List Int} (h : 42 ≤ b.length) : headM b us ns tx (yR b) = hd b us ns tx := by
  unfold headM hd yR
  rw [take1 b 1 (by omega), take1 b 2 (by omega), take1 b 3 (by omega), take1 b 4 (by omega), take1 b 5 (by omega), show b.take 1 = (b.drop 0).take 1 from rfl, take1 b 0 (by omega)]
  rfl
open Classical in
theorem vdec_long {b : List Int} (h : 42 ≤ b.length) : vdec b = if (vtail b 42).2.2.2 ≠ 0 then (m0, (vtail b 42).2.2.2) else
    if ¬ May (hd b (vtail b 42).1 (vtail b 42).2.1 (vtail b 42).2.2.1) ∨ body (hd b (vtail b 42).1 (vtail b 42).2.1 (vtail b 42).2.2.1) ≠ b then (m0, 4) else (hd b (vtail b 42).1 (vtail b 42).2.1 (vtail b 42).2.2.1, 0) := by
  unfold vdec
  rw [if_neg (by omega)]
  simp only [hd_eq h]
  unfold vtail
  cases h1 : one (b.drop 42) with
  | none => exact (if_pos (show (2 : Int) ≠ 0 by decide)).symm
  | some x =>
    obtain ⟨us, s1⟩ := x
    simp only
    cases h2 : one s1 with
    | none => exact (if_pos (show (2 : Int) ≠ 0 by decide)).symm
    | some y =>
      obtain ⟨ns, s2⟩ := y
      simp only
      by_cases g1 : s2.length < 2
      · rw [if_pos g1, if_pos g1]; exact (if_pos (show (2 : Int) ≠ 0 by decide)).symm
      · rw [if_neg g1, if_neg g1]
        by_cases g2 : (s2.drop 2).length < (num (s2.take 2)).toNat
        · rw [if_pos g2, if_pos g2]; exact (if_pos (show (2 : Int) ≠ 0 by decide)).symm
        · rw [if_neg g2, if_neg g2]
          by_cases g3 : (s2.drop 2).length > (num (s2.take 2)).toNat
          · rw [if_pos g3, if_pos g3]; exact (if_pos (show (3 : Int) ≠ 0 by decide)).symm
          · rw [if_neg g3, if_neg g3]; exact (if_neg (show ¬ (0 : Int) ≠ 0 by decide)).symm
theorem vdec_short {b : List Int} (h : b.length < 42) : vdec b = (m0, 2) := by
  unfold vdec
  rw [if_pos h]
noncomputable def reg3 : Code := match Try.f28.body with
  | some (.seq _ (.seq _ (.seq r _))) => r
  | _ => .skip
set_option maxRecDepth 100000 in
set_option maxHeartbeats 16000000 in
theorem reg_any (b : List Int) (c : Nat) (w W0 : World) (ad0 : Addr) (A1 A2 A3 A4 A5 A6 : Option Addr) (x0 x1 x2 x3 x4 x5 z1 z2 z3 z4 z5 z6 : Int) (hc : b.length ≤ c) (hCw : Kd.C (Kd.int .u8) W0 (some ad0) b.length b) (hsz0 : W0.heap.size = w.heap.size + 1) (hbk : ad0.block < w.heap.size) (hlong : 42 ≤ b.length)
    (hm1 : ∀ W : World, Sem.run Try.prog (Instr.slice 25 (.slice (some ad0) b.length c) (some (.int .i64 6)) (some (.int .i64 12)) none) W = Result.ok (.slice A1 6 (c - 6)) W) (hml1 : 6 ≤ c - 6)
    (hN1 : ∀ w1 : World, Kd.C (Kd.int .u8) w1 (some ad0) b.length b → Calls Try.prog 52 #[.slice A1 6 (c - 6)] w1 (fun e w' => e = .returned (.int .i64 z1) ∧ w' = w1))
    (hm2 : ∀ W : World, Sem.run Try.prog (Instr.slice 25 (.slice (some ad0) b.length c) (some (.int .i64 12)) (some (.int .i64 18)) none) W = Result.ok (.slice A2 6 (c - 12)) W) (hml2 : 6 ≤ c - 12)
    (hN2 : ∀ w1 : World, Kd.C (Kd.int .u8) w1 (some ad0) b.length b → Calls Try.prog 52 #[.slice A2 6 (c - 12)] w1 (fun e w' => e = .returned (.int .i64 z2) ∧ w' = w1))
    (hm3 : ∀ W : World, Sem.run Try.prog (Instr.slice 25 (.slice (some ad0) b.length c) (some (.int .i64 18)) (some (.int .i64 24)) none) W = Result.ok (.slice A3 6 (c - 18)) W) (hml3 : 6 ≤ c - 18)
    (hN3 : ∀ w1 : World, Kd.C (Kd.int .u8) w1 (some ad0) b.length b → Calls Try.prog 52 #[.slice A3 6 (c - 18)] w1 (fun e w' => e = .returned (.int .i64 z3) ∧ w' = w1))
    (hm4 : ∀ W : World, Sem.run Try.prog (Instr.slice 25 (.slice (some ad0) b.length c) (some (.int .i64 24)) (some (.int .i64 30)) none) W = Result.ok (.slice A4 6 (c - 24)) W) (hml4 : 6 ≤ c - 24)
    (hN4 : ∀ w1 : World, Kd.C (Kd.int .u8) w1 (some ad0) b.length b → Calls Try.prog 52 #[.slice A4 6 (c - 24)] w1 (fun e w' => e = .returned (.int .i64 z4) ∧ w' = w1))
    (hm5 : ∀ W : World, Sem.run Try.prog (Instr.slice 25 (.slice (some ad0) b.length c) (some (.int .i64 30)) (some (.int .i64 36)) none) W = Result.ok (.slice A5 6 (c - 30)) W) (hml5 : 6 ≤ c - 30)
    (hN5 : ∀ w1 : World, Kd.C (Kd.int .u8) w1 (some ad0) b.length b → Calls Try.prog 52 #[.slice A5 6 (c - 30)] w1 (fun e w' => e = .returned (.int .i64 z5) ∧ w' = w1))
    (hm6 : ∀ W : World, Sem.run Try.prog (Instr.slice 25 (.slice (some ad0) b.length c) (some (.int .i64 36)) (some (.int .i64 42)) none) W = Result.ok (.slice A6 6 (c - 36)) W) (hml6 : 6 ≤ c - 36)
    (hN6 : ∀ w1 : World, Kd.C (Kd.int .u8) w1 (some ad0) b.length b → Calls Try.prog 52 #[.slice A6 6 (c - 36)] w1 (fun e w' => e = .returned (.int .i64 z6) ∧ w' = w1))
    (r0 : 0 ≤ x0 ∧ x0 < 256) (hq0' : W0.cell? ad0 = some (.int .u8 x0))
    (r1 : 0 ≤ x1 ∧ x1 < 256) (hq1' : W0.cell? ⟨ad0.block, ad0.off + 1, none⟩ = some (.int .u8 x1))
    (r2 : 0 ≤ x2 ∧ x2 < 256) (hq2' : W0.cell? ⟨ad0.block, ad0.off + 2, none⟩ = some (.int .u8 x2))
    (r3 : 0 ≤ x3 ∧ x3 < 256) (hq3' : W0.cell? ⟨ad0.block, ad0.off + 3, none⟩ = some (.int .u8 x3))
    (r4 : 0 ≤ x4 ∧ x4 < 256) (hq4' : W0.cell? ⟨ad0.block, ad0.off + 4, none⟩ = some (.int .u8 x4))
    (r5 : 0 ≤ x5 ∧ x5 < 256) (hq5' : W0.cell? ⟨ad0.block, ad0.off + 5, none⟩ = some (.int .u8 x5))
    (Q : Exit → Act → World → Prop) (hQ : ∀ (t10 t11 t12 t13 t14 t15 t16 t17 t18 t19 t20 t21 t22 t23 t24 t25 t26 t27 t28 t29 t30 t31 t32 t33 t34 t35 t36 t37 t38 t39 t40 t41 t42 t43 t44 t45 t46 t47 t48 t49 t50 t51 t52 t53 : Value), Q .normal ⟨#[.slice (some ad0) b.length c, undef, .pointer (some ⟨w.heap.size, 0, none⟩), .int .i64 0, .pointer (some ⟨w.heap.size + 1, 0, none⟩), undef, .slice (some ad0) b.length c, .int .i64 (b.length : Int), .bool false, undef, t10, t11, t12, t13, t14, t15, t16, t17, t18, t19, t20, t21, t22, t23, t24, t25, t26, t27, t28, t29, t30, t31, t32, t33, t34, t35, t36, t37, t38, t39, t40, t41, t42, t43, t44, t45, t46, t47, t48, t49, t50, t51, t52, t53, undef, undef, undef, undef, undef, undef, undef, undef, undef, undef, undef, undef, undef, undef, undef, undef, undef, undef, undef, undef, undef, undef, undef, undef, undef, undef], []⟩ (W0.alloc (.cells #[.int .i64 x0, .int .i64 x1, .int .i64 x2, .int .i64 z1, .int .i64 z2, .int .i64 x3, .int .i64 z3, .int .i64 x4, .int .i64 z4, .bool (x5 == 1), .int .i64 z5, .int .i64 z6, .slice none 0 0, .slice none 0 0, .slice none 0 0] 43)).drew) :
    reg3.wp Try.prog Q ⟨#[.slice (some ad0) b.length c, undef, .pointer (some ⟨w.heap.size, 0, none⟩), .int .i64 0, undef, undef, .slice (some ad0) b.length c, .int .i64 (b.length : Int), .bool false, undef, undef, undef, undef, undef, undef, undef, undef, undef, undef, undef, undef, undef, undef, undef, undef, undef, undef, undef, undef, undef, undef, undef, undef, undef, undef, undef, undef, undef, undef, undef, undef, undef, undef, undef, undef, undef, undef, undef, undef, undef, undef, undef, undef, undef, undef, undef, undef, undef, undef, undef, undef, undef, undef, undef, undef, undef, undef, undef, undef, undef, undef, undef, undef, undef, undef, undef, undef, undef, undef, undef], []⟩ W0 := by
  have hurec := Try.underlying43
  have hbk1 : ad0.block ≠ W0.heap.size := by omega
  have hi0 : (0 : Int) < (b.length : Int) := by omega
  have hj0 : 0 < b.length := by omega
  have hi1 : (1 : Int) < (b.length : Int) := by omega
  have hj1 : 1 < b.length := by omega
  have hi2 : (2 : Int) < (b.length : Int) := by omega
  have hj2 : 2 < b.length := by omega
  have hi3 : (3 : Int) < (b.length : Int) := by omega
  have hj3 : 3 < b.length := by omega
  have hi4 : (4 : Int) < (b.length : Int) := by omega
  have hj4 : 4 < b.length := by omega
  have hi5 : (5 : Int) < (b.length : Int) := by omega
  have hj5 : 5 < b.length := by omega
  have hwx0 : IntKind.i64.wrap x0 = x0 := by rw [IntKind.wrap_i64]; omega
  have hwx1 : IntKind.i64.wrap x1 = x1 := by rw [IntKind.wrap_i64]; omega
  have hwx2 : IntKind.i64.wrap x2 = x2 := by rw [IntKind.wrap_i64]; omega
  have hwx3 : IntKind.i64.wrap x3 = x3 := by rw [IntKind.wrap_i64]; omega
  have hwx4 : IntKind.i64.wrap x4 = x4 := by rw [IntKind.wrap_i64]; omega
  have hwx5 : IntKind.i64.wrap x5 = x5 := by rw [IntKind.wrap_i64]; omega
  have HCw := Lib.hid hCw
  clear hCw
  have HN1 := Lib.hid hN1
  clear hN1
  have HN2 := Lib.hid hN2
  clear hN2
  have HN3 := Lib.hid hN3
  clear hN3
  have HN4 := Lib.hid hN4
  clear hN4
  have HN5 := Lib.hid hN5
  clear hN5
  have HN6 := Lib.hid hN6
  clear hN6
  have HQ := Lib.hid hQ
  clear hQ
  conv => arg 2; whnf
  go_region_held3 (fun w' => w'.cell? ad0 = some (.int .u8 x0) ∧ w'.cell? ⟨ad0.block, ad0.off + 1, none⟩ = some (.int .u8 x1) ∧ w'.cell? ⟨ad0.block, ad0.off + 2, none⟩ = some (.int .u8 x2) ∧ w'.cell? ⟨ad0.block, ad0.off + 3, none⟩ = some (.int .u8 x3) ∧ w'.cell? ⟨ad0.block, ad0.off + 4, none⟩ = some (.int .u8 x4) ∧ w'.cell? ⟨ad0.block, ad0.off + 5, none⟩ = some (.int .u8 x5)) (go_keep) (first | (go_at_call_of 52 A1; refine (HN1.out _ ?_).mono ?_; (first | exact Kd.C_drew HCw.out | exact Kd.C_alloc (Kd.C_drew HCw.out) _ | exact Kd.C_drew (Kd.C_alloc HCw.out _)); rintro e w' ⟨rfl, rfl⟩) | (go_at_call_of 52 A2; refine (HN2.out _ ?_).mono ?_; (first | exact Kd.C_drew HCw.out | exact Kd.C_alloc (Kd.C_drew HCw.out) _ | exact Kd.C_drew (Kd.C_alloc HCw.out _)); rintro e w' ⟨rfl, rfl⟩) | (go_at_call_of 52 A3; refine (HN3.out _ ?_).mono ?_; (first | exact Kd.C_drew HCw.out | exact Kd.C_alloc (Kd.C_drew HCw.out) _ | exact Kd.C_drew (Kd.C_alloc HCw.out _)); rintro e w' ⟨rfl, rfl⟩) | (go_at_call_of 52 A4; refine (HN4.out _ ?_).mono ?_; (first | exact Kd.C_drew HCw.out | exact Kd.C_alloc (Kd.C_drew HCw.out) _ | exact Kd.C_drew (Kd.C_alloc HCw.out _)); rintro e w' ⟨rfl, rfl⟩) | (go_at_call_of 52 A5; refine (HN5.out _ ?_).mono ?_; (first | exact Kd.C_drew HCw.out | exact Kd.C_alloc (Kd.C_drew HCw.out) _ | exact Kd.C_drew (Kd.C_alloc HCw.out _)); rintro e w' ⟨rfl, rfl⟩) | (go_at_call_of 52 A6; refine (HN6.out _ ?_).mono ?_; (first | exact Kd.C_drew HCw.out | exact Kd.C_alloc (Kd.C_drew HCw.out) _ | exact Kd.C_drew (Kd.C_alloc HCw.out _)); rintro e w' ⟨rfl, rfl⟩))
  all_goals exact HQ.out _ _ _ _ _ _ _ _ _ _ _ _ _ _ _ _ _ _ _ _ _ _ _ _ _ _ _ _ _ _ _ _ _ _ _ _ _ _ _ _ _ _ _ _
set_option maxRecDepth 100000 in
set_option maxHeartbeats 16000000 in
theorem vdecode_any (b : List Int) (A : Option Addr) (c : Nat) (w : World) (hb : bytesL b) (hlen : b.length ≤ 20000) (hc : b.length ≤ c) (hC : Kd.C (Kd.int .u8) w A b.length b) :
    Calls Try.prog 28 #[.slice A b.length c] w (DecIs w (dec b)) := by
  rw [dec_vdec _ hb]
  have hurec := Try.underlying43
  have HBb := Lib.hid hb
  have HCb := Lib.hid hC
  have HA := Lib.hid (blk_new w (.cells #[.int .i64 0, .int .i64 0, .int .i64 0, .int .i64 0, .int .i64 0, .int .i64 0, .int .i64 0, .int .i64 0, .int .i64 0, .bool false, .int .i64 0, .int .i64 0, .slice none 0 0, .slice none 0 0, .slice none 0 0] 43))
  have HB := Lib.hid ((Below.refl w.heap.size w).alloc (Nat.le_refl _) (.cells #[.int .i64 0, .int .i64 0, .int .i64 0, .int .i64 0, .int .i64 0, .int .i64 0, .int .i64 0, .int .i64 0, .int .i64 0, .bool false, .int .i64 0, .int .i64 0, .slice none 0 0, .slice none 0 0, .slice none 0 0] 43))
  have hsz0 : (w.alloc (.cells #[.int .i64 0, .int .i64 0, .int .i64 0, .int .i64 0, .int .i64 0, .int .i64 0, .int .i64 0, .int .i64 0, .int .i64 0, .bool false, .int .i64 0, .int .i64 0, .slice none 0 0, .slice none 0 0, .slice none 0 0] 43)).heap.size = w.heap.size + 1 := by simp
  clear hC hb
  by_cases hsh : b.length < 42
  · have hsd : decide (b.length < 42) = true := decide_eq_true hsh
    have hsd2 : decide ((b.length : Int) < 42) = true := decide_eq_true (by omega)
    rw [vdec_short hsh]
    go_enter Try.func28, Try.ntmps28
    go_wp2
    generalize w.alloc (.cells #[.int .i64 0, .int .i64 0, .int .i64 0, .int .i64 0, .int .i64 0, .int .i64 0, .int .i64 0, .int .i64 0, .int .i64 0, .bool false, .int .i64 0, .int .i64 0, .slice none 0 0, .slice none 0 0, .slice none 0 0] 43) = W0 at *
    refine bodyPost_ret (results_ct rfl _ _ w.heap.size 43 #[.int .i64 0, .int .i64 0, .int .i64 0, .int .i64 0, .int .i64 0, .int .i64 0, .int .i64 0, .int .i64 0, .int .i64 0, .bool false, .int .i64 0, .int .i64 0, .slice none 0 0, .slice none 0 0, .slice none 0 0] (0, 0) _ rfl HA.out Try.underlying43 rfl (by kernel_rfl)) rfl ?_
    exact dec_no w _ 2 HB.out
  · have hsd : decide (b.length < 42) = false := decide_eq_false hsh
    have hsd2 : decide ((b.length : Int) < 42) = false := decide_eq_false (by omega)
    go_enter Try.func28, Try.ntmps28
    go_upto_region 3 with fail
    generalize w.alloc (.cells #[.int .i64 0, .int .i64 0, .int .i64 0, .int .i64 0, .int .i64 0, .int .i64 0, .int .i64 0, .int .i64 0, .int .i64 0, .bool false, .int .i64 0, .int .i64 0, .slice none 0 0, .slice none 0 0, .slice none 0 0] 43) = W0 at *
    have hlong : 42 ≤ b.length := by omega
    have HCw := Lib.hid (Kd.C_below HCb.out HB.out)
    obtain ⟨ad0, hae0, hq0⟩ := Kd.at_int HCw.out (0 : Int) (by omega) (by omega)
    cases hae0
    have r0 := HBb.out (rd b 0) (by rw [show (0 : Int) = ((0 : Nat) : Int) from rfl, rd_get (by omega)]; exact List.getElem_mem _)
    obtain ⟨ad1, hae1, hq1⟩ := Kd.at_int HCw.out (1 : Int) (by omega) (by omega)
    cases hae1
    have r1 := HBb.out (rd b 1) (by rw [show (1 : Int) = ((1 : Nat) : Int) from rfl, rd_get (by omega)]; exact List.getElem_mem _)
    obtain ⟨ad2, hae2, hq2⟩ := Kd.at_int HCw.out (2 : Int) (by omega) (by omega)
    cases hae2
    have r2 := HBb.out (rd b 2) (by rw [show (2 : Int) = ((2 : Nat) : Int) from rfl, rd_get (by omega)]; exact List.getElem_mem _)
    obtain ⟨ad3, hae3, hq3⟩ := Kd.at_int HCw.out (3 : Int) (by omega) (by omega)
    cases hae3
    have r3 := HBb.out (rd b 3) (by rw [show (3 : Int) = ((3 : Nat) : Int) from rfl, rd_get (by omega)]; exact List.getElem_mem _)
    obtain ⟨ad4, hae4, hq4⟩ := Kd.at_int HCw.out (4 : Int) (by omega) (by omega)
    cases hae4
    have r4 := HBb.out (rd b 4) (by rw [show (4 : Int) = ((4 : Nat) : Int) from rfl, rd_get (by omega)]; exact List.getElem_mem _)
    obtain ⟨ad5, hae5, hq5⟩ := Kd.at_int HCw.out (5 : Int) (by omega) (by omega)
    cases hae5
    have r5 := HBb.out (rd b 5) (by rw [show (5 : Int) = ((5 : Nat) : Int) from rfl, rd_get (by omega)]; exact List.getElem_mem _)
    obtain ⟨A1, hm1, hmC1, hml1⟩ := cutn b (some ad0) c 6 12 6 6 rfl rfl (by omega) hc
    have hl1 : ((b.drop 6).take 6).length = 6 := by rw [List.length_take, List.length_drop]; omega
    have hb1 : bytesL ((b.drop 6).take 6) := fun x hx => HBb.out x (List.mem_of_mem_drop (List.mem_of_mem_take hx))
    have HN1 := Lib.hid (fun w1 (h : Kd.C (Kd.int .u8) w1 (some ad0) b.length b) => num_any ((b.drop 6).take 6) A1 (c - 6) w1 hb1 (by omega) (by omega) (by rw [hl1]; exact hmC1 _ h))
    rw [hl1] at HN1
    clear hmC1 hb1 hl1
    obtain ⟨A2, hm2, hmC2, hml2⟩ := cutn b (some ad0) c 12 18 12 6 rfl rfl (by omega) hc
    have hl2 : ((b.drop 12).take 6).length = 6 := by rw [List.length_take, List.length_drop]; omega
    have hb2 : bytesL ((b.drop 12).take 6) := fun x hx => HBb.out x (List.mem_of_mem_drop (List.mem_of_mem_take hx))
    have HN2 := Lib.hid (fun w1 (h : Kd.C (Kd.int .u8) w1 (some ad0) b.length b) => num_any ((b.drop 12).take 6) A2 (c - 12) w1 hb2 (by omega) (by omega) (by rw [hl2]; exact hmC2 _ h))
    rw [hl2] at HN2
    clear hmC2 hb2 hl2
    obtain ⟨A3, hm3, hmC3, hml3⟩ := cutn b (some ad0) c 18 24 18 6 rfl rfl (by omega) hc
    have hl3 : ((b.drop 18).take 6).length = 6 := by rw [List.length_take, List.length_drop]; omega
    have hb3 : bytesL ((b.drop 18).take 6) := fun x hx => HBb.out x (List.mem_of_mem_drop (List.mem_of_mem_take hx))
    have HN3 := Lib.hid (fun w1 (h : Kd.C (Kd.int .u8) w1 (some ad0) b.length b) => num_any ((b.drop 18).take 6) A3 (c - 18) w1 hb3 (by omega) (by omega) (by rw [hl3]; exact hmC3 _ h))
    rw [hl3] at HN3
    clear hmC3 hb3 hl3
    obtain ⟨A4, hm4, hmC4, hml4⟩ := cutn b (some ad0) c 24 30 24 6 rfl rfl (by omega) hc
    have hl4 : ((b.drop 24).take 6).length = 6 := by rw [List.length_take, List.length_drop]; omega
    have hb4 : bytesL ((b.drop 24).take 6) := fun x hx => HBb.out x (List.mem_of_mem_drop (List.mem_of_mem_take hx))
    have HN4 := Lib.hid (fun w1 (h : Kd.C (Kd.int .u8) w1 (some ad0) b.length b) => num_any ((b.drop 24).take 6) A4 (c - 24) w1 hb4 (by omega) (by omega) (by rw [hl4]; exact hmC4 _ h))
    rw [hl4] at HN4
    clear hmC4 hb4 hl4
    obtain ⟨A5, hm5, hmC5, hml5⟩ := cutn b (some ad0) c 30 36 30 6 rfl rfl (by omega) hc
    have hl5 : ((b.drop 30).take 6).length = 6 := by rw [List.length_take, List.length_drop]; omega
    have hb5 : bytesL ((b.drop 30).take 6) := fun x hx => HBb.out x (List.mem_of_mem_drop (List.mem_of_mem_take hx))
    have HN5 := Lib.hid (fun w1 (h : Kd.C (Kd.int .u8) w1 (some ad0) b.length b) => num_any ((b.drop 30).take 6) A5 (c - 30) w1 hb5 (by omega) (by omega) (by rw [hl5]; exact hmC5 _ h))
    rw [hl5] at HN5
    clear hmC5 hb5 hl5
    obtain ⟨A6, hm6, hmC6, hml6⟩ := cutn b (some ad0) c 36 42 36 6 rfl rfl (by omega) hc
    have hl6 : ((b.drop 36).take 6).length = 6 := by rw [List.length_take, List.length_drop]; omega
    have hb6 : bytesL ((b.drop 36).take 6) := fun x hx => HBb.out x (List.mem_of_mem_drop (List.mem_of_mem_take hx))
    have HN6 := Lib.hid (fun w1 (h : Kd.C (Kd.int .u8) w1 (some ad0) b.length b) => num_any ((b.drop 36).take 6) A6 (c - 36) w1 hb6 (by omega) (by omega) (by rw [hl6]; exact hmC6 _ h))
    rw [hl6] at HN6
    clear hmC6 hb6 hl6
    have hvd := Lib.hid (vdec_long hlong)
    have hq0' : W0.cell? ad0 = some (.int .u8 (rd b 0)) := by simpa [Addr.add] using hq0
    clear hq0
    have hq1' : W0.cell? ⟨ad0.block, ad0.off + 1, none⟩ = some (.int .u8 (rd b 1)) := hq1
    clear hq1
    have hq2' : W0.cell? ⟨ad0.block, ad0.off + 2, none⟩ = some (.int .u8 (rd b 2)) := hq2
    clear hq2
    have hq3' : W0.cell? ⟨ad0.block, ad0.off + 3, none⟩ = some (.int .u8 (rd b 3)) := hq3
    clear hq3
    have hq4' : W0.cell? ⟨ad0.block, ad0.off + 4, none⟩ = some (.int .u8 (rd b 4)) := hq4
    clear hq4
    have hq5' : W0.cell? ⟨ad0.block, ad0.off + 5, none⟩ = some (.int .u8 (rd b 5)) := hq5
    clear hq5
    have hbk : ad0.block < w.heap.size := Kd.C_lt HCb.out (by omega) (by decide)
    have hbk1 : ad0.block ≠ W0.heap.size := by omega
    have hi0 : (0 : Int) < (b.length : Int) := by omega
    have hj0 : 0 < b.length := by omega
    have hi1 : (1 : Int) < (b.length : Int) := by omega
    have hj1 : 1 < b.length := by omega
    have hi2 : (2 : Int) < (b.length : Int) := by omega
    have hj2 : 2 < b.length := by omega
    have hi3 : (3 : Int) < (b.length : Int) := by omega
    have hj3 : 3 < b.length := by omega
    have hi4 : (4 : Int) < (b.length : Int) := by omega
    have hj4 : 4 < b.length := by omega
    have hi5 : (5 : Int) < (b.length : Int) := by omega
    have hj5 : 5 < b.length := by omega
    have hhd := Lib.hid (show ∀ us ns tx, hd b us ns tx = ⟨rd b 0, rd b 1, rd b 2, num ((b.drop 6).take 6), num ((b.drop 12).take 6), rd b 3, num ((b.drop 18).take 6), rd b 4, num ((b.drop 24).take 6), rd b 5 == 1, num ((b.drop 30).take 6), num ((b.drop 36).take 6), us, ns, tx⟩ from fun _ _ _ => rfl)
    generalize num ((b.drop 6).take 6) = z1 at *
    generalize num ((b.drop 12).take 6) = z2 at *
    generalize num ((b.drop 18).take 6) = z3 at *
    generalize num ((b.drop 24).take 6) = z4 at *
    generalize num ((b.drop 30).take 6) = z5 at *
    generalize num ((b.drop 36).take 6) = z6 at *
    generalize rd b 0 = x0 at *
    generalize rd b 1 = x1 at *
    generalize rd b 2 = x2 at *
    generalize rd b 3 = x3 at *
    generalize rd b 4 = x4 at *
    generalize rd b 5 = x5 at *
    have hwx0 : IntKind.i64.wrap x0 = x0 := by rw [IntKind.wrap_i64]; omega
    have hwx1 : IntKind.i64.wrap x1 = x1 := by rw [IntKind.wrap_i64]; omega
    have hwx2 : IntKind.i64.wrap x2 = x2 := by rw [IntKind.wrap_i64]; omega
    have hwx3 : IntKind.i64.wrap x3 = x3 := by rw [IntKind.wrap_i64]; omega
    have hwx4 : IntKind.i64.wrap x4 = x4 := by rw [IntKind.wrap_i64]; omega
    have hwx5 : IntKind.i64.wrap x5 = x5 := by rw [IntKind.wrap_i64]; omega
    go_cut [4] from 10 to 53 (fun s4 wx => s4 = .pointer (some ⟨w.heap.size + 1, 0, none⟩) ∧ wx = (W0.alloc (.cells #[.int .i64 x0, .int .i64 x1, .int .i64 x2, .int .i64 z1, .int .i64 z2, .int .i64 x3, .int .i64 z3, .int .i64 x4, .int .i64 z4, .bool (x5 == 1), .int .i64 z5, .int .i64 z6, .slice none 0 0, .slice none 0 0, .slice none 0 0] 43)).drew)
    case first =>
      refine reg_any b c w W0 ad0 A1 A2 A3 A4 A5 A6 x0 x1 x2 x3 x4 x5 z1 z2 z3 z4 z5 z6 hc HCw.out hsz0 hbk hlong hm1 hml1 HN1.out hm2 hml2 HN2.out hm3 hml3 HN3.out hm4 hml4 HN4.out hm5 hml5 HN5.out hm6 hml6 HN6.out r0 hq0' r1 hq1' r2 hq2' r3 hq3' r4 hq4' r5 hq5' _ (fun t10 t11 t12 t13 t14 t15 t16 t17 t18 t19 t20 t21 t22 t23 t24 t25 t26 t27 t28 t29 t30 t31 t32 t33 t34 t35 t36 t37 t38 t39 t40 t41 t42 t43 t44 t45 t46 t47 t48 t49 t50 t51 t52 t53 => ?_)
      go_wp2_with fail
      go_meet
      exact ⟨rfl, rfl⟩
    case rest =>
      obtain ⟨rfl, rfl⟩ := hcut
      have HA5 := Lib.hid (blk_drew (blk_new W0 (.cells #[.int .i64 x0, .int .i64 x1, .int .i64 x2, .int .i64 z1, .int .i64 z2, .int .i64 x3, .int .i64 z3, .int .i64 x4, .int .i64 z4, .bool (x5 == 1), .int .i64 z5, .int .i64 z6, .slice none 0 0, .slice none 0 0, .slice none 0 0] 43)))
      rw [hsz0] at HA5
      have HA1 := Lib.hid (blk_drew (blk_alloc HA.out (.cells #[.int .i64 x0, .int .i64 x1, .int .i64 x2, .int .i64 z1, .int .i64 z2, .int .i64 x3, .int .i64 z3, .int .i64 x4, .int .i64 z4, .bool (x5 == 1), .int .i64 z5, .int .i64 z6, .slice none 0 0, .slice none 0 0, .slice none 0 0] 43)))
      have HB1 := Lib.hid ((HB.out.alloc (by omega) (.cells #[.int .i64 x0, .int .i64 x1, .int .i64 x2, .int .i64 z1, .int .i64 z2, .int .i64 x3, .int .i64 z3, .int .i64 x4, .int .i64 z4, .bool (x5 == 1), .int .i64 z5, .int .i64 z6, .slice none 0 0, .slice none 0 0, .slice none 0 0] 43)).drew)
      have hsz1 : ((W0.alloc (.cells #[.int .i64 x0, .int .i64 x1, .int .i64 x2, .int .i64 z1, .int .i64 z2, .int .i64 x3, .int .i64 z3, .int .i64 x4, .int .i64 z4, .bool (x5 == 1), .int .i64 z5, .int .i64 z6, .slice none 0 0, .slice none 0 0, .slice none 0 0] 43)).drew).heap.size = w.heap.size + 2 := by simp [hsz0]
      generalize (W0.alloc (.cells #[.int .i64 x0, .int .i64 x1, .int .i64 x2, .int .i64 z1, .int .i64 z2, .int .i64 x3, .int .i64 z3, .int .i64 x4, .int .i64 z4, .bool (x5 == 1), .int .i64 z5, .int .i64 z6, .slice none 0 0, .slice none 0 0, .slice none 0 0] 43)).drew = W1 at *
      have HC1 := Lib.hid (Kd.C_below HCb.out HB1.out)
      have HC := Lib.hid (tail_any b (some ad0) c 42 W1 HBb.out hlen (by omega) hc HC1.out)
      go_wp2_with fail
      refine HC.out.mono ?_
      rintro e W2 ⟨vu, vn, vt, rfl, hU, hN, hT, hbt⟩
      clear HC
      obtain ⟨hl1, hl2, hl3, hbx⟩ := vtail_ok b 42 HBb.out
      generalize vtail b 42 = t at *
      obtain ⟨us, ns, tx, ec⟩ := t
      simp only at hU hN hT hl1 hl2 hl3 hbx hvd
      obtain ⟨Au, cu, rfl⟩ := Kd.R_slice hU
      obtain ⟨An, cn, rfl⟩ := Kd.R_slice hN
      obtain ⟨At, ct, rfl⟩ := Kd.R_slice hT
      have HA52 := Lib.hid (blk_below HA5.out hbt)
      have HA12 := Lib.hid (blk_below HA1.out hbt)
      have HA12b := HA12
      have HB2 := Lib.hid (HB1.out.trans (hbt.mono HB1.out.size))
      have f12 := blk_frozen HA52.out 12
      have f13 := blk_frozen HA52.out 13
      have f14 := blk_frozen HA52.out 14
      have c0 := (blk_cell HA52.out 0).trans rfl
      have c1 := (blk_cell HA52.out 1).trans rfl
      have c2 := (blk_cell HA52.out 2).trans rfl
      have c3 := (blk_cell HA52.out 3).trans rfl
      have c4 := (blk_cell HA52.out 4).trans rfl
      have c5 := (blk_cell HA52.out 5).trans rfl
      have c6 := (blk_cell HA52.out 6).trans rfl
      have c7 := (blk_cell HA52.out 7).trans rfl
      have c8 := (blk_cell HA52.out 8).trans rfl
      have c9 := (blk_cell HA52.out 9).trans rfl
      have c10 := (blk_cell HA52.out 10).trans rfl
      have c11 := (blk_cell HA52.out 11).trans rfl
      have c12 := (blk_cell HA52.out 12).trans rfl
      have c13 := (blk_cell HA52.out 13).trans rfl
      have c14 := (blk_cell HA52.out 14).trans rfl
      rw [hsz1] at hU hN hT
      have HU := Lib.hid (R_grew (R_grew (R_grew hU (grown_set _ (w.heap.size + 1) 12 (.slice Au us.length cu)) (fun k hk => by cases hk; omega)) (grown_set _ (w.heap.size + 1) 13 (.slice An ns.length cn)) (fun k hk => by cases hk; omega)) (grown_set _ (w.heap.size + 1) 14 (.slice At tx.length ct)) (fun k hk => by cases hk; omega))
      have HN := Lib.hid (R_grew (R_grew (R_grew hN (grown_set _ (w.heap.size + 1) 12 (.slice Au us.length cu)) (fun k hk => by cases hk; omega)) (grown_set _ (w.heap.size + 1) 13 (.slice An ns.length cn)) (fun k hk => by cases hk; omega)) (grown_set _ (w.heap.size + 1) 14 (.slice At tx.length ct)) (fun k hk => by cases hk; omega))
      have HT := Lib.hid (R_grew (R_grew (R_grew hT (grown_set _ (w.heap.size + 1) 12 (.slice Au us.length cu)) (fun k hk => by cases hk; omega)) (grown_set _ (w.heap.size + 1) 13 (.slice An ns.length cn)) (fun k hk => by cases hk; omega)) (grown_set _ (w.heap.size + 1) 14 (.slice At tx.length ct)) (fun k hk => by cases hk; omega))
      have HA5 := Lib.hid (show (((W2.setCell ⟨w.heap.size + 1, 12, none⟩ (.slice Au us.length cu)).setCell ⟨w.heap.size + 1, 13, none⟩ (.slice An ns.length cn)).setCell ⟨w.heap.size + 1, 14, none⟩ (.slice At tx.length ct)).heap[w.heap.size + 1]? = some (.cells #[.int .i64 x0, .int .i64 x1, .int .i64 x2, .int .i64 z1, .int .i64 z2, .int .i64 x3, .int .i64 z3, .int .i64 x4, .int .i64 z4, .bool (x5 == 1), .int .i64 z5, .int .i64 z6, .slice Au us.length cu, .slice An ns.length cn, .slice At tx.length ct] 43 (0, 0)) from blk_put (blk_put (blk_put HA52.out 12 _ rfl) 13 _ rfl) 14 _ rfl)
      have HA1 := Lib.hid (blk_far (blk_far (blk_far HA12.out (p := ⟨w.heap.size + 1, 12, none⟩) (show w.heap.size ≠ w.heap.size + 1 by omega) (.slice Au us.length cu)) (p := ⟨w.heap.size + 1, 13, none⟩) (show w.heap.size ≠ w.heap.size + 1 by omega) (.slice An ns.length cn)) (p := ⟨w.heap.size + 1, 14, none⟩) (show w.heap.size ≠ w.heap.size + 1 by omega) (.slice At tx.length ct))
      have HB3 := Lib.hid (Below.setCell (Below.setCell (Below.setCell HB2.out (p := ⟨w.heap.size + 1, 12, none⟩) (show w.heap.size ≤ w.heap.size + 1 by omega) (.slice Au us.length cu)) (p := ⟨w.heap.size + 1, 13, none⟩) (show w.heap.size ≤ w.heap.size + 1 by omega) (.slice An ns.length cn)) (p := ⟨w.heap.size + 1, 14, none⟩) (show w.heap.size ≤ w.heap.size + 1 by omega) (.slice At tx.length ct))
      clear hU hN hT hbt HA12 HB2 HB1 HC1 HA HCw HN1 HN2 HN3 HN4 HN5 HN6 hm1 hm2 hm3 hm4 hm5 hm6
      have hgne : w.heap.size ≠ w.heap.size + 1 := by omega
      have yA0 := (blk_cell HA12b.out 0).trans rfl
      have fA0 := blk_frozen HA12b.out 0
      have yA1 := (blk_cell HA12b.out 1).trans rfl
      have fA1 := blk_frozen HA12b.out 1
      have yA2 := (blk_cell HA12b.out 2).trans rfl
      have fA2 := blk_frozen HA12b.out 2
      have yA3 := (blk_cell HA12b.out 3).trans rfl
      have fA3 := blk_frozen HA12b.out 3
      have yA4 := (blk_cell HA12b.out 4).trans rfl
      have fA4 := blk_frozen HA12b.out 4
      have yA5 := (blk_cell HA12b.out 5).trans rfl
      have fA5 := blk_frozen HA12b.out 5
      have yA6 := (blk_cell HA12b.out 6).trans rfl
      have fA6 := blk_frozen HA12b.out 6
      have yA7 := (blk_cell HA12b.out 7).trans rfl
      have fA7 := blk_frozen HA12b.out 7
      have yA8 := (blk_cell HA12b.out 8).trans rfl
      have fA8 := blk_frozen HA12b.out 8
      have yA9 := (blk_cell HA12b.out 9).trans rfl
      have fA9 := blk_frozen HA12b.out 9
      have yA10 := (blk_cell HA12b.out 10).trans rfl
      have fA10 := blk_frozen HA12b.out 10
      have yA11 := (blk_cell HA12b.out 11).trans rfl
      have fA11 := blk_frozen HA12b.out 11
      have yA12 := (blk_cell HA12b.out 12).trans rfl
      have fA12 := blk_frozen HA12b.out 12
      have yA13 := (blk_cell HA12b.out 13).trans rfl
      have fA13 := blk_frozen HA12b.out 13
      have yA14 := (blk_cell HA12b.out 14).trans rfl
      have fA14 := blk_frozen HA12b.out 14
      by_cases hec : ec = 0
      · subst hec
        rw [if_neg (show ¬ (0 : Int) ≠ 0 by decide)] at hvd
        have HC := Lib.hid (vokref17_Msg_May.calls 60000 x0 x1 x2 z1 z2 x3 z3 x4 z4 (x5 == 1) z5 z6 Au cu us An cn ns At ct tx _ (((W2.setCell ⟨w.heap.size + 1, 12, none⟩ (.slice Au us.length cu)).setCell ⟨w.heap.size + 1, 13, none⟩ (.slice An ns.length cn)).setCell ⟨w.heap.size + 1, 14, none⟩ (.slice At tx.length ct)) (Kd.R_reads' HU.out).2.2 (Kd.R_reads' HU.out).2.1 (Kd.R_reads' HN.out).2.2 (Kd.R_reads' HN.out).2.1 (Kd.R_reads' HT.out).2.2 (Kd.R_reads' HT.out).2.1 (vmay_eq' 60000 (⟨x0, x1, x2, z1, z2, x3, z3, x4, z4, x5 == 1, z5, z6, us, ns, tx⟩ : M) (by show us.length ≤ 20000; omega) (by show ns.length ≤ 20000; omega) (by show 2 * us.length + 1 < 60000; omega) (by show 2 * ns.length + 1 < 60000; omega)))
        go_wp2_with fail
        refine HC.out.mono ?_
        rintro e W4 ⟨rfl, hb4⟩
        clear HC
        clear c0 c1 c2 c3 c4 c5 c6 c7 c8 c9 c10 c11 c12 c13 c14
        clear yA0 yA1 yA2 yA3 yA4 yA5 yA6 yA7 yA8 yA9 yA10 yA11 yA12 yA13 yA14
        clear fA0 fA1 fA2 fA3 fA4 fA5 fA6 fA7 fA8 fA9 fA10 fA11 fA12 fA13 fA14
        clear f12 f13 f14
        have HA54 := Lib.hid (blk_below HA5.out hb4)
        have HA14 := Lib.hid (blk_below HA1.out hb4)
        have HB4 := Lib.hid (HB3.out.trans (hb4.mono HB3.out.size))
        have HU4 := Lib.hid (Kd.R_below HU.out hb4)
        have HN4 := Lib.hid (Kd.R_below HN.out hb4)
        have HT4 := Lib.hid (Kd.R_below HT.out hb4)
        clear HA5 HA1 HB3 HU HN HT HA12b HA52 hb4
        have yA0 := (blk_cell HA14.out 0).trans rfl
        have fA0 := blk_frozen HA14.out 0
        have c0 := (blk_cell HA54.out 0).trans rfl
        have yA1 := (blk_cell HA14.out 1).trans rfl
        have fA1 := blk_frozen HA14.out 1
        have c1 := (blk_cell HA54.out 1).trans rfl
        have yA2 := (blk_cell HA14.out 2).trans rfl
        have fA2 := blk_frozen HA14.out 2
        have c2 := (blk_cell HA54.out 2).trans rfl
        have yA3 := (blk_cell HA14.out 3).trans rfl
        have fA3 := blk_frozen HA14.out 3
        have c3 := (blk_cell HA54.out 3).trans rfl
        have yA4 := (blk_cell HA14.out 4).trans rfl
        have fA4 := blk_frozen HA14.out 4
        have c4 := (blk_cell HA54.out 4).trans rfl
        have yA5 := (blk_cell HA14.out 5).trans rfl
        have fA5 := blk_frozen HA14.out 5
        have c5 := (blk_cell HA54.out 5).trans rfl
        have yA6 := (blk_cell HA14.out 6).trans rfl
        have fA6 := blk_frozen HA14.out 6
        have c6 := (blk_cell HA54.out 6).trans rfl
        have yA7 := (blk_cell HA14.out 7).trans rfl
        have fA7 := blk_frozen HA14.out 7
        have c7 := (blk_cell HA54.out 7).trans rfl
        have yA8 := (blk_cell HA14.out 8).trans rfl
        have fA8 := blk_frozen HA14.out 8
        have c8 := (blk_cell HA54.out 8).trans rfl
        have yA9 := (blk_cell HA14.out 9).trans rfl
        have fA9 := blk_frozen HA14.out 9
        have c9 := (blk_cell HA54.out 9).trans rfl
        have yA10 := (blk_cell HA14.out 10).trans rfl
        have fA10 := blk_frozen HA14.out 10
        have c10 := (blk_cell HA54.out 10).trans rfl
        have yA11 := (blk_cell HA14.out 11).trans rfl
        have fA11 := blk_frozen HA14.out 11
        have c11 := (blk_cell HA54.out 11).trans rfl
        have yA12 := (blk_cell HA14.out 12).trans rfl
        have fA12 := blk_frozen HA14.out 12
        have c12 := (blk_cell HA54.out 12).trans rfl
        have yA13 := (blk_cell HA14.out 13).trans rfl
        have fA13 := blk_frozen HA14.out 13
        have c13 := (blk_cell HA54.out 13).trans rfl
        have yA14 := (blk_cell HA14.out 14).trans rfl
        have fA14 := blk_frozen HA14.out 14
        have c14 := (blk_cell HA54.out 14).trans rfl
        by_cases hm : May (⟨x0, x1, x2, z1, z2, x3, z3, x4, z4, x5 == 1, z5, z6, us, ns, tx⟩ : M)
        · have hsh := short hm
          simp only at hsh
          obtain ⟨hsu, hsn, hst⟩ := hsh
          rw [(mayB_iff _).2 hm]
          have HC := Lib.hid (vokref17_Msg_body.calls 1200 x0 x1 x2 z1 z2 x3 z3 x4 z4 (x5 == 1) z5 z6 Au cu us An cn ns At ct tx _ W4 (Kd.R_reads' HU4.out).2.2 (Kd.R_reads' HU4.out).2.1 (Kd.R_reads' HN4.out).2.2 (Kd.R_reads' HN4.out).2.1 (Kd.R_reads' HT4.out).2.2 (Kd.R_reads' HT4.out).2.1 (vbody_eq 1200 (⟨x0, x1, x2, z1, z2, x3, z3, x4, z4, x5 == 1, z5, z6, us, ns, tx⟩ : M) (by show us.length < 1000; omega) (by show ns.length < 1000; omega) (by show tx.length ≤ 1099511627776; omega) (by omega)))
          have hbb := bytes_body (⟨x0, x1, x2, z1, z2, x3, z3, x4, z4, x5 == 1, z5, z6, us, ns, tx⟩ : M) hbx
          rw [hhd.out] at hvd
          have Hm := Lib.hid hm
          clear hm hsu hsn hst
          generalize hy : body (⟨x0, x1, x2, z1, z2, x3, z3, x4, z4, x5 == 1, z5, z6, us, ns, tx⟩ : M) = y at *
          go_wp2_with fail
          refine HC.out.mono ?_
          rintro e W5 ⟨vy, rfl, hY, hb5⟩
          obtain ⟨Ay, cy, rfl⟩ := Kd.R_slice hY
          clear HC
          clear c0 c1 c2 c3 c4 c5 c6 c7 c8 c9 c10 c11 c12 c13 c14
          clear yA0 yA1 yA2 yA3 yA4 yA5 yA6 yA7 yA8 yA9 yA10 yA11 yA12 yA13 yA14
          clear fA0 fA1 fA2 fA3 fA4 fA5 fA6 fA7 fA8 fA9 fA10 fA11 fA12 fA13 fA14
          have HA55 := Lib.hid (blk_below HA54.out hb5)
          have HA15 := Lib.hid (blk_below HA14.out hb5)
          have HB5 := Lib.hid (HB4.out.trans (hb5.mono HB4.out.size))
          have HU5 := Lib.hid (Kd.R_below HU4.out hb5)
          have HN5 := Lib.hid (Kd.R_below HN4.out hb5)
          have HT5 := Lib.hid (Kd.R_below HT4.out hb5)
          have HCb5 := Lib.hid (Kd.C_below HCb.out HB5.out)
          have HC := Lib.hid (vokref_Bytes.calls Ay cy y (some ad0) c b _ W5 (Kd.R_reads' hY).2.2 (Kd.R_reads' hY).2.1 HCb5.out hc (vbytes_eq y b hbb HBb.out))
          clear hY hb5 HA54 HA14 HB4 HU4 HN4 HT4
          go_wp2_with fail
          refine HC.out.mono ?_
          rintro e W6 ⟨rfl, hdr⟩
          have hb6 := hdr.below
          have HA56 := Lib.hid (blk_below HA55.out hb6)
          have HA16 := Lib.hid (blk_below HA15.out hb6)
          have HB6 := Lib.hid (HB5.out.trans (hb6.mono HB5.out.size))
          have HU6 := Lib.hid (Kd.R_below HU5.out hb6)
          have HN6 := Lib.hid (Kd.R_below HN5.out hb6)
          have HT6 := Lib.hid (Kd.R_below HT5.out hb6)
          clear HC hdr hb6 HA55 HA15 HB5 HU5 HN5 HT5 HCb5
          have yA0 := (blk_cell HA16.out 0).trans rfl
          have fA0 := blk_frozen HA16.out 0
          have c0 := (blk_cell HA56.out 0).trans rfl
          have yA1 := (blk_cell HA16.out 1).trans rfl
          have fA1 := blk_frozen HA16.out 1
          have c1 := (blk_cell HA56.out 1).trans rfl
          have yA2 := (blk_cell HA16.out 2).trans rfl
          have fA2 := blk_frozen HA16.out 2
          have c2 := (blk_cell HA56.out 2).trans rfl
          have yA3 := (blk_cell HA16.out 3).trans rfl
          have fA3 := blk_frozen HA16.out 3
          have c3 := (blk_cell HA56.out 3).trans rfl
          have yA4 := (blk_cell HA16.out 4).trans rfl
          have fA4 := blk_frozen HA16.out 4
          have c4 := (blk_cell HA56.out 4).trans rfl
          have yA5 := (blk_cell HA16.out 5).trans rfl
          have fA5 := blk_frozen HA16.out 5
          have c5 := (blk_cell HA56.out 5).trans rfl
          have yA6 := (blk_cell HA16.out 6).trans rfl
          have fA6 := blk_frozen HA16.out 6
          have c6 := (blk_cell HA56.out 6).trans rfl
          have yA7 := (blk_cell HA16.out 7).trans rfl
          have fA7 := blk_frozen HA16.out 7
          have c7 := (blk_cell HA56.out 7).trans rfl
          have yA8 := (blk_cell HA16.out 8).trans rfl
          have fA8 := blk_frozen HA16.out 8
          have c8 := (blk_cell HA56.out 8).trans rfl
          have yA9 := (blk_cell HA16.out 9).trans rfl
          have fA9 := blk_frozen HA16.out 9
          have c9 := (blk_cell HA56.out 9).trans rfl
          have yA10 := (blk_cell HA16.out 10).trans rfl
          have fA10 := blk_frozen HA16.out 10
          have c10 := (blk_cell HA56.out 10).trans rfl
          have yA11 := (blk_cell HA16.out 11).trans rfl
          have fA11 := blk_frozen HA16.out 11
          have c11 := (blk_cell HA56.out 11).trans rfl
          have yA12 := (blk_cell HA16.out 12).trans rfl
          have fA12 := blk_frozen HA16.out 12
          have c12 := (blk_cell HA56.out 12).trans rfl
          have yA13 := (blk_cell HA16.out 13).trans rfl
          have fA13 := blk_frozen HA16.out 13
          have c13 := (blk_cell HA56.out 13).trans rfl
          have yA14 := (blk_cell HA16.out 14).trans rfl
          have fA14 := blk_frozen HA16.out 14
          have c14 := (blk_cell HA56.out 14).trans rfl
          by_cases hyb : y = b
          · rw [decide_eq_true hyb]
            rw [if_neg (fun h => h.elim (fun g => g Hm.out) (fun g => g hyb))] at hvd
            go_wp2
            rw [hvd.out]
            (try simp only [Exit.inBlock, Exit.then])
            refine bodyPost_ret (results_ct rfl _ _ w.heap.size 43 #[.int .i64 x0, .int .i64 x1, .int .i64 x2, .int .i64 z1, .int .i64 z2, .int .i64 x3, .int .i64 z3, .int .i64 x4, .int .i64 z4, .bool (x5 == 1), .int .i64 z5, .int .i64 z6, .slice Au us.length cu, .slice An ns.length cn, .slice At tx.length ct] (0, 0) _ rfl (blk15 _ _ _ _ _ _ _ _ _ _ _ _ _ _ _ HA16.out) Try.underlying43 rfl (by kernel_rfl)) rfl ?_
            exact ⟨_, _, _, rfl, Kd.R_lower (R_grew (R_grew (R_grew (R_grew (R_grew (R_grew (R_grew (R_grew (R_grew (R_grew (R_grew (R_grew (R_grew (R_grew (R_grew HU6.out (grown_set _ w.heap.size 0 (.int .i64 x0)) (fun k hk => by cases hk; omega)) (grown_set _ w.heap.size 1 (.int .i64 x1)) (fun k hk => by cases hk; omega)) (grown_set _ w.heap.size 2 (.int .i64 x2)) (fun k hk => by cases hk; omega)) (grown_set _ w.heap.size 3 (.int .i64 z1)) (fun k hk => by cases hk; omega)) (grown_set _ w.heap.size 4 (.int .i64 z2)) (fun k hk => by cases hk; omega)) (grown_set _ w.heap.size 5 (.int .i64 x3)) (fun k hk => by cases hk; omega)) (grown_set _ w.heap.size 6 (.int .i64 z3)) (fun k hk => by cases hk; omega)) (grown_set _ w.heap.size 7 (.int .i64 x4)) (fun k hk => by cases hk; omega)) (grown_set _ w.heap.size 8 (.int .i64 z4)) (fun k hk => by cases hk; omega)) (grown_set _ w.heap.size 9 (.bool (x5 == 1))) (fun k hk => by cases hk; omega)) (grown_set _ w.heap.size 10 (.int .i64 z5)) (fun k hk => by cases hk; omega)) (grown_set _ w.heap.size 11 (.int .i64 z6)) (fun k hk => by cases hk; omega)) (grown_set _ w.heap.size 12 (.slice Au us.length cu)) (fun k hk => by cases hk; omega)) (grown_set _ w.heap.size 13 (.slice An ns.length cn)) (fun k hk => by cases hk; omega)) (grown_set _ w.heap.size 14 (.slice At tx.length ct)) (fun k hk => by cases hk; omega)) (by omega), Kd.R_lower (R_grew (R_grew (R_grew (R_grew (R_grew (R_grew (R_grew (R_grew (R_grew (R_grew (R_grew (R_grew (R_grew (R_grew (R_grew HN6.out (grown_set _ w.heap.size 0 (.int .i64 x0)) (fun k hk => by cases hk; omega)) (grown_set _ w.heap.size 1 (.int .i64 x1)) (fun k hk => by cases hk; omega)) (grown_set _ w.heap.size 2 (.int .i64 x2)) (fun k hk => by cases hk; omega)) (grown_set _ w.heap.size 3 (.int .i64 z1)) (fun k hk => by cases hk; omega)) (grown_set _ w.heap.size 4 (.int .i64 z2)) (fun k hk => by cases hk; omega)) (grown_set _ w.heap.size 5 (.int .i64 x3)) (fun k hk => by cases hk; omega)) (grown_set _ w.heap.size 6 (.int .i64 z3)) (fun k hk => by cases hk; omega)) (grown_set _ w.heap.size 7 (.int .i64 x4)) (fun k hk => by cases hk; omega)) (grown_set _ w.heap.size 8 (.int .i64 z4)) (fun k hk => by cases hk; omega)) (grown_set _ w.heap.size 9 (.bool (x5 == 1))) (fun k hk => by cases hk; omega)) (grown_set _ w.heap.size 10 (.int .i64 z5)) (fun k hk => by cases hk; omega)) (grown_set _ w.heap.size 11 (.int .i64 z6)) (fun k hk => by cases hk; omega)) (grown_set _ w.heap.size 12 (.slice Au us.length cu)) (fun k hk => by cases hk; omega)) (grown_set _ w.heap.size 13 (.slice An ns.length cn)) (fun k hk => by cases hk; omega)) (grown_set _ w.heap.size 14 (.slice At tx.length ct)) (fun k hk => by cases hk; omega)) (by omega), Kd.R_lower (R_grew (R_grew (R_grew (R_grew (R_grew (R_grew (R_grew (R_grew (R_grew (R_grew (R_grew (R_grew (R_grew (R_grew (R_grew HT6.out (grown_set _ w.heap.size 0 (.int .i64 x0)) (fun k hk => by cases hk; omega)) (grown_set _ w.heap.size 1 (.int .i64 x1)) (fun k hk => by cases hk; omega)) (grown_set _ w.heap.size 2 (.int .i64 x2)) (fun k hk => by cases hk; omega)) (grown_set _ w.heap.size 3 (.int .i64 z1)) (fun k hk => by cases hk; omega)) (grown_set _ w.heap.size 4 (.int .i64 z2)) (fun k hk => by cases hk; omega)) (grown_set _ w.heap.size 5 (.int .i64 x3)) (fun k hk => by cases hk; omega)) (grown_set _ w.heap.size 6 (.int .i64 z3)) (fun k hk => by cases hk; omega)) (grown_set _ w.heap.size 7 (.int .i64 x4)) (fun k hk => by cases hk; omega)) (grown_set _ w.heap.size 8 (.int .i64 z4)) (fun k hk => by cases hk; omega)) (grown_set _ w.heap.size 9 (.bool (x5 == 1))) (fun k hk => by cases hk; omega)) (grown_set _ w.heap.size 10 (.int .i64 z5)) (fun k hk => by cases hk; omega)) (grown_set _ w.heap.size 11 (.int .i64 z6)) (fun k hk => by cases hk; omega)) (grown_set _ w.heap.size 12 (.slice Au us.length cu)) (fun k hk => by cases hk; omega)) (grown_set _ w.heap.size 13 (.slice An ns.length cn)) (fun k hk => by cases hk; omega)) (grown_set _ w.heap.size 14 (.slice At tx.length ct)) (fun k hk => by cases hk; omega)) (by omega), (Below.setCell (Below.setCell (Below.setCell (Below.setCell (Below.setCell (Below.setCell (Below.setCell (Below.setCell (Below.setCell (Below.setCell (Below.setCell (Below.setCell (Below.setCell (Below.setCell (Below.setCell HB6.out (p := ⟨w.heap.size, 0, none⟩) (Nat.le_refl _) (.int .i64 x0)) (p := ⟨w.heap.size, 1, none⟩) (Nat.le_refl _) (.int .i64 x1)) (p := ⟨w.heap.size, 2, none⟩) (Nat.le_refl _) (.int .i64 x2)) (p := ⟨w.heap.size, 3, none⟩) (Nat.le_refl _) (.int .i64 z1)) (p := ⟨w.heap.size, 4, none⟩) (Nat.le_refl _) (.int .i64 z2)) (p := ⟨w.heap.size, 5, none⟩) (Nat.le_refl _) (.int .i64 x3)) (p := ⟨w.heap.size, 6, none⟩) (Nat.le_refl _) (.int .i64 z3)) (p := ⟨w.heap.size, 7, none⟩) (Nat.le_refl _) (.int .i64 x4)) (p := ⟨w.heap.size, 8, none⟩) (Nat.le_refl _) (.int .i64 z4)) (p := ⟨w.heap.size, 9, none⟩) (Nat.le_refl _) (.bool (x5 == 1))) (p := ⟨w.heap.size, 10, none⟩) (Nat.le_refl _) (.int .i64 z5)) (p := ⟨w.heap.size, 11, none⟩) (Nat.le_refl _) (.int .i64 z6)) (p := ⟨w.heap.size, 12, none⟩) (Nat.le_refl _) (.slice Au us.length cu)) (p := ⟨w.heap.size, 13, none⟩) (Nat.le_refl _) (.slice An ns.length cn)) (p := ⟨w.heap.size, 14, none⟩) (Nat.le_refl _) (.slice At tx.length ct))⟩
          · rw [decide_eq_false hyb]
            rw [if_pos (Or.inr hyb)] at hvd
            go_wp2
            rw [hvd.out]
            (try simp only [Exit.inBlock, Exit.then])
            refine bodyPost_ret (results_ct rfl _ _ w.heap.size 43 #[.int .i64 0, .int .i64 0, .int .i64 0, .int .i64 0, .int .i64 0, .int .i64 0, .int .i64 0, .int .i64 0, .int .i64 0, .bool false, .int .i64 0, .int .i64 0, .slice none 0 0, .slice none 0 0, .slice none 0 0] (0, 0) _ rfl (blk15 _ _ _ _ _ _ _ _ _ _ _ _ _ _ _ HA16.out) Try.underlying43 rfl (by kernel_rfl)) rfl ?_
            exact dec_no w _ 4 (Below.setCell (Below.setCell (Below.setCell (Below.setCell (Below.setCell (Below.setCell (Below.setCell (Below.setCell (Below.setCell (Below.setCell (Below.setCell (Below.setCell (Below.setCell (Below.setCell (Below.setCell HB6.out (p := ⟨w.heap.size, 0, none⟩) (Nat.le_refl _) (.int .i64 0)) (p := ⟨w.heap.size, 1, none⟩) (Nat.le_refl _) (.int .i64 0)) (p := ⟨w.heap.size, 2, none⟩) (Nat.le_refl _) (.int .i64 0)) (p := ⟨w.heap.size, 3, none⟩) (Nat.le_refl _) (.int .i64 0)) (p := ⟨w.heap.size, 4, none⟩) (Nat.le_refl _) (.int .i64 0)) (p := ⟨w.heap.size, 5, none⟩) (Nat.le_refl _) (.int .i64 0)) (p := ⟨w.heap.size, 6, none⟩) (Nat.le_refl _) (.int .i64 0)) (p := ⟨w.heap.size, 7, none⟩) (Nat.le_refl _) (.int .i64 0)) (p := ⟨w.heap.size, 8, none⟩) (Nat.le_refl _) (.int .i64 0)) (p := ⟨w.heap.size, 9, none⟩) (Nat.le_refl _) (.bool false)) (p := ⟨w.heap.size, 10, none⟩) (Nat.le_refl _) (.int .i64 0)) (p := ⟨w.heap.size, 11, none⟩) (Nat.le_refl _) (.int .i64 0)) (p := ⟨w.heap.size, 12, none⟩) (Nat.le_refl _) (.slice none 0 0)) (p := ⟨w.heap.size, 13, none⟩) (Nat.le_refl _) (.slice none 0 0)) (p := ⟨w.heap.size, 14, none⟩) (Nat.le_refl _) (.slice none 0 0))
        · rw [mayB_no hm]
          rw [if_pos (Or.inl (by rw [hhd.out]; exact hm))] at hvd
          go_wp2
          rw [hvd.out]
          (try simp only [Exit.inBlock, Exit.then])
          refine bodyPost_ret (results_ct rfl _ _ w.heap.size 43 #[.int .i64 0, .int .i64 0, .int .i64 0, .int .i64 0, .int .i64 0, .int .i64 0, .int .i64 0, .int .i64 0, .int .i64 0, .bool false, .int .i64 0, .int .i64 0, .slice none 0 0, .slice none 0 0, .slice none 0 0] (0, 0) _ rfl (blk15 _ _ _ _ _ _ _ _ _ _ _ _ _ _ _ HA14.out) Try.underlying43 rfl (by kernel_rfl)) rfl ?_
          exact dec_no w _ 4 (Below.setCell (Below.setCell (Below.setCell (Below.setCell (Below.setCell (Below.setCell (Below.setCell (Below.setCell (Below.setCell (Below.setCell (Below.setCell (Below.setCell (Below.setCell (Below.setCell (Below.setCell HB4.out (p := ⟨w.heap.size, 0, none⟩) (Nat.le_refl _) (.int .i64 0)) (p := ⟨w.heap.size, 1, none⟩) (Nat.le_refl _) (.int .i64 0)) (p := ⟨w.heap.size, 2, none⟩) (Nat.le_refl _) (.int .i64 0)) (p := ⟨w.heap.size, 3, none⟩) (Nat.le_refl _) (.int .i64 0)) (p := ⟨w.heap.size, 4, none⟩) (Nat.le_refl _) (.int .i64 0)) (p := ⟨w.heap.size, 5, none⟩) (Nat.le_refl _) (.int .i64 0)) (p := ⟨w.heap.size, 6, none⟩) (Nat.le_refl _) (.int .i64 0)) (p := ⟨w.heap.size, 7, none⟩) (Nat.le_refl _) (.int .i64 0)) (p := ⟨w.heap.size, 8, none⟩) (Nat.le_refl _) (.int .i64 0)) (p := ⟨w.heap.size, 9, none⟩) (Nat.le_refl _) (.bool false)) (p := ⟨w.heap.size, 10, none⟩) (Nat.le_refl _) (.int .i64 0)) (p := ⟨w.heap.size, 11, none⟩) (Nat.le_refl _) (.int .i64 0)) (p := ⟨w.heap.size, 12, none⟩) (Nat.le_refl _) (.slice none 0 0)) (p := ⟨w.heap.size, 13, none⟩) (Nat.le_refl _) (.slice none 0 0)) (p := ⟨w.heap.size, 14, none⟩) (Nat.le_refl _) (.slice none 0 0))
      · have hec1 : (ec != 0) = true := by simp [hec]
        have hec2 : (ec == 0) = false := by simp [hec]
        rw [if_pos hec] at hvd
        go_wp2
        rw [hvd.out]
        (try simp only [Exit.inBlock, Exit.then])
        refine bodyPost_ret (results_ct rfl _ _ w.heap.size 43 #[.int .i64 0, .int .i64 0, .int .i64 0, .int .i64 0, .int .i64 0, .int .i64 0, .int .i64 0, .int .i64 0, .int .i64 0, .bool false, .int .i64 0, .int .i64 0, .slice none 0 0, .slice none 0 0, .slice none 0 0] (0, 0) _ rfl (blk15 _ _ _ _ _ _ _ _ _ _ _ _ _ _ _ HA1.out) Try.underlying43 rfl (by kernel_rfl)) rfl ?_
        exact dec_no w _ ec (Below.setCell (Below.setCell (Below.setCell (Below.setCell (Below.setCell (Below.setCell (Below.setCell (Below.setCell (Below.setCell (Below.setCell (Below.setCell (Below.setCell (Below.setCell (Below.setCell (Below.setCell HB3.out (p := ⟨w.heap.size, 0, none⟩) (Nat.le_refl _) (.int .i64 0)) (p := ⟨w.heap.size, 1, none⟩) (Nat.le_refl _) (.int .i64 0)) (p := ⟨w.heap.size, 2, none⟩) (Nat.le_refl _) (.int .i64 0)) (p := ⟨w.heap.size, 3, none⟩) (Nat.le_refl _) (.int .i64 0)) (p := ⟨w.heap.size, 4, none⟩) (Nat.le_refl _) (.int .i64 0)) (p := ⟨w.heap.size, 5, none⟩) (Nat.le_refl _) (.int .i64 0)) (p := ⟨w.heap.size, 6, none⟩) (Nat.le_refl _) (.int .i64 0)) (p := ⟨w.heap.size, 7, none⟩) (Nat.le_refl _) (.int .i64 0)) (p := ⟨w.heap.size, 8, none⟩) (Nat.le_refl _) (.int .i64 0)) (p := ⟨w.heap.size, 9, none⟩) (Nat.le_refl _) (.bool false)) (p := ⟨w.heap.size, 10, none⟩) (Nat.le_refl _) (.int .i64 0)) (p := ⟨w.heap.size, 11, none⟩) (Nat.le_refl _) (.int .i64 0)) (p := ⟨w.heap.size, 12, none⟩) (Nat.le_refl _) (.slice none 0 0)) (p := ⟨w.heap.size, 13, none⟩) (Nat.le_refl _) (.slice none 0 0)) (p := ⟨w.heap.size, 14, none⟩) (Nat.le_refl _) (.slice none 0 0))

end Go.Proofs.Ytleljfmhefobeaa.GKVd
