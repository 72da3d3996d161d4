/- The reference's Decode: a walk by hand. -/
import Derived.Test.YtleljfmhefobeaaGJTail
import Derived.Test.YtleljfmhefobeaaGJRr
import Derived.WalkKit
import Derived.WalkSpells
import Derived.Lib.Hide
import Derived.Deep.RegionHeld3
set_option linter.unusedVariables false
set_option linter.unusedSimpArgs false
namespace Go.Proofs.Ytleljfmhefobeaa.GJVd
open Go.RowKit Go.Proofs.YtleljfmhefobeaaW.PrintWords Go.Proofs.YtleljfmhefobeaaW.PrintLast Go.Proofs.YtleljfmhefobeaaW.PrintMore Go.Proofs.Ytleljfmhefobeaa.GJ Go.Proofs.Ytleljfmhefobeaa.GJPa Go.Proofs.Ytleljfmhefobeaa.GJPe Go.Proofs.Ytleljfmhefobeaa.GJPr Go.Proofs.Ytleljfmhefobeaa.GJSrc Go.Proofs.Ytleljfmhefobeaa.GJDec Go.Proofs.Ytleljfmhefobeaa.GJRd Go.Proofs.Ytleljfmhefobeaa.GJRa Go.Proofs.Ytleljfmhefobeaa.GJRr Go.Proofs.Ytleljfmhefobeaa.GJTail Go.Proofs.Ytleljfmhefobeaa.GJB

set_option maxHeartbeats 400000 in
theorem num_any (xs : List Int) (A : Option Addr) (c : Nat) (w : World) (hb : bytesL xs) (h6 : xs.length ≤ 6) (hc : xs.length ≤ c) (hC : Kd.C (Kd.int .u8) w A xs.length xs) :
    Calls Try.prog 52 #[.slice A xs.length c] w (fun e w' => e = .returned (.int .i64 (num xs)) ∧ w' = w) := by
  go_enter Try.func52, Try.ntmps52
  go_wp2
  go_loop [3, 4] (fun v i => ∃ k : Nat, k ≤ xs.length ∧ i = .int .i64 k ∧ v = .int .i64 (num (xs.take k))) (fun _ i => xs.length - (intOf i).toNat)
  case atStart => exact ⟨0, Nat.zero_le _, rfl, rfl⟩
  case round =>
    obtain ⟨k, hk, rfl, rfl⟩ := hrel
    by_cases hlt : k < xs.length
    · obtain ⟨ad, rfl, hcell⟩ := Kd.at_int hC (k : Int) (by omega) (by omega)
      rw [Int.toNat_natCast] at hcell
      have hx := hb (rd xs k) (by rw [rd_get hlt]; exact List.getElem_mem _)
      have hx0 := hx.1
      have hx1 := hx.2
      have hns := num_small (xs.take k) (fun x hx => hb x (List.mem_of_mem_take hx)) (by rw [List.length_take]; omega)
      have hn0 := hns.1
      have hn1 := hns.2
      have HS := Lib.hid (show num (xs.take (k + 1)) = num (xs.take k) * 256 + rd xs k by rw [take_succ_rd xs k hlt, num_snoc])
      clear hx hns hb hC
      generalize num (xs.take k) = v at *
      generalize rd xs k = x at *
      have hw1 : IntKind.i64.wrap (256 * v) = 256 * v := by rw [IntKind.wrap_i64]; omega
      have hw2 : IntKind.i64.wrap (256 * v + x) = 256 * v + x := by rw [IntKind.wrap_i64]; omega
      go_wp2
      exact ⟨⟨k + 1, by omega, by go_num, by rw [HS.out, Int.mul_comm v 256]⟩, by simp [intOf]; omega⟩
    · obtain rfl : k = xs.length := by omega
      clear hlt
      go_wp2
      go_ret
      exact ⟨rfl, rfl⟩
theorem one_len {s us r : List Int} (h : one s = some (us, r)) : us.length ≤ s.length ∧ r.length ≤ s.length := by
  cases s with
  | nil => cases h
  | cons n t =>
    simp only [one] at h
    by_cases g : t.length < n.toNat
    · rw [if_pos g] at h; cases h
    · rw [if_neg g] at h
      cases h
      simp only [List.length_take, List.length_drop, List.length_cons]
      omega
theorem one_bytes {s us r : List Int} (h : one s = some (us, r)) (hb : bytesL s) : bytesL us ∧ bytesL r := by
  cases s with
  | nil => cases h
  | cons n t =>
    simp only [one] at h
    by_cases g : t.length < n.toNat
    · rw [if_pos g] at h; cases h
    · rw [if_neg g] at h
      cases h
      exact ⟨fun x hx => hb x (List.mem_cons_of_mem _ (List.mem_of_mem_take hx)), fun x hx => hb x (List.mem_cons_of_mem _ (List.mem_of_mem_drop hx))⟩
theorem vtail_ok (b : List Int) (p : Nat) (hb : bytesL b) : (vtail b p).1.length ≤ b.length ∧ (vtail b p).2.1.length ≤ b.length ∧ (vtail b p).2.2.1.length ≤ b.length ∧ bytesL (vtail b p).2.2.1 := by
  have no : bytesL [] := fun x hx => by cases hx
  unfold vtail
  have hl0 : (b.drop p).length ≤ b.length := by rw [List.length_drop]; omega
  have hb0 : bytesL (b.drop p) := fun x hx => hb x (List.mem_of_mem_drop hx)
  cases h1 : one (b.drop p) with
  | none => exact ⟨Nat.zero_le _, Nat.zero_le _, Nat.zero_le _, no⟩
  | some x =>
    obtain ⟨us, s1⟩ := x
    obtain ⟨l1, l2⟩ := one_len h1
    obtain ⟨b1, b2⟩ := one_bytes h1 hb0
    simp only
    cases h2 : one s1 with
    | none => exact ⟨Nat.zero_le _, Nat.zero_le _, Nat.zero_le _, no⟩
    | some y =>
      obtain ⟨ns, s2⟩ := y
      obtain ⟨l3, l4⟩ := one_len h2
      obtain ⟨b3, b4⟩ := one_bytes h2 b2
      simp only
      have l5 : (s2.drop 2).length ≤ s2.length := by rw [List.length_drop]; omega
      have b5 : bytesL (s2.drop 2) := fun x hx => b4 x (List.mem_of_mem_drop hx)
      generalize s2.drop 2 = s3 at *
      repeat' split
      all_goals first | exact ⟨Nat.zero_le _, Nat.zero_le _, Nat.zero_le _, no⟩ | exact ⟨by simp only; omega, by simp only; omega, by simp only; omega, b5⟩
/-- The head's numbers as the walk reads them. -/
def hd (b us ns tx : List Int) : M := ⟨rd b 0, num ((b.drop 1).take 6), num ((b.drop 7).take 6), rd b 19, num ((b.drop 13).take 6), decide (rd b 20 = 1), us, ns, tx⟩
theorem take1 (b : List Int) (p : Nat) (h : p < b.length) : num ((b.drop p).take 1) = rd b p := by
  rw [List.drop_eq_getElem_cons h, List.take_succ_cons, List.take_zero, rd_get h]
  simp [num]
theorem hd_eq {b us ns tx : List Int} (h : 21 ≤ b.length) : headM b us ns tx (yR b) = hd b us ns tx := by
  unfold headM hd yR
  rw [take1 b 20 (by omega), take1 b 19 (by omega), show b.take 1 = (b.drop 0).take 1 from rfl, take1 b 0 (by omega)]
  rfl
open Classical in
theorem vdec_long {b : List Int} (h : 21 ≤ b.length) : vdec b = if (vtail b 21).2.2.2 ≠ 0 then (m0, (vtail b 21).2.2.2) else
    if ¬ May (hd b (vtail b 21).1 (vtail b 21).2.1 (vtail b 21).2.2.1) ∨ body (hd b (vtail b 21).1 (vtail b 21).2.1 (vtail b 21).2.2.1) ≠ b then (m0, 4) else (hd b (vtail b 21).1 (vtail b 21).2.1 (vtail b 21).2.2.1, 0) := by
  unfold vdec
  rw [if_neg (by omega)]
  simp only [hd_eq h]
  unfold vtail
  cases h1 : one (b.drop 21) with
  | none => exact (if_pos (show (2 : Int) ≠ 0 by decide)).symm
  | some x =>
    obtain ⟨us, s1⟩ := x
    simp only
    cases h2 : one s1 with
    | none => exact (if_pos (show (2 : Int) ≠ 0 by decide)).symm
    | some y =>
      obtain ⟨ns, s2⟩ := y
      simp only
      by_cases g1 : s2.length < 2
      · rw [if_pos g1, if_pos g1]; exact (if_pos (show (2 : Int) ≠ 0 by decide)).symm
      · rw [if_neg g1, if_neg g1]
        by_cases g2 : (s2.drop 2).length < (num (s2.take 2)).toNat
        · rw [if_pos g2, if_pos g2]; exact (if_pos (show (2 : Int) ≠ 0 by decide)).symm
        · rw [if_neg g2, if_neg g2]
          by_cases g3 : (s2.drop 2).length > (num (s2.take 2)).toNat
          · rw [if_pos g3, if_pos g3]; exact (if_pos (show (3 : Int) ≠ 0 by decide)).symm
          · rw [if_neg g3, if_neg g3]; exact (if_neg (show ¬ (0 : Int) ≠ 0 by decide)).symm
theorem vdec_short {b : List Int} (h : b.length < 21) : vdec b = (m0, 2) := by
  unfold vdec
  rw [if_pos h]
set_option maxRecDepth 100000 in
set_option maxHeartbeats 2000000 in
theorem vdecode_any (b : List Int) (A : Option Addr) (c : Nat) (w : World) (hb : bytesL b) (hlen : b.length ≤ 20000) (hc : b.length ≤ c) (hC : Kd.C (Kd.int .u8) w A b.length b) :
    Calls Try.prog 34 #[.slice A b.length c] w (DecIs w (dec b)) := by
  rw [dec_vdec _ hb]
  have hurec := Try.underlying53
  have HBb := Lib.hid hb
  have HCb := Lib.hid hC
  have HA := Lib.hid (blk_new w (.cells #[.int .i64 0, .int .i64 0, .int .i64 0, .int .i64 0, .int .i64 0, .bool false, .slice none 0 0, .slice none 0 0, .slice none 0 0] 53))
  have HB := Lib.hid ((Below.refl w.heap.size w).alloc (Nat.le_refl _) (.cells #[.int .i64 0, .int .i64 0, .int .i64 0, .int .i64 0, .int .i64 0, .bool false, .slice none 0 0, .slice none 0 0, .slice none 0 0] 53))
  have hsz0 : (w.alloc (.cells #[.int .i64 0, .int .i64 0, .int .i64 0, .int .i64 0, .int .i64 0, .bool false, .slice none 0 0, .slice none 0 0, .slice none 0 0] 53)).heap.size = w.heap.size + 1 := by simp
  clear hC hb
  by_cases hsh : b.length < 21
  · have hsd : decide (b.length < 21) = true := decide_eq_true hsh
    have hsd2 : decide ((b.length : Int) < 21) = true := decide_eq_true (by omega)
    rw [vdec_short hsh]
    go_enter Try.func34, Try.ntmps34
    go_wp2
    generalize w.alloc (.cells #[.int .i64 0, .int .i64 0, .int .i64 0, .int .i64 0, .int .i64 0, .bool false, .slice none 0 0, .slice none 0 0, .slice none 0 0] 53) = W0 at *
    trace_state
    refine bodyPost_ret (results_ct rfl _ _ w.heap.size 53 #[.int .i64 0, .int .i64 0, .int .i64 0, .int .i64 0, .int .i64 0, .bool false, .slice none 0 0, .slice none 0 0, .slice none 0 0] (0, 0) _ rfl HA.out Try.underlying53 rfl (by kernel_rfl)) rfl ?_
    exact dec_no w _ 2 HB.out
  · have hsd : decide (b.length < 21) = false := decide_eq_false hsh
    have hsd2 : decide ((b.length : Int) < 21) = false := decide_eq_false (by omega)
    go_enter Try.func34, Try.ntmps34
    go_wp2_with fail
    generalize w.alloc (.cells #[.int .i64 0, .int .i64 0, .int .i64 0, .int .i64 0, .int .i64 0, .bool false, .slice none 0 0, .slice none 0 0, .slice none 0 0] 53) = W0 at *
    have hlong : 21 ≤ b.length := by omega
    have HCw := Lib.hid (Kd.C_below HCb.out HB.out)
    obtain ⟨ad, hae, hcell0⟩ := Kd.at_int HCw.out (0 : Int) (by omega) (by omega)
    cases hae
    obtain ⟨ad2, hae2, hcell19⟩ := Kd.at_int HCw.out (19 : Int) (by omega) (by omega)
    cases hae2
    obtain ⟨ad3, hae3, hcell20⟩ := Kd.at_int HCw.out (20 : Int) (by omega) (by omega)
    cases hae3
    have r0 := HBb.out (rd b 0) (by rw [show (0 : Int) = ((0 : Nat) : Int) from rfl, rd_get (by omega)]; exact List.getElem_mem _)
    have r19 := HBb.out (rd b 19) (by rw [show (19 : Int) = ((19 : Nat) : Int) from rfl, rd_get (by omega)]; exact List.getElem_mem _)
    have r20 := HBb.out (rd b 20) (by rw [show (20 : Int) = ((20 : Nat) : Int) from rfl, rd_get (by omega)]; exact List.getElem_mem _)
    obtain ⟨A1, hm1, hmC1, hml1⟩ := cutn b (some ad) c 1 7 1 6 rfl rfl (by omega) hc
    obtain ⟨A2, hm2, hmC2, hml2⟩ := cutn b (some ad) c 7 13 7 6 rfl rfl (by omega) hc
    obtain ⟨A3, hm3, hmC3, hml3⟩ := cutn b (some ad) c 13 19 13 6 rfl rfl (by omega) hc
    have hl1 : ((b.drop 1).take 6).length = 6 := by rw [List.length_take, List.length_drop]; omega
    have hl2 : ((b.drop 7).take 6).length = 6 := by rw [List.length_take, List.length_drop]; omega
    have hl3 : ((b.drop 13).take 6).length = 6 := by rw [List.length_take, List.length_drop]; omega
    have hb1 : bytesL ((b.drop 1).take 6) := fun x hx => HBb.out x (List.mem_of_mem_drop (List.mem_of_mem_take hx))
    have hb2 : bytesL ((b.drop 7).take 6) := fun x hx => HBb.out x (List.mem_of_mem_drop (List.mem_of_mem_take hx))
    have hb3 : bytesL ((b.drop 13).take 6) := fun x hx => HBb.out x (List.mem_of_mem_drop (List.mem_of_mem_take hx))
    have HN1 := Lib.hid (fun w1 (h : Kd.C (Kd.int .u8) w1 (some ad) b.length b) => num_any ((b.drop 1).take 6) A1 (c - 1) w1 hb1 (by omega) (by omega) (by rw [hl1]; exact hmC1 _ h))
    have HN2 := Lib.hid (fun w1 (h : Kd.C (Kd.int .u8) w1 (some ad) b.length b) => num_any ((b.drop 7).take 6) A2 (c - 7) w1 hb2 (by omega) (by omega) (by rw [hl2]; exact hmC2 _ h))
    have HN3 := Lib.hid (fun w1 (h : Kd.C (Kd.int .u8) w1 (some ad) b.length b) => num_any ((b.drop 13).take 6) A3 (c - 13) w1 hb3 (by omega) (by omega) (by rw [hl3]; exact hmC3 _ h))
    rw [hl1] at HN1
    rw [hl2] at HN2
    rw [hl3] at HN3
    clear hmC1 hmC2 hmC3 hb1 hb2 hb3 hl1 hl2 hl3
    have hvd := Lib.hid (vdec_long hlong)
    have hcell0' : W0.cell? ad = some (.int .u8 (rd b 0)) := by simpa [Addr.add] using hcell0
    have hcell19' : W0.cell? ⟨ad.block, ad.off + 19, none⟩ = some (.int .u8 (rd b 19)) := hcell19
    have hcell20' : W0.cell? ⟨ad.block, ad.off + 20, none⟩ = some (.int .u8 (rd b 20)) := hcell20
    clear hcell0 hcell19 hcell20
    have hbk : ad.block < w.heap.size := Kd.C_lt HCb.out (by omega) (by decide)
    have hbk1 : ad.block ≠ W0.heap.size := by omega
    have hi0 : (0 : Int) < (b.length : Int) := by omega
    have hi19 : (19 : Int) < (b.length : Int) := by omega
    have hi20 : (20 : Int) < (b.length : Int) := by omega
    have hj0 : 0 < b.length := by omega
    have hj19 : 19 < b.length := by omega
    have hj20 : 20 < b.length := by omega
    have hhd := Lib.hid (show ∀ us ns tx, hd b us ns tx = ⟨rd b 0, num ((b.drop 1).take 6), num ((b.drop 7).take 6), rd b 19, num ((b.drop 13).take 6), rd b 20 == 1, us, ns, tx⟩ from fun _ _ _ => rfl)
    generalize num ((b.drop 1).take 6) = z1 at *
    generalize num ((b.drop 7).take 6) = z2 at *
    generalize num ((b.drop 13).take 6) = z3 at *
    generalize rd b 0 = x0 at *
    generalize rd b 19 = x19 at *
    generalize rd b 20 = x20 at *
    have hwx0 : IntKind.i64.wrap x0 = x0 := by rw [IntKind.wrap_i64]; omega
    have hwx19 : IntKind.i64.wrap x19 = x19 := by rw [IntKind.wrap_i64]; omega
    go_region_held3 (fun w' => w'.cell? ad = some (.int .u8 x0) ∧ w'.cell? ⟨ad.block, ad.off + 19, none⟩ = some (.int .u8 x19) ∧ w'.cell? ⟨ad.block, ad.off + 20, none⟩ = some (.int .u8 x20)) (go_keep)
      (first | (go_at_call_of 52 A1; refine (HN1.out _ ?_).mono ?_; (first | exact Kd.C_drew HCw.out | exact Kd.C_alloc (Kd.C_drew HCw.out) _ | exact Kd.C_drew (Kd.C_alloc HCw.out _)); rintro e w' ⟨rfl, rfl⟩) | (go_at_call_of 52 A2; refine (HN2.out _ ?_).mono ?_; (first | exact Kd.C_drew HCw.out | exact Kd.C_alloc (Kd.C_drew HCw.out) _ | exact Kd.C_drew (Kd.C_alloc HCw.out _)); rintro e w' ⟨rfl, rfl⟩) | (go_at_call_of 52 A3; refine (HN3.out _ ?_).mono ?_; (first | exact Kd.C_drew HCw.out | exact Kd.C_alloc (Kd.C_drew HCw.out) _ | exact Kd.C_drew (Kd.C_alloc HCw.out _)); rintro e w' ⟨rfl, rfl⟩))
    all_goals
      have HA5 := Lib.hid (blk_drew (blk_new W0 (.cells #[.int .i64 x0, .int .i64 z1, .int .i64 z2, .int .i64 x19, .int .i64 z3, .bool (x20 == 1), .slice none 0 0, .slice none 0 0, .slice none 0 0] 53)))
      rw [hsz0] at HA5
      have HA1 := Lib.hid (blk_drew (blk_alloc HA.out (.cells #[.int .i64 x0, .int .i64 z1, .int .i64 z2, .int .i64 x19, .int .i64 z3, .bool (x20 == 1), .slice none 0 0, .slice none 0 0, .slice none 0 0] 53)))
      have HB1 := Lib.hid ((HB.out.alloc (by omega) (.cells #[.int .i64 x0, .int .i64 z1, .int .i64 z2, .int .i64 x19, .int .i64 z3, .bool (x20 == 1), .slice none 0 0, .slice none 0 0, .slice none 0 0] 53)).drew)
      have hsz1 : ((W0.alloc (.cells #[.int .i64 x0, .int .i64 z1, .int .i64 z2, .int .i64 x19, .int .i64 z3, .bool (x20 == 1), .slice none 0 0, .slice none 0 0, .slice none 0 0] 53)).drew).heap.size = w.heap.size + 2 := by simp [hsz0]
      generalize (W0.alloc (.cells #[.int .i64 x0, .int .i64 z1, .int .i64 z2, .int .i64 x19, .int .i64 z3, .bool (x20 == 1), .slice none 0 0, .slice none 0 0, .slice none 0 0] 53)).drew = W1 at *
      have HC1 := Lib.hid (Kd.C_below HCb.out HB1.out)
      have HC := Lib.hid (tail_any b (some ad) c 21 W1 HBb.out hlen (by omega) hc HC1.out)
      go_wp2_with fail
      refine HC.out.mono ?_
      rintro e W2 ⟨vu, vn, vt, rfl, hU, hN, hT, hbt⟩
      clear HC
      obtain ⟨hl1, hl2, hl3, hbx⟩ := vtail_ok b 21 HBb.out
      have Hhd := hhd
      generalize vtail b 21 = t at *
      obtain ⟨us, ns, tx, ec⟩ := t
      simp only at hU hN hT hl1 hl2 hl3 hbx hvd
      obtain ⟨Au, cu, rfl⟩ := Kd.R_slice hU
      obtain ⟨An, cn, rfl⟩ := Kd.R_slice hN
      obtain ⟨At, ct, rfl⟩ := Kd.R_slice hT
      have HA52 := Lib.hid (blk_below HA5.out hbt)
      have HA12 := Lib.hid (blk_below HA1.out hbt)
      have HA12b := HA12
      have HB2 := Lib.hid (HB1.out.trans (hbt.mono HB1.out.size))
      have c6 := (blk_cell HA52.out 6).trans rfl
      have f6 := blk_frozen HA52.out 6
      have c7 := (blk_cell HA52.out 7).trans rfl
      have f7 := blk_frozen HA52.out 7
      have c8 := (blk_cell HA52.out 8).trans rfl
      have f8 := blk_frozen HA52.out 8
      rw [hsz1] at hU hN hT
      have HU := Lib.hid (R_grew (R_grew (R_grew hU (grown_set _ (w.heap.size + 1) 6 (.slice Au us.length cu)) (fun k hk => by cases hk; omega)) (grown_set _ (w.heap.size + 1) 7 (.slice An ns.length cn)) (fun k hk => by cases hk; omega)) (grown_set _ (w.heap.size + 1) 8 (.slice At tx.length ct)) (fun k hk => by cases hk; omega))
      have HN := Lib.hid (R_grew (R_grew (R_grew hN (grown_set _ (w.heap.size + 1) 6 (.slice Au us.length cu)) (fun k hk => by cases hk; omega)) (grown_set _ (w.heap.size + 1) 7 (.slice An ns.length cn)) (fun k hk => by cases hk; omega)) (grown_set _ (w.heap.size + 1) 8 (.slice At tx.length ct)) (fun k hk => by cases hk; omega))
      have HT := Lib.hid (R_grew (R_grew (R_grew hT (grown_set _ (w.heap.size + 1) 6 (.slice Au us.length cu)) (fun k hk => by cases hk; omega)) (grown_set _ (w.heap.size + 1) 7 (.slice An ns.length cn)) (fun k hk => by cases hk; omega)) (grown_set _ (w.heap.size + 1) 8 (.slice At tx.length ct)) (fun k hk => by cases hk; omega))
      have HA5 := Lib.hid (show (((W2.setCell ⟨w.heap.size + 1, 6, none⟩ (.slice Au us.length cu)).setCell ⟨w.heap.size + 1, 7, none⟩ (.slice An ns.length cn)).setCell ⟨w.heap.size + 1, 8, none⟩ (.slice At tx.length ct)).heap[w.heap.size + 1]? = some (.cells #[.int .i64 x0, .int .i64 z1, .int .i64 z2, .int .i64 x19, .int .i64 z3, .bool (x20 == 1), .slice Au us.length cu, .slice An ns.length cn, .slice At tx.length ct] 53 (0, 0)) from blk_put (blk_put (blk_put HA52.out 6 _ rfl) 7 _ rfl) 8 _ rfl)
      have HA1 := Lib.hid (blk_far (blk_far (blk_far HA12.out (p := ⟨w.heap.size + 1, 6, none⟩) (show w.heap.size ≠ w.heap.size + 1 by omega) (.slice Au us.length cu)) (p := ⟨w.heap.size + 1, 7, none⟩) (show w.heap.size ≠ w.heap.size + 1 by omega) (.slice An ns.length cn)) (p := ⟨w.heap.size + 1, 8, none⟩) (show w.heap.size ≠ w.heap.size + 1 by omega) (.slice At tx.length ct))
      have HB3 := Lib.hid (Below.setCell (Below.setCell (Below.setCell HB2.out (p := ⟨w.heap.size + 1, 6, none⟩) (show w.heap.size ≤ w.heap.size + 1 by omega) (.slice Au us.length cu)) (p := ⟨w.heap.size + 1, 7, none⟩) (show w.heap.size ≤ w.heap.size + 1 by omega) (.slice An ns.length cn)) (p := ⟨w.heap.size + 1, 8, none⟩) (show w.heap.size ≤ w.heap.size + 1 by omega) (.slice At tx.length ct))
      have hw3s : (((W2.setCell ⟨w.heap.size + 1, 6, none⟩ (.slice Au us.length cu)).setCell ⟨w.heap.size + 1, 7, none⟩ (.slice An ns.length cn)).setCell ⟨w.heap.size + 1, 8, none⟩ (.slice At tx.length ct)).heap.size = W2.heap.size := by simp
      have hsz2 := hbt.size
      clear hU hN hT hbt HA12 HB2 HB1 HC1 HA HCw HN1 HN2 HN3 hm1 hm2 hm3
      have hgne : w.heap.size ≠ w.heap.size + 1 := by omega
      have yA0 := (blk_cell HA12b.out 0).trans rfl
      have fA0 := blk_frozen HA12b.out 0
      have yA1 := (blk_cell HA12b.out 1).trans rfl
      have fA1 := blk_frozen HA12b.out 1
      have yA2 := (blk_cell HA12b.out 2).trans rfl
      have fA2 := blk_frozen HA12b.out 2
      have yA3 := (blk_cell HA12b.out 3).trans rfl
      have fA3 := blk_frozen HA12b.out 3
      have yA4 := (blk_cell HA12b.out 4).trans rfl
      have fA4 := blk_frozen HA12b.out 4
      have yA5 := (blk_cell HA12b.out 5).trans rfl
      have fA5 := blk_frozen HA12b.out 5
      have yA6 := (blk_cell HA12b.out 6).trans rfl
      have fA6 := blk_frozen HA12b.out 6
      have yA7 := (blk_cell HA12b.out 7).trans rfl
      have fA7 := blk_frozen HA12b.out 7
      have yA8 := (blk_cell HA12b.out 8).trans rfl
      have fA8 := blk_frozen HA12b.out 8
      have c0 := (blk_cell HA52.out 0).trans rfl
      have c1 := (blk_cell HA52.out 1).trans rfl
      have c2 := (blk_cell HA52.out 2).trans rfl
      have c3 := (blk_cell HA52.out 3).trans rfl
      have c4 := (blk_cell HA52.out 4).trans rfl
      have c5 := (blk_cell HA52.out 5).trans rfl
      by_cases hec : ec = 0
      · subst hec
        rw [if_neg (show ¬ (0 : Int) ≠ 0 by decide)] at hvd
        have HC := Lib.hid (vokref10_Rec_May.calls 60008 x0 z1 z2 x19 z3 (x20 == 1) Au cu us An cn ns At ct tx _ (((W2.setCell ⟨w.heap.size + 1, 6, none⟩ (.slice Au us.length cu)).setCell ⟨w.heap.size + 1, 7, none⟩ (.slice An ns.length cn)).setCell ⟨w.heap.size + 1, 8, none⟩ (.slice At tx.length ct)) (Kd.R_reads' HU.out).2.2 (Kd.R_reads' HU.out).2.1 (Kd.R_reads' HN.out).2.2 (Kd.R_reads' HN.out).2.1 (Kd.R_reads' HT.out).2.2 (Kd.R_reads' HT.out).2.1 (vmay_eq 60000 (⟨x0, z1, z2, x19, z3, x20 == 1, us, ns, tx⟩ : M) (by show 2 * us.length + 1 < 60000; omega) (by show 2 * ns.length + 1 < 60000; omega) (by omega) (by show tx.length ≤ 1099511627776; omega)))
        go_wp2_with fail
        refine HC.out.mono ?_
        rintro e W4 ⟨rfl, hb4⟩
        clear HC
        clear c0 c1 c2 c3 c4 c5 c6 c7 c8
        clear yA0 yA1 yA2 yA3 yA4 yA5 yA6 yA7 yA8
        clear fA0 fA1 fA2 fA3 fA4 fA5 fA6 fA7 fA8
        clear f6 f7 f8
        have HA54 := Lib.hid (blk_below HA5.out hb4)
        have HA14 := Lib.hid (blk_below HA1.out hb4)
        have HB4 := Lib.hid (HB3.out.trans (hb4.mono HB3.out.size))
        have HU4 := Lib.hid (Kd.R_below HU.out hb4)
        have HN4 := Lib.hid (Kd.R_below HN.out hb4)
        have HT4 := Lib.hid (Kd.R_below HT.out hb4)
        clear HA5 HA1 HB3 HU HN HT HA12b HA52 hb4 hw3s
        have yA0 := (blk_cell HA14.out 0).trans rfl
        have fA0 := blk_frozen HA14.out 0
        have c0 := (blk_cell HA54.out 0).trans rfl
        have yA1 := (blk_cell HA14.out 1).trans rfl
        have fA1 := blk_frozen HA14.out 1
        have c1 := (blk_cell HA54.out 1).trans rfl
        have yA2 := (blk_cell HA14.out 2).trans rfl
        have fA2 := blk_frozen HA14.out 2
        have c2 := (blk_cell HA54.out 2).trans rfl
        have yA3 := (blk_cell HA14.out 3).trans rfl
        have fA3 := blk_frozen HA14.out 3
        have c3 := (blk_cell HA54.out 3).trans rfl
        have yA4 := (blk_cell HA14.out 4).trans rfl
        have fA4 := blk_frozen HA14.out 4
        have c4 := (blk_cell HA54.out 4).trans rfl
        have yA5 := (blk_cell HA14.out 5).trans rfl
        have fA5 := blk_frozen HA14.out 5
        have c5 := (blk_cell HA54.out 5).trans rfl
        have yA6 := (blk_cell HA14.out 6).trans rfl
        have fA6 := blk_frozen HA14.out 6
        have c6 := (blk_cell HA54.out 6).trans rfl
        have yA7 := (blk_cell HA14.out 7).trans rfl
        have fA7 := blk_frozen HA14.out 7
        have c7 := (blk_cell HA54.out 7).trans rfl
        have yA8 := (blk_cell HA14.out 8).trans rfl
        have fA8 := blk_frozen HA14.out 8
        have c8 := (blk_cell HA54.out 8).trans rfl
        by_cases hm : May (⟨x0, z1, z2, x19, z3, x20 == 1, us, ns, tx⟩ : M)
        · have hsh := hm.short
          simp only at hsh
          obtain ⟨hsu, hsn, hst⟩ := hsh
          rw [(mayB_iff _).2 hm]
          have HCb4 := Lib.hid (Kd.C_below HCb.out HB4.out)
          have HC := Lib.hid (vokref10_Rec_body.calls 1000 x0 z1 z2 x19 z3 (x20 == 1) Au cu us An cn ns At ct tx _ W4 (Kd.R_reads' HU4.out).2.2 (Kd.R_reads' HU4.out).2.1 (Kd.R_reads' HN4.out).2.2 (Kd.R_reads' HN4.out).2.1 (Kd.R_reads' HT4.out).2.2 (Kd.R_reads' HT4.out).2.1 (vbody_eq 1000 (⟨x0, z1, z2, x19, z3, x20 == 1, us, ns, tx⟩ : M) (by show us.length < 1000; omega) (by show ns.length < 1000; omega) (by show tx.length ≤ 1099511627776; omega) (by omega)))
          have hbb := bytes_body (⟨x0, z1, z2, x19, z3, x20 == 1, us, ns, tx⟩ : M) hbx
          rw [Hhd.out] at hvd
          have Hm := Lib.hid hm
          clear hm hsu hsn hst
          generalize hy : body (⟨x0, z1, z2, x19, z3, x20 == 1, us, ns, tx⟩ : M) = y at *
          go_wp2_with fail
          refine HC.out.mono ?_
          rintro e W5 ⟨vy, rfl, hY, hb5⟩
          obtain ⟨Ay, cy, rfl⟩ := Kd.R_slice hY
          clear HC
          clear c0 c1 c2 c3 c4 c5 c6 c7 c8
          clear yA0 yA1 yA2 yA3 yA4 yA5 yA6 yA7 yA8
          clear fA0 fA1 fA2 fA3 fA4 fA5 fA6 fA7 fA8
          have HA55 := Lib.hid (blk_below HA54.out hb5)
          have HA15 := Lib.hid (blk_below HA14.out hb5)
          have HB5 := Lib.hid (HB4.out.trans (hb5.mono HB4.out.size))
          have HU5 := Lib.hid (Kd.R_below HU4.out hb5)
          have HN5 := Lib.hid (Kd.R_below HN4.out hb5)
          have HT5 := Lib.hid (Kd.R_below HT4.out hb5)
          have HCb5 := Lib.hid (Kd.C_below HCb.out HB5.out)
          have HC := Lib.hid (vokref_Bytes.calls Ay cy y (some ad) c b _ W5 (Kd.R_reads' hY).2.2 (Kd.R_reads' hY).2.1 HCb5.out hc (vbytes_eq y b hbb HBb.out))
          clear hY hb5 HA54 HA14 HB4 HU4 HN4 HT4 HCb4
          go_wp2_with fail
          refine HC.out.mono ?_
          rintro e W6 ⟨rfl, hdr⟩
          have hb6 := hdr.below
          have HA56 := Lib.hid (blk_below HA55.out hb6)
          have HA16 := Lib.hid (blk_below HA15.out hb6)
          have HB6 := Lib.hid (HB5.out.trans (hb6.mono HB5.out.size))
          have HU6 := Lib.hid (Kd.R_below HU5.out hb6)
          have HN6 := Lib.hid (Kd.R_below HN5.out hb6)
          have HT6 := Lib.hid (Kd.R_below HT5.out hb6)
          clear HC hdr hb6 HA55 HA15 HB5 HU5 HN5 HT5 HCb5
          have yA0 := (blk_cell HA16.out 0).trans rfl
          have fA0 := blk_frozen HA16.out 0
          have c0 := (blk_cell HA56.out 0).trans rfl
          have yA1 := (blk_cell HA16.out 1).trans rfl
          have fA1 := blk_frozen HA16.out 1
          have c1 := (blk_cell HA56.out 1).trans rfl
          have yA2 := (blk_cell HA16.out 2).trans rfl
          have fA2 := blk_frozen HA16.out 2
          have c2 := (blk_cell HA56.out 2).trans rfl
          have yA3 := (blk_cell HA16.out 3).trans rfl
          have fA3 := blk_frozen HA16.out 3
          have c3 := (blk_cell HA56.out 3).trans rfl
          have yA4 := (blk_cell HA16.out 4).trans rfl
          have fA4 := blk_frozen HA16.out 4
          have c4 := (blk_cell HA56.out 4).trans rfl
          have yA5 := (blk_cell HA16.out 5).trans rfl
          have fA5 := blk_frozen HA16.out 5
          have c5 := (blk_cell HA56.out 5).trans rfl
          have yA6 := (blk_cell HA16.out 6).trans rfl
          have fA6 := blk_frozen HA16.out 6
          have c6 := (blk_cell HA56.out 6).trans rfl
          have yA7 := (blk_cell HA16.out 7).trans rfl
          have fA7 := blk_frozen HA16.out 7
          have c7 := (blk_cell HA56.out 7).trans rfl
          have yA8 := (blk_cell HA16.out 8).trans rfl
          have fA8 := blk_frozen HA16.out 8
          have c8 := (blk_cell HA56.out 8).trans rfl
          by_cases hyb : y = b
          · rw [decide_eq_true hyb]
            rw [if_neg (by exact fun h => h.elim (fun g => g Hm.out) (fun g => g hyb))] at hvd
            go_wp2
            rw [hvd.out]
            (try simp only [Exit.inBlock, Exit.then])
            refine bodyPost_ret (results_ct rfl _ _ w.heap.size 53 #[.int .i64 x0, .int .i64 z1, .int .i64 z2, .int .i64 x19, .int .i64 z3, .bool (x20 == 1), .slice Au us.length cu, .slice An ns.length cn, .slice At tx.length ct] (0, 0) _ rfl (blk9 _ _ _ _ _ _ _ _ _ HA16.out) Try.underlying53 rfl (by kernel_rfl)) rfl ?_
            exact ⟨_, _, _, rfl, Kd.R_lower (R_grew (R_grew (R_grew (R_grew (R_grew (R_grew (R_grew (R_grew (R_grew HU6.out (grown_set _ w.heap.size 0 (.int .i64 x0)) (fun k hk => by cases hk; omega)) (grown_set _ w.heap.size 1 (.int .i64 z1)) (fun k hk => by cases hk; omega)) (grown_set _ w.heap.size 2 (.int .i64 z2)) (fun k hk => by cases hk; omega)) (grown_set _ w.heap.size 3 (.int .i64 x19)) (fun k hk => by cases hk; omega)) (grown_set _ w.heap.size 4 (.int .i64 z3)) (fun k hk => by cases hk; omega)) (grown_set _ w.heap.size 5 (.bool (x20 == 1))) (fun k hk => by cases hk; omega)) (grown_set _ w.heap.size 6 (.slice Au us.length cu)) (fun k hk => by cases hk; omega)) (grown_set _ w.heap.size 7 (.slice An ns.length cn)) (fun k hk => by cases hk; omega)) (grown_set _ w.heap.size 8 (.slice At tx.length ct)) (fun k hk => by cases hk; omega)) (by omega), Kd.R_lower (R_grew (R_grew (R_grew (R_grew (R_grew (R_grew (R_grew (R_grew (R_grew HN6.out (grown_set _ w.heap.size 0 (.int .i64 x0)) (fun k hk => by cases hk; omega)) (grown_set _ w.heap.size 1 (.int .i64 z1)) (fun k hk => by cases hk; omega)) (grown_set _ w.heap.size 2 (.int .i64 z2)) (fun k hk => by cases hk; omega)) (grown_set _ w.heap.size 3 (.int .i64 x19)) (fun k hk => by cases hk; omega)) (grown_set _ w.heap.size 4 (.int .i64 z3)) (fun k hk => by cases hk; omega)) (grown_set _ w.heap.size 5 (.bool (x20 == 1))) (fun k hk => by cases hk; omega)) (grown_set _ w.heap.size 6 (.slice Au us.length cu)) (fun k hk => by cases hk; omega)) (grown_set _ w.heap.size 7 (.slice An ns.length cn)) (fun k hk => by cases hk; omega)) (grown_set _ w.heap.size 8 (.slice At tx.length ct)) (fun k hk => by cases hk; omega)) (by omega), Kd.R_lower (R_grew (R_grew (R_grew (R_grew (R_grew (R_grew (R_grew (R_grew (R_grew HT6.out (grown_set _ w.heap.size 0 (.int .i64 x0)) (fun k hk => by cases hk; omega)) (grown_set _ w.heap.size 1 (.int .i64 z1)) (fun k hk => by cases hk; omega)) (grown_set _ w.heap.size 2 (.int .i64 z2)) (fun k hk => by cases hk; omega)) (grown_set _ w.heap.size 3 (.int .i64 x19)) (fun k hk => by cases hk; omega)) (grown_set _ w.heap.size 4 (.int .i64 z3)) (fun k hk => by cases hk; omega)) (grown_set _ w.heap.size 5 (.bool (x20 == 1))) (fun k hk => by cases hk; omega)) (grown_set _ w.heap.size 6 (.slice Au us.length cu)) (fun k hk => by cases hk; omega)) (grown_set _ w.heap.size 7 (.slice An ns.length cn)) (fun k hk => by cases hk; omega)) (grown_set _ w.heap.size 8 (.slice At tx.length ct)) (fun k hk => by cases hk; omega)) (by omega), (Below.setCell (Below.setCell (Below.setCell (Below.setCell (Below.setCell (Below.setCell (Below.setCell (Below.setCell (Below.setCell HB6.out (p := ⟨w.heap.size, 0, none⟩) (Nat.le_refl _) (.int .i64 x0)) (p := ⟨w.heap.size, 1, none⟩) (Nat.le_refl _) (.int .i64 z1)) (p := ⟨w.heap.size, 2, none⟩) (Nat.le_refl _) (.int .i64 z2)) (p := ⟨w.heap.size, 3, none⟩) (Nat.le_refl _) (.int .i64 x19)) (p := ⟨w.heap.size, 4, none⟩) (Nat.le_refl _) (.int .i64 z3)) (p := ⟨w.heap.size, 5, none⟩) (Nat.le_refl _) (.bool (x20 == 1))) (p := ⟨w.heap.size, 6, none⟩) (Nat.le_refl _) (.slice Au us.length cu)) (p := ⟨w.heap.size, 7, none⟩) (Nat.le_refl _) (.slice An ns.length cn)) (p := ⟨w.heap.size, 8, none⟩) (Nat.le_refl _) (.slice At tx.length ct))⟩
          · rw [decide_eq_false hyb]
            rw [if_pos (Or.inr (by exact hyb))] at hvd
            go_wp2
            rw [hvd.out]
            (try simp only [Exit.inBlock, Exit.then])
            refine bodyPost_ret (results_ct rfl _ _ w.heap.size 53 #[.int .i64 0, .int .i64 0, .int .i64 0, .int .i64 0, .int .i64 0, .bool false, .slice none 0 0, .slice none 0 0, .slice none 0 0] (0, 0) _ rfl (blk9 _ _ _ _ _ _ _ _ _ HA16.out) Try.underlying53 rfl (by kernel_rfl)) rfl ?_
            exact dec_no w _ 4 (Below.setCell (Below.setCell (Below.setCell (Below.setCell (Below.setCell (Below.setCell (Below.setCell (Below.setCell (Below.setCell HB6.out (p := ⟨w.heap.size, 0, none⟩) (Nat.le_refl _) (.int .i64 0)) (p := ⟨w.heap.size, 1, none⟩) (Nat.le_refl _) (.int .i64 0)) (p := ⟨w.heap.size, 2, none⟩) (Nat.le_refl _) (.int .i64 0)) (p := ⟨w.heap.size, 3, none⟩) (Nat.le_refl _) (.int .i64 0)) (p := ⟨w.heap.size, 4, none⟩) (Nat.le_refl _) (.int .i64 0)) (p := ⟨w.heap.size, 5, none⟩) (Nat.le_refl _) (.bool false)) (p := ⟨w.heap.size, 6, none⟩) (Nat.le_refl _) (.slice none 0 0)) (p := ⟨w.heap.size, 7, none⟩) (Nat.le_refl _) (.slice none 0 0)) (p := ⟨w.heap.size, 8, none⟩) (Nat.le_refl _) (.slice none 0 0))
        · rw [mayB_no hm]
          rw [if_pos (Or.inl (by rw [Hhd.out]; exact hm))] at hvd
          go_wp2
          rw [hvd.out]
          (try simp only [Exit.inBlock, Exit.then])
          refine bodyPost_ret (results_ct rfl _ _ w.heap.size 53 #[.int .i64 0, .int .i64 0, .int .i64 0, .int .i64 0, .int .i64 0, .bool false, .slice none 0 0, .slice none 0 0, .slice none 0 0] (0, 0) _ rfl (blk9 _ _ _ _ _ _ _ _ _ HA14.out) Try.underlying53 rfl (by kernel_rfl)) rfl ?_
          exact dec_no w _ 4 (Below.setCell (Below.setCell (Below.setCell (Below.setCell (Below.setCell (Below.setCell (Below.setCell (Below.setCell (Below.setCell HB4.out (p := ⟨w.heap.size, 0, none⟩) (Nat.le_refl _) (.int .i64 0)) (p := ⟨w.heap.size, 1, none⟩) (Nat.le_refl _) (.int .i64 0)) (p := ⟨w.heap.size, 2, none⟩) (Nat.le_refl _) (.int .i64 0)) (p := ⟨w.heap.size, 3, none⟩) (Nat.le_refl _) (.int .i64 0)) (p := ⟨w.heap.size, 4, none⟩) (Nat.le_refl _) (.int .i64 0)) (p := ⟨w.heap.size, 5, none⟩) (Nat.le_refl _) (.bool false)) (p := ⟨w.heap.size, 6, none⟩) (Nat.le_refl _) (.slice none 0 0)) (p := ⟨w.heap.size, 7, none⟩) (Nat.le_refl _) (.slice none 0 0)) (p := ⟨w.heap.size, 8, none⟩) (Nat.le_refl _) (.slice none 0 0))
      · have hec1 : (ec != 0) = true := by simp [hec]
        have hec2 : (ec == 0) = false := by simp [hec]
        rw [if_pos hec] at hvd
        go_wp2
        rw [hvd.out]
        (try simp only [Exit.inBlock, Exit.then])
        refine bodyPost_ret (results_ct rfl _ _ w.heap.size 53 #[.int .i64 0, .int .i64 0, .int .i64 0, .int .i64 0, .int .i64 0, .bool false, .slice none 0 0, .slice none 0 0, .slice none 0 0] (0, 0) _ rfl (blk9 _ _ _ _ _ _ _ _ _ HA1.out) Try.underlying53 rfl (by kernel_rfl)) rfl ?_
        exact dec_no w _ ec (Below.setCell (Below.setCell (Below.setCell (Below.setCell (Below.setCell (Below.setCell (Below.setCell (Below.setCell (Below.setCell HB3.out (p := ⟨w.heap.size, 0, none⟩) (Nat.le_refl _) (.int .i64 0)) (p := ⟨w.heap.size, 1, none⟩) (Nat.le_refl _) (.int .i64 0)) (p := ⟨w.heap.size, 2, none⟩) (Nat.le_refl _) (.int .i64 0)) (p := ⟨w.heap.size, 3, none⟩) (Nat.le_refl _) (.int .i64 0)) (p := ⟨w.heap.size, 4, none⟩) (Nat.le_refl _) (.int .i64 0)) (p := ⟨w.heap.size, 5, none⟩) (Nat.le_refl _) (.bool false)) (p := ⟨w.heap.size, 6, none⟩) (Nat.le_refl _) (.slice none 0 0)) (p := ⟨w.heap.size, 7, none⟩) (Nat.le_refl _) (.slice none 0 0)) (p := ⟨w.heap.size, 8, none⟩) (Nat.le_refl _) (.slice none 0 0))

end Go.Proofs.Ytleljfmhefobeaa.GJVd
