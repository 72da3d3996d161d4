/- CalBoth's walk: two reservations of one user that overlap are never both taken. -/
import Derived.Test.YtohpimfanplloaaGreatCalK
import Derived.Test.YtohpimfanplloaaGreatCalM
import Derived.Test.YtohpimfanplloaaGreatPureJ
import Derived.WalkKit
import Derived.WalkSpells
import Derived.Lib.Hide
import Derived.Deep.QuietTactic
import Derived.BigQuiet
set_option linter.unusedVariables false
set_option linter.unusedSimpArgs false
namespace Go.Proofs.YtohpimfanplloaaGreat.CalN
open Go.RowKit Go.Proofs.YtohpimfanplloaaGreatW.PrintWords Go.Proofs.YtohpimfanplloaaGreatW.PrintLast Go.Proofs.YtohpimfanplloaaGreatW.PrintMore Go.Proofs.YtohpimfanplloaaGreat.PureI1 Go.Proofs.YtohpimfanplloaaGreat.PureI2 Go.Proofs.YtohpimfanplloaaGreat.PureJ Go.Proofs.YtohpimfanplloaaGreat.IvA Go.Proofs.YtohpimfanplloaaGreat.IvS Go.Proofs.YtohpimfanplloaaGreat.IvB Go.Proofs.YtohpimfanplloaaGreat.IvG Go.Proofs.YtohpimfanplloaaGreat.CalA Go.Proofs.YtohpimfanplloaaGreat.CalB Go.Proofs.YtohpimfanplloaaGreat.CalC Go.Proofs.YtohpimfanplloaaGreat.CalD Go.Proofs.YtohpimfanplloaaGreat.CalE Go.Proofs.YtohpimfanplloaaGreat.CalF Go.Proofs.YtohpimfanplloaaGreat.CalG Go.Proofs.YtohpimfanplloaaGreat.CalH Go.Proofs.YtohpimfanplloaaGreat.CalI Go.Proofs.YtohpimfanplloaaGreat.CalJ Go.Proofs.YtohpimfanplloaaGreat.CalK Go.Proofs.YtohpimfanplloaaGreat.CalM
theorem settle_len (tx : Int) (p : Pr) : (settleP tx p).1.length + (settleP tx p).2.length ≤ p.1.length + p.2.length := by
  unfold settleP
  have h1 : (add p.1 (fresh p tx) tx).length ≤ p.1.length + (fresh p tx).length := add_len _ _ _
  have h2 : (fresh p tx).length ≤ (ofo p.2 tx).length := List.length_filter_le _ _
  have h3 : (ofo p.2 tx).length + (remove p.2 tx).length = p.2.length := by
    unfold ofo remove
    rw [List.length_map]
    generalize p.2 = L
    induction L with
    | nil => rfl
    | cons t L ih =>
      by_cases h : t.2 = tx
      · simp [h]; omega
      · simp [h]; omega
  show (add p.1 (fresh p tx) tx).length + (remove p.2 tx).length ≤ _
  omega
theorem Small_settle {us : Us} {N : Nat} (h : Small us N) (tx : Int) : Small (PureI2.settle us tx) N := fun p hp => by
  obtain ⟨q, hq, he⟩ := List.mem_map.1 hp
  cases q with
  | none => cases he
  | some q =>
    obtain rfl : settleP tx q = p := by simpa using he
    exact Nat.le_trans (settle_len tx q) (h q hq)
theorem Small_reserve {us : Us} {N : Nat} (h : Small us N) (tx : Int) (users : List Int) (l : List Sp) (but : Int) : Small (reserve us tx users l but) (N + users.length * l.length) := by
  unfold reserve
  split
  · exact Small_resAll users h
  · exact Small_mono h (by omega)
/-- Reserve for users that were built just now, of spans that lie in the elder world. -/
theorem res_arg (w0 w2 W : World) (us : Us) (c ub : Nat) (cells : List Value) (N : Nat) (tx : Int) (users : List Int) (A2 : Option Addr) (c2 : Nat) (l : List Sp) (but : Int) (g1 : Nat) (hCF : CF w0 us c ub cells w2) (hS : Small us N) (hb : Below w2.heap.size w2 W)
    (hul : users.length ≤ 100) (hll : l.length ≤ 1000) (hN : N ≤ 1000000) (hg1 : w2.heap.size ≤ g1) (hl1 : g1 < W.heap.size)
    (h1 : ∀ W', W'.heap[g1]? = W.heap[g1]? → Kd.C (Kd.int .i64) W' (some ⟨g1, 0, none⟩) users.length users) (h2 : Kd.C kSp w0 A2 l.length l) (hc2 : l.length ≤ c2) :
    Calls Tryz.prog 15 #[.pointer (some ⟨c, 0, none⟩), .int .i64 tx, .slice (some ⟨g1, 0, none⟩) users.length users.length, .slice A2 l.length c2, .int .i64 but] W (fun e w' => e = .returned (.bool (mayRes us tx users l but)) ∧ CF w0 (reserve us tx users l but) c ub cells w') := by
  obtain ⟨own, k1, k2, k3⟩ := hCF
  have z : ∀ g, w2.heap.size ≤ g → ¬ 2 ≤ own g := fun g hg hk => by have := k1.dom g (by omega); omega
  have hmul : users.length * l.length ≤ 100 * 1000 := Nat.mul_le_mul hul hll
  have hb0 := k3.trans (hb.mono k3.size)
  refine (reserve_any own c ub cells us N tx (some ⟨g1, 0, none⟩) users.length users A2 c2 l but W (k1.below hb) hS (by omega) (fun w' hk => h1 w' (hk.2 g1 hl1 (z g1 hg1))) (Nat.le_refl _) (by omega) (fun w' hk => Kd.C_below h2 (hk.elder hb0 (fun k h => k2 k (by omega)))) hc2 (by omega)).mono ?_
  rintro e w' ⟨rfl, hL⟩
  exact ⟨rfl, cf_left k2 hb0 hL⟩
theorem settle_arg (w0 W : World) (us : Us) (c ub : Nat) (cells : List Value) (N : Nat) (tx : Int) (hCF : CF w0 us c ub cells W) (hS : Small us N) (hN : N ≤ 1000000) :
    Calls Tryz.prog 17 #[.pointer (some ⟨c, 0, none⟩), .int .i64 tx] W (fun e w' => e = .returned (.tuple #[]) ∧ CF w0 (PureI2.settle us tx) c ub cells w') := by
  obtain ⟨own, k1, k2, k3⟩ := hCF
  refine (settle_any own c ub cells us N tx W k1 hS (by omega)).mono ?_
  rintro e w' ⟨rfl, hL⟩
  exact ⟨rfl, cf_left k2 k3 hL⟩
def hit (x y : Sp) : Bool := decide (x.1 < y.2) && decide (y.1 < x.2)
theorem over_hit (n m : List Sp) : over n m = n.any (fun x => m.any (hit x)) := rfl
theorem over_snoc (n m : List Sp) (k : Nat) (h : k < n.length) : over (n.take (k + 1)) m = (over (n.take k) m || m.any (hit (n.getD k (0, 0)))) := by
  rw [over_hit, over_hit, take_snoc' n k h (0, 0), List.any_append]
  simp
theorem any_take (m : List Sp) (x : Sp) (j : Nat) (h : j < m.length) : (m.take (j + 1)).any (hit x) = ((m.take j).any (hit x) || hit x (m.getD j (0, 0))) := by
  rw [take_snoc' m j h (0, 0), List.any_append]
  simp
def uOf (b : Bool) : Int := if b then 1 else 0
theorem may_second (a b : List Sp) (one2 : Bool) : mayRes (reserve z0 1 [0] a 0) 2 [uOf one2] b 0 = (one2 || !over (norm a) (norm b)) := by
  cases one2
  · exact (both_one a b).1
  · rw [show uOf true = 1 from rfl, (both_two a b).1]; rfl
theorem may_third (a b : List Sp) (one2 : Bool) : mayRes (PureI2.settle (reserve (reserve z0 1 [0] a 0) 2 [uOf one2] b 0) 1) 3 [0] b 0 = (!over (norm a) (norm b) && (one2 || decide (norm b = []))) := by
  cases one2
  · exact (both_one a b).2
  · rw [show uOf true = 1 from rfl, (both_two a b).2]; simp
theorem small_z0 : Small z0 0 := fun p hp => by simp [z0] at hp; subst hp; simp
theorem new_z0 : newAll 1 0 2 = z0 := by rfl
set_option maxHeartbeats 4000000 in
set_option maxRecDepth 100000 in
theorem walk (A1 : Option Addr) (c1 : Nat) (a : List Sp) (A2 : Option Addr) (c2 : Nat) (b : List Sp) (one2 : Bool) (w : World) (hr1 : Kd.C kSp w A1 a.length a) (hc1 : a.length ≤ c1) (hr2 : Kd.C kSp w A2 b.length b) (hc2 : b.length ≤ c2) :
    Calls Tryz.prog 4 #[.slice A1 a.length c1, .slice A2 b.length c2, .bool one2] w (fun e w' => e = .returned (.bool true) ∧ Below w.heap.size w w') := by
  have HR1 := Lib.hid hr1
  have HR2 := Lib.hid hr2
  clear hr1 hr2
  go_enter Tryz.func4, Tryz.ntmps4
  go_wp2_with fail
  refine (first_any _).mono ?_
  rintro e w1 ⟨rfl, hb⟩
  have HB1 := Lib.hid hb
  clear hb
  go_wp2_with fail
  refine (one_any _).mono ?_
  rintro e w2 ⟨A, c, rfl, hc, hr, hb⟩
  have HN := Lib.hid (new_yes 100 1 2 A c oneZ 1767225600 1772409600 0 w2 hr hc (by decide) (by decide) one_may (by decide) (by decide))
  have HB2 := Lib.hid (HB1.out.trans (hb.mono HB1.out.size))
  clear hr hb
  go_wp2_with fail
  refine HN.out.mono ?_
  rintro e w3 ⟨own, cb, ub, cells, rfl, hC, hown, hb3⟩
  rw [new_z0] at hC
  have HCF : Hid (CF w z0 cb ub cells w3) := Lib.hid ⟨own, hC, fun q hq => Nat.le_trans HB2.out.size (hown q hq), HB2.out.trans (hb3.mono HB2.out.size)⟩
  clear HN HB1 HB2 hC hown hb3
  by_cases ha : a.length ≤ 100
  · by_cases hb : b.length ≤ 100
    · have ha2 : decide ((100 : Int) < (a.length : Int)) = false := decide_eq_false (by omega)
      have hb2 : decide ((100 : Int) < (b.length : Int)) = false := decide_eq_false (by omega)
      cases one2 with
      | false =>
        go_wp2_with fail
        refine (res_arg w w3 _ z0 cb ub cells 0 1 [0] A1 c1 a 0 w3.heap.size HCF.out small_z0 (below_alloc (Below.refl _ _) _) (by simp) (by omega) (by omega) (Nat.le_refl _) (by simp)
          (fun W' he => C_int1 (blk_cell (blk_eq he (newAt w3 _ _ rfl)) 0)) HR1.out hc1).mono ?_
        rintro e w4 ⟨he, hCF⟩
        rw [(may_first a).1] at he
        subst he
        have HCF4 := Lib.hid hCF
        clear hCF HCF
        go_wp2_with fail
        refine (res_arg w w4 _ (reserve z0 1 [0] a 0) cb ub cells (0 + [(0 : Int)].length * a.length) 2 [uOf false] A2 c2 b 0 w4.heap.size HCF4.out (Small_reserve small_z0 1 [0] a 0) (below_alloc (Below.refl _ _) _) (by simp) (by omega) (by simp; omega) (Nat.le_refl _) (by simp)
          (fun W' he => C_int1 (blk_cell (blk_eq he (newAt w4 _ _ rfl)) 0)) HR2.out hc2).mono ?_
        rintro e w5 ⟨he, hCF⟩
        rw [may_second] at he
        obtain ⟨y, hy⟩ : ∃ y, y = (false || !over (norm a) (norm b)) := ⟨_, rfl⟩
        rw [← hy] at he
        subst he
        have Hy := Lib.hid hy
        have HCF5 := Lib.hid hCF
        have hb5 : Below w.heap.size w w5 := by obtain ⟨_, _, _, h⟩ := hCF; exact h
        have HB5 := Lib.hid hb5
        clear hCF HCF4 hy hb5
        have HN1 := Lib.hid (refnorm_any A1 c1 a w5 (Kd.C_below HR1.out HB5.out) hc1 (by omega))
        go_wp2_with fail
        refine HN1.out.mono ?_
        rintro e w6 ⟨v6, rfl, hrow6, hb6⟩
        have hl6 := norm_len a
        obtain ⟨A6, c6, rfl, hc6, hC6⟩ := row_readsS hrow6 (by omega)
        have HB6 := Lib.hid hb6
        have HC6 := Lib.hid hC6
        have HN2 := Lib.hid (refnorm_any A2 c2 b w6 (Kd.C_below HR2.out (HB5.out.trans (hb6.mono HB5.out.size))) hc2 (by omega))
        clear hrow6 hb6 hC6 HN1
        go_wp2_with fail
        refine HN2.out.mono ?_
        rintro e w7 ⟨v7, rfl, hrow7, hb7⟩
        have hl7 := norm_len b
        obtain ⟨A7, c7, rfl, hc7, hC7⟩ := row_readsS hrow7 (by omega)
        have HCF7 := Lib.hid (HCF5.out.below (HB6.out.trans (hb7.mono HB6.out.size)))
        have HC67 := Lib.hid (Kd.C_below HC6.out hb7)
        have HC7 := Lib.hid hC7
        clear hrow7 hb7 hC7 HN2 HC6 HB6 HB5 HCF5
        generalize hn : norm a = n at *
        generalize hm : norm b = m at *
        have Hn := Lib.hid hn
        have Hm := Lib.hid hm
        clear hn hm
        go_wp2
        go_loopw [12, 15] (fun t i wr => ∃ k : Nat, t = .bool (over (n.take k) m) ∧ i = .int .i64 k ∧ k ≤ n.length ∧ Hid (Below w7.heap.size w7 wr)) (fun _ i _ => n.length - (intOf i).toNat)
        case atStart => exact ⟨0, rfl, rfl, Nat.zero_le _, Lib.hid (Below.refl _ _)⟩
        case round =>
          obtain ⟨k, rfl, rfl, hk, HA⟩ := hrel
          by_cases hlt : k < n.length
          · have hov : over (n.take (k + 1)) m = (over (n.take k) m || (m.take m.length).any (hit (rdS n k))) := by rw [over_snoc n m k hlt, List.take_length]; rfl
            generalize hq0 : over (n.take k) m = q0 at *
            clear hq0
            have HOv := Lib.hid hov
            clear hov
            generalize hx : rdS n k = x at *
            have Hx := Lib.hid hx
            clear hx
            go_wp2
            obtain ⟨wo, rfl⟩ : ∃ wo : World, wo = wr := ⟨_, rfl⟩
            go_loopw [12, 16] (fun t i wr => ∃ j : Nat, t = .bool (q0 || (m.take j).any (hit x)) ∧ i = .int .i64 j ∧ j ≤ m.length ∧ Hid (Below w7.heap.size w7 wr)) (fun _ i _ => m.length - (intOf i).toNat)
            case atStart => exact ⟨0, by simp, rfl, Nat.zero_le _, HA⟩
            case round =>
              obtain ⟨j, rfl, rfl, hj, HJ⟩ := hrel
              by_cases hjt : j < m.length
              · have hst := any_take m x j hjt
                obtain ⟨ad, rfl, hc0, hc1'⟩ := at_Sp (Kd.C_below HC67.out HJ.out) (k : Int) (by omega) (by omega)
                rw [Int.toNat_natCast, Hx.out] at hc0 hc1'
                obtain ⟨bd, rfl, hd0, hd1⟩ := at_Sp (Kd.C_below HC7.out HJ.out) (j : Int) (by omega) (by omega)
                rw [Int.toNat_natCast] at hd0 hd1
                have hgy : m.getD j (0, 0) = rdS m j := rfl
                rw [hgy] at hst
                generalize rdS m j = y9 at *
                have HSt : Hid ((q0 || (m.take (j + 1)).any (hit x)) = ((q0 || (m.take j).any (hit x)) || hit x y9)) := Lib.hid (by rw [hst, Bool.or_assoc])
                clear hst hgy
                generalize (q0 || (m.take j).any (hit x)) = q1 at *
                cases q1 with
                | true =>
                  go_wp2
                  go_quiet (fail)
                  go_wp2
                  go_roundw
                  case measure => simp [intOf]; omega
                  case rel => exact ⟨j + 1, by rw [HSt.out]; rfl, by go_num, by omega, Lib.hid (pw_below_drewN HJ.out _)⟩
                | false =>
                  by_cases h1 : x.1 < y9.2
                  · have d1 : decide (x.1 < y9.2) = true := decide_eq_true h1
                    by_cases h2 : y9.1 < x.2
                    · have d2 : decide (y9.1 < x.2) = true := decide_eq_true h2
                      have HH : Hid (hit x y9 = true) := Lib.hid (by unfold hit; rw [d1, d2]; rfl)
                      clear h1 h2
                      go_wp2
                      go_quiet (fail)
                      go_wp2
                      go_roundw
                      case measure => simp [intOf]; omega
                      case rel => exact ⟨j + 1, by rw [HSt.out, HH.out]; rfl, by go_num, by omega, Lib.hid (pw_below_drewN HJ.out _)⟩
                    · have d2 : decide (y9.1 < x.2) = false := decide_eq_false h2
                      have HH : Hid (hit x y9 = false) := Lib.hid (by unfold hit; rw [d1, d2]; rfl)
                      clear h1 h2
                      go_wp2
                      go_quiet (fail)
                      go_wp2
                      go_roundw
                      case measure => simp [intOf]; omega
                      case rel => exact ⟨j + 1, by rw [HSt.out, HH.out]; rfl, by go_num, by omega, Lib.hid (pw_below_drewN HJ.out _)⟩
                  · have d1 : decide (x.1 < y9.2) = false := decide_eq_false h1
                    have HH : Hid (hit x y9 = false) := Lib.hid (by unfold hit; rw [d1]; rfl)
                    clear h1
                    go_wp2
                    go_quiet (fail)
                    go_wp2
                    go_roundw
                    case measure => simp [intOf]; omega
                    case rel => exact ⟨j + 1, by rw [HSt.out, HH.out]; rfl, by go_num, by omega, Lib.hid (pw_below_drewN HJ.out _)⟩
              · obtain rfl : j = m.length := by omega
                go_wp2
                go_roundw
                case measure => simp [intOf]; omega
                case rel => exact ⟨k + 1, by rw [HOv.out], by go_num, by omega, HJ⟩
          · obtain rfl : k = n.length := by omega
            have HCF8 := Lib.hid (HCF7.out.below HA.out)
            have hov : over (n.take n.length) m = over n m := by rw [List.take_length]
            rw [hov]
            clear hov
            have HS2 : Hid (Small (reserve (reserve z0 1 [0] a 0) 2 [uOf false] b 0) 1000) := Lib.hid (Small_mono (Small_reserve (Small_reserve small_z0 1 [0] a 0) 2 [uOf false] b 0) (by simp; omega))
            go_wp2_with fail
            refine (settle_arg w wr _ cb ub cells 1000 1 HCF8.out HS2.out (by omega)).mono ?_
            rintro e w8 ⟨rfl, hCF⟩
            have HCF9 := Lib.hid hCF
            have HS3 := Lib.hid (Small_settle HS2.out 1)
            clear hCF HCF8 HCF7 HS2
            go_wp2_with fail
            refine (res_arg w w8 _ _ cb ub cells 1000 3 [0] A2 c2 b 0 w8.heap.size HCF9.out HS3.out (below_alloc (Below.refl _ _) _) (by simp) (by omega) (by omega) (Nat.le_refl _) (by simp)
              (fun W' he => C_int1 (blk_cell (blk_eq he (newAt w8 _ _ rfl)) 0)) HR2.out hc2).mono ?_
            rintro e w9 ⟨he, hCF⟩
            rw [may_third, Hn.out, Hm.out] at he
            obtain ⟨z, hz⟩ : ∃ z, z = (!over n m && (false || decide (m = []))) := ⟨_, rfl⟩
            rw [← hz] at he
            subst he
            have Hz := Lib.hid hz
            have HB9 : Hid (Below w.heap.size w w9) := Lib.hid (by obtain ⟨_, _, _, h⟩ := hCF; exact h)
            clear hCF HCF9 HS3 hz
            go_wp2_with fail
            refine (first_any _).mono ?_
            rintro e w10 ⟨rfl, hb10⟩
            have HB10 := Lib.hid (HB9.out.trans (hb10.mono HB9.out.size))
            clear hb10 HB9
            have hyz := And.intro Hy.out Hz.out
            generalize over n m = q at *
            obtain ⟨hy, hz⟩ := hyz
            have hml : (m = []) ↔ m.length = 0 := List.length_eq_zero_iff.symm
            by_cases h0 : m.length = 0
            · have dl : ((m.length : Int) == 0) = true := by simp [h0]
              have hm0 : m = [] := hml.2 h0
              rw [hm0] at hz
              clear hml h0 hm0 Hy Hz
              cases q <;> simp at hy hz <;> subst hy <;> subst hz <;> (go_wp2; go_ret; exact ⟨rfl, HB10.out⟩)
            · have dl : ((m.length : Int) == 0) = false := by simpa using h0
              have hm0 : decide (m = []) = false := decide_eq_false (fun h => h0 (hml.1 h))
              rw [hm0] at hz
              clear hml h0 hm0 Hy Hz
              cases q <;> simp at hy hz <;> subst hy <;> subst hz <;> (go_wp2; go_ret; exact ⟨rfl, HB10.out⟩)
      | true =>
        go_wp2_with fail
        refine (res_arg w w3 _ z0 cb ub cells 0 1 [0] A1 c1 a 0 w3.heap.size HCF.out small_z0 (below_alloc (Below.refl _ _) _) (by simp) (by omega) (by omega) (Nat.le_refl _) (by simp)
          (fun W' he => C_int1 (blk_cell (blk_eq he (newAt w3 _ _ rfl)) 0)) HR1.out hc1).mono ?_
        rintro e w4 ⟨he, hCF⟩
        rw [(may_first a).1] at he
        subst he
        have HCF4 := Lib.hid hCF
        clear hCF HCF
        go_wp2_with fail
        refine (res_arg w w4 _ (reserve z0 1 [0] a 0) cb ub cells (0 + [(0 : Int)].length * a.length) 2 [uOf true] A2 c2 b 0 w4.heap.size HCF4.out (Small_reserve small_z0 1 [0] a 0) (below_alloc (Below.refl _ _) _) (by simp) (by omega) (by simp; omega) (Nat.le_refl _) (by simp)
          (fun W' he => C_int1 (blk_cell (blk_eq he (newAt w4 _ _ rfl)) 0)) HR2.out hc2).mono ?_
        rintro e w5 ⟨he, hCF⟩
        rw [may_second] at he
        obtain ⟨y, hy⟩ : ∃ y, y = (true || !over (norm a) (norm b)) := ⟨_, rfl⟩
        rw [← hy] at he
        subst he
        have Hy := Lib.hid hy
        have HCF5 := Lib.hid hCF
        have hb5 : Below w.heap.size w w5 := by obtain ⟨_, _, _, h⟩ := hCF; exact h
        have HB5 := Lib.hid hb5
        clear hCF HCF4 hy hb5
        have HN1 := Lib.hid (refnorm_any A1 c1 a w5 (Kd.C_below HR1.out HB5.out) hc1 (by omega))
        go_wp2_with fail
        refine HN1.out.mono ?_
        rintro e w6 ⟨v6, rfl, hrow6, hb6⟩
        have hl6 := norm_len a
        obtain ⟨A6, c6, rfl, hc6, hC6⟩ := row_readsS hrow6 (by omega)
        have HB6 := Lib.hid hb6
        have HC6 := Lib.hid hC6
        have HN2 := Lib.hid (refnorm_any A2 c2 b w6 (Kd.C_below HR2.out (HB5.out.trans (hb6.mono HB5.out.size))) hc2 (by omega))
        clear hrow6 hb6 hC6 HN1
        go_wp2_with fail
        refine HN2.out.mono ?_
        rintro e w7 ⟨v7, rfl, hrow7, hb7⟩
        have hl7 := norm_len b
        obtain ⟨A7, c7, rfl, hc7, hC7⟩ := row_readsS hrow7 (by omega)
        have HCF7 := Lib.hid (HCF5.out.below (HB6.out.trans (hb7.mono HB6.out.size)))
        have HC67 := Lib.hid (Kd.C_below HC6.out hb7)
        have HC7 := Lib.hid hC7
        clear hrow7 hb7 hC7 HN2 HC6 HB6 HB5 HCF5
        generalize hn : norm a = n at *
        generalize hm : norm b = m at *
        have Hn := Lib.hid hn
        have Hm := Lib.hid hm
        clear hn hm
        go_wp2
        go_loopw [12, 15] (fun t i wr => ∃ k : Nat, t = .bool (over (n.take k) m) ∧ i = .int .i64 k ∧ k ≤ n.length ∧ Hid (Below w7.heap.size w7 wr)) (fun _ i _ => n.length - (intOf i).toNat)
        case atStart => exact ⟨0, rfl, rfl, Nat.zero_le _, Lib.hid (Below.refl _ _)⟩
        case round =>
          obtain ⟨k, rfl, rfl, hk, HA⟩ := hrel
          by_cases hlt : k < n.length
          · have hov : over (n.take (k + 1)) m = (over (n.take k) m || (m.take m.length).any (hit (rdS n k))) := by rw [over_snoc n m k hlt, List.take_length]; rfl
            generalize hq0 : over (n.take k) m = q0 at *
            clear hq0
            have HOv := Lib.hid hov
            clear hov
            generalize hx : rdS n k = x at *
            have Hx := Lib.hid hx
            clear hx
            go_wp2
            obtain ⟨wo, rfl⟩ : ∃ wo : World, wo = wr := ⟨_, rfl⟩
            go_loopw [12, 16] (fun t i wr => ∃ j : Nat, t = .bool (q0 || (m.take j).any (hit x)) ∧ i = .int .i64 j ∧ j ≤ m.length ∧ Hid (Below w7.heap.size w7 wr)) (fun _ i _ => m.length - (intOf i).toNat)
            case atStart => exact ⟨0, by simp, rfl, Nat.zero_le _, HA⟩
            case round =>
              obtain ⟨j, rfl, rfl, hj, HJ⟩ := hrel
              by_cases hjt : j < m.length
              · have hst := any_take m x j hjt
                obtain ⟨ad, rfl, hc0, hc1'⟩ := at_Sp (Kd.C_below HC67.out HJ.out) (k : Int) (by omega) (by omega)
                rw [Int.toNat_natCast, Hx.out] at hc0 hc1'
                obtain ⟨bd, rfl, hd0, hd1⟩ := at_Sp (Kd.C_below HC7.out HJ.out) (j : Int) (by omega) (by omega)
                rw [Int.toNat_natCast] at hd0 hd1
                have hgy : m.getD j (0, 0) = rdS m j := rfl
                rw [hgy] at hst
                generalize rdS m j = y9 at *
                have HSt : Hid ((q0 || (m.take (j + 1)).any (hit x)) = ((q0 || (m.take j).any (hit x)) || hit x y9)) := Lib.hid (by rw [hst, Bool.or_assoc])
                clear hst hgy
                generalize (q0 || (m.take j).any (hit x)) = q1 at *
                cases q1 with
                | true =>
                  go_wp2
                  go_quiet (fail)
                  go_wp2
                  go_roundw
                  case measure => simp [intOf]; omega
                  case rel => exact ⟨j + 1, by rw [HSt.out]; rfl, by go_num, by omega, Lib.hid (pw_below_drewN HJ.out _)⟩
                | false =>
                  by_cases h1 : x.1 < y9.2
                  · have d1 : decide (x.1 < y9.2) = true := decide_eq_true h1
                    by_cases h2 : y9.1 < x.2
                    · have d2 : decide (y9.1 < x.2) = true := decide_eq_true h2
                      have HH : Hid (hit x y9 = true) := Lib.hid (by unfold hit; rw [d1, d2]; rfl)
                      clear h1 h2
                      go_wp2
                      go_quiet (fail)
                      go_wp2
                      go_roundw
                      case measure => simp [intOf]; omega
                      case rel => exact ⟨j + 1, by rw [HSt.out, HH.out]; rfl, by go_num, by omega, Lib.hid (pw_below_drewN HJ.out _)⟩
                    · have d2 : decide (y9.1 < x.2) = false := decide_eq_false h2
                      have HH : Hid (hit x y9 = false) := Lib.hid (by unfold hit; rw [d1, d2]; rfl)
                      clear h1 h2
                      go_wp2
                      go_quiet (fail)
                      go_wp2
                      go_roundw
                      case measure => simp [intOf]; omega
                      case rel => exact ⟨j + 1, by rw [HSt.out, HH.out]; rfl, by go_num, by omega, Lib.hid (pw_below_drewN HJ.out _)⟩
                  · have d1 : decide (x.1 < y9.2) = false := decide_eq_false h1
                    have HH : Hid (hit x y9 = false) := Lib.hid (by unfold hit; rw [d1]; rfl)
                    clear h1
                    go_wp2
                    go_quiet (fail)
                    go_wp2
                    go_roundw
                    case measure => simp [intOf]; omega
                    case rel => exact ⟨j + 1, by rw [HSt.out, HH.out]; rfl, by go_num, by omega, Lib.hid (pw_below_drewN HJ.out _)⟩
              · obtain rfl : j = m.length := by omega
                go_wp2
                go_roundw
                case measure => simp [intOf]; omega
                case rel => exact ⟨k + 1, by rw [HOv.out], by go_num, by omega, HJ⟩
          · obtain rfl : k = n.length := by omega
            have HCF8 := Lib.hid (HCF7.out.below HA.out)
            have hov : over (n.take n.length) m = over n m := by rw [List.take_length]
            rw [hov]
            clear hov
            have HS2 : Hid (Small (reserve (reserve z0 1 [0] a 0) 2 [uOf true] b 0) 1000) := Lib.hid (Small_mono (Small_reserve (Small_reserve small_z0 1 [0] a 0) 2 [uOf true] b 0) (by simp; omega))
            go_wp2_with fail
            refine (settle_arg w wr _ cb ub cells 1000 1 HCF8.out HS2.out (by omega)).mono ?_
            rintro e w8 ⟨rfl, hCF⟩
            have HCF9 := Lib.hid hCF
            have HS3 := Lib.hid (Small_settle HS2.out 1)
            clear hCF HCF8 HCF7 HS2
            go_wp2_with fail
            refine (res_arg w w8 _ _ cb ub cells 1000 3 [0] A2 c2 b 0 w8.heap.size HCF9.out HS3.out (below_alloc (Below.refl _ _) _) (by simp) (by omega) (by omega) (Nat.le_refl _) (by simp)
              (fun W' he => C_int1 (blk_cell (blk_eq he (newAt w8 _ _ rfl)) 0)) HR2.out hc2).mono ?_
            rintro e w9 ⟨he, hCF⟩
            rw [may_third, Hn.out, Hm.out] at he
            obtain ⟨z, hz⟩ : ∃ z, z = (!over n m && (true || decide (m = []))) := ⟨_, rfl⟩
            rw [← hz] at he
            subst he
            have Hz := Lib.hid hz
            have HB9 : Hid (Below w.heap.size w w9) := Lib.hid (by obtain ⟨_, _, _, h⟩ := hCF; exact h)
            clear hCF HCF9 HS3 hz
            go_wp2_with fail
            refine (first_any _).mono ?_
            rintro e w10 ⟨rfl, hb10⟩
            have HB10 := Lib.hid (HB9.out.trans (hb10.mono HB9.out.size))
            clear hb10 HB9
            have hyz := And.intro Hy.out Hz.out
            generalize over n m = q at *
            obtain ⟨hy, hz⟩ := hyz
            have hml : (m = []) ↔ m.length = 0 := List.length_eq_zero_iff.symm
            by_cases h0 : m.length = 0
            · have dl : ((m.length : Int) == 0) = true := by simp [h0]
              have hm0 : m = [] := hml.2 h0
              rw [hm0] at hz
              clear hml h0 hm0 Hy Hz
              cases q <;> simp at hy hz <;> subst hy <;> subst hz <;> (go_wp2; go_ret; exact ⟨rfl, HB10.out⟩)
            · have dl : ((m.length : Int) == 0) = false := by simpa using h0
              have hm0 : decide (m = []) = false := decide_eq_false (fun h => h0 (hml.1 h))
              rw [hm0] at hz
              clear hml h0 hm0 Hy Hz
              cases q <;> simp at hy hz <;> subst hy <;> subst hz <;> (go_wp2; go_ret; exact ⟨rfl, HB10.out⟩)
    · have hb2 : decide ((100 : Int) < (b.length : Int)) = true := decide_eq_true (by omega)
      have ha2 : decide ((100 : Int) < (a.length : Int)) = false := decide_eq_false (by omega)
      have HB3 : Hid (Below w.heap.size w w3) := Lib.hid (by obtain ⟨_, _, _, h⟩ := HCF.out; exact h)
      go_wp2_with fail
      refine (first_any _).mono ?_
      rintro e w4 ⟨rfl, hb4⟩
      have HB4 := Lib.hid (HB3.out.trans (hb4.mono HB3.out.size))
      clear hb4
      go_wp2
      go_ret
      exact ⟨rfl, HB4.out⟩
  · have ha2 : decide ((100 : Int) < (a.length : Int)) = true := decide_eq_true (by omega)
    have HB3 : Hid (Below w.heap.size w w3) := Lib.hid (by obtain ⟨_, _, _, h⟩ := HCF.out; exact h)
    go_wp2_with fail
    refine (first_any _).mono ?_
    rintro e w4 ⟨rfl, hb4⟩
    have HB4 := Lib.hid (HB3.out.trans (hb4.mono HB3.out.size))
    clear hb4
    go_wp2
    go_ret
    exact ⟨rfl, HB4.out⟩
end Go.Proofs.YtohpimfanplloaaGreat.CalN
