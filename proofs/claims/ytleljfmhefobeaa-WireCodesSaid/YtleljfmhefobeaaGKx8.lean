-- laid by a program of this session (print_proof, changed for laws over structs)
import Derived.Test.YtleljfmhefobeaaGKx0
namespace Go.Proofs.Ytleljfmhefobeaa.GK
open Go.RowKit Go.Proofs.YtleljfmhefobeaaW.PrintWords Go.Proofs.YtleljfmhefobeaaW.PrintLast Go.Proofs.YtleljfmhefobeaaW.PrintMore
attribute [local go_sem] max2_int min2_int max_two min_two max_three min_three max_four min_four   -- for this text's walks alone
set_option linter.unusedVariables false
set_option linter.unusedSimpArgs false

/-! ### vokref_Bytes: function 23 -/
def vokref_Bytes.f (l0 : List Int) (l1 : List Int) : Option (Bool) := some ((strOfNums l0).toList == (strOfNums l1).toList)
set_option maxHeartbeats 8000000 in
set_option maxRecDepth 100000 in
theorem vokref_Bytes.calls (A0 : Option Addr) (c0 : Nat) (l0 : List Int) (A1 : Option Addr) (c1 : Nat) (l1 : List Int) (r : Bool) (w : World) (hr0 : Kd.C (Kd.int .u8) w A0 l0.length l0) (hc0 : l0.length ≤ c0) (hr1 : Kd.C (Kd.int .u8) w A1 l1.length l1) (hc1 : l1.length ≤ c1) (h : vokref_Bytes.f l0 l1 = some r) :
    Calls Try.prog 23 #[.slice A0 l0.length c0, .slice A1 l1.length c1] w fun e w' => e = .returned (.bool r) ∧ Drawn0 w w' := by
  have HR0 := Aside0.mk hr0
  have HC0 := Aside0.mk hc0
  clear hr0 hc0
  have HR1 := Aside0.mk hr1
  have HC1 := Aside0.mk hc1
  clear hr1 hc1
  have H : (some ((strOfNums l0).toList == (strOfNums l1).toList)) = some r := h
  clear h
  obtain rfl := Option.some.inj H
  have hcv3 := Kd.C_string (P := Try.prog) (A := A0) (c := c0) Try.underlying25 Try.underlying5 Try.underlying9 HR0.out
  have hcv4 := Kd.C_string (P := Try.prog) (A := A1) (c := c1) Try.underlying25 Try.underlying5 Try.underlying9 HR1.out
  go_enter Try.func23, Try.ntmps23
  go_wp2
  go_ret
  exact ⟨by first | rfl | (simp; done) | (simp [*]; done), by repeat (first | exact Drawn0.refl _ | apply Drawn0.step)⟩

/-- THE ONE PURE STATEMENT of vokref_Bytes: yours. -/
def vokref_Bytes.Pure : Prop := ∀ (l0 : List Int) (l1 : List Int), l0.length ≤ maxLen → l0.length * 1 ≤ 140737488351232 → (∀ x ∈ l0, (Lit.int .u8 x).wf = true) → l1.length ≤ maxLen → l1.length * 1 ≤ 140737488351232 → (∀ x ∈ l1, (Lit.int .u8 x).wf = true) → vokref_Bytes.f l0 l1 = some true
theorem vokref_Bytes.walk (P : vokref_Bytes.Pure) (a0 : Option Addr) (len0 cap0 : Nat) (z0 : List Int) (a1 : Option Addr) (len1 cap1 : Nat) (z1 : List Int) (w : World) (w0 : (a0 = none ∧ len0 = 0 ∧ cap0 = 0 ∧ z0 = []) ∨ ∃ x, a0 = some x ∧ len0 ≤ cap0 ∧ cap0 ≤ maxLen ∧ z0.length = cap0 ∧ (∀ i, i < z0.length → w.cell? (x.add i) = some (.int .u8 (z0.getD i 0))) ∧ ∀ n ∈ z0, (Lit.int .u8 n).wf = true) (y0 : len0 * 1 ≤ 140737488351232) (w1 : (a1 = none ∧ len1 = 0 ∧ cap1 = 0 ∧ z1 = []) ∨ ∃ x, a1 = some x ∧ len1 ≤ cap1 ∧ cap1 ≤ maxLen ∧ z1.length = cap1 ∧ (∀ i, i < z1.length → w.cell? (x.add i) = some (.int .u8 (z1.getD i 0))) ∧ ∀ n ∈ z1, (Lit.int .u8 n).wf = true) (y1 : len1 * 1 ≤ 140737488351232) :
    Calls Try.prog 23 #[.slice a0 len0 cap0, .slice a1 len1 cap1] w fun e w' => e = .returned (.bool true) ∧ Below w.heap.size w w' := by
  obtain ⟨l0, rfl, hr0, hm0, hw0, hc0⟩ := ReadsInt.ofRowC w0
  obtain ⟨l1, rfl, hr1, hm1, hw1, hc1⟩ := ReadsInt.ofRowC w1
  have h := P l0 l1 hm0 y0 hw0 hm1 y1 hw1
  refine (vokref_Bytes.calls _ _ l0 _ _ l1 true w (Kd.C_of_reads (d := (0 : Int)) (h1 := fun _ => rfl) hr0) hc0 (Kd.C_of_reads (d := (0 : Int)) (h1 := fun _ => rfl) hr1) hc1 h).mono ?_
  rintro e w' ⟨rfl, hd⟩
  exact ⟨rfl, hd.below⟩

/-! ### vokref_CopyBytes: function 21 -/
def vokref_CopyBytes.f (l0 : List Int) : Option (List Int) := (some (([] : List Int) : List Int)).bind fun y170 => (if y170.length + l0.length < 140737488355328 then (some (y170 ++ l0)) else (none))
set_option maxHeartbeats 8000000 in
set_option maxRecDepth 100000 in
theorem vokref_CopyBytes.calls (A0 : Option Addr) (c0 : Nat) (l0 : List Int) (r : List Int) (w : World) (hr0 : Kd.C (Kd.int .u8) w A0 l0.length l0) (hc0 : l0.length ≤ c0) (h : vokref_CopyBytes.f l0 = some r) :
    Calls Try.prog 21 #[.slice A0 l0.length c0] w fun e w' => ∃ v0_ : Value, e = .returned (v0_) ∧ Kd.R (Kd.int .u8) 5 w' w.heap.size (fun _ => True) v0_ r ∧ Below w.heap.size w w' := by
  have HR0 := Aside0.mk hr0
  have HC0 := Aside0.mk hc0
  clear hr0 hc0
  have HB := Aside0.mk (Below.refl w.heap.size w)
  have H : ((some (([] : List Int) : List Int)).bind fun y170 => (if y170.length + l0.length < 140737488355328 then (some (y170 ++ l0)) else (none))) = some r := h
  clear h
  obtain ⟨y170, hy170⟩ : ∃ y_ : List Int, y_ = (([] : List Int)) := ⟨_, rfl⟩
  replace H : (if y170.length + l0.length < 140737488355328 then (some (y170 ++ l0)) else (none)) = some r := by first | (rw [hy170]; with_reducible exact H) | (have H2_ := (Option.bind_some _ _).symm.trans H; rw [hy170]; with_reducible exact H2_) | (have H2_ := (Option.bind_some _ _).symm.trans H; with_reducible exact H2_) | with_reducible exact H | (rw [hy170]; exact H) | exact H
  have Ny170 := Aside0.mk hy170
  clear hy170
  by_cases c2 : y170.length + l0.length < 140737488355328
  · rw [if_pos c2] at H
    have LMc2 := Aside0.mk c2
    clear c2
    obtain ⟨y173, hy173⟩ : ∃ y_ : List Int, y_ = (y170 ++ l0) := ⟨_, rfl⟩
    replace H : (some y173) = some r := by first | (rw [hy173]; with_reducible exact H) | (have H2_ := (Option.bind_some _ _).symm.trans H; rw [hy173]; with_reducible exact H2_) | (have H2_ := (Option.bind_some _ _).symm.trans H; with_reducible exact H2_) | with_reducible exact H | (rw [hy173]; exact H) | exact H
    have Ny173 := Aside0.mk hy173
    clear hy173
    obtain rfl := Option.some.inj H
    go_enter Try.func21, Try.ntmps21
    go_wp2_with (first | ((with_reducible refine gate_dst (N := 3) rfl ?_); refine Kd.R_lit (Kd.int .u8) _ 5 ?hg (N := 3) ?hd (xs := ([] : List Int)) (inner := []) (ok := fun _ => True) (okp := fun _ => True) ?hr ?hp (fun _ hk => hk) trivial (Below.refl _ _) (Nat.le_refl _) (by simp) ?_; (case hd => rfl); (case hg => rfl); (case hr => first | (go_simp; done) | (go_simp; rfl)); (case hp => exact (Reps.none _ _)); intro v171 w3 ho4 hb hg_ hnew_; clear hg_ hnew_; (first | rw [← Ny170.out] at ho4 | (simp only [Int.reduceToNat] at ho4; rw [← Ny170.out] at ho4)); have n0_ := Aside0.mk (Kd.R_lower ho4 (below_size (by repeat (first | (with_reducible first | exact HB.out | apply below_alloc | apply pw_below_drewN | apply below_drew1) | exact HB.out)))); have n1_ := Aside0.mk (below_step (by repeat (first | (with_reducible first | exact HB.out | apply below_alloc | apply pw_below_drewN | apply below_drew1) | exact HB.out)) hb); clear HB; have HO172 := n0_; have HB := n1_; clear n0_ n1_; clear hb ho4) | ((with_reducible refine gate_builtin (b := .append) (xs := #[.tmp 3, .tmp 4]) rfl ?_); at_builtin; refine Kd.R_append_rows (Kd.int .u8) (w0 := w) w.heap.size rfl (.tmp 3) (.tmp 4) 25 5 (.int .u8 0) 1 rfl Try.underlying25 info5 rfl (by decide) (by omega) v171 y170 l0 _ _ _ (fun _ => True) (fun _ => False) rfl rfl ?aO ?aR (fun _ _ h => h) (fun _ h => h.elim) ?aF ?aB ?aS ?aL ?_; (case aR => repeat (first | exact (Kd.C_below HR0.out HB.out) | (with_reducible refine Kd.C_alloc ?_ _) | (with_reducible refine Kd.C_drewN ?_ _) | (with_reducible refine Kd.C_drew ?_))); (case aB => exact (by repeat (first | (with_reducible first | exact HB.out | apply below_alloc | apply pw_below_drewN | apply below_drew1) | exact HB.out))); (case aF => exact (fun _ _ => trivial)); (case aO => exact (by (with_reducible repeat (first | apply Kd.R_alloc | apply Kd.R_drewN | apply Kd.R_drew)); exact HO172.out)); (case aS => exact (below_size (by repeat (first | (with_reducible first | exact HB.out | apply below_alloc | apply pw_below_drewN | apply below_drew1) | exact HB.out)))); (case aL => have := LMc2.out; omega); intro v174 w5 ho hb hg hat; rw [← Ny173.out] at ho; have n0_ := Aside0.mk (hb); have n1_ := Aside0.mk (ho); clear HB; clear HO172; have HB := n0_; have HO175 := n1_; clear n0_ n1_; clear ho hb hg hat))
    go_ret
    exact ⟨_, by first | rfl | (simp [errW_none, errW_some] <;> rfl) | (simp [*, errW_none, errW_some] <;> rfl), by (with_reducible repeat (first | apply Kd.R_alloc | apply Kd.R_drewN | apply Kd.R_drew)); exact HO175.out, by repeat (first | (with_reducible first | exact HB.out | apply below_alloc | apply pw_below_drewN | apply below_drew1) | exact HB.out)⟩
  · rw [if_neg c2] at H
    exact absurd H (by simp)

/-! ### vokref17_within: function 54 -/
def vokref17_within.f (a0 : Int) (a1 : Int) : Option (Bool) := if a0 ≥ 0 then (some (decide (a0 ≤ a1))) else (some false)
set_option maxHeartbeats 8000000 in
set_option maxRecDepth 100000 in
theorem vokref17_within.calls (a0 : Int) (a1 : Int) (r : Bool) (w : World) (h : vokref17_within.f a0 a1 = some r) :
    Calls Try.prog 54 #[.int .i64 a0, .int .i64 a1] w fun e w' => e = .returned (.bool r) ∧ Drawn0 w w' := by
  have H : (if a0 ≥ 0 then (some (decide (a0 ≤ a1))) else (some false)) = some r := h
  clear h
  by_cases c3 : a0 ≥ 0
  · rw [if_pos c3] at H
    have c3b0 : decide (0 ≤ a0) = true := decide_eq_true c3
    clear c3
    obtain rfl := Option.some.inj H
    go_enter Try.func54, Try.ntmps54
    go_wp2
    go_ret
    exact ⟨by first | rfl | (simp; done) | (simp [*]; done), by repeat (first | exact Drawn0.refl _ | apply Drawn0.step)⟩
  · rw [if_neg c3] at H
    have c3b0 : decide (0 ≤ a0) = false := decide_eq_false c3
    clear c3
    obtain rfl := Option.some.inj H
    go_enter Try.func54, Try.ntmps54
    go_wp2
    go_ret
    exact ⟨by first | rfl | (simp; done) | (simp [*]; done), by repeat (first | exact Drawn0.refl _ | apply Drawn0.step)⟩

/-! ### vokref_Rises: function 63 -/
def vokref_Rises.l0 : Nat → List Int → Int → Option (Bool)
  | 0, _, _ => none
  | k + 1, x0, x3 => if x3 < (x0.length : Int) then (if 0 ≤ x3 then (if 0 ≤ (wrap64 (x3 - 1)) then (if (wrap64 (x3 - 1)) < (x0.length : Int) then (if (rd x0 x3) ≤ (rd x0 (wrap64 (x3 - 1))) then (some false) else (vokref_Rises.l0 k x0 (wrap64 (x3 + 1)))) else (none)) else (none)) else (none)) else (some true)
def vokref_Rises.f (k : Nat) (l0 : List Int) : Option (Bool) := vokref_Rises.l0 k l0 1
theorem vokref_Rises.mono_l : ∀ k, (∀ y0 y1, LeO (vokref_Rises.l0 k y0 y1) (vokref_Rises.l0 (k + 1) y0 y1))
  | 0 => fun _ _ r h => by simp [vokref_Rises.l0] at h
  | k + 1 => by
    have ih0 := vokref_Rises.mono_l k
    · intro y0 y1
      unfold vokref_Rises.l0
      repeat' first
      | (with_reducible exact ih0 _ _)
      | (with_reducible exact LeO.refl _)
      | (with_reducible exact LeO.none _)
      | (with_reducible refine LeO.ite ?_ ?_)
      | (with_reducible refine LeO.bind ?_ (fun _ => ?_))
      | exact ih0 _ _
      | exact LeO.none _
      | refine LeO.ite ?_ ?_
      | refine LeO.bind ?_ (fun _ => ?_)
theorem vokref_Rises.mono : ∀ a0 k, LeO (vokref_Rises.f k a0) (vokref_Rises.f (k + 1) a0) := by
  intro a0 k
  have ih0 := vokref_Rises.mono_l k
  unfold vokref_Rises.f
  repeat' first
      | (with_reducible exact ih0 _ _)
      | (with_reducible exact LeO.refl _)
      | (with_reducible exact LeO.none _)
      | (with_reducible refine LeO.ite ?_ ?_)
      | (with_reducible refine LeO.bind ?_ (fun _ => ?_))
      | exact ih0 _ _
      | exact LeO.none _
      | refine LeO.ite ?_ ?_
      | refine LeO.bind ?_ (fun _ => ?_)
set_option maxHeartbeats 8000000 in
set_option maxRecDepth 100000 in
theorem vokref_Rises.calls (k : Nat) (A0 : Option Addr) (c0 : Nat) (l0 : List Int) (r : Bool) (w : World) (hr0 : Kd.C (Kd.int .i64) w A0 l0.length l0) (hc0 : l0.length ≤ c0) (h : vokref_Rises.f k l0 = some r) :
    Calls Try.prog 63 #[.slice A0 l0.length c0] w fun e w' => e = .returned (.bool r) ∧ Drawn0 w w' := by
  have HR0 := Aside0.mk hr0
  have HC0 := Aside0.mk hc0
  clear hr0 hc0
  have H : (vokref_Rises.l0 k l0 1) = some r := h
  clear h
  have H' := Aside0.mk H
  clear H
  go_enter Try.func63, Try.ntmps63
  go_wp2
  repeat (go_quiet (fail); try go_wp2)
  go_loopg [3] k (fun kq v3 w' => ∃ (x3_1 : Int), v3 = .int .i64 x3_1 ∧ Aside0 (vokref_Rises.l0 kq l0 x3_1 = some r) ∧ Aside0 (kq ≤ k) ∧ Drawn0 w w')
  case atStart => exact ⟨(1), (by first | rfl | (simp; done) | (simp [*]; done)), H', ⟨Nat.le_refl _⟩, by repeat (first | exact Drawn0.refl _ | apply Drawn0.step)⟩
  case round =>
    clear H'
    obtain ⟨x3_1, rfl, HA, HK1, ⟨m1, rfl⟩⟩ := hrel
    cases gk with
    | zero => exact absurd HA.out (by simp [vokref_Rises.l0])
    | succ k1 =>
      have H := HA.out
      clear HA
      simp only [vokref_Rises.l0] at H
      by_cases c2 : x3_1 < (l0.length : Int)
      · rw [if_pos c2] at H
        have c2b0 : decide (x3_1 < (l0.length : Int)) = true := decide_eq_true c2
        clear c2
        by_cases c3 : 0 ≤ x3_1
        · rw [if_pos c3] at H
          have c3b0 : decide (0 ≤ x3_1) = true := decide_eq_true c3
          clear c3
          obtain ⟨ji4, hji4⟩ : ∃ j_ : Int, (wrap64 (x3_1 - 1)) = j_ := ⟨_, rfl⟩
          replace H : (if 0 ≤ (ji4) then (if (ji4) < (l0.length : Int) then (if (rd l0 x3_1) ≤ (rd l0 (ji4)) then (some false) else (vokref_Rises.l0 k1 l0 (wrap64 (x3_1 + 1)))) else (none)) else (none)) = some r := by first | (rw [hji4] at H; exact H) | (simp only [hji4] at H ⊢; exact H)
          have hji4w : (IntKind.i64.wrap (x3_1 - 1)) = ji4 := (i64_w _).trans hji4
          by_cases c5 : 0 ≤ (ji4)
          · rw [if_pos c5] at H
            have c5b0 : decide (0 ≤ (ji4)) = true := decide_eq_true c5
            clear c5
            by_cases c6 : (ji4) < (l0.length : Int)
            · rw [if_pos c6] at H
              have c6b0 : decide ((ji4) < (l0.length : Int)) = true := decide_eq_true c6
              clear c6
              by_cases c7 : (rd l0 x3_1) ≤ (rd l0 (ji4))
              · rw [if_pos c7] at H
                have c7b0 : decide ((rd l0 x3_1) ≤ (rd l0 (ji4))) = true := decide_eq_true c7
                clear c7
                obtain rfl := Option.some.inj H
                have p176 : 0 ≤ (x3_1 : Int) := of_decide_eq_true (by first | (with_reducible assumption) | assumption)
                have q176 : x3_1 < (l0.length : Int) := of_decide_eq_true (by first | (with_reducible assumption) | assumption)
                obtain ⟨ad176, e176, hx176_0⟩ := Kd.at_int HR0.out x3_1 p176 q176
                cases e176
                replace p176 := eq_true p176
                replace q176 := eq_true q176
                have p177 : 0 ≤ ((ji4) : Int) := of_decide_eq_true (by first | (with_reducible assumption) | assumption)
                have q177 : (ji4) < (l0.length : Int) := of_decide_eq_true (by first | (with_reducible assumption) | assumption)
                obtain ⟨ad177, e177, hx177_0⟩ := Kd.at_int HR0.out (ji4) p177 q177
                obtain rfl : ad176 = ad177 := (by injection e177)
                replace p177 := eq_true p177
                replace q177 := eq_true q177
                go_wp2
                repeat (go_quiet (fail); try go_wp2)
                go_ret
                exact ⟨by first | rfl | (simp; done) | (simp only [← hji4] <;> (first | rfl | simp)) | (simp [*]; done), by repeat (first | exact Drawn0.refl _ | apply Drawn0.step)⟩
              · rw [if_neg c7] at H
                have c7b0 : decide ((rd l0 x3_1) ≤ (rd l0 (ji4))) = false := decide_eq_false c7
                clear c7
                have H' := Aside0.mk H
                clear H
                have p176 : 0 ≤ (x3_1 : Int) := of_decide_eq_true (by first | (with_reducible assumption) | assumption)
                have q176 : x3_1 < (l0.length : Int) := of_decide_eq_true (by first | (with_reducible assumption) | assumption)
                obtain ⟨ad176, e176, hx176_0⟩ := Kd.at_int HR0.out x3_1 p176 q176
                cases e176
                replace p176 := eq_true p176
                replace q176 := eq_true q176
                have p177 : 0 ≤ ((ji4) : Int) := of_decide_eq_true (by first | (with_reducible assumption) | assumption)
                have q177 : (ji4) < (l0.length : Int) := of_decide_eq_true (by first | (with_reducible assumption) | assumption)
                obtain ⟨ad177, e177, hx177_0⟩ := Kd.at_int HR0.out (ji4) p177 q177
                obtain rfl : ad176 = ad177 := (by injection e177)
                replace p177 := eq_true p177
                replace q177 := eq_true q177
                go_wp2
                repeat (go_quiet (fail); try go_wp2)
                go_roundg k1
                case measure => have := HK1.out; omega
                case rel => exact ⟨(wrap64 (x3_1 + 1)), (by first | rfl | (simp; done) | (simp [*]; done)), H', ⟨by have := HK1.out; omega⟩, by repeat (first | exact Drawn0.refl _ | apply Drawn0.step)⟩
            · rw [if_neg c6] at H
              exact absurd H (by simp)
          · rw [if_neg c5] at H
            exact absurd H (by simp)
        · rw [if_neg c3] at H
          exact absurd H (by simp)
      · rw [if_neg c2] at H
        have c2b0 : decide (x3_1 < (l0.length : Int)) = false := decide_eq_false c2
        clear c2
        obtain rfl := Option.some.inj H
        go_wp2
        repeat (go_quiet (fail); try go_wp2)
        go_ret
        exact ⟨by first | rfl | (simp; done) | (simp [*]; done), by repeat (first | exact Drawn0.refl _ | apply Drawn0.step)⟩

/-! ### vokref10_List: function 55 -/
def vokref10_List.l0 : Nat → List Int → Int → Int → Int → Option (Bool)
  | 0, _, _, _, _ => none
  | k + 1, x0, x1, x2, x7 => if x7 < (x0.length : Int) then (if 0 ≤ x7 then (if (rd x0 x7) < 0 then (some false) else (if (rd x0 x7) > x1 then (some false) else (vokref10_List.l0 k x0 x1 x2 (wrap64 (x7 + 1))))) else (none)) else (if (x0.length : Int) ≤ x2 then ((vokref_Rises.f k x0).bind fun t180 => (some t180)) else (some false))
def vokref10_List.f (k : Nat) (l0 : List Int) (a1 : Int) (a2 : Int) : Option (Bool) := vokref10_List.l0 k l0 a1 a2 0
theorem vokref10_List.mono_l : ∀ k, (∀ y0 y1 y2 y3, LeO (vokref10_List.l0 k y0 y1 y2 y3) (vokref10_List.l0 (k + 1) y0 y1 y2 y3))
  | 0 => fun _ _ _ _ r h => by simp [vokref10_List.l0] at h
  | k + 1 => by
    have ih0 := vokref10_List.mono_l k
    · intro y0 y1 y2 y3
      unfold vokref10_List.l0
      repeat' first
      | (with_reducible exact ih0 _ _ _ _)
      | (with_reducible exact vokref_Rises.mono _ _)
      | (with_reducible exact LeO.refl _)
      | (with_reducible exact LeO.none _)
      | (with_reducible refine LeO.ite ?_ ?_)
      | (with_reducible refine LeO.bind ?_ (fun _ => ?_))
      | exact ih0 _ _ _ _
      | exact vokref_Rises.mono _ _
      | exact LeO.none _
      | refine LeO.ite ?_ ?_
      | refine LeO.bind ?_ (fun _ => ?_)
theorem vokref10_List.mono : ∀ a0 a1 a2 k, LeO (vokref10_List.f k a0 a1 a2) (vokref10_List.f (k + 1) a0 a1 a2) := by
  intro a0 a1 a2 k
  have ih0 := vokref10_List.mono_l k
  unfold vokref10_List.f
  repeat' first
      | (with_reducible exact ih0 _ _ _ _)
      | (with_reducible exact vokref_Rises.mono _ _)
      | (with_reducible exact LeO.refl _)
      | (with_reducible exact LeO.none _)
      | (with_reducible refine LeO.ite ?_ ?_)
      | (with_reducible refine LeO.bind ?_ (fun _ => ?_))
      | exact ih0 _ _ _ _
      | exact vokref_Rises.mono _ _
      | exact LeO.none _
      | refine LeO.ite ?_ ?_
      | refine LeO.bind ?_ (fun _ => ?_)
set_option maxHeartbeats 8000000 in
set_option maxRecDepth 100000 in
theorem vokref10_List.calls (k : Nat) (A0 : Option Addr) (c0 : Nat) (l0 : List Int) (a1 : Int) (a2 : Int) (r : Bool) (w : World) (hr0 : Kd.C (Kd.int .i64) w A0 l0.length l0) (hc0 : l0.length ≤ c0) (h : vokref10_List.f k l0 a1 a2 = some r) :
    Calls Try.prog 55 #[.slice A0 l0.length c0, .int .i64 a1, .int .i64 a2] w fun e w' => e = .returned (.bool r) ∧ Drawn0 w w' := by
  have HR0 := Aside0.mk hr0
  have HC0 := Aside0.mk hc0
  clear hr0 hc0
  have H : (vokref10_List.l0 k l0 a1 a2 0) = some r := h
  clear h
  have H' := Aside0.mk H
  clear H
  go_enter Try.func55, Try.ntmps55
  go_wp2
  go_loopg [7] k (fun kq v7 w' => ∃ (x7_1 : Int), v7 = .int .i64 x7_1 ∧ Aside0 (vokref10_List.l0 kq l0 a1 a2 x7_1 = some r) ∧ Aside0 (kq ≤ k) ∧ Drawn0 w w')
  case atStart => exact ⟨(0), (by first | rfl | (simp; done) | (simp [*]; done)), H', ⟨Nat.le_refl _⟩, by repeat (first | exact Drawn0.refl _ | apply Drawn0.step)⟩
  case round =>
    clear H'
    try clear p2
    obtain ⟨x7_1, rfl, HA, HK1, ⟨m1, rfl⟩⟩ := hrel
    cases gk with
    | zero => exact absurd HA.out (by simp [vokref10_List.l0])
    | succ k1 =>
      have H := HA.out
      clear HA
      simp only [vokref10_List.l0] at H
      by_cases c4 : x7_1 < (l0.length : Int)
      · rw [if_pos c4] at H
        have c4b0 : decide (x7_1 < (l0.length : Int)) = true := decide_eq_true c4
        clear c4
        by_cases c5 : 0 ≤ x7_1
        · rw [if_pos c5] at H
          have c5b0 : decide (0 ≤ x7_1) = true := decide_eq_true c5
          clear c5
          by_cases c6 : (rd l0 x7_1) < 0
          · rw [if_pos c6] at H
            have c6b0 : decide ((rd l0 x7_1) < 0) = true := decide_eq_true c6
            clear c6
            obtain rfl := Option.some.inj H
            have p178 : 0 ≤ (x7_1 : Int) := of_decide_eq_true (by first | (with_reducible assumption) | assumption)
            have q178 : x7_1 < (l0.length : Int) := of_decide_eq_true (by first | (with_reducible assumption) | assumption)
            obtain ⟨ad178, e178, hx178_0⟩ := Kd.at_int HR0.out x7_1 p178 q178
            cases e178
            replace p178 := eq_true p178
            replace q178 := eq_true q178
            go_wp2
            go_ret
            exact ⟨by first | rfl | (simp; done) | (simp [*]; done), by repeat (first | exact Drawn0.refl _ | apply Drawn0.step)⟩
          · rw [if_neg c6] at H
            have c6b0 : decide ((rd l0 x7_1) < 0) = false := decide_eq_false c6
            clear c6
            by_cases c7 : (rd l0 x7_1) > a1
            · rw [if_pos c7] at H
              have c7b0 : decide (a1 < (rd l0 x7_1)) = true := decide_eq_true c7
              clear c7
              obtain rfl := Option.some.inj H
              have p178 : 0 ≤ (x7_1 : Int) := of_decide_eq_true (by first | (with_reducible assumption) | assumption)
              have q178 : x7_1 < (l0.length : Int) := of_decide_eq_true (by first | (with_reducible assumption) | assumption)
              obtain ⟨ad178, e178, hx178_0⟩ := Kd.at_int HR0.out x7_1 p178 q178
              cases e178
              replace p178 := eq_true p178
              replace q178 := eq_true q178
              have p179 : 0 ≤ (x7_1 : Int) := of_decide_eq_true (by first | (with_reducible assumption) | assumption)
              have q179 : x7_1 < (l0.length : Int) := of_decide_eq_true (by first | (with_reducible assumption) | assumption)
              obtain ⟨ad179, e179, hx179_0⟩ := Kd.at_int HR0.out x7_1 p179 q179
              obtain rfl : ad178 = ad179 := (by injection e179)
              replace p179 := eq_true p179
              replace q179 := eq_true q179
              go_wp2
              go_ret
              exact ⟨by first | rfl | (simp; done) | (simp [*]; done), by repeat (first | exact Drawn0.refl _ | apply Drawn0.step)⟩
            · rw [if_neg c7] at H
              have c7b0 : decide (a1 < (rd l0 x7_1)) = false := decide_eq_false c7
              clear c7
              have H' := Aside0.mk H
              clear H
              have p178 : 0 ≤ (x7_1 : Int) := of_decide_eq_true (by first | (with_reducible assumption) | assumption)
              have q178 : x7_1 < (l0.length : Int) := of_decide_eq_true (by first | (with_reducible assumption) | assumption)
              obtain ⟨ad178, e178, hx178_0⟩ := Kd.at_int HR0.out x7_1 p178 q178
              cases e178
              replace p178 := eq_true p178
              replace q178 := eq_true q178
              have p179 : 0 ≤ (x7_1 : Int) := of_decide_eq_true (by first | (with_reducible assumption) | assumption)
              have q179 : x7_1 < (l0.length : Int) := of_decide_eq_true (by first | (with_reducible assumption) | assumption)
              obtain ⟨ad179, e179, hx179_0⟩ := Kd.at_int HR0.out x7_1 p179 q179
              obtain rfl : ad178 = ad179 := (by injection e179)
              replace p179 := eq_true p179
              replace q179 := eq_true q179
              go_wp2
              go_roundg k1
              case measure => have := HK1.out; omega
              case rel => exact ⟨(wrap64 (x7_1 + 1)), (by first | rfl | (simp; done) | (simp [*]; done)), H', ⟨by have := HK1.out; omega⟩, by repeat (first | exact Drawn0.refl _ | apply Drawn0.step)⟩
        · rw [if_neg c5] at H
          exact absurd H (by simp)
      · rw [if_neg c4] at H
        have c4b0 : decide (x7_1 < (l0.length : Int)) = false := decide_eq_false c4
        clear c4
        by_cases c8 : (l0.length : Int) ≤ a2
        · rw [if_pos c8] at H
          have c8b0 : decide ((l0.length : Int) ≤ a2) = true := decide_eq_true c8
          clear c8
          replace H := Option.bind_eq_some_iff.mp H
          obtain ⟨t180, A90, H⟩ := H
          replace H : (some t180) = some r := H
          have A9 := Aside0.mk A90
          clear A90
          obtain rfl := Option.some.inj H
          go_wp2_with (first | (go_at_call 63; (with_reducible refine (vokref_Rises.calls k1 _ _ l0 t180 _ ?side1 ?side2 A9.out).mono ?_); (case side1 => repeat (first | exact HR0.out | (with_reducible refine Kd.C_alloc ?_ _) | (with_reducible refine Kd.C_drewN ?_ _) | (with_reducible refine Kd.C_drew ?_))); (case side2 => exact HC0.out); rintro e w' ⟨rfl, ⟨nd, rfl⟩⟩))
          go_ret
          exact ⟨by first | rfl | (simp; done) | (simp [*]; done), by repeat (first | exact Drawn0.refl _ | apply Drawn0.step)⟩
        · rw [if_neg c8] at H
          have c8b0 : decide ((l0.length : Int) ≤ a2) = false := decide_eq_false c8
          clear c8
          obtain rfl := Option.some.inj H
          go_wp2
          go_ret
          exact ⟨by first | rfl | (simp; done) | (simp [*]; done), by repeat (first | exact Drawn0.refl _ | apply Drawn0.step)⟩

/-! ### vokref17_Msg_May: function 29 -/
def vokref17_Msg_May.f (k : Nat) (a0_0 : Int) (a0_1 : Int) (a0_2 : Int) (a0_3 : Int) (a0_4 : Int) (a0_5 : Int) (a0_6 : Int) (a0_7 : Int) (a0_8 : Int) (a0_9 : Bool) (a0_10 : Int) (a0_11 : Int) (l0_12 : List Int) (l0_13 : List Int) (l0_14 : List Int) : Option (Bool) := if a0_0 ≥ 1 then (if a0_0 ≤ 8 then ((vokref17_within.f a0_1 15).bind fun t182 => (if t182 = true then ((vokref17_within.f a0_2 15).bind fun t183 => (if t183 = true then ((vokref17_within.f a0_3 1099511627776).bind fun t184 => (if t184 = true then ((vokref17_within.f a0_4 1099511627776).bind fun t185 => (if t185 = true then ((vokref17_within.f a0_6 1099511627776).bind fun t186 => (if t186 = true then ((vokref17_within.f a0_8 1099511627776).bind fun t187 => (if t187 = true then ((vokref17_within.f a0_5 3).bind fun t188 => (if t188 = true then ((vokref17_within.f a0_7 255).bind fun t189 => (if t189 = true then ((vokref17_within.f a0_10 140737488355328).bind fun t190 => (if t190 = true then ((vokref17_within.f a0_11 140737488355328).bind fun t191 => (if t191 = true then ((vokref10_List.f k l0_12 63 64).bind fun t192 => (if t192 = true then ((vokref10_List.f k l0_13 15 16).bind fun t193 => (if t193 = true then (some (decide ((l0_14.length : Int) ≤ 4096))) else (some false))) else (some false))) else (some false))) else (some false))) else (some false))) else (some false))) else (some false))) else (some false))) else (some false))) else (some false))) else (some false))) else (some false))) else (some false)) else (some false)
theorem vokref17_Msg_May.mono : ∀ a0 a1 a2 a3 a4 a5 a6 a7 a8 a9 a10 a11 a12 a13 a14 k, LeO (vokref17_Msg_May.f k a0 a1 a2 a3 a4 a5 a6 a7 a8 a9 a10 a11 a12 a13 a14) (vokref17_Msg_May.f (k + 1) a0 a1 a2 a3 a4 a5 a6 a7 a8 a9 a10 a11 a12 a13 a14) := by
  intro a0 a1 a2 a3 a4 a5 a6 a7 a8 a9 a10 a11 a12 a13 a14 k
  unfold vokref17_Msg_May.f
  repeat' first
      | (with_reducible exact vokref10_List.mono _ _ _ _)
      | (with_reducible exact LeO.refl _)
      | (with_reducible exact LeO.none _)
      | (with_reducible refine LeO.ite ?_ ?_)
      | (with_reducible refine LeO.bind ?_ (fun _ => ?_))
      | exact vokref10_List.mono _ _ _ _
      | exact LeO.none _
      | refine LeO.ite ?_ ?_
      | refine LeO.bind ?_ (fun _ => ?_)
set_option maxHeartbeats 8000000 in
set_option maxRecDepth 100000 in
theorem vokref17_Msg_May.calls (k : Nat) (a0_0 : Int) (a0_1 : Int) (a0_2 : Int) (a0_3 : Int) (a0_4 : Int) (a0_5 : Int) (a0_6 : Int) (a0_7 : Int) (a0_8 : Int) (a0_9 : Bool) (a0_10 : Int) (a0_11 : Int) (A0_12 : Option Addr) (c0_12 : Nat) (l0_12 : List Int) (A0_13 : Option Addr) (c0_13 : Nat) (l0_13 : List Int) (A0_14 : Option Addr) (c0_14 : Nat) (l0_14 : List Int) (r : Bool) (w : World) (hr0_12 : Kd.C (Kd.int .i64) w A0_12 l0_12.length l0_12) (hc0_12 : l0_12.length ≤ c0_12) (hr0_13 : Kd.C (Kd.int .i64) w A0_13 l0_13.length l0_13) (hc0_13 : l0_13.length ≤ c0_13) (hr0_14 : Kd.C (Kd.int .u8) w A0_14 l0_14.length l0_14) (hc0_14 : l0_14.length ≤ c0_14) (h : vokref17_Msg_May.f k a0_0 a0_1 a0_2 a0_3 a0_4 a0_5 a0_6 a0_7 a0_8 a0_9 a0_10 a0_11 l0_12 l0_13 l0_14 = some r) :
    Calls Try.prog 29 #[.agg #[.int .i64 a0_0, .int .i64 a0_1, .int .i64 a0_2, .int .i64 a0_3, .int .i64 a0_4, .int .i64 a0_5, .int .i64 a0_6, .int .i64 a0_7, .int .i64 a0_8, .bool a0_9, .int .i64 a0_10, .int .i64 a0_11, .slice A0_12 l0_12.length c0_12, .slice A0_13 l0_13.length c0_13, .slice A0_14 l0_14.length c0_14]] w fun e w' => e = .returned (.bool r) ∧ Below w.heap.size w w' := by
  have hu43 := Try.underlying43
  have HR0_12 := Aside0.mk hr0_12
  have HC0_12 := Aside0.mk hc0_12
  clear hr0_12 hc0_12
  have HR0_13 := Aside0.mk hr0_13
  have HC0_13 := Aside0.mk hc0_13
  clear hr0_13 hc0_13
  have HR0_14 := Aside0.mk hr0_14
  have HC0_14 := Aside0.mk hc0_14
  clear hr0_14 hc0_14
  have HB := Aside0.mk (Below.refl w.heap.size w)
  have H : (if a0_0 ≥ 1 then (if a0_0 ≤ 8 then ((vokref17_within.f a0_1 15).bind fun t182 => (if t182 = true then ((vokref17_within.f a0_2 15).bind fun t183 => (if t183 = true then ((vokref17_within.f a0_3 1099511627776).bind fun t184 => (if t184 = true then ((vokref17_within.f a0_4 1099511627776).bind fun t185 => (if t185 = true then ((vokref17_within.f a0_6 1099511627776).bind fun t186 => (if t186 = true then ((vokref17_within.f a0_8 1099511627776).bind fun t187 => (if t187 = true then ((vokref17_within.f a0_5 3).bind fun t188 => (if t188 = true then ((vokref17_within.f a0_7 255).bind fun t189 => (if t189 = true then ((vokref17_within.f a0_10 140737488355328).bind fun t190 => (if t190 = true then ((vokref17_within.f a0_11 140737488355328).bind fun t191 => (if t191 = true then ((vokref10_List.f k l0_12 63 64).bind fun t192 => (if t192 = true then ((vokref10_List.f k l0_13 15 16).bind fun t193 => (if t193 = true then (some (decide ((l0_14.length : Int) ≤ 4096))) else (some false))) else (some false))) else (some false))) else (some false))) else (some false))) else (some false))) else (some false))) else (some false))) else (some false))) else (some false))) else (some false))) else (some false))) else (some false)) else (some false)) = some r := h
  clear h
  by_cases c2 : a0_0 ≥ 1
  · rw [if_pos c2] at H
    have c2b0 : decide (1 ≤ a0_0) = true := decide_eq_true c2
    clear c2
    by_cases c3 : a0_0 ≤ 8
    · rw [if_pos c3] at H
      have c3b0 : decide (a0_0 ≤ 8) = true := decide_eq_true c3
      clear c3
      replace H := Option.bind_eq_some_iff.mp H
      obtain ⟨t182, A40, H⟩ := H
      replace H : (if t182 = true then ((vokref17_within.f a0_2 15).bind fun t183 => (if t183 = true then ((vokref17_within.f a0_3 1099511627776).bind fun t184 => (if t184 = true then ((vokref17_within.f a0_4 1099511627776).bind fun t185 => (if t185 = true then ((vokref17_within.f a0_6 1099511627776).bind fun t186 => (if t186 = true then ((vokref17_within.f a0_8 1099511627776).bind fun t187 => (if t187 = true then ((vokref17_within.f a0_5 3).bind fun t188 => (if t188 = true then ((vokref17_within.f a0_7 255).bind fun t189 => (if t189 = true then ((vokref17_within.f a0_10 140737488355328).bind fun t190 => (if t190 = true then ((vokref17_within.f a0_11 140737488355328).bind fun t191 => (if t191 = true then ((vokref10_List.f k l0_12 63 64).bind fun t192 => (if t192 = true then ((vokref10_List.f k l0_13 15 16).bind fun t193 => (if t193 = true then (some (decide ((l0_14.length : Int) ≤ 4096))) else (some false))) else (some false))) else (some false))) else (some false))) else (some false))) else (some false))) else (some false))) else (some false))) else (some false))) else (some false))) else (some false))) else (some false)) = some r := H
      have A4 := Aside0.mk A40
      clear A40
      by_cases c5 : t182 = true
      · subst c5
        have H1 : ((vokref17_within.f a0_2 15).bind fun t183 => (if t183 = true then ((vokref17_within.f a0_3 1099511627776).bind fun t184 => (if t184 = true then ((vokref17_within.f a0_4 1099511627776).bind fun t185 => (if t185 = true then ((vokref17_within.f a0_6 1099511627776).bind fun t186 => (if t186 = true then ((vokref17_within.f a0_8 1099511627776).bind fun t187 => (if t187 = true then ((vokref17_within.f a0_5 3).bind fun t188 => (if t188 = true then ((vokref17_within.f a0_7 255).bind fun t189 => (if t189 = true then ((vokref17_within.f a0_10 140737488355328).bind fun t190 => (if t190 = true then ((vokref17_within.f a0_11 140737488355328).bind fun t191 => (if t191 = true then ((vokref10_List.f k l0_12 63 64).bind fun t192 => (if t192 = true then ((vokref10_List.f k l0_13 15 16).bind fun t193 => (if t193 = true then (some (decide ((l0_14.length : Int) ≤ 4096))) else (some false))) else (some false))) else (some false))) else (some false))) else (some false))) else (some false))) else (some false))) else (some false))) else (some false))) else (some false))) else (some false))) = some r := by rw [if_pos rfl] at H; exact H
        clear H
        have H := H1
        clear H1
        replace H := Option.bind_eq_some_iff.mp H
        obtain ⟨t183, A60, H⟩ := H
        replace H : (if t183 = true then ((vokref17_within.f a0_3 1099511627776).bind fun t184 => (if t184 = true then ((vokref17_within.f a0_4 1099511627776).bind fun t185 => (if t185 = true then ((vokref17_within.f a0_6 1099511627776).bind fun t186 => (if t186 = true then ((vokref17_within.f a0_8 1099511627776).bind fun t187 => (if t187 = true then ((vokref17_within.f a0_5 3).bind fun t188 => (if t188 = true then ((vokref17_within.f a0_7 255).bind fun t189 => (if t189 = true then ((vokref17_within.f a0_10 140737488355328).bind fun t190 => (if t190 = true then ((vokref17_within.f a0_11 140737488355328).bind fun t191 => (if t191 = true then ((vokref10_List.f k l0_12 63 64).bind fun t192 => (if t192 = true then ((vokref10_List.f k l0_13 15 16).bind fun t193 => (if t193 = true then (some (decide ((l0_14.length : Int) ≤ 4096))) else (some false))) else (some false))) else (some false))) else (some false))) else (some false))) else (some false))) else (some false))) else (some false))) else (some false))) else (some false))) else (some false)) = some r := H
        have A6 := Aside0.mk A60
        clear A60
        by_cases c7 : t183 = true
        · subst c7
          have H1 : ((vokref17_within.f a0_3 1099511627776).bind fun t184 => (if t184 = true then ((vokref17_within.f a0_4 1099511627776).bind fun t185 => (if t185 = true then ((vokref17_within.f a0_6 1099511627776).bind fun t186 => (if t186 = true then ((vokref17_within.f a0_8 1099511627776).bind fun t187 => (if t187 = true then ((vokref17_within.f a0_5 3).bind fun t188 => (if t188 = true then ((vokref17_within.f a0_7 255).bind fun t189 => (if t189 = true then ((vokref17_within.f a0_10 140737488355328).bind fun t190 => (if t190 = true then ((vokref17_within.f a0_11 140737488355328).bind fun t191 => (if t191 = true then ((vokref10_List.f k l0_12 63 64).bind fun t192 => (if t192 = true then ((vokref10_List.f k l0_13 15 16).bind fun t193 => (if t193 = true then (some (decide ((l0_14.length : Int) ≤ 4096))) else (some false))) else (some false))) else (some false))) else (some false))) else (some false))) else (some false))) else (some false))) else (some false))) else (some false))) else (some false))) = some r := by rw [if_pos rfl] at H; exact H
          clear H
          have H := H1
          clear H1
          replace H := Option.bind_eq_some_iff.mp H
          obtain ⟨t184, A80, H⟩ := H
          replace H : (if t184 = true then ((vokref17_within.f a0_4 1099511627776).bind fun t185 => (if t185 = true then ((vokref17_within.f a0_6 1099511627776).bind fun t186 => (if t186 = true then ((vokref17_within.f a0_8 1099511627776).bind fun t187 => (if t187 = true then ((vokref17_within.f a0_5 3).bind fun t188 => (if t188 = true then ((vokref17_within.f a0_7 255).bind fun t189 => (if t189 = true then ((vokref17_within.f a0_10 140737488355328).bind fun t190 => (if t190 = true then ((vokref17_within.f a0_11 140737488355328).bind fun t191 => (if t191 = true then ((vokref10_List.f k l0_12 63 64).bind fun t192 => (if t192 = true then ((vokref10_List.f k l0_13 15 16).bind fun t193 => (if t193 = true then (some (decide ((l0_14.length : Int) ≤ 4096))) else (some false))) else (some false))) else (some false))) else (some false))) else (some false))) else (some false))) else (some false))) else (some false))) else (some false))) else (some false)) = some r := H
          have A8 := Aside0.mk A80
          clear A80
          by_cases c9 : t184 = true
          · subst c9
            have H1 : ((vokref17_within.f a0_4 1099511627776).bind fun t185 => (if t185 = true then ((vokref17_within.f a0_6 1099511627776).bind fun t186 => (if t186 = true then ((vokref17_within.f a0_8 1099511627776).bind fun t187 => (if t187 = true then ((vokref17_within.f a0_5 3).bind fun t188 => (if t188 = true then ((vokref17_within.f a0_7 255).bind fun t189 => (if t189 = true then ((vokref17_within.f a0_10 140737488355328).bind fun t190 => (if t190 = true then ((vokref17_within.f a0_11 140737488355328).bind fun t191 => (if t191 = true then ((vokref10_List.f k l0_12 63 64).bind fun t192 => (if t192 = true then ((vokref10_List.f k l0_13 15 16).bind fun t193 => (if t193 = true then (some (decide ((l0_14.length : Int) ≤ 4096))) else (some false))) else (some false))) else (some false))) else (some false))) else (some false))) else (some false))) else (some false))) else (some false))) else (some false))) = some r := by rw [if_pos rfl] at H; exact H
            clear H
            have H := H1
            clear H1
            replace H := Option.bind_eq_some_iff.mp H
            obtain ⟨t185, A100, H⟩ := H
            replace H : (if t185 = true then ((vokref17_within.f a0_6 1099511627776).bind fun t186 => (if t186 = true then ((vokref17_within.f a0_8 1099511627776).bind fun t187 => (if t187 = true then ((vokref17_within.f a0_5 3).bind fun t188 => (if t188 = true then ((vokref17_within.f a0_7 255).bind fun t189 => (if t189 = true then ((vokref17_within.f a0_10 140737488355328).bind fun t190 => (if t190 = true then ((vokref17_within.f a0_11 140737488355328).bind fun t191 => (if t191 = true then ((vokref10_List.f k l0_12 63 64).bind fun t192 => (if t192 = true then ((vokref10_List.f k l0_13 15 16).bind fun t193 => (if t193 = true then (some (decide ((l0_14.length : Int) ≤ 4096))) else (some false))) else (some false))) else (some false))) else (some false))) else (some false))) else (some false))) else (some false))) else (some false))) else (some false)) = some r := H
            have A10 := Aside0.mk A100
            clear A100
            by_cases c11 : t185 = true
            · subst c11
              have H1 : ((vokref17_within.f a0_6 1099511627776).bind fun t186 => (if t186 = true then ((vokref17_within.f a0_8 1099511627776).bind fun t187 => (if t187 = true then ((vokref17_within.f a0_5 3).bind fun t188 => (if t188 = true then ((vokref17_within.f a0_7 255).bind fun t189 => (if t189 = true then ((vokref17_within.f a0_10 140737488355328).bind fun t190 => (if t190 = true then ((vokref17_within.f a0_11 140737488355328).bind fun t191 => (if t191 = true then ((vokref10_List.f k l0_12 63 64).bind fun t192 => (if t192 = true then ((vokref10_List.f k l0_13 15 16).bind fun t193 => (if t193 = true then (some (decide ((l0_14.length : Int) ≤ 4096))) else (some false))) else (some false))) else (some false))) else (some false))) else (some false))) else (some false))) else (some false))) else (some false))) = some r := by rw [if_pos rfl] at H; exact H
              clear H
              have H := H1
              clear H1
              replace H := Option.bind_eq_some_iff.mp H
              obtain ⟨t186, A120, H⟩ := H
              replace H : (if t186 = true then ((vokref17_within.f a0_8 1099511627776).bind fun t187 => (if t187 = true then ((vokref17_within.f a0_5 3).bind fun t188 => (if t188 = true then ((vokref17_within.f a0_7 255).bind fun t189 => (if t189 = true then ((vokref17_within.f a0_10 140737488355328).bind fun t190 => (if t190 = true then ((vokref17_within.f a0_11 140737488355328).bind fun t191 => (if t191 = true then ((vokref10_List.f k l0_12 63 64).bind fun t192 => (if t192 = true then ((vokref10_List.f k l0_13 15 16).bind fun t193 => (if t193 = true then (some (decide ((l0_14.length : Int) ≤ 4096))) else (some false))) else (some false))) else (some false))) else (some false))) else (some false))) else (some false))) else (some false))) else (some false)) = some r := H
              have A12 := Aside0.mk A120
              clear A120
              by_cases c13 : t186 = true
              · subst c13
                have H1 : ((vokref17_within.f a0_8 1099511627776).bind fun t187 => (if t187 = true then ((vokref17_within.f a0_5 3).bind fun t188 => (if t188 = true then ((vokref17_within.f a0_7 255).bind fun t189 => (if t189 = true then ((vokref17_within.f a0_10 140737488355328).bind fun t190 => (if t190 = true then ((vokref17_within.f a0_11 140737488355328).bind fun t191 => (if t191 = true then ((vokref10_List.f k l0_12 63 64).bind fun t192 => (if t192 = true then ((vokref10_List.f k l0_13 15 16).bind fun t193 => (if t193 = true then (some (decide ((l0_14.length : Int) ≤ 4096))) else (some false))) else (some false))) else (some false))) else (some false))) else (some false))) else (some false))) else (some false))) = some r := by rw [if_pos rfl] at H; exact H
                clear H
                have H := H1
                clear H1
                replace H := Option.bind_eq_some_iff.mp H
                obtain ⟨t187, A140, H⟩ := H
                replace H : (if t187 = true then ((vokref17_within.f a0_5 3).bind fun t188 => (if t188 = true then ((vokref17_within.f a0_7 255).bind fun t189 => (if t189 = true then ((vokref17_within.f a0_10 140737488355328).bind fun t190 => (if t190 = true then ((vokref17_within.f a0_11 140737488355328).bind fun t191 => (if t191 = true then ((vokref10_List.f k l0_12 63 64).bind fun t192 => (if t192 = true then ((vokref10_List.f k l0_13 15 16).bind fun t193 => (if t193 = true then (some (decide ((l0_14.length : Int) ≤ 4096))) else (some false))) else (some false))) else (some false))) else (some false))) else (some false))) else (some false))) else (some false)) = some r := H
                have A14 := Aside0.mk A140
                clear A140
                by_cases c15 : t187 = true
                · subst c15
                  have H1 : ((vokref17_within.f a0_5 3).bind fun t188 => (if t188 = true then ((vokref17_within.f a0_7 255).bind fun t189 => (if t189 = true then ((vokref17_within.f a0_10 140737488355328).bind fun t190 => (if t190 = true then ((vokref17_within.f a0_11 140737488355328).bind fun t191 => (if t191 = true then ((vokref10_List.f k l0_12 63 64).bind fun t192 => (if t192 = true then ((vokref10_List.f k l0_13 15 16).bind fun t193 => (if t193 = true then (some (decide ((l0_14.length : Int) ≤ 4096))) else (some false))) else (some false))) else (some false))) else (some false))) else (some false))) else (some false))) = some r := by rw [if_pos rfl] at H; exact H
                  clear H
                  have H := H1
                  clear H1
                  replace H := Option.bind_eq_some_iff.mp H
                  obtain ⟨t188, A160, H⟩ := H
                  replace H : (if t188 = true then ((vokref17_within.f a0_7 255).bind fun t189 => (if t189 = true then ((vokref17_within.f a0_10 140737488355328).bind fun t190 => (if t190 = true then ((vokref17_within.f a0_11 140737488355328).bind fun t191 => (if t191 = true then ((vokref10_List.f k l0_12 63 64).bind fun t192 => (if t192 = true then ((vokref10_List.f k l0_13 15 16).bind fun t193 => (if t193 = true then (some (decide ((l0_14.length : Int) ≤ 4096))) else (some false))) else (some false))) else (some false))) else (some false))) else (some false))) else (some false)) = some r := H
                  have A16 := Aside0.mk A160
                  clear A160
                  by_cases c17 : t188 = true
                  · subst c17
                    have H1 : ((vokref17_within.f a0_7 255).bind fun t189 => (if t189 = true then ((vokref17_within.f a0_10 140737488355328).bind fun t190 => (if t190 = true then ((vokref17_within.f a0_11 140737488355328).bind fun t191 => (if t191 = true then ((vokref10_List.f k l0_12 63 64).bind fun t192 => (if t192 = true then ((vokref10_List.f k l0_13 15 16).bind fun t193 => (if t193 = true then (some (decide ((l0_14.length : Int) ≤ 4096))) else (some false))) else (some false))) else (some false))) else (some false))) else (some false))) = some r := by rw [if_pos rfl] at H; exact H
                    clear H
                    have H := H1
                    clear H1
                    replace H := Option.bind_eq_some_iff.mp H
                    obtain ⟨t189, A180, H⟩ := H
                    replace H : (if t189 = true then ((vokref17_within.f a0_10 140737488355328).bind fun t190 => (if t190 = true then ((vokref17_within.f a0_11 140737488355328).bind fun t191 => (if t191 = true then ((vokref10_List.f k l0_12 63 64).bind fun t192 => (if t192 = true then ((vokref10_List.f k l0_13 15 16).bind fun t193 => (if t193 = true then (some (decide ((l0_14.length : Int) ≤ 4096))) else (some false))) else (some false))) else (some false))) else (some false))) else (some false)) = some r := H
                    have A18 := Aside0.mk A180
                    clear A180
                    by_cases c19 : t189 = true
                    · subst c19
                      have H1 : ((vokref17_within.f a0_10 140737488355328).bind fun t190 => (if t190 = true then ((vokref17_within.f a0_11 140737488355328).bind fun t191 => (if t191 = true then ((vokref10_List.f k l0_12 63 64).bind fun t192 => (if t192 = true then ((vokref10_List.f k l0_13 15 16).bind fun t193 => (if t193 = true then (some (decide ((l0_14.length : Int) ≤ 4096))) else (some false))) else (some false))) else (some false))) else (some false))) = some r := by rw [if_pos rfl] at H; exact H
                      clear H
                      have H := H1
                      clear H1
                      replace H := Option.bind_eq_some_iff.mp H
                      obtain ⟨t190, A200, H⟩ := H
                      replace H : (if t190 = true then ((vokref17_within.f a0_11 140737488355328).bind fun t191 => (if t191 = true then ((vokref10_List.f k l0_12 63 64).bind fun t192 => (if t192 = true then ((vokref10_List.f k l0_13 15 16).bind fun t193 => (if t193 = true then (some (decide ((l0_14.length : Int) ≤ 4096))) else (some false))) else (some false))) else (some false))) else (some false)) = some r := H
                      have A20 := Aside0.mk A200
                      clear A200
                      by_cases c21 : t190 = true
                      · subst c21
                        have H1 : ((vokref17_within.f a0_11 140737488355328).bind fun t191 => (if t191 = true then ((vokref10_List.f k l0_12 63 64).bind fun t192 => (if t192 = true then ((vokref10_List.f k l0_13 15 16).bind fun t193 => (if t193 = true then (some (decide ((l0_14.length : Int) ≤ 4096))) else (some false))) else (some false))) else (some false))) = some r := by rw [if_pos rfl] at H; exact H
                        clear H
                        have H := H1
                        clear H1
                        replace H := Option.bind_eq_some_iff.mp H
                        obtain ⟨t191, A220, H⟩ := H
                        replace H : (if t191 = true then ((vokref10_List.f k l0_12 63 64).bind fun t192 => (if t192 = true then ((vokref10_List.f k l0_13 15 16).bind fun t193 => (if t193 = true then (some (decide ((l0_14.length : Int) ≤ 4096))) else (some false))) else (some false))) else (some false)) = some r := H
                        have A22 := Aside0.mk A220
                        clear A220
                        by_cases c23 : t191 = true
                        · subst c23
                          have H1 : ((vokref10_List.f k l0_12 63 64).bind fun t192 => (if t192 = true then ((vokref10_List.f k l0_13 15 16).bind fun t193 => (if t193 = true then (some (decide ((l0_14.length : Int) ≤ 4096))) else (some false))) else (some false))) = some r := by rw [if_pos rfl] at H; exact H
                          clear H
                          have H := H1
                          clear H1
                          replace H := Option.bind_eq_some_iff.mp H
                          obtain ⟨t192, A240, H⟩ := H
                          replace H : (if t192 = true then ((vokref10_List.f k l0_13 15 16).bind fun t193 => (if t193 = true then (some (decide ((l0_14.length : Int) ≤ 4096))) else (some false))) else (some false)) = some r := H
                          have A24 := Aside0.mk A240
                          clear A240
                          by_cases c25 : t192 = true
                          · subst c25
                            have H1 : ((vokref10_List.f k l0_13 15 16).bind fun t193 => (if t193 = true then (some (decide ((l0_14.length : Int) ≤ 4096))) else (some false))) = some r := by rw [if_pos rfl] at H; exact H
                            clear H
                            have H := H1
                            clear H1
                            replace H := Option.bind_eq_some_iff.mp H
                            obtain ⟨t193, A260, H⟩ := H
                            replace H : (if t193 = true then (some (decide ((l0_14.length : Int) ≤ 4096))) else (some false)) = some r := H
                            have A26 := Aside0.mk A260
                            clear A260
                            by_cases c27 : t193 = true
                            · subst c27
                              have H1 : (some (decide ((l0_14.length : Int) ≤ 4096))) = some r := by rw [if_pos rfl] at H; exact H
                              clear H
                              have H := H1
                              clear H1
                              obtain rfl := Option.some.inj H
                              go_enter Try.func29, Try.ntmps29
                              go_wp2_with (first | ((with_reducible refine gate_dst (N := 1) rfl ?_); (try (refine gate_guard (by rfl) ?_; dsimp only)); refine box_event ?hg (N := 1) ?hd (cs := #[.int .i64 a0_0, .int .i64 a0_1, .int .i64 a0_2, .int .i64 a0_3, .int .i64 a0_4, .int .i64 a0_5, .int .i64 a0_6, .int .i64 a0_7, .int .i64 a0_8, .bool a0_9, .int .i64 a0_10, .int .i64 a0_11, .slice A0_12 l0_12.length c0_12, .slice A0_13 l0_13.length c0_13, .slice A0_14 l0_14.length c0_14]) (t := 43) ?hr ?_; (case hd => rfl); (case hg => rfl); (case hr => first | (go_simp; done) | (go_simp; rfl)); intro gb181 hg w28 hbox hb; have n0_ := Aside0.mk (below_step (by repeat (first | (with_reducible first | exact HB.out | apply below_alloc | apply pw_below_drewN | apply below_drew1) | exact HB.out)) hb); have n1_ := Aside0.mk (hbox); have n2_ := Aside0.mk ((by rw [hg]; exact (below_size (by repeat (first | (with_reducible first | exact HB.out | apply below_alloc | apply pw_below_drewN | apply below_drew1) | exact HB.out))) : w.heap.size ≤ gb181)); have n3_ := Aside0.mk ((by rw [hg]; exact (below_size (by repeat (first | (with_reducible first | exact HB.out | apply below_alloc | apply pw_below_drewN | apply below_drew1) | exact HB.out))) : w.heap.size ≤ gb181)); clear HB; have HB := n0_; have BK181 := n1_; have GW181 := n2_; have GE181 := n3_; clear n0_ n1_ n2_ n3_; clear hb hbox hg; have hcz29_0 : w28.cell? ⟨gb181, 0, none⟩ = some (.int .i64 a0_0) := (blk_cell BK181.out 0).trans rfl; have hcz29_1 : w28.cell? ⟨gb181, 1, none⟩ = some (.int .i64 a0_1) := (blk_cell BK181.out 1).trans rfl; have hcz29_2 : w28.cell? ⟨gb181, 2, none⟩ = some (.int .i64 a0_2) := (blk_cell BK181.out 2).trans rfl; have hcz29_3 : w28.cell? ⟨gb181, 3, none⟩ = some (.int .i64 a0_3) := (blk_cell BK181.out 3).trans rfl; have hcz29_4 : w28.cell? ⟨gb181, 4, none⟩ = some (.int .i64 a0_4) := (blk_cell BK181.out 4).trans rfl; have hcz29_5 : w28.cell? ⟨gb181, 5, none⟩ = some (.int .i64 a0_5) := (blk_cell BK181.out 5).trans rfl; have hcz29_6 : w28.cell? ⟨gb181, 6, none⟩ = some (.int .i64 a0_6) := (blk_cell BK181.out 6).trans rfl; have hcz29_7 : w28.cell? ⟨gb181, 7, none⟩ = some (.int .i64 a0_7) := (blk_cell BK181.out 7).trans rfl; have hcz29_8 : w28.cell? ⟨gb181, 8, none⟩ = some (.int .i64 a0_8) := (blk_cell BK181.out 8).trans rfl; have hcz29_9 : w28.cell? ⟨gb181, 9, none⟩ = some (.bool a0_9) := (blk_cell BK181.out 9).trans rfl; have hcz29_10 : w28.cell? ⟨gb181, 10, none⟩ = some (.int .i64 a0_10) := (blk_cell BK181.out 10).trans rfl; have hcz29_11 : w28.cell? ⟨gb181, 11, none⟩ = some (.int .i64 a0_11) := (blk_cell BK181.out 11).trans rfl; have hcz29_12 : w28.cell? ⟨gb181, 12, none⟩ = some (.slice A0_12 l0_12.length c0_12) := (blk_cell BK181.out 12).trans rfl; have hcz29_13 : w28.cell? ⟨gb181, 13, none⟩ = some (.slice A0_13 l0_13.length c0_13) := (blk_cell BK181.out 13).trans rfl; have hcz29_14 : w28.cell? ⟨gb181, 14, none⟩ = some (.slice A0_14 l0_14.length c0_14) := (blk_cell BK181.out 14).trans rfl; have hfz29_0 := blk_frozen BK181.out 0; have hfz29_1 := blk_frozen BK181.out 1; have hfz29_2 := blk_frozen BK181.out 2; have hfz29_3 := blk_frozen BK181.out 3; have hfz29_4 := blk_frozen BK181.out 4; have hfz29_5 := blk_frozen BK181.out 5; have hfz29_6 := blk_frozen BK181.out 6; have hfz29_7 := blk_frozen BK181.out 7; have hfz29_8 := blk_frozen BK181.out 8; have hfz29_9 := blk_frozen BK181.out 9; have hfz29_10 := blk_frozen BK181.out 10; have hfz29_11 := blk_frozen BK181.out 11; have hfz29_12 := blk_frozen BK181.out 12; have hfz29_13 := blk_frozen BK181.out 13; have hfz29_14 := blk_frozen BK181.out 14) | (go_at_call 54; (with_reducible refine (vokref17_within.calls a0_1 15 true _ A4.out).mono ?_); rintro e w' ⟨rfl, ⟨nd, rfl⟩⟩) | (go_at_call 54; (with_reducible refine (vokref17_within.calls a0_2 15 true _ A6.out).mono ?_); rintro e w' ⟨rfl, ⟨nd, rfl⟩⟩) | (go_at_call 54; (with_reducible refine (vokref17_within.calls a0_3 1099511627776 true _ A8.out).mono ?_); rintro e w' ⟨rfl, ⟨nd, rfl⟩⟩) | (go_at_call 54; (with_reducible refine (vokref17_within.calls a0_4 1099511627776 true _ A10.out).mono ?_); rintro e w' ⟨rfl, ⟨nd, rfl⟩⟩) | (go_at_call 54; (with_reducible refine (vokref17_within.calls a0_6 1099511627776 true _ A12.out).mono ?_); rintro e w' ⟨rfl, ⟨nd, rfl⟩⟩) | (go_at_call 54; (with_reducible refine (vokref17_within.calls a0_8 1099511627776 true _ A14.out).mono ?_); rintro e w' ⟨rfl, ⟨nd, rfl⟩⟩) | (go_at_call 54; (with_reducible refine (vokref17_within.calls a0_5 3 true _ A16.out).mono ?_); rintro e w' ⟨rfl, ⟨nd, rfl⟩⟩) | (go_at_call 54; (with_reducible refine (vokref17_within.calls a0_7 255 true _ A18.out).mono ?_); rintro e w' ⟨rfl, ⟨nd, rfl⟩⟩) | (go_at_call 54; (with_reducible refine (vokref17_within.calls a0_10 140737488355328 true _ A20.out).mono ?_); rintro e w' ⟨rfl, ⟨nd, rfl⟩⟩) | (go_at_call 54; (with_reducible refine (vokref17_within.calls a0_11 140737488355328 true _ A22.out).mono ?_); rintro e w' ⟨rfl, ⟨nd, rfl⟩⟩) | (go_at_call 55; (with_reducible refine (vokref10_List.calls k _ _ l0_12 63 64 true _ ?side1 ?side2 A24.out).mono ?_); (case side1 => repeat (first | exact (Kd.C_below HR0_12.out (by repeat (first | (with_reducible first | exact HB.out | apply below_alloc | apply pw_below_drewN | apply below_drew1 | refine below_set ?_ GE181.out) | exact HB.out))) | (with_reducible refine Kd.C_alloc ?_ _) | (with_reducible refine Kd.C_drewN ?_ _) | (with_reducible refine Kd.C_drew ?_))); (case side2 => exact HC0_12.out); rintro e w' ⟨rfl, ⟨nd, rfl⟩⟩) | (go_at_call 55; (with_reducible refine (vokref10_List.calls k _ _ l0_13 15 16 true _ ?side1 ?side2 A26.out).mono ?_); (case side1 => repeat (first | exact (Kd.C_below HR0_13.out (by repeat (first | (with_reducible first | exact HB.out | apply below_alloc | apply pw_below_drewN | apply below_drew1 | refine below_set ?_ GE181.out) | exact HB.out))) | (with_reducible refine Kd.C_alloc ?_ _) | (with_reducible refine Kd.C_drewN ?_ _) | (with_reducible refine Kd.C_drew ?_))); (case side2 => exact HC0_13.out); rintro e w' ⟨rfl, ⟨nd, rfl⟩⟩))
                              go_ret
                              exact ⟨by first | rfl | (simp [errW_none, errW_some] <;> rfl) | (simp [*, errW_none, errW_some] <;> rfl), by repeat (first | (with_reducible first | exact HB.out | apply below_alloc | apply pw_below_drewN | apply below_drew1 | refine below_set ?_ GE181.out) | exact HB.out)⟩
                            · replace c27 := Bool.eq_false_iff.mpr c27
                              subst c27
                              have H1 : (some false) = some r := by rw [if_neg (show ¬ (false = true) by decide)] at H; exact H
                              clear H
                              have H := H1
                              clear H1
                              obtain rfl := Option.some.inj H
                              go_enter Try.func29, Try.ntmps29
                              go_wp2_with (first | ((with_reducible refine gate_dst (N := 1) rfl ?_); (try (refine gate_guard (by rfl) ?_; dsimp only)); refine box_event ?hg (N := 1) ?hd (cs := #[.int .i64 a0_0, .int .i64 a0_1, .int .i64 a0_2, .int .i64 a0_3, .int .i64 a0_4, .int .i64 a0_5, .int .i64 a0_6, .int .i64 a0_7, .int .i64 a0_8, .bool a0_9, .int .i64 a0_10, .int .i64 a0_11, .slice A0_12 l0_12.length c0_12, .slice A0_13 l0_13.length c0_13, .slice A0_14 l0_14.length c0_14]) (t := 43) ?hr ?_; (case hd => rfl); (case hg => rfl); (case hr => first | (go_simp; done) | (go_simp; rfl)); intro gb181 hg w30 hbox hb; have n0_ := Aside0.mk (below_step (by repeat (first | (with_reducible first | exact HB.out | apply below_alloc | apply pw_below_drewN | apply below_drew1) | exact HB.out)) hb); have n1_ := Aside0.mk (hbox); have n2_ := Aside0.mk ((by rw [hg]; exact (below_size (by repeat (first | (with_reducible first | exact HB.out | apply below_alloc | apply pw_below_drewN | apply below_drew1) | exact HB.out))) : w.heap.size ≤ gb181)); have n3_ := Aside0.mk ((by rw [hg]; exact (below_size (by repeat (first | (with_reducible first | exact HB.out | apply below_alloc | apply pw_below_drewN | apply below_drew1) | exact HB.out))) : w.heap.size ≤ gb181)); clear HB; have HB := n0_; have BK181 := n1_; have GW181 := n2_; have GE181 := n3_; clear n0_ n1_ n2_ n3_; clear hb hbox hg; have hcz31_0 : w30.cell? ⟨gb181, 0, none⟩ = some (.int .i64 a0_0) := (blk_cell BK181.out 0).trans rfl; have hcz31_1 : w30.cell? ⟨gb181, 1, none⟩ = some (.int .i64 a0_1) := (blk_cell BK181.out 1).trans rfl; have hcz31_2 : w30.cell? ⟨gb181, 2, none⟩ = some (.int .i64 a0_2) := (blk_cell BK181.out 2).trans rfl; have hcz31_3 : w30.cell? ⟨gb181, 3, none⟩ = some (.int .i64 a0_3) := (blk_cell BK181.out 3).trans rfl; have hcz31_4 : w30.cell? ⟨gb181, 4, none⟩ = some (.int .i64 a0_4) := (blk_cell BK181.out 4).trans rfl; have hcz31_5 : w30.cell? ⟨gb181, 5, none⟩ = some (.int .i64 a0_5) := (blk_cell BK181.out 5).trans rfl; have hcz31_6 : w30.cell? ⟨gb181, 6, none⟩ = some (.int .i64 a0_6) := (blk_cell BK181.out 6).trans rfl; have hcz31_7 : w30.cell? ⟨gb181, 7, none⟩ = some (.int .i64 a0_7) := (blk_cell BK181.out 7).trans rfl; have hcz31_8 : w30.cell? ⟨gb181, 8, none⟩ = some (.int .i64 a0_8) := (blk_cell BK181.out 8).trans rfl; have hcz31_9 : w30.cell? ⟨gb181, 9, none⟩ = some (.bool a0_9) := (blk_cell BK181.out 9).trans rfl; have hcz31_10 : w30.cell? ⟨gb181, 10, none⟩ = some (.int .i64 a0_10) := (blk_cell BK181.out 10).trans rfl; have hcz31_11 : w30.cell? ⟨gb181, 11, none⟩ = some (.int .i64 a0_11) := (blk_cell BK181.out 11).trans rfl; have hcz31_12 : w30.cell? ⟨gb181, 12, none⟩ = some (.slice A0_12 l0_12.length c0_12) := (blk_cell BK181.out 12).trans rfl; have hcz31_13 : w30.cell? ⟨gb181, 13, none⟩ = some (.slice A0_13 l0_13.length c0_13) := (blk_cell BK181.out 13).trans rfl; have hcz31_14 : w30.cell? ⟨gb181, 14, none⟩ = some (.slice A0_14 l0_14.length c0_14) := (blk_cell BK181.out 14).trans rfl; have hfz31_0 := blk_frozen BK181.out 0; have hfz31_1 := blk_frozen BK181.out 1; have hfz31_2 := blk_frozen BK181.out 2; have hfz31_3 := blk_frozen BK181.out 3; have hfz31_4 := blk_frozen BK181.out 4; have hfz31_5 := blk_frozen BK181.out 5; have hfz31_6 := blk_frozen BK181.out 6; have hfz31_7 := blk_frozen BK181.out 7; have hfz31_8 := blk_frozen BK181.out 8; have hfz31_9 := blk_frozen BK181.out 9; have hfz31_10 := blk_frozen BK181.out 10; have hfz31_11 := blk_frozen BK181.out 11; have hfz31_12 := blk_frozen BK181.out 12; have hfz31_13 := blk_frozen BK181.out 13; have hfz31_14 := blk_frozen BK181.out 14) | (go_at_call 54; (with_reducible refine (vokref17_within.calls a0_1 15 true _ A4.out).mono ?_); rintro e w' ⟨rfl, ⟨nd, rfl⟩⟩) | (go_at_call 54; (with_reducible refine (vokref17_within.calls a0_2 15 true _ A6.out).mono ?_); rintro e w' ⟨rfl, ⟨nd, rfl⟩⟩) | (go_at_call 54; (with_reducible refine (vokref17_within.calls a0_3 1099511627776 true _ A8.out).mono ?_); rintro e w' ⟨rfl, ⟨nd, rfl⟩⟩) | (go_at_call 54; (with_reducible refine (vokref17_within.calls a0_4 1099511627776 true _ A10.out).mono ?_); rintro e w' ⟨rfl, ⟨nd, rfl⟩⟩) | (go_at_call 54; (with_reducible refine (vokref17_within.calls a0_6 1099511627776 true _ A12.out).mono ?_); rintro e w' ⟨rfl, ⟨nd, rfl⟩⟩) | (go_at_call 54; (with_reducible refine (vokref17_within.calls a0_8 1099511627776 true _ A14.out).mono ?_); rintro e w' ⟨rfl, ⟨nd, rfl⟩⟩) | (go_at_call 54; (with_reducible refine (vokref17_within.calls a0_5 3 true _ A16.out).mono ?_); rintro e w' ⟨rfl, ⟨nd, rfl⟩⟩) | (go_at_call 54; (with_reducible refine (vokref17_within.calls a0_7 255 true _ A18.out).mono ?_); rintro e w' ⟨rfl, ⟨nd, rfl⟩⟩) | (go_at_call 54; (with_reducible refine (vokref17_within.calls a0_10 140737488355328 true _ A20.out).mono ?_); rintro e w' ⟨rfl, ⟨nd, rfl⟩⟩) | (go_at_call 54; (with_reducible refine (vokref17_within.calls a0_11 140737488355328 true _ A22.out).mono ?_); rintro e w' ⟨rfl, ⟨nd, rfl⟩⟩) | (go_at_call 55; (with_reducible refine (vokref10_List.calls k _ _ l0_12 63 64 true _ ?side1 ?side2 A24.out).mono ?_); (case side1 => repeat (first | exact (Kd.C_below HR0_12.out (by repeat (first | (with_reducible first | exact HB.out | apply below_alloc | apply pw_below_drewN | apply below_drew1 | refine below_set ?_ GE181.out) | exact HB.out))) | (with_reducible refine Kd.C_alloc ?_ _) | (with_reducible refine Kd.C_drewN ?_ _) | (with_reducible refine Kd.C_drew ?_))); (case side2 => exact HC0_12.out); rintro e w' ⟨rfl, ⟨nd, rfl⟩⟩) | (go_at_call 55; (with_reducible refine (vokref10_List.calls k _ _ l0_13 15 16 false _ ?side1 ?side2 A26.out).mono ?_); (case side1 => repeat (first | exact (Kd.C_below HR0_13.out (by repeat (first | (with_reducible first | exact HB.out | apply below_alloc | apply pw_below_drewN | apply below_drew1 | refine below_set ?_ GE181.out) | exact HB.out))) | (with_reducible refine Kd.C_alloc ?_ _) | (with_reducible refine Kd.C_drewN ?_ _) | (with_reducible refine Kd.C_drew ?_))); (case side2 => exact HC0_13.out); rintro e w' ⟨rfl, ⟨nd, rfl⟩⟩))
                              go_ret
                              exact ⟨by first | rfl | (simp [errW_none, errW_some] <;> rfl) | (simp [*, errW_none, errW_some] <;> rfl), by repeat (first | (with_reducible first | exact HB.out | apply below_alloc | apply pw_below_drewN | apply below_drew1 | refine below_set ?_ GE181.out) | exact HB.out)⟩
                          · replace c25 := Bool.eq_false_iff.mpr c25
                            subst c25
                            have H1 : (some false) = some r := by rw [if_neg (show ¬ (false = true) by decide)] at H; exact H
                            clear H
                            have H := H1
                            clear H1
                            obtain rfl := Option.some.inj H
                            go_enter Try.func29, Try.ntmps29
                            go_wp2_with (first | ((with_reducible refine gate_dst (N := 1) rfl ?_); (try (refine gate_guard (by rfl) ?_; dsimp only)); refine box_event ?hg (N := 1) ?hd (cs := #[.int .i64 a0_0, .int .i64 a0_1, .int .i64 a0_2, .int .i64 a0_3, .int .i64 a0_4, .int .i64 a0_5, .int .i64 a0_6, .int .i64 a0_7, .int .i64 a0_8, .bool a0_9, .int .i64 a0_10, .int .i64 a0_11, .slice A0_12 l0_12.length c0_12, .slice A0_13 l0_13.length c0_13, .slice A0_14 l0_14.length c0_14]) (t := 43) ?hr ?_; (case hd => rfl); (case hg => rfl); (case hr => first | (go_simp; done) | (go_simp; rfl)); intro gb181 hg w32 hbox hb; have n0_ := Aside0.mk (below_step (by repeat (first | (with_reducible first | exact HB.out | apply below_alloc | apply pw_below_drewN | apply below_drew1) | exact HB.out)) hb); have n1_ := Aside0.mk (hbox); have n2_ := Aside0.mk ((by rw [hg]; exact (below_size (by repeat (first | (with_reducible first | exact HB.out | apply below_alloc | apply pw_below_drewN | apply below_drew1) | exact HB.out))) : w.heap.size ≤ gb181)); have n3_ := Aside0.mk ((by rw [hg]; exact (below_size (by repeat (first | (with_reducible first | exact HB.out | apply below_alloc | apply pw_below_drewN | apply below_drew1) | exact HB.out))) : w.heap.size ≤ gb181)); clear HB; have HB := n0_; have BK181 := n1_; have GW181 := n2_; have GE181 := n3_; clear n0_ n1_ n2_ n3_; clear hb hbox hg; have hcz33_0 : w32.cell? ⟨gb181, 0, none⟩ = some (.int .i64 a0_0) := (blk_cell BK181.out 0).trans rfl; have hcz33_1 : w32.cell? ⟨gb181, 1, none⟩ = some (.int .i64 a0_1) := (blk_cell BK181.out 1).trans rfl; have hcz33_2 : w32.cell? ⟨gb181, 2, none⟩ = some (.int .i64 a0_2) := (blk_cell BK181.out 2).trans rfl; have hcz33_3 : w32.cell? ⟨gb181, 3, none⟩ = some (.int .i64 a0_3) := (blk_cell BK181.out 3).trans rfl; have hcz33_4 : w32.cell? ⟨gb181, 4, none⟩ = some (.int .i64 a0_4) := (blk_cell BK181.out 4).trans rfl; have hcz33_5 : w32.cell? ⟨gb181, 5, none⟩ = some (.int .i64 a0_5) := (blk_cell BK181.out 5).trans rfl; have hcz33_6 : w32.cell? ⟨gb181, 6, none⟩ = some (.int .i64 a0_6) := (blk_cell BK181.out 6).trans rfl; have hcz33_7 : w32.cell? ⟨gb181, 7, none⟩ = some (.int .i64 a0_7) := (blk_cell BK181.out 7).trans rfl; have hcz33_8 : w32.cell? ⟨gb181, 8, none⟩ = some (.int .i64 a0_8) := (blk_cell BK181.out 8).trans rfl; have hcz33_9 : w32.cell? ⟨gb181, 9, none⟩ = some (.bool a0_9) := (blk_cell BK181.out 9).trans rfl; have hcz33_10 : w32.cell? ⟨gb181, 10, none⟩ = some (.int .i64 a0_10) := (blk_cell BK181.out 10).trans rfl; have hcz33_11 : w32.cell? ⟨gb181, 11, none⟩ = some (.int .i64 a0_11) := (blk_cell BK181.out 11).trans rfl; have hcz33_12 : w32.cell? ⟨gb181, 12, none⟩ = some (.slice A0_12 l0_12.length c0_12) := (blk_cell BK181.out 12).trans rfl; have hcz33_13 : w32.cell? ⟨gb181, 13, none⟩ = some (.slice A0_13 l0_13.length c0_13) := (blk_cell BK181.out 13).trans rfl; have hcz33_14 : w32.cell? ⟨gb181, 14, none⟩ = some (.slice A0_14 l0_14.length c0_14) := (blk_cell BK181.out 14).trans rfl; have hfz33_0 := blk_frozen BK181.out 0; have hfz33_1 := blk_frozen BK181.out 1; have hfz33_2 := blk_frozen BK181.out 2; have hfz33_3 := blk_frozen BK181.out 3; have hfz33_4 := blk_frozen BK181.out 4; have hfz33_5 := blk_frozen BK181.out 5; have hfz33_6 := blk_frozen BK181.out 6; have hfz33_7 := blk_frozen BK181.out 7; have hfz33_8 := blk_frozen BK181.out 8; have hfz33_9 := blk_frozen BK181.out 9; have hfz33_10 := blk_frozen BK181.out 10; have hfz33_11 := blk_frozen BK181.out 11; have hfz33_12 := blk_frozen BK181.out 12; have hfz33_13 := blk_frozen BK181.out 13; have hfz33_14 := blk_frozen BK181.out 14) | (go_at_call 54; (with_reducible refine (vokref17_within.calls a0_1 15 true _ A4.out).mono ?_); rintro e w' ⟨rfl, ⟨nd, rfl⟩⟩) | (go_at_call 54; (with_reducible refine (vokref17_within.calls a0_2 15 true _ A6.out).mono ?_); rintro e w' ⟨rfl, ⟨nd, rfl⟩⟩) | (go_at_call 54; (with_reducible refine (vokref17_within.calls a0_3 1099511627776 true _ A8.out).mono ?_); rintro e w' ⟨rfl, ⟨nd, rfl⟩⟩) | (go_at_call 54; (with_reducible refine (vokref17_within.calls a0_4 1099511627776 true _ A10.out).mono ?_); rintro e w' ⟨rfl, ⟨nd, rfl⟩⟩) | (go_at_call 54; (with_reducible refine (vokref17_within.calls a0_6 1099511627776 true _ A12.out).mono ?_); rintro e w' ⟨rfl, ⟨nd, rfl⟩⟩) | (go_at_call 54; (with_reducible refine (vokref17_within.calls a0_8 1099511627776 true _ A14.out).mono ?_); rintro e w' ⟨rfl, ⟨nd, rfl⟩⟩) | (go_at_call 54; (with_reducible refine (vokref17_within.calls a0_5 3 true _ A16.out).mono ?_); rintro e w' ⟨rfl, ⟨nd, rfl⟩⟩) | (go_at_call 54; (with_reducible refine (vokref17_within.calls a0_7 255 true _ A18.out).mono ?_); rintro e w' ⟨rfl, ⟨nd, rfl⟩⟩) | (go_at_call 54; (with_reducible refine (vokref17_within.calls a0_10 140737488355328 true _ A20.out).mono ?_); rintro e w' ⟨rfl, ⟨nd, rfl⟩⟩) | (go_at_call 54; (with_reducible refine (vokref17_within.calls a0_11 140737488355328 true _ A22.out).mono ?_); rintro e w' ⟨rfl, ⟨nd, rfl⟩⟩) | (go_at_call 55; (with_reducible refine (vokref10_List.calls k _ _ l0_12 63 64 false _ ?side1 ?side2 A24.out).mono ?_); (case side1 => repeat (first | exact (Kd.C_below HR0_12.out (by repeat (first | (with_reducible first | exact HB.out | apply below_alloc | apply pw_below_drewN | apply below_drew1 | refine below_set ?_ GE181.out) | exact HB.out))) | (with_reducible refine Kd.C_alloc ?_ _) | (with_reducible refine Kd.C_drewN ?_ _) | (with_reducible refine Kd.C_drew ?_))); (case side2 => exact HC0_12.out); rintro e w' ⟨rfl, ⟨nd, rfl⟩⟩))
                            go_ret
                            exact ⟨by first | rfl | (simp [errW_none, errW_some] <;> rfl) | (simp [*, errW_none, errW_some] <;> rfl), by repeat (first | (with_reducible first | exact HB.out | apply below_alloc | apply pw_below_drewN | apply below_drew1 | refine below_set ?_ GE181.out) | exact HB.out)⟩
                        · replace c23 := Bool.eq_false_iff.mpr c23
                          subst c23
                          have H1 : (some false) = some r := by rw [if_neg (show ¬ (false = true) by decide)] at H; exact H
                          clear H
                          have H := H1
                          clear H1
                          obtain rfl := Option.some.inj H
                          go_enter Try.func29, Try.ntmps29
                          go_wp2_with (first | ((with_reducible refine gate_dst (N := 1) rfl ?_); (try (refine gate_guard (by rfl) ?_; dsimp only)); refine box_event ?hg (N := 1) ?hd (cs := #[.int .i64 a0_0, .int .i64 a0_1, .int .i64 a0_2, .int .i64 a0_3, .int .i64 a0_4, .int .i64 a0_5, .int .i64 a0_6, .int .i64 a0_7, .int .i64 a0_8, .bool a0_9, .int .i64 a0_10, .int .i64 a0_11, .slice A0_12 l0_12.length c0_12, .slice A0_13 l0_13.length c0_13, .slice A0_14 l0_14.length c0_14]) (t := 43) ?hr ?_; (case hd => rfl); (case hg => rfl); (case hr => first | (go_simp; done) | (go_simp; rfl)); intro gb181 hg w34 hbox hb; have n0_ := Aside0.mk (below_step (by repeat (first | (with_reducible first | exact HB.out | apply below_alloc | apply pw_below_drewN | apply below_drew1) | exact HB.out)) hb); have n1_ := Aside0.mk (hbox); have n2_ := Aside0.mk ((by rw [hg]; exact (below_size (by repeat (first | (with_reducible first | exact HB.out | apply below_alloc | apply pw_below_drewN | apply below_drew1) | exact HB.out))) : w.heap.size ≤ gb181)); have n3_ := Aside0.mk ((by rw [hg]; exact (below_size (by repeat (first | (with_reducible first | exact HB.out | apply below_alloc | apply pw_below_drewN | apply below_drew1) | exact HB.out))) : w.heap.size ≤ gb181)); clear HB; have HB := n0_; have BK181 := n1_; have GW181 := n2_; have GE181 := n3_; clear n0_ n1_ n2_ n3_; clear hb hbox hg; have hcz35_0 : w34.cell? ⟨gb181, 0, none⟩ = some (.int .i64 a0_0) := (blk_cell BK181.out 0).trans rfl; have hcz35_1 : w34.cell? ⟨gb181, 1, none⟩ = some (.int .i64 a0_1) := (blk_cell BK181.out 1).trans rfl; have hcz35_2 : w34.cell? ⟨gb181, 2, none⟩ = some (.int .i64 a0_2) := (blk_cell BK181.out 2).trans rfl; have hcz35_3 : w34.cell? ⟨gb181, 3, none⟩ = some (.int .i64 a0_3) := (blk_cell BK181.out 3).trans rfl; have hcz35_4 : w34.cell? ⟨gb181, 4, none⟩ = some (.int .i64 a0_4) := (blk_cell BK181.out 4).trans rfl; have hcz35_5 : w34.cell? ⟨gb181, 5, none⟩ = some (.int .i64 a0_5) := (blk_cell BK181.out 5).trans rfl; have hcz35_6 : w34.cell? ⟨gb181, 6, none⟩ = some (.int .i64 a0_6) := (blk_cell BK181.out 6).trans rfl; have hcz35_7 : w34.cell? ⟨gb181, 7, none⟩ = some (.int .i64 a0_7) := (blk_cell BK181.out 7).trans rfl; have hcz35_8 : w34.cell? ⟨gb181, 8, none⟩ = some (.int .i64 a0_8) := (blk_cell BK181.out 8).trans rfl; have hcz35_9 : w34.cell? ⟨gb181, 9, none⟩ = some (.bool a0_9) := (blk_cell BK181.out 9).trans rfl; have hcz35_10 : w34.cell? ⟨gb181, 10, none⟩ = some (.int .i64 a0_10) := (blk_cell BK181.out 10).trans rfl; have hcz35_11 : w34.cell? ⟨gb181, 11, none⟩ = some (.int .i64 a0_11) := (blk_cell BK181.out 11).trans rfl; have hcz35_12 : w34.cell? ⟨gb181, 12, none⟩ = some (.slice A0_12 l0_12.length c0_12) := (blk_cell BK181.out 12).trans rfl; have hcz35_13 : w34.cell? ⟨gb181, 13, none⟩ = some (.slice A0_13 l0_13.length c0_13) := (blk_cell BK181.out 13).trans rfl; have hcz35_14 : w34.cell? ⟨gb181, 14, none⟩ = some (.slice A0_14 l0_14.length c0_14) := (blk_cell BK181.out 14).trans rfl; have hfz35_0 := blk_frozen BK181.out 0; have hfz35_1 := blk_frozen BK181.out 1; have hfz35_2 := blk_frozen BK181.out 2; have hfz35_3 := blk_frozen BK181.out 3; have hfz35_4 := blk_frozen BK181.out 4; have hfz35_5 := blk_frozen BK181.out 5; have hfz35_6 := blk_frozen BK181.out 6; have hfz35_7 := blk_frozen BK181.out 7; have hfz35_8 := blk_frozen BK181.out 8; have hfz35_9 := blk_frozen BK181.out 9; have hfz35_10 := blk_frozen BK181.out 10; have hfz35_11 := blk_frozen BK181.out 11; have hfz35_12 := blk_frozen BK181.out 12; have hfz35_13 := blk_frozen BK181.out 13; have hfz35_14 := blk_frozen BK181.out 14) | (go_at_call 54; (with_reducible refine (vokref17_within.calls a0_1 15 true _ A4.out).mono ?_); rintro e w' ⟨rfl, ⟨nd, rfl⟩⟩) | (go_at_call 54; (with_reducible refine (vokref17_within.calls a0_2 15 true _ A6.out).mono ?_); rintro e w' ⟨rfl, ⟨nd, rfl⟩⟩) | (go_at_call 54; (with_reducible refine (vokref17_within.calls a0_3 1099511627776 true _ A8.out).mono ?_); rintro e w' ⟨rfl, ⟨nd, rfl⟩⟩) | (go_at_call 54; (with_reducible refine (vokref17_within.calls a0_4 1099511627776 true _ A10.out).mono ?_); rintro e w' ⟨rfl, ⟨nd, rfl⟩⟩) | (go_at_call 54; (with_reducible refine (vokref17_within.calls a0_6 1099511627776 true _ A12.out).mono ?_); rintro e w' ⟨rfl, ⟨nd, rfl⟩⟩) | (go_at_call 54; (with_reducible refine (vokref17_within.calls a0_8 1099511627776 true _ A14.out).mono ?_); rintro e w' ⟨rfl, ⟨nd, rfl⟩⟩) | (go_at_call 54; (with_reducible refine (vokref17_within.calls a0_5 3 true _ A16.out).mono ?_); rintro e w' ⟨rfl, ⟨nd, rfl⟩⟩) | (go_at_call 54; (with_reducible refine (vokref17_within.calls a0_7 255 true _ A18.out).mono ?_); rintro e w' ⟨rfl, ⟨nd, rfl⟩⟩) | (go_at_call 54; (with_reducible refine (vokref17_within.calls a0_10 140737488355328 true _ A20.out).mono ?_); rintro e w' ⟨rfl, ⟨nd, rfl⟩⟩) | (go_at_call 54; (with_reducible refine (vokref17_within.calls a0_11 140737488355328 false _ A22.out).mono ?_); rintro e w' ⟨rfl, ⟨nd, rfl⟩⟩))
                          go_ret
                          exact ⟨by first | rfl | (simp [errW_none, errW_some] <;> rfl) | (simp [*, errW_none, errW_some] <;> rfl), by repeat (first | (with_reducible first | exact HB.out | apply below_alloc | apply pw_below_drewN | apply below_drew1 | refine below_set ?_ GE181.out) | exact HB.out)⟩
                      · replace c21 := Bool.eq_false_iff.mpr c21
                        subst c21
                        have H1 : (some false) = some r := by rw [if_neg (show ¬ (false = true) by decide)] at H; exact H
                        clear H
                        have H := H1
                        clear H1
                        obtain rfl := Option.some.inj H
                        go_enter Try.func29, Try.ntmps29
                        go_wp2_with (first | ((with_reducible refine gate_dst (N := 1) rfl ?_); (try (refine gate_guard (by rfl) ?_; dsimp only)); refine box_event ?hg (N := 1) ?hd (cs := #[.int .i64 a0_0, .int .i64 a0_1, .int .i64 a0_2, .int .i64 a0_3, .int .i64 a0_4, .int .i64 a0_5, .int .i64 a0_6, .int .i64 a0_7, .int .i64 a0_8, .bool a0_9, .int .i64 a0_10, .int .i64 a0_11, .slice A0_12 l0_12.length c0_12, .slice A0_13 l0_13.length c0_13, .slice A0_14 l0_14.length c0_14]) (t := 43) ?hr ?_; (case hd => rfl); (case hg => rfl); (case hr => first | (go_simp; done) | (go_simp; rfl)); intro gb181 hg w36 hbox hb; have n0_ := Aside0.mk (below_step (by repeat (first | (with_reducible first | exact HB.out | apply below_alloc | apply pw_below_drewN | apply below_drew1) | exact HB.out)) hb); have n1_ := Aside0.mk (hbox); have n2_ := Aside0.mk ((by rw [hg]; exact (below_size (by repeat (first | (with_reducible first | exact HB.out | apply below_alloc | apply pw_below_drewN | apply below_drew1) | exact HB.out))) : w.heap.size ≤ gb181)); have n3_ := Aside0.mk ((by rw [hg]; exact (below_size (by repeat (first | (with_reducible first | exact HB.out | apply below_alloc | apply pw_below_drewN | apply below_drew1) | exact HB.out))) : w.heap.size ≤ gb181)); clear HB; have HB := n0_; have BK181 := n1_; have GW181 := n2_; have GE181 := n3_; clear n0_ n1_ n2_ n3_; clear hb hbox hg; have hcz37_0 : w36.cell? ⟨gb181, 0, none⟩ = some (.int .i64 a0_0) := (blk_cell BK181.out 0).trans rfl; have hcz37_1 : w36.cell? ⟨gb181, 1, none⟩ = some (.int .i64 a0_1) := (blk_cell BK181.out 1).trans rfl; have hcz37_2 : w36.cell? ⟨gb181, 2, none⟩ = some (.int .i64 a0_2) := (blk_cell BK181.out 2).trans rfl; have hcz37_3 : w36.cell? ⟨gb181, 3, none⟩ = some (.int .i64 a0_3) := (blk_cell BK181.out 3).trans rfl; have hcz37_4 : w36.cell? ⟨gb181, 4, none⟩ = some (.int .i64 a0_4) := (blk_cell BK181.out 4).trans rfl; have hcz37_5 : w36.cell? ⟨gb181, 5, none⟩ = some (.int .i64 a0_5) := (blk_cell BK181.out 5).trans rfl; have hcz37_6 : w36.cell? ⟨gb181, 6, none⟩ = some (.int .i64 a0_6) := (blk_cell BK181.out 6).trans rfl; have hcz37_7 : w36.cell? ⟨gb181, 7, none⟩ = some (.int .i64 a0_7) := (blk_cell BK181.out 7).trans rfl; have hcz37_8 : w36.cell? ⟨gb181, 8, none⟩ = some (.int .i64 a0_8) := (blk_cell BK181.out 8).trans rfl; have hcz37_9 : w36.cell? ⟨gb181, 9, none⟩ = some (.bool a0_9) := (blk_cell BK181.out 9).trans rfl; have hcz37_10 : w36.cell? ⟨gb181, 10, none⟩ = some (.int .i64 a0_10) := (blk_cell BK181.out 10).trans rfl; have hcz37_11 : w36.cell? ⟨gb181, 11, none⟩ = some (.int .i64 a0_11) := (blk_cell BK181.out 11).trans rfl; have hcz37_12 : w36.cell? ⟨gb181, 12, none⟩ = some (.slice A0_12 l0_12.length c0_12) := (blk_cell BK181.out 12).trans rfl; have hcz37_13 : w36.cell? ⟨gb181, 13, none⟩ = some (.slice A0_13 l0_13.length c0_13) := (blk_cell BK181.out 13).trans rfl; have hcz37_14 : w36.cell? ⟨gb181, 14, none⟩ = some (.slice A0_14 l0_14.length c0_14) := (blk_cell BK181.out 14).trans rfl; have hfz37_0 := blk_frozen BK181.out 0; have hfz37_1 := blk_frozen BK181.out 1; have hfz37_2 := blk_frozen BK181.out 2; have hfz37_3 := blk_frozen BK181.out 3; have hfz37_4 := blk_frozen BK181.out 4; have hfz37_5 := blk_frozen BK181.out 5; have hfz37_6 := blk_frozen BK181.out 6; have hfz37_7 := blk_frozen BK181.out 7; have hfz37_8 := blk_frozen BK181.out 8; have hfz37_9 := blk_frozen BK181.out 9; have hfz37_10 := blk_frozen BK181.out 10; have hfz37_11 := blk_frozen BK181.out 11; have hfz37_12 := blk_frozen BK181.out 12; have hfz37_13 := blk_frozen BK181.out 13; have hfz37_14 := blk_frozen BK181.out 14) | (go_at_call 54; (with_reducible refine (vokref17_within.calls a0_1 15 true _ A4.out).mono ?_); rintro e w' ⟨rfl, ⟨nd, rfl⟩⟩) | (go_at_call 54; (with_reducible refine (vokref17_within.calls a0_2 15 true _ A6.out).mono ?_); rintro e w' ⟨rfl, ⟨nd, rfl⟩⟩) | (go_at_call 54; (with_reducible refine (vokref17_within.calls a0_3 1099511627776 true _ A8.out).mono ?_); rintro e w' ⟨rfl, ⟨nd, rfl⟩⟩) | (go_at_call 54; (with_reducible refine (vokref17_within.calls a0_4 1099511627776 true _ A10.out).mono ?_); rintro e w' ⟨rfl, ⟨nd, rfl⟩⟩) | (go_at_call 54; (with_reducible refine (vokref17_within.calls a0_6 1099511627776 true _ A12.out).mono ?_); rintro e w' ⟨rfl, ⟨nd, rfl⟩⟩) | (go_at_call 54; (with_reducible refine (vokref17_within.calls a0_8 1099511627776 true _ A14.out).mono ?_); rintro e w' ⟨rfl, ⟨nd, rfl⟩⟩) | (go_at_call 54; (with_reducible refine (vokref17_within.calls a0_5 3 true _ A16.out).mono ?_); rintro e w' ⟨rfl, ⟨nd, rfl⟩⟩) | (go_at_call 54; (with_reducible refine (vokref17_within.calls a0_7 255 true _ A18.out).mono ?_); rintro e w' ⟨rfl, ⟨nd, rfl⟩⟩) | (go_at_call 54; (with_reducible refine (vokref17_within.calls a0_10 140737488355328 false _ A20.out).mono ?_); rintro e w' ⟨rfl, ⟨nd, rfl⟩⟩))
                        go_ret
                        exact ⟨by first | rfl | (simp [errW_none, errW_some] <;> rfl) | (simp [*, errW_none, errW_some] <;> rfl), by repeat (first | (with_reducible first | exact HB.out | apply below_alloc | apply pw_below_drewN | apply below_drew1 | refine below_set ?_ GE181.out) | exact HB.out)⟩
                    · replace c19 := Bool.eq_false_iff.mpr c19
                      subst c19
                      have H1 : (some false) = some r := by rw [if_neg (show ¬ (false = true) by decide)] at H; exact H
                      clear H
                      have H := H1
                      clear H1
                      obtain rfl := Option.some.inj H
                      go_enter Try.func29, Try.ntmps29
                      go_wp2_with (first | ((with_reducible refine gate_dst (N := 1) rfl ?_); (try (refine gate_guard (by rfl) ?_; dsimp only)); refine box_event ?hg (N := 1) ?hd (cs := #[.int .i64 a0_0, .int .i64 a0_1, .int .i64 a0_2, .int .i64 a0_3, .int .i64 a0_4, .int .i64 a0_5, .int .i64 a0_6, .int .i64 a0_7, .int .i64 a0_8, .bool a0_9, .int .i64 a0_10, .int .i64 a0_11, .slice A0_12 l0_12.length c0_12, .slice A0_13 l0_13.length c0_13, .slice A0_14 l0_14.length c0_14]) (t := 43) ?hr ?_; (case hd => rfl); (case hg => rfl); (case hr => first | (go_simp; done) | (go_simp; rfl)); intro gb181 hg w38 hbox hb; have n0_ := Aside0.mk (below_step (by repeat (first | (with_reducible first | exact HB.out | apply below_alloc | apply pw_below_drewN | apply below_drew1) | exact HB.out)) hb); have n1_ := Aside0.mk (hbox); have n2_ := Aside0.mk ((by rw [hg]; exact (below_size (by repeat (first | (with_reducible first | exact HB.out | apply below_alloc | apply pw_below_drewN | apply below_drew1) | exact HB.out))) : w.heap.size ≤ gb181)); have n3_ := Aside0.mk ((by rw [hg]; exact (below_size (by repeat (first | (with_reducible first | exact HB.out | apply below_alloc | apply pw_below_drewN | apply below_drew1) | exact HB.out))) : w.heap.size ≤ gb181)); clear HB; have HB := n0_; have BK181 := n1_; have GW181 := n2_; have GE181 := n3_; clear n0_ n1_ n2_ n3_; clear hb hbox hg; have hcz39_0 : w38.cell? ⟨gb181, 0, none⟩ = some (.int .i64 a0_0) := (blk_cell BK181.out 0).trans rfl; have hcz39_1 : w38.cell? ⟨gb181, 1, none⟩ = some (.int .i64 a0_1) := (blk_cell BK181.out 1).trans rfl; have hcz39_2 : w38.cell? ⟨gb181, 2, none⟩ = some (.int .i64 a0_2) := (blk_cell BK181.out 2).trans rfl; have hcz39_3 : w38.cell? ⟨gb181, 3, none⟩ = some (.int .i64 a0_3) := (blk_cell BK181.out 3).trans rfl; have hcz39_4 : w38.cell? ⟨gb181, 4, none⟩ = some (.int .i64 a0_4) := (blk_cell BK181.out 4).trans rfl; have hcz39_5 : w38.cell? ⟨gb181, 5, none⟩ = some (.int .i64 a0_5) := (blk_cell BK181.out 5).trans rfl; have hcz39_6 : w38.cell? ⟨gb181, 6, none⟩ = some (.int .i64 a0_6) := (blk_cell BK181.out 6).trans rfl; have hcz39_7 : w38.cell? ⟨gb181, 7, none⟩ = some (.int .i64 a0_7) := (blk_cell BK181.out 7).trans rfl; have hcz39_8 : w38.cell? ⟨gb181, 8, none⟩ = some (.int .i64 a0_8) := (blk_cell BK181.out 8).trans rfl; have hcz39_9 : w38.cell? ⟨gb181, 9, none⟩ = some (.bool a0_9) := (blk_cell BK181.out 9).trans rfl; have hcz39_10 : w38.cell? ⟨gb181, 10, none⟩ = some (.int .i64 a0_10) := (blk_cell BK181.out 10).trans rfl; have hcz39_11 : w38.cell? ⟨gb181, 11, none⟩ = some (.int .i64 a0_11) := (blk_cell BK181.out 11).trans rfl; have hcz39_12 : w38.cell? ⟨gb181, 12, none⟩ = some (.slice A0_12 l0_12.length c0_12) := (blk_cell BK181.out 12).trans rfl; have hcz39_13 : w38.cell? ⟨gb181, 13, none⟩ = some (.slice A0_13 l0_13.length c0_13) := (blk_cell BK181.out 13).trans rfl; have hcz39_14 : w38.cell? ⟨gb181, 14, none⟩ = some (.slice A0_14 l0_14.length c0_14) := (blk_cell BK181.out 14).trans rfl; have hfz39_0 := blk_frozen BK181.out 0; have hfz39_1 := blk_frozen BK181.out 1; have hfz39_2 := blk_frozen BK181.out 2; have hfz39_3 := blk_frozen BK181.out 3; have hfz39_4 := blk_frozen BK181.out 4; have hfz39_5 := blk_frozen BK181.out 5; have hfz39_6 := blk_frozen BK181.out 6; have hfz39_7 := blk_frozen BK181.out 7; have hfz39_8 := blk_frozen BK181.out 8; have hfz39_9 := blk_frozen BK181.out 9; have hfz39_10 := blk_frozen BK181.out 10; have hfz39_11 := blk_frozen BK181.out 11; have hfz39_12 := blk_frozen BK181.out 12; have hfz39_13 := blk_frozen BK181.out 13; have hfz39_14 := blk_frozen BK181.out 14) | (go_at_call 54; (with_reducible refine (vokref17_within.calls a0_1 15 true _ A4.out).mono ?_); rintro e w' ⟨rfl, ⟨nd, rfl⟩⟩) | (go_at_call 54; (with_reducible refine (vokref17_within.calls a0_2 15 true _ A6.out).mono ?_); rintro e w' ⟨rfl, ⟨nd, rfl⟩⟩) | (go_at_call 54; (with_reducible refine (vokref17_within.calls a0_3 1099511627776 true _ A8.out).mono ?_); rintro e w' ⟨rfl, ⟨nd, rfl⟩⟩) | (go_at_call 54; (with_reducible refine (vokref17_within.calls a0_4 1099511627776 true _ A10.out).mono ?_); rintro e w' ⟨rfl, ⟨nd, rfl⟩⟩) | (go_at_call 54; (with_reducible refine (vokref17_within.calls a0_6 1099511627776 true _ A12.out).mono ?_); rintro e w' ⟨rfl, ⟨nd, rfl⟩⟩) | (go_at_call 54; (with_reducible refine (vokref17_within.calls a0_8 1099511627776 true _ A14.out).mono ?_); rintro e w' ⟨rfl, ⟨nd, rfl⟩⟩) | (go_at_call 54; (with_reducible refine (vokref17_within.calls a0_5 3 true _ A16.out).mono ?_); rintro e w' ⟨rfl, ⟨nd, rfl⟩⟩) | (go_at_call 54; (with_reducible refine (vokref17_within.calls a0_7 255 false _ A18.out).mono ?_); rintro e w' ⟨rfl, ⟨nd, rfl⟩⟩))
                      go_ret
                      exact ⟨by first | rfl | (simp [errW_none, errW_some] <;> rfl) | (simp [*, errW_none, errW_some] <;> rfl), by repeat (first | (with_reducible first | exact HB.out | apply below_alloc | apply pw_below_drewN | apply below_drew1 | refine below_set ?_ GE181.out) | exact HB.out)⟩
                  · replace c17 := Bool.eq_false_iff.mpr c17
                    subst c17
                    have H1 : (some false) = some r := by rw [if_neg (show ¬ (false = true) by decide)] at H; exact H
                    clear H
                    have H := H1
                    clear H1
                    obtain rfl := Option.some.inj H
                    go_enter Try.func29, Try.ntmps29
                    go_wp2_with (first | ((with_reducible refine gate_dst (N := 1) rfl ?_); (try (refine gate_guard (by rfl) ?_; dsimp only)); refine box_event ?hg (N := 1) ?hd (cs := #[.int .i64 a0_0, .int .i64 a0_1, .int .i64 a0_2, .int .i64 a0_3, .int .i64 a0_4, .int .i64 a0_5, .int .i64 a0_6, .int .i64 a0_7, .int .i64 a0_8, .bool a0_9, .int .i64 a0_10, .int .i64 a0_11, .slice A0_12 l0_12.length c0_12, .slice A0_13 l0_13.length c0_13, .slice A0_14 l0_14.length c0_14]) (t := 43) ?hr ?_; (case hd => rfl); (case hg => rfl); (case hr => first | (go_simp; done) | (go_simp; rfl)); intro gb181 hg w40 hbox hb; have n0_ := Aside0.mk (below_step (by repeat (first | (with_reducible first | exact HB.out | apply below_alloc | apply pw_below_drewN | apply below_drew1) | exact HB.out)) hb); have n1_ := Aside0.mk (hbox); have n2_ := Aside0.mk ((by rw [hg]; exact (below_size (by repeat (first | (with_reducible first | exact HB.out | apply below_alloc | apply pw_below_drewN | apply below_drew1) | exact HB.out))) : w.heap.size ≤ gb181)); have n3_ := Aside0.mk ((by rw [hg]; exact (below_size (by repeat (first | (with_reducible first | exact HB.out | apply below_alloc | apply pw_below_drewN | apply below_drew1) | exact HB.out))) : w.heap.size ≤ gb181)); clear HB; have HB := n0_; have BK181 := n1_; have GW181 := n2_; have GE181 := n3_; clear n0_ n1_ n2_ n3_; clear hb hbox hg; have hcz41_0 : w40.cell? ⟨gb181, 0, none⟩ = some (.int .i64 a0_0) := (blk_cell BK181.out 0).trans rfl; have hcz41_1 : w40.cell? ⟨gb181, 1, none⟩ = some (.int .i64 a0_1) := (blk_cell BK181.out 1).trans rfl; have hcz41_2 : w40.cell? ⟨gb181, 2, none⟩ = some (.int .i64 a0_2) := (blk_cell BK181.out 2).trans rfl; have hcz41_3 : w40.cell? ⟨gb181, 3, none⟩ = some (.int .i64 a0_3) := (blk_cell BK181.out 3).trans rfl; have hcz41_4 : w40.cell? ⟨gb181, 4, none⟩ = some (.int .i64 a0_4) := (blk_cell BK181.out 4).trans rfl; have hcz41_5 : w40.cell? ⟨gb181, 5, none⟩ = some (.int .i64 a0_5) := (blk_cell BK181.out 5).trans rfl; have hcz41_6 : w40.cell? ⟨gb181, 6, none⟩ = some (.int .i64 a0_6) := (blk_cell BK181.out 6).trans rfl; have hcz41_7 : w40.cell? ⟨gb181, 7, none⟩ = some (.int .i64 a0_7) := (blk_cell BK181.out 7).trans rfl; have hcz41_8 : w40.cell? ⟨gb181, 8, none⟩ = some (.int .i64 a0_8) := (blk_cell BK181.out 8).trans rfl; have hcz41_9 : w40.cell? ⟨gb181, 9, none⟩ = some (.bool a0_9) := (blk_cell BK181.out 9).trans rfl; have hcz41_10 : w40.cell? ⟨gb181, 10, none⟩ = some (.int .i64 a0_10) := (blk_cell BK181.out 10).trans rfl; have hcz41_11 : w40.cell? ⟨gb181, 11, none⟩ = some (.int .i64 a0_11) := (blk_cell BK181.out 11).trans rfl; have hcz41_12 : w40.cell? ⟨gb181, 12, none⟩ = some (.slice A0_12 l0_12.length c0_12) := (blk_cell BK181.out 12).trans rfl; have hcz41_13 : w40.cell? ⟨gb181, 13, none⟩ = some (.slice A0_13 l0_13.length c0_13) := (blk_cell BK181.out 13).trans rfl; have hcz41_14 : w40.cell? ⟨gb181, 14, none⟩ = some (.slice A0_14 l0_14.length c0_14) := (blk_cell BK181.out 14).trans rfl; have hfz41_0 := blk_frozen BK181.out 0; have hfz41_1 := blk_frozen BK181.out 1; have hfz41_2 := blk_frozen BK181.out 2; have hfz41_3 := blk_frozen BK181.out 3; have hfz41_4 := blk_frozen BK181.out 4; have hfz41_5 := blk_frozen BK181.out 5; have hfz41_6 := blk_frozen BK181.out 6; have hfz41_7 := blk_frozen BK181.out 7; have hfz41_8 := blk_frozen BK181.out 8; have hfz41_9 := blk_frozen BK181.out 9; have hfz41_10 := blk_frozen BK181.out 10; have hfz41_11 := blk_frozen BK181.out 11; have hfz41_12 := blk_frozen BK181.out 12; have hfz41_13 := blk_frozen BK181.out 13; have hfz41_14 := blk_frozen BK181.out 14) | (go_at_call 54; (with_reducible refine (vokref17_within.calls a0_1 15 true _ A4.out).mono ?_); rintro e w' ⟨rfl, ⟨nd, rfl⟩⟩) | (go_at_call 54; (with_reducible refine (vokref17_within.calls a0_2 15 true _ A6.out).mono ?_); rintro e w' ⟨rfl, ⟨nd, rfl⟩⟩) | (go_at_call 54; (with_reducible refine (vokref17_within.calls a0_3 1099511627776 true _ A8.out).mono ?_); rintro e w' ⟨rfl, ⟨nd, rfl⟩⟩) | (go_at_call 54; (with_reducible refine (vokref17_within.calls a0_4 1099511627776 true _ A10.out).mono ?_); rintro e w' ⟨rfl, ⟨nd, rfl⟩⟩) | (go_at_call 54; (with_reducible refine (vokref17_within.calls a0_6 1099511627776 true _ A12.out).mono ?_); rintro e w' ⟨rfl, ⟨nd, rfl⟩⟩) | (go_at_call 54; (with_reducible refine (vokref17_within.calls a0_8 1099511627776 true _ A14.out).mono ?_); rintro e w' ⟨rfl, ⟨nd, rfl⟩⟩) | (go_at_call 54; (with_reducible refine (vokref17_within.calls a0_5 3 false _ A16.out).mono ?_); rintro e w' ⟨rfl, ⟨nd, rfl⟩⟩))
                    go_ret
                    exact ⟨by first | rfl | (simp [errW_none, errW_some] <;> rfl) | (simp [*, errW_none, errW_some] <;> rfl), by repeat (first | (with_reducible first | exact HB.out | apply below_alloc | apply pw_below_drewN | apply below_drew1 | refine below_set ?_ GE181.out) | exact HB.out)⟩
                · replace c15 := Bool.eq_false_iff.mpr c15
                  subst c15
                  have H1 : (some false) = some r := by rw [if_neg (show ¬ (false = true) by decide)] at H; exact H
                  clear H
                  have H := H1
                  clear H1
                  obtain rfl := Option.some.inj H
                  go_enter Try.func29, Try.ntmps29
                  go_wp2_with (first | ((with_reducible refine gate_dst (N := 1) rfl ?_); (try (refine gate_guard (by rfl) ?_; dsimp only)); refine box_event ?hg (N := 1) ?hd (cs := #[.int .i64 a0_0, .int .i64 a0_1, .int .i64 a0_2, .int .i64 a0_3, .int .i64 a0_4, .int .i64 a0_5, .int .i64 a0_6, .int .i64 a0_7, .int .i64 a0_8, .bool a0_9, .int .i64 a0_10, .int .i64 a0_11, .slice A0_12 l0_12.length c0_12, .slice A0_13 l0_13.length c0_13, .slice A0_14 l0_14.length c0_14]) (t := 43) ?hr ?_; (case hd => rfl); (case hg => rfl); (case hr => first | (go_simp; done) | (go_simp; rfl)); intro gb181 hg w42 hbox hb; have n0_ := Aside0.mk (below_step (by repeat (first | (with_reducible first | exact HB.out | apply below_alloc | apply pw_below_drewN | apply below_drew1) | exact HB.out)) hb); have n1_ := Aside0.mk (hbox); have n2_ := Aside0.mk ((by rw [hg]; exact (below_size (by repeat (first | (with_reducible first | exact HB.out | apply below_alloc | apply pw_below_drewN | apply below_drew1) | exact HB.out))) : w.heap.size ≤ gb181)); have n3_ := Aside0.mk ((by rw [hg]; exact (below_size (by repeat (first | (with_reducible first | exact HB.out | apply below_alloc | apply pw_below_drewN | apply below_drew1) | exact HB.out))) : w.heap.size ≤ gb181)); clear HB; have HB := n0_; have BK181 := n1_; have GW181 := n2_; have GE181 := n3_; clear n0_ n1_ n2_ n3_; clear hb hbox hg; have hcz43_0 : w42.cell? ⟨gb181, 0, none⟩ = some (.int .i64 a0_0) := (blk_cell BK181.out 0).trans rfl; have hcz43_1 : w42.cell? ⟨gb181, 1, none⟩ = some (.int .i64 a0_1) := (blk_cell BK181.out 1).trans rfl; have hcz43_2 : w42.cell? ⟨gb181, 2, none⟩ = some (.int .i64 a0_2) := (blk_cell BK181.out 2).trans rfl; have hcz43_3 : w42.cell? ⟨gb181, 3, none⟩ = some (.int .i64 a0_3) := (blk_cell BK181.out 3).trans rfl; have hcz43_4 : w42.cell? ⟨gb181, 4, none⟩ = some (.int .i64 a0_4) := (blk_cell BK181.out 4).trans rfl; have hcz43_5 : w42.cell? ⟨gb181, 5, none⟩ = some (.int .i64 a0_5) := (blk_cell BK181.out 5).trans rfl; have hcz43_6 : w42.cell? ⟨gb181, 6, none⟩ = some (.int .i64 a0_6) := (blk_cell BK181.out 6).trans rfl; have hcz43_7 : w42.cell? ⟨gb181, 7, none⟩ = some (.int .i64 a0_7) := (blk_cell BK181.out 7).trans rfl; have hcz43_8 : w42.cell? ⟨gb181, 8, none⟩ = some (.int .i64 a0_8) := (blk_cell BK181.out 8).trans rfl; have hcz43_9 : w42.cell? ⟨gb181, 9, none⟩ = some (.bool a0_9) := (blk_cell BK181.out 9).trans rfl; have hcz43_10 : w42.cell? ⟨gb181, 10, none⟩ = some (.int .i64 a0_10) := (blk_cell BK181.out 10).trans rfl; have hcz43_11 : w42.cell? ⟨gb181, 11, none⟩ = some (.int .i64 a0_11) := (blk_cell BK181.out 11).trans rfl; have hcz43_12 : w42.cell? ⟨gb181, 12, none⟩ = some (.slice A0_12 l0_12.length c0_12) := (blk_cell BK181.out 12).trans rfl; have hcz43_13 : w42.cell? ⟨gb181, 13, none⟩ = some (.slice A0_13 l0_13.length c0_13) := (blk_cell BK181.out 13).trans rfl; have hcz43_14 : w42.cell? ⟨gb181, 14, none⟩ = some (.slice A0_14 l0_14.length c0_14) := (blk_cell BK181.out 14).trans rfl; have hfz43_0 := blk_frozen BK181.out 0; have hfz43_1 := blk_frozen BK181.out 1; have hfz43_2 := blk_frozen BK181.out 2; have hfz43_3 := blk_frozen BK181.out 3; have hfz43_4 := blk_frozen BK181.out 4; have hfz43_5 := blk_frozen BK181.out 5; have hfz43_6 := blk_frozen BK181.out 6; have hfz43_7 := blk_frozen BK181.out 7; have hfz43_8 := blk_frozen BK181.out 8; have hfz43_9 := blk_frozen BK181.out 9; have hfz43_10 := blk_frozen BK181.out 10; have hfz43_11 := blk_frozen BK181.out 11; have hfz43_12 := blk_frozen BK181.out 12; have hfz43_13 := blk_frozen BK181.out 13; have hfz43_14 := blk_frozen BK181.out 14) | (go_at_call 54; (with_reducible refine (vokref17_within.calls a0_1 15 true _ A4.out).mono ?_); rintro e w' ⟨rfl, ⟨nd, rfl⟩⟩) | (go_at_call 54; (with_reducible refine (vokref17_within.calls a0_2 15 true _ A6.out).mono ?_); rintro e w' ⟨rfl, ⟨nd, rfl⟩⟩) | (go_at_call 54; (with_reducible refine (vokref17_within.calls a0_3 1099511627776 true _ A8.out).mono ?_); rintro e w' ⟨rfl, ⟨nd, rfl⟩⟩) | (go_at_call 54; (with_reducible refine (vokref17_within.calls a0_4 1099511627776 true _ A10.out).mono ?_); rintro e w' ⟨rfl, ⟨nd, rfl⟩⟩) | (go_at_call 54; (with_reducible refine (vokref17_within.calls a0_6 1099511627776 true _ A12.out).mono ?_); rintro e w' ⟨rfl, ⟨nd, rfl⟩⟩) | (go_at_call 54; (with_reducible refine (vokref17_within.calls a0_8 1099511627776 false _ A14.out).mono ?_); rintro e w' ⟨rfl, ⟨nd, rfl⟩⟩))
                  go_ret
                  exact ⟨by first | rfl | (simp [errW_none, errW_some] <;> rfl) | (simp [*, errW_none, errW_some] <;> rfl), by repeat (first | (with_reducible first | exact HB.out | apply below_alloc | apply pw_below_drewN | apply below_drew1 | refine below_set ?_ GE181.out) | exact HB.out)⟩
              · replace c13 := Bool.eq_false_iff.mpr c13
                subst c13
                have H1 : (some false) = some r := by rw [if_neg (show ¬ (false = true) by decide)] at H; exact H
                clear H
                have H := H1
                clear H1
                obtain rfl := Option.some.inj H
                go_enter Try.func29, Try.ntmps29
                go_wp2_with (first | ((with_reducible refine gate_dst (N := 1) rfl ?_); (try (refine gate_guard (by rfl) ?_; dsimp only)); refine box_event ?hg (N := 1) ?hd (cs := #[.int .i64 a0_0, .int .i64 a0_1, .int .i64 a0_2, .int .i64 a0_3, .int .i64 a0_4, .int .i64 a0_5, .int .i64 a0_6, .int .i64 a0_7, .int .i64 a0_8, .bool a0_9, .int .i64 a0_10, .int .i64 a0_11, .slice A0_12 l0_12.length c0_12, .slice A0_13 l0_13.length c0_13, .slice A0_14 l0_14.length c0_14]) (t := 43) ?hr ?_; (case hd => rfl); (case hg => rfl); (case hr => first | (go_simp; done) | (go_simp; rfl)); intro gb181 hg w44 hbox hb; have n0_ := Aside0.mk (below_step (by repeat (first | (with_reducible first | exact HB.out | apply below_alloc | apply pw_below_drewN | apply below_drew1) | exact HB.out)) hb); have n1_ := Aside0.mk (hbox); have n2_ := Aside0.mk ((by rw [hg]; exact (below_size (by repeat (first | (with_reducible first | exact HB.out | apply below_alloc | apply pw_below_drewN | apply below_drew1) | exact HB.out))) : w.heap.size ≤ gb181)); have n3_ := Aside0.mk ((by rw [hg]; exact (below_size (by repeat (first | (with_reducible first | exact HB.out | apply below_alloc | apply pw_below_drewN | apply below_drew1) | exact HB.out))) : w.heap.size ≤ gb181)); clear HB; have HB := n0_; have BK181 := n1_; have GW181 := n2_; have GE181 := n3_; clear n0_ n1_ n2_ n3_; clear hb hbox hg; have hcz45_0 : w44.cell? ⟨gb181, 0, none⟩ = some (.int .i64 a0_0) := (blk_cell BK181.out 0).trans rfl; have hcz45_1 : w44.cell? ⟨gb181, 1, none⟩ = some (.int .i64 a0_1) := (blk_cell BK181.out 1).trans rfl; have hcz45_2 : w44.cell? ⟨gb181, 2, none⟩ = some (.int .i64 a0_2) := (blk_cell BK181.out 2).trans rfl; have hcz45_3 : w44.cell? ⟨gb181, 3, none⟩ = some (.int .i64 a0_3) := (blk_cell BK181.out 3).trans rfl; have hcz45_4 : w44.cell? ⟨gb181, 4, none⟩ = some (.int .i64 a0_4) := (blk_cell BK181.out 4).trans rfl; have hcz45_5 : w44.cell? ⟨gb181, 5, none⟩ = some (.int .i64 a0_5) := (blk_cell BK181.out 5).trans rfl; have hcz45_6 : w44.cell? ⟨gb181, 6, none⟩ = some (.int .i64 a0_6) := (blk_cell BK181.out 6).trans rfl; have hcz45_7 : w44.cell? ⟨gb181, 7, none⟩ = some (.int .i64 a0_7) := (blk_cell BK181.out 7).trans rfl; have hcz45_8 : w44.cell? ⟨gb181, 8, none⟩ = some (.int .i64 a0_8) := (blk_cell BK181.out 8).trans rfl; have hcz45_9 : w44.cell? ⟨gb181, 9, none⟩ = some (.bool a0_9) := (blk_cell BK181.out 9).trans rfl; have hcz45_10 : w44.cell? ⟨gb181, 10, none⟩ = some (.int .i64 a0_10) := (blk_cell BK181.out 10).trans rfl; have hcz45_11 : w44.cell? ⟨gb181, 11, none⟩ = some (.int .i64 a0_11) := (blk_cell BK181.out 11).trans rfl; have hcz45_12 : w44.cell? ⟨gb181, 12, none⟩ = some (.slice A0_12 l0_12.length c0_12) := (blk_cell BK181.out 12).trans rfl; have hcz45_13 : w44.cell? ⟨gb181, 13, none⟩ = some (.slice A0_13 l0_13.length c0_13) := (blk_cell BK181.out 13).trans rfl; have hcz45_14 : w44.cell? ⟨gb181, 14, none⟩ = some (.slice A0_14 l0_14.length c0_14) := (blk_cell BK181.out 14).trans rfl; have hfz45_0 := blk_frozen BK181.out 0; have hfz45_1 := blk_frozen BK181.out 1; have hfz45_2 := blk_frozen BK181.out 2; have hfz45_3 := blk_frozen BK181.out 3; have hfz45_4 := blk_frozen BK181.out 4; have hfz45_5 := blk_frozen BK181.out 5; have hfz45_6 := blk_frozen BK181.out 6; have hfz45_7 := blk_frozen BK181.out 7; have hfz45_8 := blk_frozen BK181.out 8; have hfz45_9 := blk_frozen BK181.out 9; have hfz45_10 := blk_frozen BK181.out 10; have hfz45_11 := blk_frozen BK181.out 11; have hfz45_12 := blk_frozen BK181.out 12; have hfz45_13 := blk_frozen BK181.out 13; have hfz45_14 := blk_frozen BK181.out 14) | (go_at_call 54; (with_reducible refine (vokref17_within.calls a0_1 15 true _ A4.out).mono ?_); rintro e w' ⟨rfl, ⟨nd, rfl⟩⟩) | (go_at_call 54; (with_reducible refine (vokref17_within.calls a0_2 15 true _ A6.out).mono ?_); rintro e w' ⟨rfl, ⟨nd, rfl⟩⟩) | (go_at_call 54; (with_reducible refine (vokref17_within.calls a0_3 1099511627776 true _ A8.out).mono ?_); rintro e w' ⟨rfl, ⟨nd, rfl⟩⟩) | (go_at_call 54; (with_reducible refine (vokref17_within.calls a0_4 1099511627776 true _ A10.out).mono ?_); rintro e w' ⟨rfl, ⟨nd, rfl⟩⟩) | (go_at_call 54; (with_reducible refine (vokref17_within.calls a0_6 1099511627776 false _ A12.out).mono ?_); rintro e w' ⟨rfl, ⟨nd, rfl⟩⟩))
                go_ret
                exact ⟨by first | rfl | (simp [errW_none, errW_some] <;> rfl) | (simp [*, errW_none, errW_some] <;> rfl), by repeat (first | (with_reducible first | exact HB.out | apply below_alloc | apply pw_below_drewN | apply below_drew1 | refine below_set ?_ GE181.out) | exact HB.out)⟩
            · replace c11 := Bool.eq_false_iff.mpr c11
              subst c11
              have H1 : (some false) = some r := by rw [if_neg (show ¬ (false = true) by decide)] at H; exact H
              clear H
              have H := H1
              clear H1
              obtain rfl := Option.some.inj H
              go_enter Try.func29, Try.ntmps29
              go_wp2_with (first | ((with_reducible refine gate_dst (N := 1) rfl ?_); (try (refine gate_guard (by rfl) ?_; dsimp only)); refine box_event ?hg (N := 1) ?hd (cs := #[.int .i64 a0_0, .int .i64 a0_1, .int .i64 a0_2, .int .i64 a0_3, .int .i64 a0_4, .int .i64 a0_5, .int .i64 a0_6, .int .i64 a0_7, .int .i64 a0_8, .bool a0_9, .int .i64 a0_10, .int .i64 a0_11, .slice A0_12 l0_12.length c0_12, .slice A0_13 l0_13.length c0_13, .slice A0_14 l0_14.length c0_14]) (t := 43) ?hr ?_; (case hd => rfl); (case hg => rfl); (case hr => first | (go_simp; done) | (go_simp; rfl)); intro gb181 hg w46 hbox hb; have n0_ := Aside0.mk (below_step (by repeat (first | (with_reducible first | exact HB.out | apply below_alloc | apply pw_below_drewN | apply below_drew1) | exact HB.out)) hb); have n1_ := Aside0.mk (hbox); have n2_ := Aside0.mk ((by rw [hg]; exact (below_size (by repeat (first | (with_reducible first | exact HB.out | apply below_alloc | apply pw_below_drewN | apply below_drew1) | exact HB.out))) : w.heap.size ≤ gb181)); have n3_ := Aside0.mk ((by rw [hg]; exact (below_size (by repeat (first | (with_reducible first | exact HB.out | apply below_alloc | apply pw_below_drewN | apply below_drew1) | exact HB.out))) : w.heap.size ≤ gb181)); clear HB; have HB := n0_; have BK181 := n1_; have GW181 := n2_; have GE181 := n3_; clear n0_ n1_ n2_ n3_; clear hb hbox hg; have hcz47_0 : w46.cell? ⟨gb181, 0, none⟩ = some (.int .i64 a0_0) := (blk_cell BK181.out 0).trans rfl; have hcz47_1 : w46.cell? ⟨gb181, 1, none⟩ = some (.int .i64 a0_1) := (blk_cell BK181.out 1).trans rfl; have hcz47_2 : w46.cell? ⟨gb181, 2, none⟩ = some (.int .i64 a0_2) := (blk_cell BK181.out 2).trans rfl; have hcz47_3 : w46.cell? ⟨gb181, 3, none⟩ = some (.int .i64 a0_3) := (blk_cell BK181.out 3).trans rfl; have hcz47_4 : w46.cell? ⟨gb181, 4, none⟩ = some (.int .i64 a0_4) := (blk_cell BK181.out 4).trans rfl; have hcz47_5 : w46.cell? ⟨gb181, 5, none⟩ = some (.int .i64 a0_5) := (blk_cell BK181.out 5).trans rfl; have hcz47_6 : w46.cell? ⟨gb181, 6, none⟩ = some (.int .i64 a0_6) := (blk_cell BK181.out 6).trans rfl; have hcz47_7 : w46.cell? ⟨gb181, 7, none⟩ = some (.int .i64 a0_7) := (blk_cell BK181.out 7).trans rfl; have hcz47_8 : w46.cell? ⟨gb181, 8, none⟩ = some (.int .i64 a0_8) := (blk_cell BK181.out 8).trans rfl; have hcz47_9 : w46.cell? ⟨gb181, 9, none⟩ = some (.bool a0_9) := (blk_cell BK181.out 9).trans rfl; have hcz47_10 : w46.cell? ⟨gb181, 10, none⟩ = some (.int .i64 a0_10) := (blk_cell BK181.out 10).trans rfl; have hcz47_11 : w46.cell? ⟨gb181, 11, none⟩ = some (.int .i64 a0_11) := (blk_cell BK181.out 11).trans rfl; have hcz47_12 : w46.cell? ⟨gb181, 12, none⟩ = some (.slice A0_12 l0_12.length c0_12) := (blk_cell BK181.out 12).trans rfl; have hcz47_13 : w46.cell? ⟨gb181, 13, none⟩ = some (.slice A0_13 l0_13.length c0_13) := (blk_cell BK181.out 13).trans rfl; have hcz47_14 : w46.cell? ⟨gb181, 14, none⟩ = some (.slice A0_14 l0_14.length c0_14) := (blk_cell BK181.out 14).trans rfl; have hfz47_0 := blk_frozen BK181.out 0; have hfz47_1 := blk_frozen BK181.out 1; have hfz47_2 := blk_frozen BK181.out 2; have hfz47_3 := blk_frozen BK181.out 3; have hfz47_4 := blk_frozen BK181.out 4; have hfz47_5 := blk_frozen BK181.out 5; have hfz47_6 := blk_frozen BK181.out 6; have hfz47_7 := blk_frozen BK181.out 7; have hfz47_8 := blk_frozen BK181.out 8; have hfz47_9 := blk_frozen BK181.out 9; have hfz47_10 := blk_frozen BK181.out 10; have hfz47_11 := blk_frozen BK181.out 11; have hfz47_12 := blk_frozen BK181.out 12; have hfz47_13 := blk_frozen BK181.out 13; have hfz47_14 := blk_frozen BK181.out 14) | (go_at_call 54; (with_reducible refine (vokref17_within.calls a0_1 15 true _ A4.out).mono ?_); rintro e w' ⟨rfl, ⟨nd, rfl⟩⟩) | (go_at_call 54; (with_reducible refine (vokref17_within.calls a0_2 15 true _ A6.out).mono ?_); rintro e w' ⟨rfl, ⟨nd, rfl⟩⟩) | (go_at_call 54; (with_reducible refine (vokref17_within.calls a0_3 1099511627776 true _ A8.out).mono ?_); rintro e w' ⟨rfl, ⟨nd, rfl⟩⟩) | (go_at_call 54; (with_reducible refine (vokref17_within.calls a0_4 1099511627776 false _ A10.out).mono ?_); rintro e w' ⟨rfl, ⟨nd, rfl⟩⟩))
              go_ret
              exact ⟨by first | rfl | (simp [errW_none, errW_some] <;> rfl) | (simp [*, errW_none, errW_some] <;> rfl), by repeat (first | (with_reducible first | exact HB.out | apply below_alloc | apply pw_below_drewN | apply below_drew1 | refine below_set ?_ GE181.out) | exact HB.out)⟩
          · replace c9 := Bool.eq_false_iff.mpr c9
            subst c9
            have H1 : (some false) = some r := by rw [if_neg (show ¬ (false = true) by decide)] at H; exact H
            clear H
            have H := H1
            clear H1
            obtain rfl := Option.some.inj H
            go_enter Try.func29, Try.ntmps29
            go_wp2_with (first | ((with_reducible refine gate_dst (N := 1) rfl ?_); (try (refine gate_guard (by rfl) ?_; dsimp only)); refine box_event ?hg (N := 1) ?hd (cs := #[.int .i64 a0_0, .int .i64 a0_1, .int .i64 a0_2, .int .i64 a0_3, .int .i64 a0_4, .int .i64 a0_5, .int .i64 a0_6, .int .i64 a0_7, .int .i64 a0_8, .bool a0_9, .int .i64 a0_10, .int .i64 a0_11, .slice A0_12 l0_12.length c0_12, .slice A0_13 l0_13.length c0_13, .slice A0_14 l0_14.length c0_14]) (t := 43) ?hr ?_; (case hd => rfl); (case hg => rfl); (case hr => first | (go_simp; done) | (go_simp; rfl)); intro gb181 hg w48 hbox hb; have n0_ := Aside0.mk (below_step (by repeat (first | (with_reducible first | exact HB.out | apply below_alloc | apply pw_below_drewN | apply below_drew1) | exact HB.out)) hb); have n1_ := Aside0.mk (hbox); have n2_ := Aside0.mk ((by rw [hg]; exact (below_size (by repeat (first | (with_reducible first | exact HB.out | apply below_alloc | apply pw_below_drewN | apply below_drew1) | exact HB.out))) : w.heap.size ≤ gb181)); have n3_ := Aside0.mk ((by rw [hg]; exact (below_size (by repeat (first | (with_reducible first | exact HB.out | apply below_alloc | apply pw_below_drewN | apply below_drew1) | exact HB.out))) : w.heap.size ≤ gb181)); clear HB; have HB := n0_; have BK181 := n1_; have GW181 := n2_; have GE181 := n3_; clear n0_ n1_ n2_ n3_; clear hb hbox hg; have hcz49_0 : w48.cell? ⟨gb181, 0, none⟩ = some (.int .i64 a0_0) := (blk_cell BK181.out 0).trans rfl; have hcz49_1 : w48.cell? ⟨gb181, 1, none⟩ = some (.int .i64 a0_1) := (blk_cell BK181.out 1).trans rfl; have hcz49_2 : w48.cell? ⟨gb181, 2, none⟩ = some (.int .i64 a0_2) := (blk_cell BK181.out 2).trans rfl; have hcz49_3 : w48.cell? ⟨gb181, 3, none⟩ = some (.int .i64 a0_3) := (blk_cell BK181.out 3).trans rfl; have hcz49_4 : w48.cell? ⟨gb181, 4, none⟩ = some (.int .i64 a0_4) := (blk_cell BK181.out 4).trans rfl; have hcz49_5 : w48.cell? ⟨gb181, 5, none⟩ = some (.int .i64 a0_5) := (blk_cell BK181.out 5).trans rfl; have hcz49_6 : w48.cell? ⟨gb181, 6, none⟩ = some (.int .i64 a0_6) := (blk_cell BK181.out 6).trans rfl; have hcz49_7 : w48.cell? ⟨gb181, 7, none⟩ = some (.int .i64 a0_7) := (blk_cell BK181.out 7).trans rfl; have hcz49_8 : w48.cell? ⟨gb181, 8, none⟩ = some (.int .i64 a0_8) := (blk_cell BK181.out 8).trans rfl; have hcz49_9 : w48.cell? ⟨gb181, 9, none⟩ = some (.bool a0_9) := (blk_cell BK181.out 9).trans rfl; have hcz49_10 : w48.cell? ⟨gb181, 10, none⟩ = some (.int .i64 a0_10) := (blk_cell BK181.out 10).trans rfl; have hcz49_11 : w48.cell? ⟨gb181, 11, none⟩ = some (.int .i64 a0_11) := (blk_cell BK181.out 11).trans rfl; have hcz49_12 : w48.cell? ⟨gb181, 12, none⟩ = some (.slice A0_12 l0_12.length c0_12) := (blk_cell BK181.out 12).trans rfl; have hcz49_13 : w48.cell? ⟨gb181, 13, none⟩ = some (.slice A0_13 l0_13.length c0_13) := (blk_cell BK181.out 13).trans rfl; have hcz49_14 : w48.cell? ⟨gb181, 14, none⟩ = some (.slice A0_14 l0_14.length c0_14) := (blk_cell BK181.out 14).trans rfl; have hfz49_0 := blk_frozen BK181.out 0; have hfz49_1 := blk_frozen BK181.out 1; have hfz49_2 := blk_frozen BK181.out 2; have hfz49_3 := blk_frozen BK181.out 3; have hfz49_4 := blk_frozen BK181.out 4; have hfz49_5 := blk_frozen BK181.out 5; have hfz49_6 := blk_frozen BK181.out 6; have hfz49_7 := blk_frozen BK181.out 7; have hfz49_8 := blk_frozen BK181.out 8; have hfz49_9 := blk_frozen BK181.out 9; have hfz49_10 := blk_frozen BK181.out 10; have hfz49_11 := blk_frozen BK181.out 11; have hfz49_12 := blk_frozen BK181.out 12; have hfz49_13 := blk_frozen BK181.out 13; have hfz49_14 := blk_frozen BK181.out 14) | (go_at_call 54; (with_reducible refine (vokref17_within.calls a0_1 15 true _ A4.out).mono ?_); rintro e w' ⟨rfl, ⟨nd, rfl⟩⟩) | (go_at_call 54; (with_reducible refine (vokref17_within.calls a0_2 15 true _ A6.out).mono ?_); rintro e w' ⟨rfl, ⟨nd, rfl⟩⟩) | (go_at_call 54; (with_reducible refine (vokref17_within.calls a0_3 1099511627776 false _ A8.out).mono ?_); rintro e w' ⟨rfl, ⟨nd, rfl⟩⟩))
            go_ret
            exact ⟨by first | rfl | (simp [errW_none, errW_some] <;> rfl) | (simp [*, errW_none, errW_some] <;> rfl), by repeat (first | (with_reducible first | exact HB.out | apply below_alloc | apply pw_below_drewN | apply below_drew1 | refine below_set ?_ GE181.out) | exact HB.out)⟩
        · replace c7 := Bool.eq_false_iff.mpr c7
          subst c7
          have H1 : (some false) = some r := by rw [if_neg (show ¬ (false = true) by decide)] at H; exact H
          clear H
          have H := H1
          clear H1
          obtain rfl := Option.some.inj H
          go_enter Try.func29, Try.ntmps29
          go_wp2_with (first | ((with_reducible refine gate_dst (N := 1) rfl ?_); (try (refine gate_guard (by rfl) ?_; dsimp only)); refine box_event ?hg (N := 1) ?hd (cs := #[.int .i64 a0_0, .int .i64 a0_1, .int .i64 a0_2, .int .i64 a0_3, .int .i64 a0_4, .int .i64 a0_5, .int .i64 a0_6, .int .i64 a0_7, .int .i64 a0_8, .bool a0_9, .int .i64 a0_10, .int .i64 a0_11, .slice A0_12 l0_12.length c0_12, .slice A0_13 l0_13.length c0_13, .slice A0_14 l0_14.length c0_14]) (t := 43) ?hr ?_; (case hd => rfl); (case hg => rfl); (case hr => first | (go_simp; done) | (go_simp; rfl)); intro gb181 hg w50 hbox hb; have n0_ := Aside0.mk (below_step (by repeat (first | (with_reducible first | exact HB.out | apply below_alloc | apply pw_below_drewN | apply below_drew1) | exact HB.out)) hb); have n1_ := Aside0.mk (hbox); have n2_ := Aside0.mk ((by rw [hg]; exact (below_size (by repeat (first | (with_reducible first | exact HB.out | apply below_alloc | apply pw_below_drewN | apply below_drew1) | exact HB.out))) : w.heap.size ≤ gb181)); have n3_ := Aside0.mk ((by rw [hg]; exact (below_size (by repeat (first | (with_reducible first | exact HB.out | apply below_alloc | apply pw_below_drewN | apply below_drew1) | exact HB.out))) : w.heap.size ≤ gb181)); clear HB; have HB := n0_; have BK181 := n1_; have GW181 := n2_; have GE181 := n3_; clear n0_ n1_ n2_ n3_; clear hb hbox hg; have hcz51_0 : w50.cell? ⟨gb181, 0, none⟩ = some (.int .i64 a0_0) := (blk_cell BK181.out 0).trans rfl; have hcz51_1 : w50.cell? ⟨gb181, 1, none⟩ = some (.int .i64 a0_1) := (blk_cell BK181.out 1).trans rfl; have hcz51_2 : w50.cell? ⟨gb181, 2, none⟩ = some (.int .i64 a0_2) := (blk_cell BK181.out 2).trans rfl; have hcz51_3 : w50.cell? ⟨gb181, 3, none⟩ = some (.int .i64 a0_3) := (blk_cell BK181.out 3).trans rfl; have hcz51_4 : w50.cell? ⟨gb181, 4, none⟩ = some (.int .i64 a0_4) := (blk_cell BK181.out 4).trans rfl; have hcz51_5 : w50.cell? ⟨gb181, 5, none⟩ = some (.int .i64 a0_5) := (blk_cell BK181.out 5).trans rfl; have hcz51_6 : w50.cell? ⟨gb181, 6, none⟩ = some (.int .i64 a0_6) := (blk_cell BK181.out 6).trans rfl; have hcz51_7 : w50.cell? ⟨gb181, 7, none⟩ = some (.int .i64 a0_7) := (blk_cell BK181.out 7).trans rfl; have hcz51_8 : w50.cell? ⟨gb181, 8, none⟩ = some (.int .i64 a0_8) := (blk_cell BK181.out 8).trans rfl; have hcz51_9 : w50.cell? ⟨gb181, 9, none⟩ = some (.bool a0_9) := (blk_cell BK181.out 9).trans rfl; have hcz51_10 : w50.cell? ⟨gb181, 10, none⟩ = some (.int .i64 a0_10) := (blk_cell BK181.out 10).trans rfl; have hcz51_11 : w50.cell? ⟨gb181, 11, none⟩ = some (.int .i64 a0_11) := (blk_cell BK181.out 11).trans rfl; have hcz51_12 : w50.cell? ⟨gb181, 12, none⟩ = some (.slice A0_12 l0_12.length c0_12) := (blk_cell BK181.out 12).trans rfl; have hcz51_13 : w50.cell? ⟨gb181, 13, none⟩ = some (.slice A0_13 l0_13.length c0_13) := (blk_cell BK181.out 13).trans rfl; have hcz51_14 : w50.cell? ⟨gb181, 14, none⟩ = some (.slice A0_14 l0_14.length c0_14) := (blk_cell BK181.out 14).trans rfl; have hfz51_0 := blk_frozen BK181.out 0; have hfz51_1 := blk_frozen BK181.out 1; have hfz51_2 := blk_frozen BK181.out 2; have hfz51_3 := blk_frozen BK181.out 3; have hfz51_4 := blk_frozen BK181.out 4; have hfz51_5 := blk_frozen BK181.out 5; have hfz51_6 := blk_frozen BK181.out 6; have hfz51_7 := blk_frozen BK181.out 7; have hfz51_8 := blk_frozen BK181.out 8; have hfz51_9 := blk_frozen BK181.out 9; have hfz51_10 := blk_frozen BK181.out 10; have hfz51_11 := blk_frozen BK181.out 11; have hfz51_12 := blk_frozen BK181.out 12; have hfz51_13 := blk_frozen BK181.out 13; have hfz51_14 := blk_frozen BK181.out 14) | (go_at_call 54; (with_reducible refine (vokref17_within.calls a0_1 15 true _ A4.out).mono ?_); rintro e w' ⟨rfl, ⟨nd, rfl⟩⟩) | (go_at_call 54; (with_reducible refine (vokref17_within.calls a0_2 15 false _ A6.out).mono ?_); rintro e w' ⟨rfl, ⟨nd, rfl⟩⟩))
          go_ret
          exact ⟨by first | rfl | (simp [errW_none, errW_some] <;> rfl) | (simp [*, errW_none, errW_some] <;> rfl), by repeat (first | (with_reducible first | exact HB.out | apply below_alloc | apply pw_below_drewN | apply below_drew1 | refine below_set ?_ GE181.out) | exact HB.out)⟩
      · replace c5 := Bool.eq_false_iff.mpr c5
        subst c5
        have H1 : (some false) = some r := by rw [if_neg (show ¬ (false = true) by decide)] at H; exact H
        clear H
        have H := H1
        clear H1
        obtain rfl := Option.some.inj H
        go_enter Try.func29, Try.ntmps29
        go_wp2_with (first | ((with_reducible refine gate_dst (N := 1) rfl ?_); (try (refine gate_guard (by rfl) ?_; dsimp only)); refine box_event ?hg (N := 1) ?hd (cs := #[.int .i64 a0_0, .int .i64 a0_1, .int .i64 a0_2, .int .i64 a0_3, .int .i64 a0_4, .int .i64 a0_5, .int .i64 a0_6, .int .i64 a0_7, .int .i64 a0_8, .bool a0_9, .int .i64 a0_10, .int .i64 a0_11, .slice A0_12 l0_12.length c0_12, .slice A0_13 l0_13.length c0_13, .slice A0_14 l0_14.length c0_14]) (t := 43) ?hr ?_; (case hd => rfl); (case hg => rfl); (case hr => first | (go_simp; done) | (go_simp; rfl)); intro gb181 hg w52 hbox hb; have n0_ := Aside0.mk (below_step (by repeat (first | (with_reducible first | exact HB.out | apply below_alloc | apply pw_below_drewN | apply below_drew1) | exact HB.out)) hb); have n1_ := Aside0.mk (hbox); have n2_ := Aside0.mk ((by rw [hg]; exact (below_size (by repeat (first | (with_reducible first | exact HB.out | apply below_alloc | apply pw_below_drewN | apply below_drew1) | exact HB.out))) : w.heap.size ≤ gb181)); have n3_ := Aside0.mk ((by rw [hg]; exact (below_size (by repeat (first | (with_reducible first | exact HB.out | apply below_alloc | apply pw_below_drewN | apply below_drew1) | exact HB.out))) : w.heap.size ≤ gb181)); clear HB; have HB := n0_; have BK181 := n1_; have GW181 := n2_; have GE181 := n3_; clear n0_ n1_ n2_ n3_; clear hb hbox hg; have hcz53_0 : w52.cell? ⟨gb181, 0, none⟩ = some (.int .i64 a0_0) := (blk_cell BK181.out 0).trans rfl; have hcz53_1 : w52.cell? ⟨gb181, 1, none⟩ = some (.int .i64 a0_1) := (blk_cell BK181.out 1).trans rfl; have hcz53_2 : w52.cell? ⟨gb181, 2, none⟩ = some (.int .i64 a0_2) := (blk_cell BK181.out 2).trans rfl; have hcz53_3 : w52.cell? ⟨gb181, 3, none⟩ = some (.int .i64 a0_3) := (blk_cell BK181.out 3).trans rfl; have hcz53_4 : w52.cell? ⟨gb181, 4, none⟩ = some (.int .i64 a0_4) := (blk_cell BK181.out 4).trans rfl; have hcz53_5 : w52.cell? ⟨gb181, 5, none⟩ = some (.int .i64 a0_5) := (blk_cell BK181.out 5).trans rfl; have hcz53_6 : w52.cell? ⟨gb181, 6, none⟩ = some (.int .i64 a0_6) := (blk_cell BK181.out 6).trans rfl; have hcz53_7 : w52.cell? ⟨gb181, 7, none⟩ = some (.int .i64 a0_7) := (blk_cell BK181.out 7).trans rfl; have hcz53_8 : w52.cell? ⟨gb181, 8, none⟩ = some (.int .i64 a0_8) := (blk_cell BK181.out 8).trans rfl; have hcz53_9 : w52.cell? ⟨gb181, 9, none⟩ = some (.bool a0_9) := (blk_cell BK181.out 9).trans rfl; have hcz53_10 : w52.cell? ⟨gb181, 10, none⟩ = some (.int .i64 a0_10) := (blk_cell BK181.out 10).trans rfl; have hcz53_11 : w52.cell? ⟨gb181, 11, none⟩ = some (.int .i64 a0_11) := (blk_cell BK181.out 11).trans rfl; have hcz53_12 : w52.cell? ⟨gb181, 12, none⟩ = some (.slice A0_12 l0_12.length c0_12) := (blk_cell BK181.out 12).trans rfl; have hcz53_13 : w52.cell? ⟨gb181, 13, none⟩ = some (.slice A0_13 l0_13.length c0_13) := (blk_cell BK181.out 13).trans rfl; have hcz53_14 : w52.cell? ⟨gb181, 14, none⟩ = some (.slice A0_14 l0_14.length c0_14) := (blk_cell BK181.out 14).trans rfl; have hfz53_0 := blk_frozen BK181.out 0; have hfz53_1 := blk_frozen BK181.out 1; have hfz53_2 := blk_frozen BK181.out 2; have hfz53_3 := blk_frozen BK181.out 3; have hfz53_4 := blk_frozen BK181.out 4; have hfz53_5 := blk_frozen BK181.out 5; have hfz53_6 := blk_frozen BK181.out 6; have hfz53_7 := blk_frozen BK181.out 7; have hfz53_8 := blk_frozen BK181.out 8; have hfz53_9 := blk_frozen BK181.out 9; have hfz53_10 := blk_frozen BK181.out 10; have hfz53_11 := blk_frozen BK181.out 11; have hfz53_12 := blk_frozen BK181.out 12; have hfz53_13 := blk_frozen BK181.out 13; have hfz53_14 := blk_frozen BK181.out 14) | (go_at_call 54; (with_reducible refine (vokref17_within.calls a0_1 15 false _ A4.out).mono ?_); rintro e w' ⟨rfl, ⟨nd, rfl⟩⟩))
        go_ret
        exact ⟨by first | rfl | (simp [errW_none, errW_some] <;> rfl) | (simp [*, errW_none, errW_some] <;> rfl), by repeat (first | (with_reducible first | exact HB.out | apply below_alloc | apply pw_below_drewN | apply below_drew1 | refine below_set ?_ GE181.out) | exact HB.out)⟩
    · rw [if_neg c3] at H
      have c3b0 : decide (a0_0 ≤ 8) = false := decide_eq_false c3
      clear c3
      obtain rfl := Option.some.inj H
      go_enter Try.func29, Try.ntmps29
      go_wp2_with (first | ((with_reducible refine gate_dst (N := 1) rfl ?_); (try (refine gate_guard (by rfl) ?_; dsimp only)); refine box_event ?hg (N := 1) ?hd (cs := #[.int .i64 a0_0, .int .i64 a0_1, .int .i64 a0_2, .int .i64 a0_3, .int .i64 a0_4, .int .i64 a0_5, .int .i64 a0_6, .int .i64 a0_7, .int .i64 a0_8, .bool a0_9, .int .i64 a0_10, .int .i64 a0_11, .slice A0_12 l0_12.length c0_12, .slice A0_13 l0_13.length c0_13, .slice A0_14 l0_14.length c0_14]) (t := 43) ?hr ?_; (case hd => rfl); (case hg => rfl); (case hr => first | (go_simp; done) | (go_simp; rfl)); intro gb181 hg w54 hbox hb; have n0_ := Aside0.mk (below_step (by repeat (first | (with_reducible first | exact HB.out | apply below_alloc | apply pw_below_drewN | apply below_drew1) | exact HB.out)) hb); have n1_ := Aside0.mk (hbox); have n2_ := Aside0.mk ((by rw [hg]; exact (below_size (by repeat (first | (with_reducible first | exact HB.out | apply below_alloc | apply pw_below_drewN | apply below_drew1) | exact HB.out))) : w.heap.size ≤ gb181)); have n3_ := Aside0.mk ((by rw [hg]; exact (below_size (by repeat (first | (with_reducible first | exact HB.out | apply below_alloc | apply pw_below_drewN | apply below_drew1) | exact HB.out))) : w.heap.size ≤ gb181)); clear HB; have HB := n0_; have BK181 := n1_; have GW181 := n2_; have GE181 := n3_; clear n0_ n1_ n2_ n3_; clear hb hbox hg; have hcz55_0 : w54.cell? ⟨gb181, 0, none⟩ = some (.int .i64 a0_0) := (blk_cell BK181.out 0).trans rfl; have hcz55_1 : w54.cell? ⟨gb181, 1, none⟩ = some (.int .i64 a0_1) := (blk_cell BK181.out 1).trans rfl; have hcz55_2 : w54.cell? ⟨gb181, 2, none⟩ = some (.int .i64 a0_2) := (blk_cell BK181.out 2).trans rfl; have hcz55_3 : w54.cell? ⟨gb181, 3, none⟩ = some (.int .i64 a0_3) := (blk_cell BK181.out 3).trans rfl; have hcz55_4 : w54.cell? ⟨gb181, 4, none⟩ = some (.int .i64 a0_4) := (blk_cell BK181.out 4).trans rfl; have hcz55_5 : w54.cell? ⟨gb181, 5, none⟩ = some (.int .i64 a0_5) := (blk_cell BK181.out 5).trans rfl; have hcz55_6 : w54.cell? ⟨gb181, 6, none⟩ = some (.int .i64 a0_6) := (blk_cell BK181.out 6).trans rfl; have hcz55_7 : w54.cell? ⟨gb181, 7, none⟩ = some (.int .i64 a0_7) := (blk_cell BK181.out 7).trans rfl; have hcz55_8 : w54.cell? ⟨gb181, 8, none⟩ = some (.int .i64 a0_8) := (blk_cell BK181.out 8).trans rfl; have hcz55_9 : w54.cell? ⟨gb181, 9, none⟩ = some (.bool a0_9) := (blk_cell BK181.out 9).trans rfl; have hcz55_10 : w54.cell? ⟨gb181, 10, none⟩ = some (.int .i64 a0_10) := (blk_cell BK181.out 10).trans rfl; have hcz55_11 : w54.cell? ⟨gb181, 11, none⟩ = some (.int .i64 a0_11) := (blk_cell BK181.out 11).trans rfl; have hcz55_12 : w54.cell? ⟨gb181, 12, none⟩ = some (.slice A0_12 l0_12.length c0_12) := (blk_cell BK181.out 12).trans rfl; have hcz55_13 : w54.cell? ⟨gb181, 13, none⟩ = some (.slice A0_13 l0_13.length c0_13) := (blk_cell BK181.out 13).trans rfl; have hcz55_14 : w54.cell? ⟨gb181, 14, none⟩ = some (.slice A0_14 l0_14.length c0_14) := (blk_cell BK181.out 14).trans rfl; have hfz55_0 := blk_frozen BK181.out 0; have hfz55_1 := blk_frozen BK181.out 1; have hfz55_2 := blk_frozen BK181.out 2; have hfz55_3 := blk_frozen BK181.out 3; have hfz55_4 := blk_frozen BK181.out 4; have hfz55_5 := blk_frozen BK181.out 5; have hfz55_6 := blk_frozen BK181.out 6; have hfz55_7 := blk_frozen BK181.out 7; have hfz55_8 := blk_frozen BK181.out 8; have hfz55_9 := blk_frozen BK181.out 9; have hfz55_10 := blk_frozen BK181.out 10; have hfz55_11 := blk_frozen BK181.out 11; have hfz55_12 := blk_frozen BK181.out 12; have hfz55_13 := blk_frozen BK181.out 13; have hfz55_14 := blk_frozen BK181.out 14))
      go_ret
      exact ⟨by first | rfl | (simp [errW_none, errW_some] <;> rfl) | (simp [*, errW_none, errW_some] <;> rfl), by repeat (first | (with_reducible first | exact HB.out | apply below_alloc | apply pw_below_drewN | apply below_drew1 | refine below_set ?_ GE181.out) | exact HB.out)⟩
  · rw [if_neg c2] at H
    have c2b0 : decide (1 ≤ a0_0) = false := decide_eq_false c2
    clear c2
    obtain rfl := Option.some.inj H
    go_enter Try.func29, Try.ntmps29
    go_wp2_with (first | ((with_reducible refine gate_dst (N := 1) rfl ?_); (try (refine gate_guard (by rfl) ?_; dsimp only)); refine box_event ?hg (N := 1) ?hd (cs := #[.int .i64 a0_0, .int .i64 a0_1, .int .i64 a0_2, .int .i64 a0_3, .int .i64 a0_4, .int .i64 a0_5, .int .i64 a0_6, .int .i64 a0_7, .int .i64 a0_8, .bool a0_9, .int .i64 a0_10, .int .i64 a0_11, .slice A0_12 l0_12.length c0_12, .slice A0_13 l0_13.length c0_13, .slice A0_14 l0_14.length c0_14]) (t := 43) ?hr ?_; (case hd => rfl); (case hg => rfl); (case hr => first | (go_simp; done) | (go_simp; rfl)); intro gb181 hg w56 hbox hb; have n0_ := Aside0.mk (below_step (by repeat (first | (with_reducible first | exact HB.out | apply below_alloc | apply pw_below_drewN | apply below_drew1) | exact HB.out)) hb); have n1_ := Aside0.mk (hbox); have n2_ := Aside0.mk ((by rw [hg]; exact (below_size (by repeat (first | (with_reducible first | exact HB.out | apply below_alloc | apply pw_below_drewN | apply below_drew1) | exact HB.out))) : w.heap.size ≤ gb181)); have n3_ := Aside0.mk ((by rw [hg]; exact (below_size (by repeat (first | (with_reducible first | exact HB.out | apply below_alloc | apply pw_below_drewN | apply below_drew1) | exact HB.out))) : w.heap.size ≤ gb181)); clear HB; have HB := n0_; have BK181 := n1_; have GW181 := n2_; have GE181 := n3_; clear n0_ n1_ n2_ n3_; clear hb hbox hg; have hcz57_0 : w56.cell? ⟨gb181, 0, none⟩ = some (.int .i64 a0_0) := (blk_cell BK181.out 0).trans rfl; have hcz57_1 : w56.cell? ⟨gb181, 1, none⟩ = some (.int .i64 a0_1) := (blk_cell BK181.out 1).trans rfl; have hcz57_2 : w56.cell? ⟨gb181, 2, none⟩ = some (.int .i64 a0_2) := (blk_cell BK181.out 2).trans rfl; have hcz57_3 : w56.cell? ⟨gb181, 3, none⟩ = some (.int .i64 a0_3) := (blk_cell BK181.out 3).trans rfl; have hcz57_4 : w56.cell? ⟨gb181, 4, none⟩ = some (.int .i64 a0_4) := (blk_cell BK181.out 4).trans rfl; have hcz57_5 : w56.cell? ⟨gb181, 5, none⟩ = some (.int .i64 a0_5) := (blk_cell BK181.out 5).trans rfl; have hcz57_6 : w56.cell? ⟨gb181, 6, none⟩ = some (.int .i64 a0_6) := (blk_cell BK181.out 6).trans rfl; have hcz57_7 : w56.cell? ⟨gb181, 7, none⟩ = some (.int .i64 a0_7) := (blk_cell BK181.out 7).trans rfl; have hcz57_8 : w56.cell? ⟨gb181, 8, none⟩ = some (.int .i64 a0_8) := (blk_cell BK181.out 8).trans rfl; have hcz57_9 : w56.cell? ⟨gb181, 9, none⟩ = some (.bool a0_9) := (blk_cell BK181.out 9).trans rfl; have hcz57_10 : w56.cell? ⟨gb181, 10, none⟩ = some (.int .i64 a0_10) := (blk_cell BK181.out 10).trans rfl; have hcz57_11 : w56.cell? ⟨gb181, 11, none⟩ = some (.int .i64 a0_11) := (blk_cell BK181.out 11).trans rfl; have hcz57_12 : w56.cell? ⟨gb181, 12, none⟩ = some (.slice A0_12 l0_12.length c0_12) := (blk_cell BK181.out 12).trans rfl; have hcz57_13 : w56.cell? ⟨gb181, 13, none⟩ = some (.slice A0_13 l0_13.length c0_13) := (blk_cell BK181.out 13).trans rfl; have hcz57_14 : w56.cell? ⟨gb181, 14, none⟩ = some (.slice A0_14 l0_14.length c0_14) := (blk_cell BK181.out 14).trans rfl; have hfz57_0 := blk_frozen BK181.out 0; have hfz57_1 := blk_frozen BK181.out 1; have hfz57_2 := blk_frozen BK181.out 2; have hfz57_3 := blk_frozen BK181.out 3; have hfz57_4 := blk_frozen BK181.out 4; have hfz57_5 := blk_frozen BK181.out 5; have hfz57_6 := blk_frozen BK181.out 6; have hfz57_7 := blk_frozen BK181.out 7; have hfz57_8 := blk_frozen BK181.out 8; have hfz57_9 := blk_frozen BK181.out 9; have hfz57_10 := blk_frozen BK181.out 10; have hfz57_11 := blk_frozen BK181.out 11; have hfz57_12 := blk_frozen BK181.out 12; have hfz57_13 := blk_frozen BK181.out 13; have hfz57_14 := blk_frozen BK181.out 14))
    go_ret
    exact ⟨by first | rfl | (simp [errW_none, errW_some] <;> rfl) | (simp [*, errW_none, errW_some] <;> rfl), by repeat (first | (with_reducible first | exact HB.out | apply below_alloc | apply pw_below_drewN | apply below_drew1 | refine below_set ?_ GE181.out) | exact HB.out)⟩

/-! ### vokref10_Be: function 61 -/
def vokref10_Be.l0 : Nat → Int → List Int → Int → Option (List Int)
  | 0, _, _, _ => none
  | k + 1, x1, x5, x6 => if x6 ≥ 0 then (if 0 ≤ (IntKind.u64.wrap (wrap64 (8 * x6))) then (if x5.length < 140737488355328 then (vokref10_Be.l0 k x1 (x5 ++ [(shr .i64 x1 (IntKind.u64.wrap (wrap64 (8 * x6)))) % 256]) (wrap64 (x6 - 1))) else (none)) else (none)) else (some x5)
def vokref10_Be.f (k : Nat) (a0 : Int) (a1 : Int) : Option (List Int) := vokref10_Be.l0 k a1 ([] : List Int) (wrap64 (a0 - 1))
theorem vokref10_Be.mono_l : ∀ k, (∀ y0 y1 y2, LeO (vokref10_Be.l0 k y0 y1 y2) (vokref10_Be.l0 (k + 1) y0 y1 y2))
  | 0 => fun _ _ _ r h => by simp [vokref10_Be.l0] at h
  | k + 1 => by
    have ih0 := vokref10_Be.mono_l k
    · intro y0 y1 y2
      unfold vokref10_Be.l0
      repeat' first
      | (with_reducible exact ih0 _ _ _)
      | (with_reducible exact LeO.refl _)
      | (with_reducible exact LeO.none _)
      | (with_reducible refine LeO.ite ?_ ?_)
      | (with_reducible refine LeO.bind ?_ (fun _ => ?_))
      | exact ih0 _ _ _
      | exact LeO.none _
      | refine LeO.ite ?_ ?_
      | refine LeO.bind ?_ (fun _ => ?_)
theorem vokref10_Be.mono : ∀ a0 a1 k, LeO (vokref10_Be.f k a0 a1) (vokref10_Be.f (k + 1) a0 a1) := by
  intro a0 a1 k
  have ih0 := vokref10_Be.mono_l k
  unfold vokref10_Be.f
  repeat' first
      | (with_reducible exact ih0 _ _ _)
      | (with_reducible exact LeO.refl _)
      | (with_reducible exact LeO.none _)
      | (with_reducible refine LeO.ite ?_ ?_)
      | (with_reducible refine LeO.bind ?_ (fun _ => ?_))
      | exact ih0 _ _ _
      | exact LeO.none _
      | refine LeO.ite ?_ ?_
      | refine LeO.bind ?_ (fun _ => ?_)
set_option maxHeartbeats 8000000 in
set_option maxRecDepth 100000 in
theorem vokref10_Be.calls (k : Nat) (a0 : Int) (a1 : Int) (r : List Int) (w : World) (h : vokref10_Be.f k a0 a1 = some r) :
    Calls Try.prog 61 #[.int .i64 a0, .int .i64 a1] w fun e w' => ∃ v0_ : Value, e = .returned (v0_) ∧ Kd.R (Kd.int .u8) 5 w' w.heap.size (fun _ => True) v0_ r ∧ Below w.heap.size w w' := by
  have HB := Aside0.mk (Below.refl w.heap.size w)
  have H : (vokref10_Be.l0 k a1 ([] : List Int) (wrap64 (a0 - 1))) = some r := h
  clear h
  have H' := Aside0.mk H
  clear H
  go_enter Try.func61, Try.ntmps61
  go_wp2
  go_loopg [5, 6] k (fun kq v5 v6 w' => ∃ (x5_1 : List Int) (x6_1 : Int), v6 = .int .i64 x6_1 ∧ Aside0 (vokref10_Be.l0 kq a1 x5_1 x6_1 = some r) ∧ Aside0 (kq ≤ k) ∧ Aside0 (Kd.R (Kd.int .u8) 5 w' w.heap.size (fun _ => True) v5 x5_1) ∧ Aside0 (Below w.heap.size w w'))
  case atStart => exact ⟨(([] : List Int)), (wrap64 (a0 - 1)), (by first | rfl | (simp; done) | (simp [*]; done)), H', ⟨Nat.le_refl _⟩, ⟨by first | exact Kd.R_nil _ _ _ _ _ | exact Kd.N_nil _ _ _ _ _ | exact Kd.V_nil _ _ _ _ _ | exact Kd.Q_nil _ _ _ _ _ | exact Kd.S_nil _ _ _ _ _⟩, ⟨by repeat (first | (with_reducible first | exact HB.out | apply below_alloc | apply pw_below_drewN | apply below_drew1) | exact HB.out)⟩⟩
  case round =>
    clear H'
    try clear p2
    obtain ⟨x5_1, x6_1, rfl, HA, HK1, HO_5, HB⟩ := hrel
    cases gk with
    | zero => exact absurd HA.out (by simp [vokref10_Be.l0])
    | succ k1 =>
      have H := HA.out
      clear HA
      simp only [vokref10_Be.l0] at H
      by_cases c3 : x6_1 ≥ 0
      · rw [if_pos c3] at H
        have c3b0 : decide (0 ≤ x6_1) = true := decide_eq_true c3
        clear c3
        obtain ⟨ji4, hji4⟩ : ∃ j_ : Int, (IntKind.u64.wrap (wrap64 (8 * x6_1))) = j_ := ⟨_, rfl⟩
        replace H : (if 0 ≤ (ji4) then (if x5_1.length < 140737488355328 then (vokref10_Be.l0 k1 a1 (x5_1 ++ [(shr .i64 a1 (ji4)) % 256]) (wrap64 (x6_1 - 1))) else (none)) else (none)) = some r := by first | (rw [hji4] at H; exact H) | (simp only [hji4] at H ⊢; exact H)
        by_cases c5 : 0 ≤ (ji4)
        · rw [if_pos c5] at H
          have c5b0 := eq_true c5
          have c5b1 : decide (0 ≤ (ji4)) = true := decide_eq_true c5
          clear c5
          obtain ⟨ji6, hji6⟩ : ∃ j_ : Int, (shr .i64 a1 (ji4)) = j_ := ⟨_, rfl⟩
          replace H : (if x5_1.length < 140737488355328 then (vokref10_Be.l0 k1 a1 (x5_1 ++ [(ji6) % 256]) (wrap64 (x6_1 - 1))) else (none)) = some r := by first | (rw [hji6] at H; exact H) | (simp only [hji6] at H ⊢; exact H)
          have hji6_ : (a1 / 2 ^ min (ji4).toNat 64) = ji6 := hji6
          have hji6z : (ji4) ≤ 64 → (a1 / 2 ^ (ji4).toNat) = ji6 := shr_small hji6
          by_cases c7 : x5_1.length < 140737488355328
          · rw [if_pos c7] at H
            have LMc7 := Aside0.mk c7
            clear c7
            obtain ⟨y194, hy194⟩ : ∃ y_ : List Int, y_ = (x5_1 ++ [(ji6) % 256]) := ⟨_, rfl⟩
            replace H : (vokref10_Be.l0 k1 a1 y194 (wrap64 (x6_1 - 1))) = some r := by first | (rw [hy194]; with_reducible exact H) | (have H2_ := (Option.bind_some _ _).symm.trans H; rw [hy194]; with_reducible exact H2_) | (have H2_ := (Option.bind_some _ _).symm.trans H; with_reducible exact H2_) | with_reducible exact H | (rw [hy194]; exact H) | exact H
            have Ny194 := Aside0.mk hy194
            clear hy194
            have H' := Aside0.mk H
            clear H
            go_wp2_with (first | ((with_reducible refine gate_builtin (b := .append) (xs := #[.tmp 13, .tmp 20]) rfl ?_); at_builtin; refine Kd.R_append (Kd.int .u8) (w0 := w) w.heap.size rfl (.tmp 13) (.tmp 20) 25 5 (.int .u8 0) 1 rfl Try.underlying25 info5 rfl (by decide) (by omega) u5 x5_1 ((ji6) % 256) [.int .u8 ((ji6) % 256)] (fun _ => True) (fun _ => False) rfl rfl ?aP (fun _ hk => hk.elim) ?aF ?aO ?aB ?aS ?aL ?_; (case aP => exact rfl); (case aB => exact (by repeat (first | (with_reducible first | exact HB.out | apply below_alloc | apply pw_below_drewN | apply below_drew1) | exact HB.out))); (case aF => exact (fun _ _ => trivial)); (case aO => exact (by (with_reducible repeat (first | apply Kd.R_alloc | apply Kd.R_drewN | apply Kd.R_drew)); exact HO_5.out)); (case aS => exact (below_size (by repeat (first | (with_reducible first | exact HB.out | apply below_alloc | apply pw_below_drewN | apply below_drew1) | exact HB.out)))); (case aL => have := LMc7.out; omega); intro v195 w8 ho hb hg hat; rw [← Ny194.out] at ho; have n0_ := Aside0.mk (hb); have n1_ := Aside0.mk (ho); clear HB; clear HO_5; have HB := n0_; have HO196 := n1_; clear n0_ n1_; clear ho hb hg hat))
            go_roundg k1
            case measure => have := HK1.out; omega
            case rel => exact ⟨(y194), (wrap64 (x6_1 - 1)), (by first | rfl | (simp; done) | (simp [*]; done)), H', ⟨by have := HK1.out; omega⟩, ⟨by (with_reducible repeat (first | apply Kd.R_alloc | apply Kd.R_drewN | apply Kd.R_drew)); exact HO196.out⟩, ⟨by repeat (first | (with_reducible first | exact HB.out | apply below_alloc | apply pw_below_drewN | apply below_drew1) | exact HB.out)⟩⟩
          · rw [if_neg c7] at H
            exact absurd H (by simp)
        · rw [if_neg c5] at H
          exact absurd H (by simp)
      · rw [if_neg c3] at H
        have c3b0 : decide (0 ≤ x6_1) = false := decide_eq_false c3
        clear c3
        obtain rfl := Option.some.inj H
        go_wp2
        go_ret
        exact ⟨_, by first | rfl | (simp [errW_none, errW_some] <;> rfl) | (simp [*, errW_none, errW_some] <;> rfl), by (with_reducible repeat (first | apply Kd.R_alloc | apply Kd.R_drewN | apply Kd.R_drew)); exact HO_5.out, by repeat (first | (with_reducible first | exact HB.out | apply below_alloc | apply pw_below_drewN | apply below_drew1) | exact HB.out)⟩

end Go.Proofs.Ytleljfmhefobeaa.GK
