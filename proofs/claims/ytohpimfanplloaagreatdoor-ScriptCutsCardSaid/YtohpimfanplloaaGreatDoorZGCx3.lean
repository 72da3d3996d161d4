-- laid by a program of this session (print_proof, changed for laws over structs) (packed)
import Derived.Test.YtohpimfanplloaaGreatDoorZTextC
import Derived.Test.YtohpimfanplloaaGreatDoorZGCExt
import Derived.Test.YtohpimfanplloaaGreatDoorZGCx0
import Derived.Test.YtohpimfanplloaaGreatDoorZGCx2
namespace Go.Proofs.YtohpimfanplloaaGreatDoor.GC
open Go.RowKit Go.Proofs.YtohpimfanplloaaGreatDoorW.PrintWords Go.Proofs.YtohpimfanplloaaGreatDoorW.PrintLast Go.Proofs.YtohpimfanplloaaGreatDoorW.PrintMore
attribute [local go_sem] max2_int min2_int max_two min_two max_three min_three max_four min_four   -- for this text's walks alone
set_option linter.unusedVariables false
set_option linter.unusedSimpArgs false

/-! ### script_some: function 36 -/
def script_some.l0 : Nat → Int → List Int → Int → Option (List Int)
 | 0, _, _, _ => none
 | k + 1, x0, x3, x5 => if x5 < 4 then (if (Int.tmod x0 16) = 0 then (if x3.length < 17592186044416 then (script_some.l0 k x0 (x3 ++ [x5]) (wrap64 (x5 + 1))) else (none)) else (if 0 ≤ x5 then (if (Go.bits .and .i64 (shr .i64 x0 x5) 1) = 1 then (if x3.length < 17592186044416 then (script_some.l0 k x0 (x3 ++ [x5]) (wrap64 (x5 + 1))) else (none)) else (script_some.l0 k x0 x3 (wrap64 (x5 + 1)))) else (none))) else (some x3)
def script_some.f (k : Nat) (a0 : Int) : Option (List Int) := script_some.l0 k a0 ([] : List Int) 0
theorem script_some.mono_l : ∀ k, (∀ y0 y1 y2, LeO (script_some.l0 k y0 y1 y2) (script_some.l0 (k + 1) y0 y1 y2))
 | 0 => fun _ _ _ r h => by simp [script_some.l0] at h
 | k + 1 => by
  have ih0 := script_some.mono_l k
  ·intro y0 y1 y2
   unfold script_some.l0
   repeat' first
   | (with_reducible exact ih0 _ _ _)
   | (with_reducible exact LeO.refl _)
   | (with_reducible exact LeO.none _)
   | (with_reducible refine LeO.ite ?_ ?_)
   | (with_reducible refine LeO.bind ?_ (fun _ => ?_))
   | exact ih0 _ _ _
   | exact LeO.none _
   | refine LeO.ite ?_ ?_
   | refine LeO.bind ?_ (fun _ => ?_)
theorem script_some.mono : ∀ a0 k, LeO (script_some.f k a0) (script_some.f (k + 1) a0) := by
 intro a0 k
 have ih0 := script_some.mono_l k
 unfold script_some.f
 repeat' first
   | (with_reducible exact ih0 _ _ _)
   | (with_reducible exact LeO.refl _)
   | (with_reducible exact LeO.none _)
   | (with_reducible refine LeO.ite ?_ ?_)
   | (with_reducible refine LeO.bind ?_ (fun _ => ?_))
   | exact ih0 _ _ _
   | exact LeO.none _
   | refine LeO.ite ?_ ?_
   | refine LeO.bind ?_ (fun _ => ?_)
set_option maxHeartbeats 8000000 in
set_option maxRecDepth 100000 in
theorem script_some.calls (k : Nat) (a0 : Int) (r : List Int) (w : World) (h : script_some.f k a0 = some r) :
  Calls Tryz.prog 36 #[.int .i64 a0] w fun e w' => ∃ v0_ : Value, e = .returned (v0_) ∧ Kd.R (Kd.int .i64) 3 w' w.heap.size (fun _ => True) v0_ r ∧ Below w.heap.size w w' := by
 have HB := Aside0.mk (Below.refl w.heap.size w)
 have H : (script_some.l0 k a0 ([] : List Int) 0) = some r := h
 clear h
 have H' := Aside0.mk H
 clear H
 go_enter Tryz.func36, Tryz.ntmps36
 go_wp2
 go_loopg [3, 5] k (fun kq v3 v5 w' => ∃ (x3_1 : List Int) (x5_1 : Int), v5 = .int .i64 x5_1 ∧ Aside0 (script_some.l0 kq a0 x3_1 x5_1 = some r) ∧ Aside0 (kq ≤ k) ∧ Aside0 (Kd.R (Kd.int .i64) 3 w' w.heap.size (fun _ => True) v3 x3_1) ∧ Aside0 (Below w.heap.size w w'))
 case atStart => exact ⟨(([] : List Int)), (0), (by first | rfl | (simp; done) | (simp [*]; done)), H', ⟨Nat.le_refl _⟩, ⟨by first | exact Kd.R_nil _ _ _ _ _ | exact Kd.N_nil _ _ _ _ _ | exact Kd.V_nil _ _ _ _ _ | exact Kd.Q_nil _ _ _ _ _ | exact Kd.S_nil _ _ _ _ _⟩, ⟨by repeat (first | (with_reducible first | exact HB.out | apply below_alloc | apply pw_below_drewN | apply below_drew1) | exact HB.out)⟩⟩
 case round =>
  clear H'
  obtain ⟨x3_1, x5_1, rfl, HA, HK1, HO_3, HB⟩ := hrel
  cases gk with
  | zero => exact absurd HA.out (by simp [script_some.l0])
  | succ k1 =>
   have H := HA.out
   clear HA
   simp only [script_some.l0] at H
   by_cases c2 : x5_1 < 4
   ·rw [if_pos c2] at H
    have c2b0 : decide (x5_1 < 4) = true := decide_eq_true c2
    clear c2
    by_cases c3 : (Int.tmod a0 16) = 0
    ·rw [if_pos c3] at H
     have c3b0 : ((Int.tmod a0 16) == 0) = true := beq_iff_eq.mpr c3
     have c3b1 : ((Int.tmod a0 16) != 0) = false := bne_eq_false_iff_eq.mpr c3
     clear c3
     by_cases c4 : x3_1.length < 17592186044416
     ·rw [if_pos c4] at H
      have LMc4 := Aside0.mk c4
      clear c4
      obtain ⟨y162, hy162⟩ : ∃ y_ : List Int, y_ = (x3_1 ++ [x5_1]) := ⟨_, rfl⟩
      replace H : (script_some.l0 k1 a0 y162 (wrap64 (x5_1 + 1))) = some r := by first | (rw [hy162]; with_reducible exact H) | (have H2_ := (Option.bind_some _ _).symm.trans H; rw [hy162]; with_reducible exact H2_) | (have H2_ := (Option.bind_some _ _).symm.trans H; with_reducible exact H2_) | with_reducible exact H | (rw [hy162]; exact H) | exact H
      have Ny162 := Aside0.mk hy162
      clear hy162
      have H' := Aside0.mk H
      clear H
      go_wp2_with (first | ((with_reducible refine gate_builtin (b := .append) (xs := #[.tmp 18, .tmp 20]) rfl ?_); at_builtin; refine Kd.R_append (Kd.int .i64) (w0 := w) w.heap.size rfl (.tmp 18) (.tmp 20) 34 3 (.int .i64 0) 8 rfl Tryz.underlying34 info3 rfl (by decide) (by omega) u3 x3_1 x5_1 [.int .i64 x5_1] (fun _ => True) (fun _ => False) rfl rfl ?aP (fun _ hk => hk.elim) ?aF ?aO ?aB ?aS ?aL ?_; (case aP => exact rfl); (case aB => exact (by repeat (first | (with_reducible first | exact HB.out | apply below_alloc | apply pw_below_drewN | apply below_drew1) | exact HB.out))); (case aF => exact (fun _ _ => trivial)); (case aO => exact (by (with_reducible repeat (first | apply Kd.R_alloc | apply Kd.R_drewN | apply Kd.R_drew)); exact HO_3.out)); (case aS => exact (below_size (by repeat (first | (with_reducible first | exact HB.out | apply below_alloc | apply pw_below_drewN | apply below_drew1) | exact HB.out)))); (case aL => have := LMc4.out; omega); intro v163 w5 ho hb hg hat; rw [← Ny162.out] at ho; have n0_ := Aside0.mk (hb); have n1_ := Aside0.mk (ho); clear HB; clear HO_3; have HB := n0_; have HO164 := n1_; clear n0_ n1_; clear ho hb hg hat))
      go_roundg k1
      case measure => have := HK1.out; omega
      case rel => exact ⟨(y162), (wrap64 (x5_1 + 1)), (by first | rfl | (simp; done) | (simp [*]; done)), H', ⟨by have := HK1.out; omega⟩, ⟨by (with_reducible repeat (first | apply Kd.R_alloc | apply Kd.R_drewN | apply Kd.R_drew)); exact HO164.out⟩, ⟨by repeat (first | (with_reducible first | exact HB.out | apply below_alloc | apply pw_below_drewN | apply below_drew1) | exact HB.out)⟩⟩
     ·rw [if_neg c4] at H
      exact absurd H (by simp)
    ·rw [if_neg c3] at H
     have c3b0 : ((Int.tmod a0 16) == 0) = false := beq_eq_false_iff_ne.mpr c3
     have c3b1 : ((Int.tmod a0 16) != 0) = true := bne_iff_ne.mpr c3
     by_cases c6 : 0 ≤ x5_1
     ·rw [if_pos c6] at H
      have c6b0 := eq_true c6
      have c6b1 : decide (0 ≤ x5_1) = true := decide_eq_true c6
      clear c6
      obtain ⟨ji7, hji7⟩ : ∃ j_ : Int, (shr .i64 a0 x5_1) = j_ := ⟨_, rfl⟩
      replace H : (if (Go.bits .and .i64 (ji7) 1) = 1 then (if x3_1.length < 17592186044416 then (script_some.l0 k1 a0 (x3_1 ++ [x5_1]) (wrap64 (x5_1 + 1))) else (none)) else (script_some.l0 k1 a0 x3_1 (wrap64 (x5_1 + 1)))) = some r := by first | (rw [hji7] at H; exact H) | (simp only [hji7] at H ⊢; exact H)
      have hji7_ : (a0 / 2 ^ min x5_1.toNat 64) = ji7 := hji7
      have hji7z : x5_1 ≤ 64 → (a0 / 2 ^ x5_1.toNat) = ji7 := shr_small hji7
      by_cases c8 : (Go.bits .and .i64 (ji7) 1) = 1
      ·rw [if_pos c8] at H
       have c8b0 : ((Go.bits .and .i64 (ji7) 1) == 1) = true := beq_iff_eq.mpr c8
       have c8b1 : ((Go.bits .and .i64 (ji7) 1) != 1) = false := bne_eq_false_iff_eq.mpr c8
       clear c8
       by_cases c9 : x3_1.length < 17592186044416
       ·rw [if_pos c9] at H
        have LMc9 := Aside0.mk c9
        clear c9
        obtain ⟨y165, hy165⟩ : ∃ y_ : List Int, y_ = (x3_1 ++ [x5_1]) := ⟨_, rfl⟩
        replace H : (script_some.l0 k1 a0 y165 (wrap64 (x5_1 + 1))) = some r := by first | (rw [hy165]; with_reducible exact H) | (have H2_ := (Option.bind_some _ _).symm.trans H; rw [hy165]; with_reducible exact H2_) | (have H2_ := (Option.bind_some _ _).symm.trans H; with_reducible exact H2_) | with_reducible exact H | (rw [hy165]; exact H) | exact H
        have Ny165 := Aside0.mk hy165
        clear hy165
        have H' := Aside0.mk H
        clear H
        go_wp2_with (first | ((with_reducible refine gate_builtin (b := .append) (xs := #[.tmp 18, .tmp 20]) rfl ?_); at_builtin; refine Kd.R_append (Kd.int .i64) (w0 := w) w.heap.size rfl (.tmp 18) (.tmp 20) 34 3 (.int .i64 0) 8 rfl Tryz.underlying34 info3 rfl (by decide) (by omega) u3 x3_1 x5_1 [.int .i64 x5_1] (fun _ => True) (fun _ => False) rfl rfl ?aP (fun _ hk => hk.elim) ?aF ?aO ?aB ?aS ?aL ?_; (case aP => exact rfl); (case aB => exact (by repeat (first | (with_reducible first | exact HB.out | apply below_alloc | apply pw_below_drewN | apply below_drew1) | exact HB.out))); (case aF => exact (fun _ _ => trivial)); (case aO => exact (by (with_reducible repeat (first | apply Kd.R_alloc | apply Kd.R_drewN | apply Kd.R_drew)); exact HO_3.out)); (case aS => exact (below_size (by repeat (first | (with_reducible first | exact HB.out | apply below_alloc | apply pw_below_drewN | apply below_drew1) | exact HB.out)))); (case aL => have := LMc9.out; omega); intro v166 w10 ho hb hg hat; rw [← Ny165.out] at ho; have n0_ := Aside0.mk (hb); have n1_ := Aside0.mk (ho); clear HB; clear HO_3; have HB := n0_; have HO167 := n1_; clear n0_ n1_; clear ho hb hg hat))
        go_roundg k1
        case measure => have := HK1.out; omega
        case rel => exact ⟨(y165), (wrap64 (x5_1 + 1)), (by first | rfl | (simp; done) | (simp [*]; done)), H', ⟨by have := HK1.out; omega⟩, ⟨by (with_reducible repeat (first | apply Kd.R_alloc | apply Kd.R_drewN | apply Kd.R_drew)); exact HO167.out⟩, ⟨by repeat (first | (with_reducible first | exact HB.out | apply below_alloc | apply pw_below_drewN | apply below_drew1) | exact HB.out)⟩⟩
       ·rw [if_neg c9] at H
        exact absurd H (by simp)
      ·rw [if_neg c8] at H
       have c8b0 : ((Go.bits .and .i64 (ji7) 1) == 1) = false := beq_eq_false_iff_ne.mpr c8
       have c8b1 : ((Go.bits .and .i64 (ji7) 1) != 1) = true := bne_iff_ne.mpr c8
       have H' := Aside0.mk H
       clear H
       go_wp2
       go_roundg k1
       case measure => have := HK1.out; omega
       case rel => exact ⟨(x3_1), (wrap64 (x5_1 + 1)), (by first | rfl | (simp; done) | (simp [*]; done)), H', ⟨by have := HK1.out; omega⟩, ⟨by (with_reducible repeat (first | apply Kd.R_alloc | apply Kd.R_drewN | apply Kd.R_drew)); exact HO_3.out⟩, ⟨by repeat (first | (with_reducible first | exact HB.out | apply below_alloc | apply pw_below_drewN | apply below_drew1) | exact HB.out)⟩⟩
     ·rw [if_neg c6] at H
      exact absurd H (by simp)
   ·rw [if_neg c2] at H
    have c2b0 : decide (x5_1 < 4) = false := decide_eq_false c2
    clear c2
    obtain rfl := Option.some.inj H
    go_wp2
    go_ret
    exact ⟨_, by first | rfl | (simp [errW_none, errW_some] <;> rfl) | (simp [*, errW_none, errW_some] <;> rfl), by (with_reducible repeat (first | apply Kd.R_alloc | apply Kd.R_drewN | apply Kd.R_drew)); exact HO_3.out, by repeat (first | (with_reducible first | exact HB.out | apply below_alloc | apply pw_below_drewN | apply below_drew1) | exact HB.out)⟩

end Go.Proofs.YtohpimfanplloaaGreatDoor.GC
