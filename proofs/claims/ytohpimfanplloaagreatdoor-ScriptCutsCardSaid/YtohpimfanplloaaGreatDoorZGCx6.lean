-- laid by a program of this session (print_proof, changed for laws over structs) (packed)
import Derived.Test.YtohpimfanplloaaGreatDoorZGCExt
import Derived.Test.YtohpimfanplloaaGreatDoorZGCx0
namespace Go.Proofs.YtohpimfanplloaaGreatDoor.GC
open Go.RowKit Go.Proofs.YtohpimfanplloaaGreatDoorW.PrintWords Go.Proofs.YtohpimfanplloaaGreatDoorW.PrintLast Go.Proofs.YtohpimfanplloaaGreatDoorW.PrintMore
attribute [local go_sem] max2_int min2_int max_two min_two max_three min_three max_four min_four   -- for this text's walks alone
set_option linter.unusedVariables false
set_option linter.unusedSimpArgs false

/-! ### script_words: function 33 -/
def script_words.f  : Option (List ByteArray) := some (([(⟨#[97, 115, 107]⟩ : ByteArray), (⟨#[100, 101, 108, 105, 118, 101, 114]⟩ : ByteArray), (⟨#[100, 114, 111, 112]⟩ : ByteArray), (⟨#[100, 111, 117, 98, 108, 101]⟩ : ByteArray), (⟨#[116, 105, 99, 107]⟩ : ByteArray), (⟨#[99, 114, 97, 115, 104]⟩ : ByteArray), (⟨#[115, 116, 97, 114, 116]⟩ : ByteArray), (⟨#[114, 111, 111, 109]⟩ : ByteArray)] : List ByteArray))
set_option maxHeartbeats 8000000 in
set_option maxRecDepth 100000 in
theorem script_words.calls  (r : List ByteArray) (w : World) (h : script_words.f  = some r) :
  Calls Tryz.prog 33 #[] w fun e w' => ∃ v0_ : Value, e = .returned (v0_) ∧ Kd.R Kd.string 9 w' w.heap.size (fun _ => True) v0_ r ∧ Below w.heap.size w w' := by
 have HB := Aside0.mk (Below.refl w.heap.size w)
 have H : (some (([(⟨#[97, 115, 107]⟩ : ByteArray), (⟨#[100, 101, 108, 105, 118, 101, 114]⟩ : ByteArray), (⟨#[100, 114, 111, 112]⟩ : ByteArray), (⟨#[100, 111, 117, 98, 108, 101]⟩ : ByteArray), (⟨#[116, 105, 99, 107]⟩ : ByteArray), (⟨#[99, 114, 97, 115, 104]⟩ : ByteArray), (⟨#[115, 116, 97, 114, 116]⟩ : ByteArray), (⟨#[114, 111, 111, 109]⟩ : ByteArray)] : List ByteArray))) = some r := h
 clear h
 obtain ⟨y212, hy212⟩ : ∃ y_ : List ByteArray, y_ = (([(⟨#[97, 115, 107]⟩ : ByteArray), (⟨#[100, 101, 108, 105, 118, 101, 114]⟩ : ByteArray), (⟨#[100, 114, 111, 112]⟩ : ByteArray), (⟨#[100, 111, 117, 98, 108, 101]⟩ : ByteArray), (⟨#[116, 105, 99, 107]⟩ : ByteArray), (⟨#[99, 114, 97, 115, 104]⟩ : ByteArray), (⟨#[115, 116, 97, 114, 116]⟩ : ByteArray), (⟨#[114, 111, 111, 109]⟩ : ByteArray)] : List ByteArray)) := ⟨_, rfl⟩
 replace H : (some y212) = some r := by first | (rw [hy212]; with_reducible exact H) | (have H2_ := (Option.bind_some _ _).symm.trans H; rw [hy212]; with_reducible exact H2_) | (have H2_ := (Option.bind_some _ _).symm.trans H; with_reducible exact H2_) | with_reducible exact H | (rw [hy212]; exact H) | exact H
 have Ny212 := Aside0.mk hy212
 clear hy212
 obtain rfl := Option.some.inj H
 go_enter Tryz.func33, Tryz.ntmps33
 go_wp2_with (first | ((with_reducible refine gate_dst (N := 1) rfl ?_); refine Kd.R_lit Kd.string _ 9 ?hg (N := 1) ?hd (xs := ([(⟨#[97, 115, 107]⟩ : ByteArray), (⟨#[100, 101, 108, 105, 118, 101, 114]⟩ : ByteArray), (⟨#[100, 114, 111, 112]⟩ : ByteArray), (⟨#[100, 111, 117, 98, 108, 101]⟩ : ByteArray), (⟨#[116, 105, 99, 107]⟩ : ByteArray), (⟨#[99, 114, 97, 115, 104]⟩ : ByteArray), (⟨#[115, 116, 97, 114, 116]⟩ : ByteArray), (⟨#[114, 111, 111, 109]⟩ : ByteArray)] : List ByteArray)) (inner := [.string (⟨#[97, 115, 107]⟩ : ByteArray), .string (⟨#[100, 101, 108, 105, 118, 101, 114]⟩ : ByteArray), .string (⟨#[100, 114, 111, 112]⟩ : ByteArray), .string (⟨#[100, 111, 117, 98, 108, 101]⟩ : ByteArray), .string (⟨#[116, 105, 99, 107]⟩ : ByteArray), .string (⟨#[99, 114, 97, 115, 104]⟩ : ByteArray), .string (⟨#[115, 116, 97, 114, 116]⟩ : ByteArray), .string (⟨#[114, 111, 111, 109]⟩ : ByteArray)]) (ok := fun _ => True) (okp := fun _ => True) ?hr ?hp (fun _ hk => hk) trivial (Below.refl _ _) (Nat.le_refl _) (by simp) ?_; (case hd => rfl); (case hg => rfl); (case hr => first | (go_simp; done) | (go_simp; rfl)); (case hp => exact (Reps.one (show Kd.M Kd.string _ _ _ (⟨#[97, 115, 107]⟩ : ByteArray) [.string (⟨#[97, 115, 107]⟩ : ByteArray)] from rfl) (Reps.one (show Kd.M Kd.string _ _ _ (⟨#[100, 101, 108, 105, 118, 101, 114]⟩ : ByteArray) [.string (⟨#[100, 101, 108, 105, 118, 101, 114]⟩ : ByteArray)] from rfl) (Reps.one (show Kd.M Kd.string _ _ _ (⟨#[100, 114, 111, 112]⟩ : ByteArray) [.string (⟨#[100, 114, 111, 112]⟩ : ByteArray)] from rfl) (Reps.one (show Kd.M Kd.string _ _ _ (⟨#[100, 111, 117, 98, 108, 101]⟩ : ByteArray) [.string (⟨#[100, 111, 117, 98, 108, 101]⟩ : ByteArray)] from rfl) (Reps.one (show Kd.M Kd.string _ _ _ (⟨#[116, 105, 99, 107]⟩ : ByteArray) [.string (⟨#[116, 105, 99, 107]⟩ : ByteArray)] from rfl) (Reps.one (show Kd.M Kd.string _ _ _ (⟨#[99, 114, 97, 115, 104]⟩ : ByteArray) [.string (⟨#[99, 114, 97, 115, 104]⟩ : ByteArray)] from rfl) (Reps.one (show Kd.M Kd.string _ _ _ (⟨#[115, 116, 97, 114, 116]⟩ : ByteArray) [.string (⟨#[115, 116, 97, 114, 116]⟩ : ByteArray)] from rfl) (Reps.one (show Kd.M Kd.string _ _ _ (⟨#[114, 111, 111, 109]⟩ : ByteArray) [.string (⟨#[114, 111, 111, 109]⟩ : ByteArray)] from rfl) (Reps.none _ _)))))))))); intro v213 w1 ho2 hb hg_ hnew_; clear hg_ hnew_; (first | rw [← Ny212.out] at ho2 | (simp only [Int.reduceToNat] at ho2; rw [← Ny212.out] at ho2)); have n0_ := Aside0.mk (Kd.R_lower ho2 (below_size (by repeat (first | (with_reducible first | exact HB.out | apply below_alloc | apply pw_below_drewN | apply below_drew1) | exact HB.out)))); have n1_ := Aside0.mk (below_step (by repeat (first | (with_reducible first | exact HB.out | apply below_alloc | apply pw_below_drewN | apply below_drew1) | exact HB.out)) hb); clear HB; have HO214 := n0_; have HB := n1_; clear n0_ n1_; clear hb ho2))
 go_ret
 exact ⟨_, by first | rfl | (simp [errW_none, errW_some] <;> rfl) | (simp [*, errW_none, errW_some] <;> rfl), by (with_reducible repeat (first | apply Kd.R_alloc | apply Kd.R_drewN | apply Kd.R_drew)); exact HO214.out, by repeat (first | (with_reducible first | exact HB.out | apply below_alloc | apply pw_below_drewN | apply below_drew1) | exact HB.out)⟩

/-! ### script_undigits: function 57 -/
def script_undigits.l0 : Nat → ByteArray → List Int → Int → Option (List Int)
 | 0, _, _, _ => none
 | k + 1, x0, x3, x4 => if (wrap64 (x4 + 1)) < (x0.size : Int) then (if 0 ≤ x4 then (if x4 < (x0.size : Int) then ((strings_IndexByte.f (⟨#[48, 49, 50, 51, 52, 53, 54, 55, 56, 57, 97, 98, 99, 100, 101, 102]⟩ : ByteArray) (bt x0 x4)).bind fun t215 => (if 0 ≤ (wrap64 (x4 + 1)) then ((strings_IndexByte.f (⟨#[48, 49, 50, 51, 52, 53, 54, 55, 56, 57, 97, 98, 99, 100, 101, 102]⟩ : ByteArray) (bt x0 (wrap64 (x4 + 1)))).bind fun t216 => (if x3.length < 140737488355328 then (script_undigits.l0 k x0 (x3 ++ [(Go.bits .or .i64 (wrap64 ((mx t215 0) * 16)) (mx t216 0)) % 256]) (wrap64 (x4 + 2))) else (none))) else (none))) else (none)) else (none)) else (some x3)
def script_undigits.f (k : Nat) (a0 : ByteArray) : Option (List Int) := script_undigits.l0 k a0 ([] : List Int) 0
theorem script_undigits.mono_l : ∀ k, (∀ y0 y1 y2, LeO (script_undigits.l0 k y0 y1 y2) (script_undigits.l0 (k + 1) y0 y1 y2))
 | 0 => fun _ _ _ r h => by simp [script_undigits.l0] at h
 | k + 1 => by
  have ih0 := script_undigits.mono_l k
  ·intro y0 y1 y2
   unfold script_undigits.l0
   repeat' first
   | (with_reducible exact ih0 _ _ _)
   | (with_reducible exact LeO.refl _)
   | (with_reducible exact LeO.none _)
   | (with_reducible refine LeO.ite ?_ ?_)
   | (with_reducible refine LeO.bind ?_ (fun _ => ?_))
   | exact ih0 _ _ _
   | exact LeO.none _
   | refine LeO.ite ?_ ?_
   | refine LeO.bind ?_ (fun _ => ?_)
theorem script_undigits.mono : ∀ a0 k, LeO (script_undigits.f k a0) (script_undigits.f (k + 1) a0) := by
 intro a0 k
 have ih0 := script_undigits.mono_l k
 unfold script_undigits.f
 repeat' first
   | (with_reducible exact ih0 _ _ _)
   | (with_reducible exact LeO.refl _)
   | (with_reducible exact LeO.none _)
   | (with_reducible refine LeO.ite ?_ ?_)
   | (with_reducible refine LeO.bind ?_ (fun _ => ?_))
   | exact ih0 _ _ _
   | exact LeO.none _
   | refine LeO.ite ?_ ?_
   | refine LeO.bind ?_ (fun _ => ?_)
set_option maxHeartbeats 8000000 in
set_option maxRecDepth 100000 in
theorem script_undigits.calls (k : Nat) (a0 : ByteArray) (r : List Int) (w : World) (h : script_undigits.f k a0 = some r) :
  Calls Tryz.prog 57 #[.string a0] w fun e w' => ∃ v0_ : Value, e = .returned (v0_) ∧ Kd.R (Kd.int .u8) 5 w' w.heap.size (fun _ => True) v0_ r ∧ Below w.heap.size w w' := by
 have HB := Aside0.mk (Below.refl w.heap.size w)
 have H : (script_undigits.l0 k a0 ([] : List Int) 0) = some r := h
 clear h
 have H' := Aside0.mk H
 clear H
 go_enter Tryz.func57, Tryz.ntmps57
 go_wp2
 repeat (go_quiet (fail); try go_wp2)
 go_loopg [3, 4] k (fun kq v3 v4 w' => ∃ (x3_1 : List Int) (x4_1 : Int), v4 = .int .i64 x4_1 ∧ Aside0 (script_undigits.l0 kq a0 x3_1 x4_1 = some r) ∧ Aside0 (kq ≤ k) ∧ Aside0 (Kd.R (Kd.int .u8) 5 w' w.heap.size (fun _ => True) v3 x3_1) ∧ Aside0 (Below w.heap.size w w'))
 case atStart => exact ⟨(([] : List Int)), (0), (by first | rfl | (simp; done) | (simp [*]; done)), H', ⟨Nat.le_refl _⟩, ⟨by first | exact Kd.R_nil _ _ _ _ _ | exact Kd.N_nil _ _ _ _ _ | exact Kd.V_nil _ _ _ _ _ | exact Kd.Q_nil _ _ _ _ _ | exact Kd.S_nil _ _ _ _ _⟩, ⟨by repeat (first | (with_reducible first | exact HB.out | apply below_alloc | apply pw_below_drewN | apply below_drew1) | exact HB.out)⟩⟩
 case round =>
  clear H'
  obtain ⟨x3_1, x4_1, rfl, HA, HK1, HO_3, HB⟩ := hrel
  cases gk with
  | zero => exact absurd HA.out (by simp [script_undigits.l0])
  | succ k1 =>
   have H := HA.out
   clear HA
   simp only [script_undigits.l0] at H
   by_cases c2 : (wrap64 (x4_1 + 1)) < (a0.size : Int)
   ·rw [if_pos c2] at H
    have c2b0 : decide ((wrap64 (x4_1 + 1)) < (a0.size : Int)) = true := decide_eq_true c2
    clear c2
    by_cases c3 : 0 ≤ x4_1
    ·rw [if_pos c3] at H
     have c3b0 : decide (0 ≤ x4_1) = true := decide_eq_true c3
     clear c3
     by_cases c4 : x4_1 < (a0.size : Int)
     ·rw [if_pos c4] at H
      have c4b0 : decide (x4_1 < (a0.size : Int)) = true := decide_eq_true c4
      clear c4
      replace H := Option.bind_eq_some_iff.mp H
      obtain ⟨t215, A60, H⟩ := H
      replace H : (if 0 ≤ (wrap64 (x4_1 + 1)) then ((strings_IndexByte.f (⟨#[48, 49, 50, 51, 52, 53, 54, 55, 56, 57, 97, 98, 99, 100, 101, 102]⟩ : ByteArray) (bt a0 (wrap64 (x4_1 + 1)))).bind fun t216 => (if x3_1.length < 140737488355328 then (script_undigits.l0 k1 a0 (x3_1 ++ [(Go.bits .or .i64 (wrap64 ((mx t215 0) * 16)) (mx t216 0)) % 256]) (wrap64 (x4_1 + 2))) else (none))) else (none)) = some r := H
      have A6 := Aside0.mk A60
      clear A60
      obtain ⟨ji7, hji7⟩ : ∃ j_ : Int, (wrap64 (x4_1 + 1)) = j_ := ⟨_, rfl⟩
      replace H : (if 0 ≤ (ji7) then ((strings_IndexByte.f (⟨#[48, 49, 50, 51, 52, 53, 54, 55, 56, 57, 97, 98, 99, 100, 101, 102]⟩ : ByteArray) (bt a0 (ji7))).bind fun t216 => (if x3_1.length < 140737488355328 then (script_undigits.l0 k1 a0 (x3_1 ++ [(Go.bits .or .i64 (wrap64 ((mx t215 0) * 16)) (mx t216 0)) % 256]) (wrap64 (x4_1 + 2))) else (none))) else (none)) = some r := by first | (rw [hji7] at H; exact H) | (simp only [hji7] at H ⊢; exact H)
      (try rw [hji7] at c2b0)
      (try rw [hji7] at A6)
      have hji7w : (IntKind.i64.wrap (x4_1 + 1)) = ji7 := (i64_w _).trans hji7
      by_cases c8 : 0 ≤ (ji7)
      ·rw [if_pos c8] at H
       have c8b0 : decide (0 ≤ (ji7)) = true := decide_eq_true c8
       clear c8
       replace H := Option.bind_eq_some_iff.mp H
       obtain ⟨t216, A100, H⟩ := H
       replace H : (if x3_1.length < 140737488355328 then (script_undigits.l0 k1 a0 (x3_1 ++ [(Go.bits .or .i64 (wrap64 ((mx t215 0) * 16)) (mx t216 0)) % 256]) (wrap64 (x4_1 + 2))) else (none)) = some r := H
       have A10 := Aside0.mk A100
       clear A100
       obtain ⟨ji11, hji11⟩ : ∃ j_ : Int, (mx t215 0) = j_ := ⟨_, rfl⟩
       replace H : (if x3_1.length < 140737488355328 then (script_undigits.l0 k1 a0 (x3_1 ++ [(Go.bits .or .i64 (wrap64 ((ji11) * 16)) (mx t216 0)) % 256]) (wrap64 (x4_1 + 2))) else (none)) = some r := by first | (rw [hji11] at H; exact H) | (simp only [hji11] at H ⊢; exact H)
       (try rw [hji11] at A6)
       (try rw [hji11] at A10)
       (try (have hji11l : 0 ≤ ji11 := by (rw [← hji11]; unfold mx; (repeat' split) <;> omega)))
       (try (have hji11m : 0 ≤ ji11 := by omega))
       have hji11_ : (if t215 < 0 then 0 else t215) = ji11 := hji11
       obtain ⟨ji12, hji12⟩ : ∃ j_ : Int, (mx t216 0) = j_ := ⟨_, rfl⟩
       replace H : (if x3_1.length < 140737488355328 then (script_undigits.l0 k1 a0 (x3_1 ++ [(Go.bits .or .i64 (wrap64 ((ji11) * 16)) (ji12)) % 256]) (wrap64 (x4_1 + 2))) else (none)) = some r := by first | (rw [hji12] at H; exact H) | (simp only [hji12] at H ⊢; exact H)
       (try rw [hji12] at A6)
       (try rw [hji12] at A10)
       (try (have hji12l : 0 ≤ ji12 := by (rw [← hji12]; unfold mx; (repeat' split) <;> omega)))
       (try (have hji12m : 0 ≤ ji12 := by omega))
       have hji12_ : (if t216 < 0 then 0 else t216) = ji12 := hji12
       by_cases c13 : x3_1.length < 140737488355328
       ·rw [if_pos c13] at H
        have LMc13 := Aside0.mk c13
        clear c13
        obtain ⟨y217, hy217⟩ : ∃ y_ : List Int, y_ = (x3_1 ++ [(Go.bits .or .i64 (wrap64 ((ji11) * 16)) (ji12)) % 256]) := ⟨_, rfl⟩
        replace H : (script_undigits.l0 k1 a0 y217 (wrap64 (x4_1 + 2))) = some r := by first | (rw [hy217]; with_reducible exact H) | (have H2_ := (Option.bind_some _ _).symm.trans H; rw [hy217]; with_reducible exact H2_) | (have H2_ := (Option.bind_some _ _).symm.trans H; with_reducible exact H2_) | with_reducible exact H | (rw [hy217]; exact H) | exact H
        have Ny217 := Aside0.mk hy217
        clear hy217
        have H' := Aside0.mk H
        clear H
        have p5 : 0 ≤ (x4_1 : Int) := of_decide_eq_true (by first | (with_reducible assumption) | assumption)
        have q5 : x4_1 < (a0.size : Int) := of_decide_eq_true (by first | (with_reducible assumption) | assumption)
        have hx5 := bt_at a0 x4_1
        replace p5 := eq_true p5
        replace q5 := eq_true q5
        go_wp2_with (first | (go_at_call 96; (with_reducible refine (strings_IndexByte.calls (⟨#[48, 49, 50, 51, 52, 53, 54, 55, 56, 57, 97, 98, 99, 100, 101, 102]⟩ : ByteArray) (bt a0 x4_1) t215 _ A6.out).mono ?_); rintro e w' ⟨rfl, ⟨nd, rfl⟩⟩; (try first | exact ⟨rfl, _, World.drewN_drewN _ _ _⟩ | exact ⟨rfl, _, Eq.trans (World.drewN_drewN _ _ _) (congrArg (World.drewN _) (Nat.add_assoc _ _ _))⟩); have p9 : 0 ≤ ((ji7) : Int) := of_decide_eq_true (by first | (with_reducible assumption) | assumption); have q9 : (ji7) < (a0.size : Int) := of_decide_eq_true (by first | (with_reducible assumption) | assumption); have hx9 := bt_at a0 (ji7); replace p9 := eq_true p9; replace q9 := eq_true q9) | (go_at_call 96; (with_reducible refine (strings_IndexByte.calls (⟨#[48, 49, 50, 51, 52, 53, 54, 55, 56, 57, 97, 98, 99, 100, 101, 102]⟩ : ByteArray) (bt a0 (ji7)) t216 _ A10.out).mono ?_); rintro e w' ⟨rfl, ⟨nd, rfl⟩⟩; (try first | exact ⟨rfl, _, World.drewN_drewN _ _ _⟩ | exact ⟨rfl, _, Eq.trans (World.drewN_drewN _ _ _) (congrArg (World.drewN _) (Nat.add_assoc _ _ _))⟩)) | ((with_reducible refine gate_builtin (b := .append) (xs := #[.tmp 23, .tmp 31]) rfl ?_); at_builtin; refine Kd.R_append (Kd.int .u8) (w0 := w) w.heap.size rfl (.tmp 23) (.tmp 31) 29 5 (.int .u8 0) 1 rfl Tryz.underlying29 info5 rfl (by decide) (by omega) u3 x3_1 ((Go.bits .or .i64 (wrap64 ((ji11) * 16)) (ji12)) % 256) [.int .u8 ((Go.bits .or .i64 (wrap64 ((ji11) * 16)) (ji12)) % 256)] (fun _ => True) (fun _ => False) rfl rfl ?aP (fun _ hk => hk.elim) ?aF ?aO ?aB ?aS ?aL ?_; (case aP => exact rfl); (case aB => exact (by repeat (first | (with_reducible first | exact HB.out | apply below_alloc | apply pw_below_drewN | apply below_drew1) | exact HB.out))); (case aF => exact (fun _ _ => trivial)); (case aO => exact (by (with_reducible repeat (first | apply Kd.R_alloc | apply Kd.R_drewN | apply Kd.R_drew)); exact HO_3.out)); (case aS => exact (below_size (by repeat (first | (with_reducible first | exact HB.out | apply below_alloc | apply pw_below_drewN | apply below_drew1) | exact HB.out)))); (case aL => have := LMc13.out; omega); intro v218 w14 ho hb hg hat; rw [← Ny217.out] at ho; have n0_ := Aside0.mk (hb); have n1_ := Aside0.mk (ho); clear HB; clear HO_3; have HB := n0_; have HO219 := n1_; clear n0_ n1_; clear ho hb hg hat))
        repeat (go_quiet (first | (go_at_call 96; (with_reducible refine (strings_IndexByte.calls (⟨#[48, 49, 50, 51, 52, 53, 54, 55, 56, 57, 97, 98, 99, 100, 101, 102]⟩ : ByteArray) (bt a0 x4_1) t215 _ A6.out).mono ?_); rintro e w' ⟨rfl, ⟨nd, rfl⟩⟩; (try first | exact ⟨rfl, _, World.drewN_drewN _ _ _⟩ | exact ⟨rfl, _, Eq.trans (World.drewN_drewN _ _ _) (congrArg (World.drewN _) (Nat.add_assoc _ _ _))⟩); have p9 : 0 ≤ ((ji7) : Int) := of_decide_eq_true (by first | (with_reducible assumption) | assumption); have q9 : (ji7) < (a0.size : Int) := of_decide_eq_true (by first | (with_reducible assumption) | assumption); have hx9 := bt_at a0 (ji7); replace p9 := eq_true p9; replace q9 := eq_true q9) | (go_at_call 96; (with_reducible refine (strings_IndexByte.calls (⟨#[48, 49, 50, 51, 52, 53, 54, 55, 56, 57, 97, 98, 99, 100, 101, 102]⟩ : ByteArray) (bt a0 (ji7)) t216 _ A10.out).mono ?_); rintro e w' ⟨rfl, ⟨nd, rfl⟩⟩; (try first | exact ⟨rfl, _, World.drewN_drewN _ _ _⟩ | exact ⟨rfl, _, Eq.trans (World.drewN_drewN _ _ _) (congrArg (World.drewN _) (Nat.add_assoc _ _ _))⟩)) | ((with_reducible refine gate_builtin (b := .append) (xs := #[.tmp 23, .tmp 31]) rfl ?_); at_builtin; refine Kd.R_append (Kd.int .u8) (w0 := w) w.heap.size rfl (.tmp 23) (.tmp 31) 29 5 (.int .u8 0) 1 rfl Tryz.underlying29 info5 rfl (by decide) (by omega) u3 x3_1 ((Go.bits .or .i64 (wrap64 ((ji11) * 16)) (ji12)) % 256) [.int .u8 ((Go.bits .or .i64 (wrap64 ((ji11) * 16)) (ji12)) % 256)] (fun _ => True) (fun _ => False) rfl rfl ?aP (fun _ hk => hk.elim) ?aF ?aO ?aB ?aS ?aL ?_; (case aP => exact rfl); (case aB => exact (by repeat (first | (with_reducible first | exact HB.out | apply below_alloc | apply pw_below_drewN | apply below_drew1) | exact HB.out))); (case aF => exact (fun _ _ => trivial)); (case aO => exact (by (with_reducible repeat (first | apply Kd.R_alloc | apply Kd.R_drewN | apply Kd.R_drew)); exact HO_3.out)); (case aS => exact (below_size (by repeat (first | (with_reducible first | exact HB.out | apply below_alloc | apply pw_below_drewN | apply below_drew1) | exact HB.out)))); (case aL => have := LMc13.out; omega); intro v218 w14 ho hb hg hat; rw [← Ny217.out] at ho; have n0_ := Aside0.mk (hb); have n1_ := Aside0.mk (ho); clear HB; clear HO_3; have HB := n0_; have HO219 := n1_; clear n0_ n1_; clear ho hb hg hat)); try go_wp2_with (first | (go_at_call 96; (with_reducible refine (strings_IndexByte.calls (⟨#[48, 49, 50, 51, 52, 53, 54, 55, 56, 57, 97, 98, 99, 100, 101, 102]⟩ : ByteArray) (bt a0 x4_1) t215 _ A6.out).mono ?_); rintro e w' ⟨rfl, ⟨nd, rfl⟩⟩; (try first | exact ⟨rfl, _, World.drewN_drewN _ _ _⟩ | exact ⟨rfl, _, Eq.trans (World.drewN_drewN _ _ _) (congrArg (World.drewN _) (Nat.add_assoc _ _ _))⟩); have p9 : 0 ≤ ((ji7) : Int) := of_decide_eq_true (by first | (with_reducible assumption) | assumption); have q9 : (ji7) < (a0.size : Int) := of_decide_eq_true (by first | (with_reducible assumption) | assumption); have hx9 := bt_at a0 (ji7); replace p9 := eq_true p9; replace q9 := eq_true q9) | (go_at_call 96; (with_reducible refine (strings_IndexByte.calls (⟨#[48, 49, 50, 51, 52, 53, 54, 55, 56, 57, 97, 98, 99, 100, 101, 102]⟩ : ByteArray) (bt a0 (ji7)) t216 _ A10.out).mono ?_); rintro e w' ⟨rfl, ⟨nd, rfl⟩⟩; (try first | exact ⟨rfl, _, World.drewN_drewN _ _ _⟩ | exact ⟨rfl, _, Eq.trans (World.drewN_drewN _ _ _) (congrArg (World.drewN _) (Nat.add_assoc _ _ _))⟩)) | ((with_reducible refine gate_builtin (b := .append) (xs := #[.tmp 23, .tmp 31]) rfl ?_); at_builtin; refine Kd.R_append (Kd.int .u8) (w0 := w) w.heap.size rfl (.tmp 23) (.tmp 31) 29 5 (.int .u8 0) 1 rfl Tryz.underlying29 info5 rfl (by decide) (by omega) u3 x3_1 ((Go.bits .or .i64 (wrap64 ((ji11) * 16)) (ji12)) % 256) [.int .u8 ((Go.bits .or .i64 (wrap64 ((ji11) * 16)) (ji12)) % 256)] (fun _ => True) (fun _ => False) rfl rfl ?aP (fun _ hk => hk.elim) ?aF ?aO ?aB ?aS ?aL ?_; (case aP => exact rfl); (case aB => exact (by repeat (first | (with_reducible first | exact HB.out | apply below_alloc | apply pw_below_drewN | apply below_drew1) | exact HB.out))); (case aF => exact (fun _ _ => trivial)); (case aO => exact (by (with_reducible repeat (first | apply Kd.R_alloc | apply Kd.R_drewN | apply Kd.R_drew)); exact HO_3.out)); (case aS => exact (below_size (by repeat (first | (with_reducible first | exact HB.out | apply below_alloc | apply pw_below_drewN | apply below_drew1) | exact HB.out)))); (case aL => have := LMc13.out; omega); intro v218 w14 ho hb hg hat; rw [← Ny217.out] at ho; have n0_ := Aside0.mk (hb); have n1_ := Aside0.mk (ho); clear HB; clear HO_3; have HB := n0_; have HO219 := n1_; clear n0_ n1_; clear ho hb hg hat)))
        go_roundg k1
        case measure => have := HK1.out; omega
        case rel => exact ⟨(y217), (wrap64 (x4_1 + 2)), (by first | rfl | (simp; done) | (simp [*]; done)), H', ⟨by have := HK1.out; omega⟩, ⟨by (with_reducible repeat (first | apply Kd.R_alloc | apply Kd.R_drewN | apply Kd.R_drew)); exact HO219.out⟩, ⟨by repeat (first | (with_reducible first | exact HB.out | apply below_alloc | apply pw_below_drewN | apply below_drew1) | exact HB.out)⟩⟩
       ·rw [if_neg c13] at H
        exact absurd H (by simp)
      ·rw [if_neg c8] at H
       exact absurd H (by simp)
     ·rw [if_neg c4] at H
      exact absurd H (by simp)
    ·rw [if_neg c3] at H
     exact absurd H (by simp)
   ·rw [if_neg c2] at H
    have c2b0 : decide ((wrap64 (x4_1 + 1)) < (a0.size : Int)) = false := decide_eq_false c2
    clear c2
    obtain rfl := Option.some.inj H
    go_wp2
    repeat (go_quiet (fail); try go_wp2)
    go_ret
    exact ⟨_, by first | rfl | (simp [errW_none, errW_some] <;> rfl) | (simp [*, errW_none, errW_some] <;> rfl), by (with_reducible repeat (first | apply Kd.R_alloc | apply Kd.R_drewN | apply Kd.R_drew)); exact HO_3.out, by repeat (first | (with_reducible first | exact HB.out | apply below_alloc | apply pw_below_drewN | apply below_drew1) | exact HB.out)⟩

end Go.Proofs.YtohpimfanplloaaGreatDoor.GC
