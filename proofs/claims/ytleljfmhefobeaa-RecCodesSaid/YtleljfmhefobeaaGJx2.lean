-- laid by a program of this session (print_proof, changed for laws over structs)
import Derived.Test.YtleljfmhefobeaaGJx0
import Derived.Test.YtleljfmhefobeaaGJx1
namespace Go.Proofs.Ytleljfmhefobeaa.GJ
open Go.RowKit Go.Proofs.YtleljfmhefobeaaW.PrintWords Go.Proofs.YtleljfmhefobeaaW.PrintLast Go.Proofs.YtleljfmhefobeaaW.PrintMore
attribute [local go_sem] max2_int min2_int max_two min_two max_three min_three max_four min_four   -- for this text's walks alone
set_option linter.unusedVariables false
set_option linter.unusedSimpArgs false

/-! ### rec_May: function 18 -/
mutual
def rec_May.j0 : Nat → Bool → Int → Int → Int → Int → Int → Bool → List Int → List Int → List Int → Option (Bool)
  | 0, _, _, _, _, _, _, _, _, _, _ => none
  | k + 1, x3, x107000, x107001, x107002, x107003, x107004, x107005, x107006, x107007, x107008 => if x3 = true then (some false) else (if x107002 < 0 then (rec_May.j1 k true x107000 x107001 x107002 x107003 x107004 x107005 x107006 x107007 x107008) else (if x107002 > 1099511627776 then (rec_May.j1 k true x107000 x107001 x107002 x107003 x107004 x107005 x107006 x107007 x107008) else (if x107002 = 0 then (if x107005 = true then (rec_May.j1 k (x107000 != 4) x107000 x107001 x107002 x107003 x107004 x107005 x107006 x107007 x107008) else (rec_May.j1 k false x107000 x107001 x107002 x107003 x107004 x107005 x107006 x107007 x107008)) else (if x107000 = 5 then (if x107005 = true then (rec_May.j1 k (x107000 != 4) x107000 x107001 x107002 x107003 x107004 x107005 x107006 x107007 x107008) else (rec_May.j1 k false x107000 x107001 x107002 x107003 x107004 x107005 x107006 x107007 x107008)) else (rec_May.j1 k true x107000 x107001 x107002 x107003 x107004 x107005 x107006 x107007 x107008)))))
def rec_May.j1 : Nat → Bool → Int → Int → Int → Int → Int → Bool → List Int → List Int → List Int → Option (Bool)
  | 0, _, _, _, _, _, _, _, _, _, _ => none
  | k + 1, x22, x107000, x107001, x107002, x107003, x107004, x107005, x107006, x107007, x107008 => if x22 = true then (some false) else ((rec_tells.f x107000).bind fun t109 => (if t109 = true then ((rec_Rises.f k x107006 64).bind fun t110 => (if t110 = true then ((rec_Rises.f k x107007 16).bind fun t111 => (if t111 = true then (some (decide ((x107008.length : Int) ≤ 4096))) else (some false))) else (some false))) else (some ((wrap64 ((wrap64 ((x107006.length : Int) + (x107007.length : Int))) + (x107008.length : Int))) == 0))))
end
def rec_May.f (k : Nat) (a0_0 : Int) (a0_1 : Int) (a0_2 : Int) (a0_3 : Int) (a0_4 : Int) (a0_5 : Bool) (l0_6 : List Int) (l0_7 : List Int) (l0_8 : List Int) : Option (Bool) := if a0_0 < 1 then (rec_May.j0 k true a0_0 a0_1 a0_2 a0_3 a0_4 a0_5 l0_6 l0_7 l0_8) else (if a0_0 > 6 then (rec_May.j0 k true a0_0 a0_1 a0_2 a0_3 a0_4 a0_5 l0_6 l0_7 l0_8) else ((rec_mayTx.f a0_0 a0_1 a0_2 a0_3 a0_4 a0_5 l0_6 l0_7 l0_8).bind fun t107 => (if t107 = true then ((rec_mayOp.f a0_0 a0_1 a0_2 a0_3 a0_4 a0_5 l0_6 l0_7 l0_8).bind fun t108 => (rec_May.j0 k (!t108) a0_0 a0_1 a0_2 a0_3 a0_4 a0_5 l0_6 l0_7 l0_8)) else (rec_May.j0 k true a0_0 a0_1 a0_2 a0_3 a0_4 a0_5 l0_6 l0_7 l0_8))))
theorem rec_May.mono_l : ∀ k, (∀ y0 y1 y2 y3 y4 y5 y6 y7 y8 y9, LeO (rec_May.j0 k y0 y1 y2 y3 y4 y5 y6 y7 y8 y9) (rec_May.j0 (k + 1) y0 y1 y2 y3 y4 y5 y6 y7 y8 y9)) ∧ (∀ y0 y1 y2 y3 y4 y5 y6 y7 y8 y9, LeO (rec_May.j1 k y0 y1 y2 y3 y4 y5 y6 y7 y8 y9) (rec_May.j1 (k + 1) y0 y1 y2 y3 y4 y5 y6 y7 y8 y9))
  | 0 => ⟨fun _ _ _ _ _ _ _ _ _ _ r h => by simp [rec_May.j0] at h, fun _ _ _ _ _ _ _ _ _ _ r h => by simp [rec_May.j1] at h⟩
  | k + 1 => by
    obtain ⟨ih0, ih1⟩ := rec_May.mono_l k
    refine ⟨?_, ?_⟩
    · intro y0 y1 y2 y3 y4 y5 y6 y7 y8 y9
      unfold rec_May.j0
      repeat' first
      | (with_reducible exact ih0 _ _ _ _ _ _ _ _ _ _)
      | (with_reducible exact ih1 _ _ _ _ _ _ _ _ _ _)
      | (with_reducible exact rec_Rises.mono _ _ _)
      | (with_reducible exact LeO.refl _)
      | (with_reducible exact LeO.none _)
      | (with_reducible refine LeO.ite ?_ ?_)
      | (with_reducible refine LeO.bind ?_ (fun _ => ?_))
      | exact ih0 _ _ _ _ _ _ _ _ _ _
      | exact ih1 _ _ _ _ _ _ _ _ _ _
      | exact rec_Rises.mono _ _ _
      | exact LeO.none _
      | refine LeO.ite ?_ ?_
      | refine LeO.bind ?_ (fun _ => ?_)
    · intro y0 y1 y2 y3 y4 y5 y6 y7 y8 y9
      unfold rec_May.j1
      repeat' first
      | (with_reducible exact ih0 _ _ _ _ _ _ _ _ _ _)
      | (with_reducible exact ih1 _ _ _ _ _ _ _ _ _ _)
      | (with_reducible exact rec_Rises.mono _ _ _)
      | (with_reducible exact LeO.refl _)
      | (with_reducible exact LeO.none _)
      | (with_reducible refine LeO.ite ?_ ?_)
      | (with_reducible refine LeO.bind ?_ (fun _ => ?_))
      | exact ih0 _ _ _ _ _ _ _ _ _ _
      | exact ih1 _ _ _ _ _ _ _ _ _ _
      | exact rec_Rises.mono _ _ _
      | exact LeO.none _
      | refine LeO.ite ?_ ?_
      | refine LeO.bind ?_ (fun _ => ?_)
theorem rec_May.mono : ∀ a0 a1 a2 a3 a4 a5 a6 a7 a8 k, LeO (rec_May.f k a0 a1 a2 a3 a4 a5 a6 a7 a8) (rec_May.f (k + 1) a0 a1 a2 a3 a4 a5 a6 a7 a8) := by
  intro a0 a1 a2 a3 a4 a5 a6 a7 a8 k
  obtain ⟨ih0, ih1⟩ := rec_May.mono_l k
  unfold rec_May.f
  repeat' first
      | (with_reducible exact ih0 _ _ _ _ _ _ _ _ _ _)
      | (with_reducible exact ih1 _ _ _ _ _ _ _ _ _ _)
      | (with_reducible exact rec_Rises.mono _ _ _)
      | (with_reducible exact LeO.refl _)
      | (with_reducible exact LeO.none _)
      | (with_reducible refine LeO.ite ?_ ?_)
      | (with_reducible refine LeO.bind ?_ (fun _ => ?_))
      | exact ih0 _ _ _ _ _ _ _ _ _ _
      | exact ih1 _ _ _ _ _ _ _ _ _ _
      | exact rec_Rises.mono _ _ _
      | exact LeO.none _
      | refine LeO.ite ?_ ?_
      | refine LeO.bind ?_ (fun _ => ?_)
set_option maxHeartbeats 8000000 in
set_option maxRecDepth 100000 in
theorem rec_May.calls (k : Nat) (a0_0 : Int) (a0_1 : Int) (a0_2 : Int) (a0_3 : Int) (a0_4 : Int) (a0_5 : Bool) (A0_6 : Option Addr) (c0_6 : Nat) (l0_6 : List Int) (A0_7 : Option Addr) (c0_7 : Nat) (l0_7 : List Int) (A0_8 : Option Addr) (c0_8 : Nat) (l0_8 : List Int) (r : Bool) (w : World) (hr0_6 : Kd.C (Kd.int .i64) w A0_6 l0_6.length l0_6) (hc0_6 : l0_6.length ≤ c0_6) (hr0_7 : Kd.C (Kd.int .i64) w A0_7 l0_7.length l0_7) (hc0_7 : l0_7.length ≤ c0_7) (hr0_8 : Kd.C (Kd.int .u8) w A0_8 l0_8.length l0_8) (hc0_8 : l0_8.length ≤ c0_8) (h : rec_May.f k a0_0 a0_1 a0_2 a0_3 a0_4 a0_5 l0_6 l0_7 l0_8 = some r) :
    Calls Try.prog 18 #[.agg #[.int .i64 a0_0, .int .i64 a0_1, .int .i64 a0_2, .int .i64 a0_3, .int .i64 a0_4, .bool a0_5, .slice A0_6 l0_6.length c0_6, .slice A0_7 l0_7.length c0_7, .slice A0_8 l0_8.length c0_8]] w fun e w' => e = .returned (.bool r) ∧ Below w.heap.size w w' := by
  have hu34 := Try.underlying34
  have HR0_6 := Aside0.mk hr0_6
  have HC0_6 := Aside0.mk hc0_6
  clear hr0_6 hc0_6
  have HR0_7 := Aside0.mk hr0_7
  have HC0_7 := Aside0.mk hc0_7
  clear hr0_7 hc0_7
  have HR0_8 := Aside0.mk hr0_8
  have HC0_8 := Aside0.mk hc0_8
  clear hr0_8 hc0_8
  have HB := Aside0.mk (Below.refl w.heap.size w)
  have H : (if a0_0 < 1 then (rec_May.j0 k true a0_0 a0_1 a0_2 a0_3 a0_4 a0_5 l0_6 l0_7 l0_8) else (if a0_0 > 6 then (rec_May.j0 k true a0_0 a0_1 a0_2 a0_3 a0_4 a0_5 l0_6 l0_7 l0_8) else ((rec_mayTx.f a0_0 a0_1 a0_2 a0_3 a0_4 a0_5 l0_6 l0_7 l0_8).bind fun t107 => (if t107 = true then ((rec_mayOp.f a0_0 a0_1 a0_2 a0_3 a0_4 a0_5 l0_6 l0_7 l0_8).bind fun t108 => (rec_May.j0 k (!t108) a0_0 a0_1 a0_2 a0_3 a0_4 a0_5 l0_6 l0_7 l0_8)) else (rec_May.j0 k true a0_0 a0_1 a0_2 a0_3 a0_4 a0_5 l0_6 l0_7 l0_8))))) = some r := h
  clear h
  have HC2 := Aside0.mk H
  clear H
  go_enter Try.func18, Try.ntmps18
  go_upto_region 1 with (first | ((with_reducible refine gate_dst (N := 1) rfl ?_); (try (refine gate_guard (by rfl) ?_; dsimp only)); refine box_event ?hg (N := 1) ?hd (cs := #[.int .i64 a0_0, .int .i64 a0_1, .int .i64 a0_2, .int .i64 a0_3, .int .i64 a0_4, .bool a0_5, .slice A0_6 l0_6.length c0_6, .slice A0_7 l0_7.length c0_7, .slice A0_8 l0_8.length c0_8]) (t := 34) ?hr ?_; (case hd => rfl); (case hg => rfl); (case hr => first | (go_simp; done) | (go_simp; rfl)); intro gb106 hg w3 hbox hb; have n0_ := Aside0.mk (below_step (by repeat (first | (with_reducible first | exact HB.out | apply below_alloc | apply pw_below_drewN | apply below_drew1) | exact HB.out)) hb); have n1_ := Aside0.mk (hbox); have n2_ := Aside0.mk ((by rw [hg]; exact (below_size (by repeat (first | (with_reducible first | exact HB.out | apply below_alloc | apply pw_below_drewN | apply below_drew1) | exact HB.out))) : w.heap.size ≤ gb106)); have n3_ := Aside0.mk ((by rw [hg]; exact (below_size (by repeat (first | (with_reducible first | exact HB.out | apply below_alloc | apply pw_below_drewN | apply below_drew1) | exact HB.out))) : w.heap.size ≤ gb106)); clear HB; have HB := n0_; have BK106 := n1_; have GW106 := n2_; have GE106 := n3_; clear n0_ n1_ n2_ n3_; clear hb hbox hg))
  (try simp only [Act.put, List.setIfInBounds_toArray, List.set_cons_zero, List.set_cons_succ])
  go_cut [3] (fun v3 wc => ∃ (kq : Nat) (x3_1 : Bool), v3 = .bool x3_1 ∧ Aside0 (rec_May.j0 kq x3_1 a0_0 a0_1 a0_2 a0_3 a0_4 a0_5 l0_6 l0_7 l0_8 = some r) ∧ Aside0 (kq ≤ k) ∧ Aside0 (wc.heap[gb106]? = some (.cells #[.int .i64 a0_0, .int .i64 a0_1, .int .i64 a0_2, .int .i64 a0_3, .int .i64 a0_4, .bool a0_5, (.slice A0_6 l0_6.length c0_6), (.slice A0_7 l0_7.length c0_7), (.slice A0_8 l0_8.length c0_8)] 34 (0, 0))) ∧ Aside0 (Below w.heap.size w wc))
  case first =>
    have H := HC2.out
    clear HC2
    by_cases c4 : a0_0 < 1
    · rw [if_pos c4] at H
      have c4b0 : decide (a0_0 < 1) = true := decide_eq_true c4
      clear c4
      (first | rw [c4b0] | (simp only [i64_w, i32_w]; rw [c4b0]) | skip)
      have H' := Aside0.mk H
      clear H
      have hcz5_0 : w3.cell? ⟨gb106, 0, none⟩ = some (.int .i64 a0_0) := (blk_cell BK106.out 0).trans rfl
      have hcz5_1 : w3.cell? ⟨gb106, 1, none⟩ = some (.int .i64 a0_1) := (blk_cell BK106.out 1).trans rfl
      have hcz5_2 : w3.cell? ⟨gb106, 2, none⟩ = some (.int .i64 a0_2) := (blk_cell BK106.out 2).trans rfl
      have hcz5_3 : w3.cell? ⟨gb106, 3, none⟩ = some (.int .i64 a0_3) := (blk_cell BK106.out 3).trans rfl
      have hcz5_4 : w3.cell? ⟨gb106, 4, none⟩ = some (.int .i64 a0_4) := (blk_cell BK106.out 4).trans rfl
      have hcz5_5 : w3.cell? ⟨gb106, 5, none⟩ = some (.bool a0_5) := (blk_cell BK106.out 5).trans rfl
      have hcz5_6 : w3.cell? ⟨gb106, 6, none⟩ = some (.slice A0_6 l0_6.length c0_6) := (blk_cell BK106.out 6).trans rfl
      have hcz5_7 : w3.cell? ⟨gb106, 7, none⟩ = some (.slice A0_7 l0_7.length c0_7) := (blk_cell BK106.out 7).trans rfl
      have hcz5_8 : w3.cell? ⟨gb106, 8, none⟩ = some (.slice A0_8 l0_8.length c0_8) := (blk_cell BK106.out 8).trans rfl
      have hfz5_0 := blk_frozen BK106.out 0
      have hfz5_1 := blk_frozen BK106.out 1
      have hfz5_2 := blk_frozen BK106.out 2
      have hfz5_3 := blk_frozen BK106.out 3
      have hfz5_4 := blk_frozen BK106.out 4
      have hfz5_5 := blk_frozen BK106.out 5
      have hfz5_6 := blk_frozen BK106.out 6
      have hfz5_7 := blk_frozen BK106.out 7
      have hfz5_8 := blk_frozen BK106.out 8
      go_wp2
      go_meet
      case rel => exact ⟨_, (true), (by first | rfl | (simp; done) | (simp [*]; done)), H', ⟨by first | omega | exact Nat.le_refl _⟩, ⟨by (with_reducible repeat (first | refine blk_drewN ?_ _ | refine blk_drew ?_ | refine blk_alloc ?_ _)); exact BK106.out⟩, ⟨by repeat (first | (with_reducible first | exact HB.out | apply below_alloc | apply pw_below_drewN | apply below_drew1 | refine below_set ?_ GE106.out) | exact HB.out)⟩⟩
    · rw [if_neg c4] at H
      have c4b0 : decide (a0_0 < 1) = false := decide_eq_false c4
      clear c4
      (first | rw [c4b0] | (simp only [i64_w, i32_w]; rw [c4b0]) | skip)
      by_cases c6 : a0_0 > 6
      · rw [if_pos c6] at H
        have c6b0 : decide (6 < a0_0) = true := decide_eq_true c6
        clear c6
        have H' := Aside0.mk H
        clear H
        have hcz7_0 : w3.cell? ⟨gb106, 0, none⟩ = some (.int .i64 a0_0) := (blk_cell BK106.out 0).trans rfl
        have hcz7_1 : w3.cell? ⟨gb106, 1, none⟩ = some (.int .i64 a0_1) := (blk_cell BK106.out 1).trans rfl
        have hcz7_2 : w3.cell? ⟨gb106, 2, none⟩ = some (.int .i64 a0_2) := (blk_cell BK106.out 2).trans rfl
        have hcz7_3 : w3.cell? ⟨gb106, 3, none⟩ = some (.int .i64 a0_3) := (blk_cell BK106.out 3).trans rfl
        have hcz7_4 : w3.cell? ⟨gb106, 4, none⟩ = some (.int .i64 a0_4) := (blk_cell BK106.out 4).trans rfl
        have hcz7_5 : w3.cell? ⟨gb106, 5, none⟩ = some (.bool a0_5) := (blk_cell BK106.out 5).trans rfl
        have hcz7_6 : w3.cell? ⟨gb106, 6, none⟩ = some (.slice A0_6 l0_6.length c0_6) := (blk_cell BK106.out 6).trans rfl
        have hcz7_7 : w3.cell? ⟨gb106, 7, none⟩ = some (.slice A0_7 l0_7.length c0_7) := (blk_cell BK106.out 7).trans rfl
        have hcz7_8 : w3.cell? ⟨gb106, 8, none⟩ = some (.slice A0_8 l0_8.length c0_8) := (blk_cell BK106.out 8).trans rfl
        have hfz7_0 := blk_frozen BK106.out 0
        have hfz7_1 := blk_frozen BK106.out 1
        have hfz7_2 := blk_frozen BK106.out 2
        have hfz7_3 := blk_frozen BK106.out 3
        have hfz7_4 := blk_frozen BK106.out 4
        have hfz7_5 := blk_frozen BK106.out 5
        have hfz7_6 := blk_frozen BK106.out 6
        have hfz7_7 := blk_frozen BK106.out 7
        have hfz7_8 := blk_frozen BK106.out 8
        go_wp2
        go_meet
        case rel => exact ⟨_, (true), (by first | rfl | (simp; done) | (simp [*]; done)), H', ⟨by first | omega | exact Nat.le_refl _⟩, ⟨by (with_reducible repeat (first | refine blk_drewN ?_ _ | refine blk_drew ?_ | refine blk_alloc ?_ _)); exact BK106.out⟩, ⟨by repeat (first | (with_reducible first | exact HB.out | apply below_alloc | apply pw_below_drewN | apply below_drew1 | refine below_set ?_ GE106.out) | exact HB.out)⟩⟩
      · rw [if_neg c6] at H
        have c6b0 : decide (6 < a0_0) = false := decide_eq_false c6
        clear c6
        replace H := Option.bind_eq_some_iff.mp H
        obtain ⟨t107, A80, H⟩ := H
        replace H : (if t107 = true then ((rec_mayOp.f a0_0 a0_1 a0_2 a0_3 a0_4 a0_5 l0_6 l0_7 l0_8).bind fun t108 => (rec_May.j0 k (!t108) a0_0 a0_1 a0_2 a0_3 a0_4 a0_5 l0_6 l0_7 l0_8)) else (rec_May.j0 k true a0_0 a0_1 a0_2 a0_3 a0_4 a0_5 l0_6 l0_7 l0_8)) = some r := H
        have A8 := Aside0.mk A80
        clear A80
        by_cases c9 : t107 = true
        · subst c9
          have H1 : ((rec_mayOp.f a0_0 a0_1 a0_2 a0_3 a0_4 a0_5 l0_6 l0_7 l0_8).bind fun t108 => (rec_May.j0 k (!t108) a0_0 a0_1 a0_2 a0_3 a0_4 a0_5 l0_6 l0_7 l0_8)) = some r := by rw [if_pos rfl] at H; exact H
          clear H
          have H := H1
          clear H1
          replace H := Option.bind_eq_some_iff.mp H
          obtain ⟨t108, A100, H⟩ := H
          replace H : (rec_May.j0 k (!t108) a0_0 a0_1 a0_2 a0_3 a0_4 a0_5 l0_6 l0_7 l0_8) = some r := H
          have A10 := Aside0.mk A100
          clear A100
          have H' := Aside0.mk H
          clear H
          have hcz11_0 : w3.cell? ⟨gb106, 0, none⟩ = some (.int .i64 a0_0) := (blk_cell BK106.out 0).trans rfl
          have hcz11_1 : w3.cell? ⟨gb106, 1, none⟩ = some (.int .i64 a0_1) := (blk_cell BK106.out 1).trans rfl
          have hcz11_2 : w3.cell? ⟨gb106, 2, none⟩ = some (.int .i64 a0_2) := (blk_cell BK106.out 2).trans rfl
          have hcz11_3 : w3.cell? ⟨gb106, 3, none⟩ = some (.int .i64 a0_3) := (blk_cell BK106.out 3).trans rfl
          have hcz11_4 : w3.cell? ⟨gb106, 4, none⟩ = some (.int .i64 a0_4) := (blk_cell BK106.out 4).trans rfl
          have hcz11_5 : w3.cell? ⟨gb106, 5, none⟩ = some (.bool a0_5) := (blk_cell BK106.out 5).trans rfl
          have hcz11_6 : w3.cell? ⟨gb106, 6, none⟩ = some (.slice A0_6 l0_6.length c0_6) := (blk_cell BK106.out 6).trans rfl
          have hcz11_7 : w3.cell? ⟨gb106, 7, none⟩ = some (.slice A0_7 l0_7.length c0_7) := (blk_cell BK106.out 7).trans rfl
          have hcz11_8 : w3.cell? ⟨gb106, 8, none⟩ = some (.slice A0_8 l0_8.length c0_8) := (blk_cell BK106.out 8).trans rfl
          have hfz11_0 := blk_frozen BK106.out 0
          have hfz11_1 := blk_frozen BK106.out 1
          have hfz11_2 := blk_frozen BK106.out 2
          have hfz11_3 := blk_frozen BK106.out 3
          have hfz11_4 := blk_frozen BK106.out 4
          have hfz11_5 := blk_frozen BK106.out 5
          have hfz11_6 := blk_frozen BK106.out 6
          have hfz11_7 := blk_frozen BK106.out 7
          have hfz11_8 := blk_frozen BK106.out 8
          go_wp2_with (first | (go_at_call 38; (with_reducible refine (rec_mayTx.calls a0_0 a0_1 a0_2 a0_3 a0_4 a0_5 _ _ l0_6 _ _ l0_7 _ _ l0_8 true _ ?side1 ?side2 ?side3 ?side4 ?side5 ?side6 A8.out).mono ?_); (case side1 => repeat (first | exact (Kd.C_below HR0_6.out HB.out) | (with_reducible refine Kd.C_alloc ?_ _) | (with_reducible refine Kd.C_drewN ?_ _) | (with_reducible refine Kd.C_drew ?_))); (case side2 => exact HC0_6.out); (case side3 => repeat (first | exact (Kd.C_below HR0_7.out HB.out) | (with_reducible refine Kd.C_alloc ?_ _) | (with_reducible refine Kd.C_drewN ?_ _) | (with_reducible refine Kd.C_drew ?_))); (case side4 => exact HC0_7.out); (case side5 => repeat (first | exact (Kd.C_below HR0_8.out HB.out) | (with_reducible refine Kd.C_alloc ?_ _) | (with_reducible refine Kd.C_drewN ?_ _) | (with_reducible refine Kd.C_drew ?_))); (case side6 => exact HC0_8.out); rintro e w12 ⟨rfl, hb⟩; have n0_ := Aside0.mk (blk_below (g := gb106) (o := .cells #[.int .i64 a0_0, .int .i64 a0_1, .int .i64 a0_2, .int .i64 a0_3, .int .i64 a0_4, .bool a0_5, .slice A0_6 l0_6.length c0_6, .slice A0_7 l0_7.length c0_7, .slice A0_8 l0_8.length c0_8] 34 (0, 0)) (by (with_reducible repeat (first | refine blk_drewN ?_ _ | refine blk_drew ?_ | refine blk_alloc ?_ _)); exact BK106.out) hb); have n1_ := Aside0.mk (below_step (by repeat (first | (with_reducible first | exact HB.out | apply below_alloc | apply pw_below_drewN | apply below_drew1 | refine below_set ?_ GE106.out) | exact HB.out)) hb); clear BK106; clear HB; have BK106 := n0_; have HB := n1_; clear n0_ n1_; (try clear hb); (try clear hb2); (try clear hk); (try clear hi); have hcz13_0 : w12.cell? ⟨gb106, 0, none⟩ = some (.int .i64 a0_0) := (blk_cell BK106.out 0).trans rfl; have hcz13_1 : w12.cell? ⟨gb106, 1, none⟩ = some (.int .i64 a0_1) := (blk_cell BK106.out 1).trans rfl; have hcz13_2 : w12.cell? ⟨gb106, 2, none⟩ = some (.int .i64 a0_2) := (blk_cell BK106.out 2).trans rfl; have hcz13_3 : w12.cell? ⟨gb106, 3, none⟩ = some (.int .i64 a0_3) := (blk_cell BK106.out 3).trans rfl; have hcz13_4 : w12.cell? ⟨gb106, 4, none⟩ = some (.int .i64 a0_4) := (blk_cell BK106.out 4).trans rfl; have hcz13_5 : w12.cell? ⟨gb106, 5, none⟩ = some (.bool a0_5) := (blk_cell BK106.out 5).trans rfl; have hcz13_6 : w12.cell? ⟨gb106, 6, none⟩ = some (.slice A0_6 l0_6.length c0_6) := (blk_cell BK106.out 6).trans rfl; have hcz13_7 : w12.cell? ⟨gb106, 7, none⟩ = some (.slice A0_7 l0_7.length c0_7) := (blk_cell BK106.out 7).trans rfl; have hcz13_8 : w12.cell? ⟨gb106, 8, none⟩ = some (.slice A0_8 l0_8.length c0_8) := (blk_cell BK106.out 8).trans rfl; have hfz13_0 := blk_frozen BK106.out 0; have hfz13_1 := blk_frozen BK106.out 1; have hfz13_2 := blk_frozen BK106.out 2; have hfz13_3 := blk_frozen BK106.out 3; have hfz13_4 := blk_frozen BK106.out 4; have hfz13_5 := blk_frozen BK106.out 5; have hfz13_6 := blk_frozen BK106.out 6; have hfz13_7 := blk_frozen BK106.out 7; have hfz13_8 := blk_frozen BK106.out 8) | (go_at_call 39; (with_reducible refine (rec_mayOp.calls a0_0 a0_1 a0_2 a0_3 a0_4 a0_5 _ _ l0_6 _ _ l0_7 _ _ l0_8 t108 _ ?side1 ?side2 ?side3 ?side4 ?side5 ?side6 A10.out).mono ?_); (case side1 => repeat (first | exact (Kd.C_below HR0_6.out HB.out) | (with_reducible refine Kd.C_alloc ?_ _) | (with_reducible refine Kd.C_drewN ?_ _) | (with_reducible refine Kd.C_drew ?_))); (case side2 => exact HC0_6.out); (case side3 => repeat (first | exact (Kd.C_below HR0_7.out HB.out) | (with_reducible refine Kd.C_alloc ?_ _) | (with_reducible refine Kd.C_drewN ?_ _) | (with_reducible refine Kd.C_drew ?_))); (case side4 => exact HC0_7.out); (case side5 => repeat (first | exact (Kd.C_below HR0_8.out HB.out) | (with_reducible refine Kd.C_alloc ?_ _) | (with_reducible refine Kd.C_drewN ?_ _) | (with_reducible refine Kd.C_drew ?_))); (case side6 => exact HC0_8.out); rintro e w14 ⟨rfl, hb⟩; have n0_ := Aside0.mk (blk_below (g := gb106) (o := .cells #[.int .i64 a0_0, .int .i64 a0_1, .int .i64 a0_2, .int .i64 a0_3, .int .i64 a0_4, .bool a0_5, .slice A0_6 l0_6.length c0_6, .slice A0_7 l0_7.length c0_7, .slice A0_8 l0_8.length c0_8] 34 (0, 0)) (by (with_reducible repeat (first | refine blk_drewN ?_ _ | refine blk_drew ?_ | refine blk_alloc ?_ _)); exact BK106.out) hb); have n1_ := Aside0.mk (below_step (by repeat (first | (with_reducible first | exact HB.out | apply below_alloc | apply pw_below_drewN | apply below_drew1 | refine below_set ?_ GE106.out) | exact HB.out)) hb); clear BK106; clear HB; have BK106 := n0_; have HB := n1_; clear n0_ n1_; (try clear hb); (try clear hb2); (try clear hk); (try clear hi)))
          go_meet
          case rel => exact ⟨_, (!t108), (by first | rfl | (simp; done) | (simp [*]; done)), H', ⟨by first | omega | exact Nat.le_refl _⟩, ⟨by (with_reducible repeat (first | refine blk_drewN ?_ _ | refine blk_drew ?_ | refine blk_alloc ?_ _)); exact BK106.out⟩, ⟨by repeat (first | (with_reducible first | exact HB.out | apply below_alloc | apply pw_below_drewN | apply below_drew1 | refine below_set ?_ GE106.out) | exact HB.out)⟩⟩
        · replace c9 := Bool.eq_false_iff.mpr c9
          subst c9
          have H1 : (rec_May.j0 k true a0_0 a0_1 a0_2 a0_3 a0_4 a0_5 l0_6 l0_7 l0_8) = some r := by rw [if_neg (show ¬ (false = true) by decide)] at H; exact H
          clear H
          have H := H1
          clear H1
          have H' := Aside0.mk H
          clear H
          have hcz15_0 : w3.cell? ⟨gb106, 0, none⟩ = some (.int .i64 a0_0) := (blk_cell BK106.out 0).trans rfl
          have hcz15_1 : w3.cell? ⟨gb106, 1, none⟩ = some (.int .i64 a0_1) := (blk_cell BK106.out 1).trans rfl
          have hcz15_2 : w3.cell? ⟨gb106, 2, none⟩ = some (.int .i64 a0_2) := (blk_cell BK106.out 2).trans rfl
          have hcz15_3 : w3.cell? ⟨gb106, 3, none⟩ = some (.int .i64 a0_3) := (blk_cell BK106.out 3).trans rfl
          have hcz15_4 : w3.cell? ⟨gb106, 4, none⟩ = some (.int .i64 a0_4) := (blk_cell BK106.out 4).trans rfl
          have hcz15_5 : w3.cell? ⟨gb106, 5, none⟩ = some (.bool a0_5) := (blk_cell BK106.out 5).trans rfl
          have hcz15_6 : w3.cell? ⟨gb106, 6, none⟩ = some (.slice A0_6 l0_6.length c0_6) := (blk_cell BK106.out 6).trans rfl
          have hcz15_7 : w3.cell? ⟨gb106, 7, none⟩ = some (.slice A0_7 l0_7.length c0_7) := (blk_cell BK106.out 7).trans rfl
          have hcz15_8 : w3.cell? ⟨gb106, 8, none⟩ = some (.slice A0_8 l0_8.length c0_8) := (blk_cell BK106.out 8).trans rfl
          have hfz15_0 := blk_frozen BK106.out 0
          have hfz15_1 := blk_frozen BK106.out 1
          have hfz15_2 := blk_frozen BK106.out 2
          have hfz15_3 := blk_frozen BK106.out 3
          have hfz15_4 := blk_frozen BK106.out 4
          have hfz15_5 := blk_frozen BK106.out 5
          have hfz15_6 := blk_frozen BK106.out 6
          have hfz15_7 := blk_frozen BK106.out 7
          have hfz15_8 := blk_frozen BK106.out 8
          go_wp2_with (first | (go_at_call 38; (with_reducible refine (rec_mayTx.calls a0_0 a0_1 a0_2 a0_3 a0_4 a0_5 _ _ l0_6 _ _ l0_7 _ _ l0_8 false _ ?side1 ?side2 ?side3 ?side4 ?side5 ?side6 A8.out).mono ?_); (case side1 => repeat (first | exact (Kd.C_below HR0_6.out HB.out) | (with_reducible refine Kd.C_alloc ?_ _) | (with_reducible refine Kd.C_drewN ?_ _) | (with_reducible refine Kd.C_drew ?_))); (case side2 => exact HC0_6.out); (case side3 => repeat (first | exact (Kd.C_below HR0_7.out HB.out) | (with_reducible refine Kd.C_alloc ?_ _) | (with_reducible refine Kd.C_drewN ?_ _) | (with_reducible refine Kd.C_drew ?_))); (case side4 => exact HC0_7.out); (case side5 => repeat (first | exact (Kd.C_below HR0_8.out HB.out) | (with_reducible refine Kd.C_alloc ?_ _) | (with_reducible refine Kd.C_drewN ?_ _) | (with_reducible refine Kd.C_drew ?_))); (case side6 => exact HC0_8.out); rintro e w16 ⟨rfl, hb⟩; have n0_ := Aside0.mk (blk_below (g := gb106) (o := .cells #[.int .i64 a0_0, .int .i64 a0_1, .int .i64 a0_2, .int .i64 a0_3, .int .i64 a0_4, .bool a0_5, .slice A0_6 l0_6.length c0_6, .slice A0_7 l0_7.length c0_7, .slice A0_8 l0_8.length c0_8] 34 (0, 0)) (by (with_reducible repeat (first | refine blk_drewN ?_ _ | refine blk_drew ?_ | refine blk_alloc ?_ _)); exact BK106.out) hb); have n1_ := Aside0.mk (below_step (by repeat (first | (with_reducible first | exact HB.out | apply below_alloc | apply pw_below_drewN | apply below_drew1 | refine below_set ?_ GE106.out) | exact HB.out)) hb); clear BK106; clear HB; have BK106 := n0_; have HB := n1_; clear n0_ n1_; (try clear hb); (try clear hb2); (try clear hk); (try clear hi)))
          go_meet
          case rel => exact ⟨_, (true), (by first | rfl | (simp; done) | (simp [*]; done)), H', ⟨by first | omega | exact Nat.le_refl _⟩, ⟨by (with_reducible repeat (first | refine blk_drewN ?_ _ | refine blk_drew ?_ | refine blk_alloc ?_ _)); exact BK106.out⟩, ⟨by repeat (first | (with_reducible first | exact HB.out | apply below_alloc | apply pw_below_drewN | apply below_drew1 | refine below_set ?_ GE106.out) | exact HB.out)⟩⟩
  case rest =>
    clear HC2
    try clear c1
    try clear p2
    try clear c4
    try clear c4b0
    try clear c6
    try clear c6b0
    try clear c9
    try clear hcz11_0
    try clear hcz11_1
    try clear hcz11_2
    try clear hcz11_3
    try clear hcz11_4
    try clear hcz11_5
    try clear hcz11_6
    try clear hcz11_7
    try clear hcz11_8
    try clear hcz13_0
    try clear hcz13_1
    try clear hcz13_2
    try clear hcz13_3
    try clear hcz13_4
    try clear hcz13_5
    try clear hcz13_6
    try clear hcz13_7
    try clear hcz13_8
    try clear hcz15_0
    try clear hcz15_1
    try clear hcz15_2
    try clear hcz15_3
    try clear hcz15_4
    try clear hcz15_5
    try clear hcz15_6
    try clear hcz15_7
    try clear hcz15_8
    try clear hcz5_0
    try clear hcz5_1
    try clear hcz5_2
    try clear hcz5_3
    try clear hcz5_4
    try clear hcz5_5
    try clear hcz5_6
    try clear hcz5_7
    try clear hcz5_8
    try clear hcz7_0
    try clear hcz7_1
    try clear hcz7_2
    try clear hcz7_3
    try clear hcz7_4
    try clear hcz7_5
    try clear hcz7_6
    try clear hcz7_7
    try clear hcz7_8
    try clear hfz11_0
    try clear hfz11_1
    try clear hfz11_2
    try clear hfz11_3
    try clear hfz11_4
    try clear hfz11_5
    try clear hfz11_6
    try clear hfz11_7
    try clear hfz11_8
    try clear hfz13_0
    try clear hfz13_1
    try clear hfz13_2
    try clear hfz13_3
    try clear hfz13_4
    try clear hfz13_5
    try clear hfz13_6
    try clear hfz13_7
    try clear hfz13_8
    try clear hfz15_0
    try clear hfz15_1
    try clear hfz15_2
    try clear hfz15_3
    try clear hfz15_4
    try clear hfz15_5
    try clear hfz15_6
    try clear hfz15_7
    try clear hfz15_8
    try clear hfz5_0
    try clear hfz5_1
    try clear hfz5_2
    try clear hfz5_3
    try clear hfz5_4
    try clear hfz5_5
    try clear hfz5_6
    try clear hfz5_7
    try clear hfz5_8
    try clear hfz7_0
    try clear hfz7_1
    try clear hfz7_2
    try clear hfz7_3
    try clear hfz7_4
    try clear hfz7_5
    try clear hfz7_6
    try clear hfz7_7
    try clear hfz7_8
    obtain ⟨kq, x3_1, rfl, HA, HJ1, BK106, HB⟩ := hcut
    cases kq with
    | zero => exact absurd HA.out (by simp [rec_May.j0])
    | succ kj1 =>
      have H := HA.out
      clear HA
      simp only [rec_May.j0] at H
      by_cases c17 : x3_1 = true
      · subst c17
        have H1 : (some false) = some r := by rw [if_pos rfl] at H; exact H
        clear H
        have H := H1
        clear H1
        obtain rfl := Option.some.inj H
        go_wp2
        go_ret
        exact ⟨by first | rfl | (simp [errW_none, errW_some] <;> rfl) | (simp [*, errW_none, errW_some] <;> rfl), by repeat (first | (with_reducible first | exact HB.out | apply below_alloc | apply pw_below_drewN | apply below_drew1 | refine below_set ?_ GE106.out) | exact HB.out)⟩
      · replace c17 := Bool.eq_false_iff.mpr c17
        subst c17
        have H1 : (if a0_2 < 0 then (rec_May.j1 kj1 true a0_0 a0_1 a0_2 a0_3 a0_4 a0_5 l0_6 l0_7 l0_8) else (if a0_2 > 1099511627776 then (rec_May.j1 kj1 true a0_0 a0_1 a0_2 a0_3 a0_4 a0_5 l0_6 l0_7 l0_8) else (if a0_2 = 0 then (if a0_5 = true then (rec_May.j1 kj1 (a0_0 != 4) a0_0 a0_1 a0_2 a0_3 a0_4 a0_5 l0_6 l0_7 l0_8) else (rec_May.j1 kj1 false a0_0 a0_1 a0_2 a0_3 a0_4 a0_5 l0_6 l0_7 l0_8)) else (if a0_0 = 5 then (if a0_5 = true then (rec_May.j1 kj1 (a0_0 != 4) a0_0 a0_1 a0_2 a0_3 a0_4 a0_5 l0_6 l0_7 l0_8) else (rec_May.j1 kj1 false a0_0 a0_1 a0_2 a0_3 a0_4 a0_5 l0_6 l0_7 l0_8)) else (rec_May.j1 kj1 true a0_0 a0_1 a0_2 a0_3 a0_4 a0_5 l0_6 l0_7 l0_8))))) = some r := by rw [if_neg (show ¬ (false = true) by decide)] at H; exact H
        clear H
        have H := H1
        clear H1
        have HC18 := Aside0.mk H
        clear H
        go_upto_region 3 with (fail)
        go_cut [22] (fun v22 wc => ∃ (kq : Nat) (x22_17 : Bool), v22 = .bool x22_17 ∧ Aside0 (rec_May.j1 kq x22_17 a0_0 a0_1 a0_2 a0_3 a0_4 a0_5 l0_6 l0_7 l0_8 = some r) ∧ Aside0 (kq ≤ kj1) ∧ Aside0 (wc.heap[gb106]? = some (.cells #[.int .i64 a0_0, .int .i64 a0_1, .int .i64 a0_2, .int .i64 a0_3, .int .i64 a0_4, .bool a0_5, (.slice A0_6 l0_6.length c0_6), (.slice A0_7 l0_7.length c0_7), (.slice A0_8 l0_8.length c0_8)] 34 (0, 0))) ∧ Aside0 (Below w.heap.size w wc))
        case first =>
          have H := HC18.out
          clear HC18
          by_cases c19 : a0_2 < 0
          · rw [if_pos c19] at H
            have c19b0 : decide (a0_2 < 0) = true := decide_eq_true c19
            clear c19
            (first | rw [c19b0] | (simp only [i64_w, i32_w]; rw [c19b0]) | skip)
            have H' := Aside0.mk H
            clear H
            have hcz20_0 : wc.cell? ⟨gb106, 0, none⟩ = some (.int .i64 a0_0) := (blk_cell BK106.out 0).trans rfl
            have hcz20_1 : wc.cell? ⟨gb106, 1, none⟩ = some (.int .i64 a0_1) := (blk_cell BK106.out 1).trans rfl
            have hcz20_2 : wc.cell? ⟨gb106, 2, none⟩ = some (.int .i64 a0_2) := (blk_cell BK106.out 2).trans rfl
            have hcz20_3 : wc.cell? ⟨gb106, 3, none⟩ = some (.int .i64 a0_3) := (blk_cell BK106.out 3).trans rfl
            have hcz20_4 : wc.cell? ⟨gb106, 4, none⟩ = some (.int .i64 a0_4) := (blk_cell BK106.out 4).trans rfl
            have hcz20_5 : wc.cell? ⟨gb106, 5, none⟩ = some (.bool a0_5) := (blk_cell BK106.out 5).trans rfl
            have hcz20_6 : wc.cell? ⟨gb106, 6, none⟩ = some (.slice A0_6 l0_6.length c0_6) := (blk_cell BK106.out 6).trans rfl
            have hcz20_7 : wc.cell? ⟨gb106, 7, none⟩ = some (.slice A0_7 l0_7.length c0_7) := (blk_cell BK106.out 7).trans rfl
            have hcz20_8 : wc.cell? ⟨gb106, 8, none⟩ = some (.slice A0_8 l0_8.length c0_8) := (blk_cell BK106.out 8).trans rfl
            have hfz20_0 := blk_frozen BK106.out 0
            have hfz20_1 := blk_frozen BK106.out 1
            have hfz20_2 := blk_frozen BK106.out 2
            have hfz20_3 := blk_frozen BK106.out 3
            have hfz20_4 := blk_frozen BK106.out 4
            have hfz20_5 := blk_frozen BK106.out 5
            have hfz20_6 := blk_frozen BK106.out 6
            have hfz20_7 := blk_frozen BK106.out 7
            have hfz20_8 := blk_frozen BK106.out 8
            go_wp2
            go_meet
            case rel => exact ⟨_, (true), (by first | rfl | (simp; done) | (simp [*]; done)), H', ⟨by have := HJ1.out; first | omega | exact Nat.le_refl _⟩, ⟨by (with_reducible repeat (first | refine blk_drewN ?_ _ | refine blk_drew ?_ | refine blk_alloc ?_ _)); exact BK106.out⟩, ⟨by repeat (first | (with_reducible first | exact HB.out | apply below_alloc | apply pw_below_drewN | apply below_drew1 | refine below_set ?_ GE106.out) | exact HB.out)⟩⟩
          · rw [if_neg c19] at H
            have c19b0 : decide (a0_2 < 0) = false := decide_eq_false c19
            clear c19
            (first | rw [c19b0] | (simp only [i64_w, i32_w]; rw [c19b0]) | skip)
            by_cases c21 : a0_2 > 1099511627776
            · rw [if_pos c21] at H
              have c21b0 : decide (1099511627776 < a0_2) = true := decide_eq_true c21
              clear c21
              have H' := Aside0.mk H
              clear H
              have hcz22_0 : wc.cell? ⟨gb106, 0, none⟩ = some (.int .i64 a0_0) := (blk_cell BK106.out 0).trans rfl
              have hcz22_1 : wc.cell? ⟨gb106, 1, none⟩ = some (.int .i64 a0_1) := (blk_cell BK106.out 1).trans rfl
              have hcz22_2 : wc.cell? ⟨gb106, 2, none⟩ = some (.int .i64 a0_2) := (blk_cell BK106.out 2).trans rfl
              have hcz22_3 : wc.cell? ⟨gb106, 3, none⟩ = some (.int .i64 a0_3) := (blk_cell BK106.out 3).trans rfl
              have hcz22_4 : wc.cell? ⟨gb106, 4, none⟩ = some (.int .i64 a0_4) := (blk_cell BK106.out 4).trans rfl
              have hcz22_5 : wc.cell? ⟨gb106, 5, none⟩ = some (.bool a0_5) := (blk_cell BK106.out 5).trans rfl
              have hcz22_6 : wc.cell? ⟨gb106, 6, none⟩ = some (.slice A0_6 l0_6.length c0_6) := (blk_cell BK106.out 6).trans rfl
              have hcz22_7 : wc.cell? ⟨gb106, 7, none⟩ = some (.slice A0_7 l0_7.length c0_7) := (blk_cell BK106.out 7).trans rfl
              have hcz22_8 : wc.cell? ⟨gb106, 8, none⟩ = some (.slice A0_8 l0_8.length c0_8) := (blk_cell BK106.out 8).trans rfl
              have hfz22_0 := blk_frozen BK106.out 0
              have hfz22_1 := blk_frozen BK106.out 1
              have hfz22_2 := blk_frozen BK106.out 2
              have hfz22_3 := blk_frozen BK106.out 3
              have hfz22_4 := blk_frozen BK106.out 4
              have hfz22_5 := blk_frozen BK106.out 5
              have hfz22_6 := blk_frozen BK106.out 6
              have hfz22_7 := blk_frozen BK106.out 7
              have hfz22_8 := blk_frozen BK106.out 8
              go_wp2
              go_meet
              case rel => exact ⟨_, (true), (by first | rfl | (simp; done) | (simp [*]; done)), H', ⟨by have := HJ1.out; first | omega | exact Nat.le_refl _⟩, ⟨by (with_reducible repeat (first | refine blk_drewN ?_ _ | refine blk_drew ?_ | refine blk_alloc ?_ _)); exact BK106.out⟩, ⟨by repeat (first | (with_reducible first | exact HB.out | apply below_alloc | apply pw_below_drewN | apply below_drew1 | refine below_set ?_ GE106.out) | exact HB.out)⟩⟩
            · rw [if_neg c21] at H
              have c21b0 : decide (1099511627776 < a0_2) = false := decide_eq_false c21
              clear c21
              by_cases c23 : a0_2 = 0
              · rw [if_pos c23] at H
                have c23b0 : (a0_2 == 0) = true := beq_iff_eq.mpr c23
                have c23b1 : (a0_2 != 0) = false := bne_eq_false_iff_eq.mpr c23
                clear c23
                by_cases c24 : a0_5 = true
                · subst c24
                  have H1 : (rec_May.j1 kj1 (a0_0 != 4) a0_0 a0_1 a0_2 a0_3 a0_4 true l0_6 l0_7 l0_8) = some r := by rw [if_pos rfl] at H; exact H
                  clear H
                  have H := H1
                  clear H1
                  have H' := Aside0.mk H
                  clear H
                  have hcz25_0 : wc.cell? ⟨gb106, 0, none⟩ = some (.int .i64 a0_0) := (blk_cell BK106.out 0).trans rfl
                  have hcz25_1 : wc.cell? ⟨gb106, 1, none⟩ = some (.int .i64 a0_1) := (blk_cell BK106.out 1).trans rfl
                  have hcz25_2 : wc.cell? ⟨gb106, 2, none⟩ = some (.int .i64 a0_2) := (blk_cell BK106.out 2).trans rfl
                  have hcz25_3 : wc.cell? ⟨gb106, 3, none⟩ = some (.int .i64 a0_3) := (blk_cell BK106.out 3).trans rfl
                  have hcz25_4 : wc.cell? ⟨gb106, 4, none⟩ = some (.int .i64 a0_4) := (blk_cell BK106.out 4).trans rfl
                  have hcz25_5 : wc.cell? ⟨gb106, 5, none⟩ = some (.bool true) := (blk_cell BK106.out 5).trans rfl
                  have hcz25_6 : wc.cell? ⟨gb106, 6, none⟩ = some (.slice A0_6 l0_6.length c0_6) := (blk_cell BK106.out 6).trans rfl
                  have hcz25_7 : wc.cell? ⟨gb106, 7, none⟩ = some (.slice A0_7 l0_7.length c0_7) := (blk_cell BK106.out 7).trans rfl
                  have hcz25_8 : wc.cell? ⟨gb106, 8, none⟩ = some (.slice A0_8 l0_8.length c0_8) := (blk_cell BK106.out 8).trans rfl
                  have hfz25_0 := blk_frozen BK106.out 0
                  have hfz25_1 := blk_frozen BK106.out 1
                  have hfz25_2 := blk_frozen BK106.out 2
                  have hfz25_3 := blk_frozen BK106.out 3
                  have hfz25_4 := blk_frozen BK106.out 4
                  have hfz25_5 := blk_frozen BK106.out 5
                  have hfz25_6 := blk_frozen BK106.out 6
                  have hfz25_7 := blk_frozen BK106.out 7
                  have hfz25_8 := blk_frozen BK106.out 8
                  go_wp2
                  go_meet
                  case rel => exact ⟨_, ((a0_0 != 4)), (by first | rfl | (simp; done) | (simp [*]; done)), H', ⟨by have := HJ1.out; first | omega | exact Nat.le_refl _⟩, ⟨by (with_reducible repeat (first | refine blk_drewN ?_ _ | refine blk_drew ?_ | refine blk_alloc ?_ _)); exact BK106.out⟩, ⟨by repeat (first | (with_reducible first | exact HB.out | apply below_alloc | apply pw_below_drewN | apply below_drew1 | refine below_set ?_ GE106.out) | exact HB.out)⟩⟩
                · replace c24 := Bool.eq_false_iff.mpr c24
                  subst c24
                  have H1 : (rec_May.j1 kj1 false a0_0 a0_1 a0_2 a0_3 a0_4 false l0_6 l0_7 l0_8) = some r := by rw [if_neg (show ¬ (false = true) by decide)] at H; exact H
                  clear H
                  have H := H1
                  clear H1
                  have H' := Aside0.mk H
                  clear H
                  have hcz26_0 : wc.cell? ⟨gb106, 0, none⟩ = some (.int .i64 a0_0) := (blk_cell BK106.out 0).trans rfl
                  have hcz26_1 : wc.cell? ⟨gb106, 1, none⟩ = some (.int .i64 a0_1) := (blk_cell BK106.out 1).trans rfl
                  have hcz26_2 : wc.cell? ⟨gb106, 2, none⟩ = some (.int .i64 a0_2) := (blk_cell BK106.out 2).trans rfl
                  have hcz26_3 : wc.cell? ⟨gb106, 3, none⟩ = some (.int .i64 a0_3) := (blk_cell BK106.out 3).trans rfl
                  have hcz26_4 : wc.cell? ⟨gb106, 4, none⟩ = some (.int .i64 a0_4) := (blk_cell BK106.out 4).trans rfl
                  have hcz26_5 : wc.cell? ⟨gb106, 5, none⟩ = some (.bool false) := (blk_cell BK106.out 5).trans rfl
                  have hcz26_6 : wc.cell? ⟨gb106, 6, none⟩ = some (.slice A0_6 l0_6.length c0_6) := (blk_cell BK106.out 6).trans rfl
                  have hcz26_7 : wc.cell? ⟨gb106, 7, none⟩ = some (.slice A0_7 l0_7.length c0_7) := (blk_cell BK106.out 7).trans rfl
                  have hcz26_8 : wc.cell? ⟨gb106, 8, none⟩ = some (.slice A0_8 l0_8.length c0_8) := (blk_cell BK106.out 8).trans rfl
                  have hfz26_0 := blk_frozen BK106.out 0
                  have hfz26_1 := blk_frozen BK106.out 1
                  have hfz26_2 := blk_frozen BK106.out 2
                  have hfz26_3 := blk_frozen BK106.out 3
                  have hfz26_4 := blk_frozen BK106.out 4
                  have hfz26_5 := blk_frozen BK106.out 5
                  have hfz26_6 := blk_frozen BK106.out 6
                  have hfz26_7 := blk_frozen BK106.out 7
                  have hfz26_8 := blk_frozen BK106.out 8
                  go_wp2
                  go_meet
                  case rel => exact ⟨_, (false), (by first | rfl | (simp; done) | (simp [*]; done)), H', ⟨by have := HJ1.out; first | omega | exact Nat.le_refl _⟩, ⟨by (with_reducible repeat (first | refine blk_drewN ?_ _ | refine blk_drew ?_ | refine blk_alloc ?_ _)); exact BK106.out⟩, ⟨by repeat (first | (with_reducible first | exact HB.out | apply below_alloc | apply pw_below_drewN | apply below_drew1 | refine below_set ?_ GE106.out) | exact HB.out)⟩⟩
              · rw [if_neg c23] at H
                have c23b0 : (a0_2 == 0) = false := beq_eq_false_iff_ne.mpr c23
                have c23b1 : (a0_2 != 0) = true := bne_iff_ne.mpr c23
                by_cases c27 : a0_0 = 5
                · rw [if_pos c27] at H
                  have c27b0 : (a0_0 == 5) = true := beq_iff_eq.mpr c27
                  have c27b1 : (a0_0 != 5) = false := bne_eq_false_iff_eq.mpr c27
                  clear c27
                  by_cases c28 : a0_5 = true
                  · subst c28
                    have H1 : (rec_May.j1 kj1 (a0_0 != 4) a0_0 a0_1 a0_2 a0_3 a0_4 true l0_6 l0_7 l0_8) = some r := by rw [if_pos rfl] at H; exact H
                    clear H
                    have H := H1
                    clear H1
                    have H' := Aside0.mk H
                    clear H
                    have hcz29_0 : wc.cell? ⟨gb106, 0, none⟩ = some (.int .i64 a0_0) := (blk_cell BK106.out 0).trans rfl
                    have hcz29_1 : wc.cell? ⟨gb106, 1, none⟩ = some (.int .i64 a0_1) := (blk_cell BK106.out 1).trans rfl
                    have hcz29_2 : wc.cell? ⟨gb106, 2, none⟩ = some (.int .i64 a0_2) := (blk_cell BK106.out 2).trans rfl
                    have hcz29_3 : wc.cell? ⟨gb106, 3, none⟩ = some (.int .i64 a0_3) := (blk_cell BK106.out 3).trans rfl
                    have hcz29_4 : wc.cell? ⟨gb106, 4, none⟩ = some (.int .i64 a0_4) := (blk_cell BK106.out 4).trans rfl
                    have hcz29_5 : wc.cell? ⟨gb106, 5, none⟩ = some (.bool true) := (blk_cell BK106.out 5).trans rfl
                    have hcz29_6 : wc.cell? ⟨gb106, 6, none⟩ = some (.slice A0_6 l0_6.length c0_6) := (blk_cell BK106.out 6).trans rfl
                    have hcz29_7 : wc.cell? ⟨gb106, 7, none⟩ = some (.slice A0_7 l0_7.length c0_7) := (blk_cell BK106.out 7).trans rfl
                    have hcz29_8 : wc.cell? ⟨gb106, 8, none⟩ = some (.slice A0_8 l0_8.length c0_8) := (blk_cell BK106.out 8).trans rfl
                    have hfz29_0 := blk_frozen BK106.out 0
                    have hfz29_1 := blk_frozen BK106.out 1
                    have hfz29_2 := blk_frozen BK106.out 2
                    have hfz29_3 := blk_frozen BK106.out 3
                    have hfz29_4 := blk_frozen BK106.out 4
                    have hfz29_5 := blk_frozen BK106.out 5
                    have hfz29_6 := blk_frozen BK106.out 6
                    have hfz29_7 := blk_frozen BK106.out 7
                    have hfz29_8 := blk_frozen BK106.out 8
                    go_wp2
                    go_meet
                    case rel => exact ⟨_, ((a0_0 != 4)), (by first | rfl | (simp; done) | (simp [*]; done)), H', ⟨by have := HJ1.out; first | omega | exact Nat.le_refl _⟩, ⟨by (with_reducible repeat (first | refine blk_drewN ?_ _ | refine blk_drew ?_ | refine blk_alloc ?_ _)); exact BK106.out⟩, ⟨by repeat (first | (with_reducible first | exact HB.out | apply below_alloc | apply pw_below_drewN | apply below_drew1 | refine below_set ?_ GE106.out) | exact HB.out)⟩⟩
                  · replace c28 := Bool.eq_false_iff.mpr c28
                    subst c28
                    have H1 : (rec_May.j1 kj1 false a0_0 a0_1 a0_2 a0_3 a0_4 false l0_6 l0_7 l0_8) = some r := by rw [if_neg (show ¬ (false = true) by decide)] at H; exact H
                    clear H
                    have H := H1
                    clear H1
                    have H' := Aside0.mk H
                    clear H
                    have hcz30_0 : wc.cell? ⟨gb106, 0, none⟩ = some (.int .i64 a0_0) := (blk_cell BK106.out 0).trans rfl
                    have hcz30_1 : wc.cell? ⟨gb106, 1, none⟩ = some (.int .i64 a0_1) := (blk_cell BK106.out 1).trans rfl
                    have hcz30_2 : wc.cell? ⟨gb106, 2, none⟩ = some (.int .i64 a0_2) := (blk_cell BK106.out 2).trans rfl
                    have hcz30_3 : wc.cell? ⟨gb106, 3, none⟩ = some (.int .i64 a0_3) := (blk_cell BK106.out 3).trans rfl
                    have hcz30_4 : wc.cell? ⟨gb106, 4, none⟩ = some (.int .i64 a0_4) := (blk_cell BK106.out 4).trans rfl
                    have hcz30_5 : wc.cell? ⟨gb106, 5, none⟩ = some (.bool false) := (blk_cell BK106.out 5).trans rfl
                    have hcz30_6 : wc.cell? ⟨gb106, 6, none⟩ = some (.slice A0_6 l0_6.length c0_6) := (blk_cell BK106.out 6).trans rfl
                    have hcz30_7 : wc.cell? ⟨gb106, 7, none⟩ = some (.slice A0_7 l0_7.length c0_7) := (blk_cell BK106.out 7).trans rfl
                    have hcz30_8 : wc.cell? ⟨gb106, 8, none⟩ = some (.slice A0_8 l0_8.length c0_8) := (blk_cell BK106.out 8).trans rfl
                    have hfz30_0 := blk_frozen BK106.out 0
                    have hfz30_1 := blk_frozen BK106.out 1
                    have hfz30_2 := blk_frozen BK106.out 2
                    have hfz30_3 := blk_frozen BK106.out 3
                    have hfz30_4 := blk_frozen BK106.out 4
                    have hfz30_5 := blk_frozen BK106.out 5
                    have hfz30_6 := blk_frozen BK106.out 6
                    have hfz30_7 := blk_frozen BK106.out 7
                    have hfz30_8 := blk_frozen BK106.out 8
                    go_wp2
                    go_meet
                    case rel => exact ⟨_, (false), (by first | rfl | (simp; done) | (simp [*]; done)), H', ⟨by have := HJ1.out; first | omega | exact Nat.le_refl _⟩, ⟨by (with_reducible repeat (first | refine blk_drewN ?_ _ | refine blk_drew ?_ | refine blk_alloc ?_ _)); exact BK106.out⟩, ⟨by repeat (first | (with_reducible first | exact HB.out | apply below_alloc | apply pw_below_drewN | apply below_drew1 | refine below_set ?_ GE106.out) | exact HB.out)⟩⟩
                · rw [if_neg c27] at H
                  have c27b0 : (a0_0 == 5) = false := beq_eq_false_iff_ne.mpr c27
                  have c27b1 : (a0_0 != 5) = true := bne_iff_ne.mpr c27
                  have H' := Aside0.mk H
                  clear H
                  have hcz31_0 : wc.cell? ⟨gb106, 0, none⟩ = some (.int .i64 a0_0) := (blk_cell BK106.out 0).trans rfl
                  have hcz31_1 : wc.cell? ⟨gb106, 1, none⟩ = some (.int .i64 a0_1) := (blk_cell BK106.out 1).trans rfl
                  have hcz31_2 : wc.cell? ⟨gb106, 2, none⟩ = some (.int .i64 a0_2) := (blk_cell BK106.out 2).trans rfl
                  have hcz31_3 : wc.cell? ⟨gb106, 3, none⟩ = some (.int .i64 a0_3) := (blk_cell BK106.out 3).trans rfl
                  have hcz31_4 : wc.cell? ⟨gb106, 4, none⟩ = some (.int .i64 a0_4) := (blk_cell BK106.out 4).trans rfl
                  have hcz31_5 : wc.cell? ⟨gb106, 5, none⟩ = some (.bool a0_5) := (blk_cell BK106.out 5).trans rfl
                  have hcz31_6 : wc.cell? ⟨gb106, 6, none⟩ = some (.slice A0_6 l0_6.length c0_6) := (blk_cell BK106.out 6).trans rfl
                  have hcz31_7 : wc.cell? ⟨gb106, 7, none⟩ = some (.slice A0_7 l0_7.length c0_7) := (blk_cell BK106.out 7).trans rfl
                  have hcz31_8 : wc.cell? ⟨gb106, 8, none⟩ = some (.slice A0_8 l0_8.length c0_8) := (blk_cell BK106.out 8).trans rfl
                  have hfz31_0 := blk_frozen BK106.out 0
                  have hfz31_1 := blk_frozen BK106.out 1
                  have hfz31_2 := blk_frozen BK106.out 2
                  have hfz31_3 := blk_frozen BK106.out 3
                  have hfz31_4 := blk_frozen BK106.out 4
                  have hfz31_5 := blk_frozen BK106.out 5
                  have hfz31_6 := blk_frozen BK106.out 6
                  have hfz31_7 := blk_frozen BK106.out 7
                  have hfz31_8 := blk_frozen BK106.out 8
                  go_wp2
                  go_meet
                  case rel => exact ⟨_, (true), (by first | rfl | (simp; done) | (simp [*]; done)), H', ⟨by have := HJ1.out; first | omega | exact Nat.le_refl _⟩, ⟨by (with_reducible repeat (first | refine blk_drewN ?_ _ | refine blk_drew ?_ | refine blk_alloc ?_ _)); exact BK106.out⟩, ⟨by repeat (first | (with_reducible first | exact HB.out | apply below_alloc | apply pw_below_drewN | apply below_drew1 | refine below_set ?_ GE106.out) | exact HB.out)⟩⟩
        case rest =>
          clear HC18
          try clear c1
          try clear c2
          try clear p2
          try clear c4
          try clear c4b0
          try clear c6
          try clear c6b0
          try clear c9
          try clear c17
          try clear c18
          try clear c19
          try clear c19b0
          try clear c21
          try clear c21b0
          try clear c23
          try clear c23b0
          try clear c23b1
          try clear c24
          try clear c27
          try clear c27b0
          try clear c27b1
          try clear c28
          try clear hcz11_0
          try clear hcz11_1
          try clear hcz11_2
          try clear hcz11_3
          try clear hcz11_4
          try clear hcz11_5
          try clear hcz11_6
          try clear hcz11_7
          try clear hcz11_8
          try clear hcz13_0
          try clear hcz13_1
          try clear hcz13_2
          try clear hcz13_3
          try clear hcz13_4
          try clear hcz13_5
          try clear hcz13_6
          try clear hcz13_7
          try clear hcz13_8
          try clear hcz15_0
          try clear hcz15_1
          try clear hcz15_2
          try clear hcz15_3
          try clear hcz15_4
          try clear hcz15_5
          try clear hcz15_6
          try clear hcz15_7
          try clear hcz15_8
          try clear hcz20_0
          try clear hcz20_1
          try clear hcz20_2
          try clear hcz20_3
          try clear hcz20_4
          try clear hcz20_5
          try clear hcz20_6
          try clear hcz20_7
          try clear hcz20_8
          try clear hcz22_0
          try clear hcz22_1
          try clear hcz22_2
          try clear hcz22_3
          try clear hcz22_4
          try clear hcz22_5
          try clear hcz22_6
          try clear hcz22_7
          try clear hcz22_8
          try clear hcz25_0
          try clear hcz25_1
          try clear hcz25_2
          try clear hcz25_3
          try clear hcz25_4
          try clear hcz25_5
          try clear hcz25_6
          try clear hcz25_7
          try clear hcz25_8
          try clear hcz26_0
          try clear hcz26_1
          try clear hcz26_2
          try clear hcz26_3
          try clear hcz26_4
          try clear hcz26_5
          try clear hcz26_6
          try clear hcz26_7
          try clear hcz26_8
          try clear hcz29_0
          try clear hcz29_1
          try clear hcz29_2
          try clear hcz29_3
          try clear hcz29_4
          try clear hcz29_5
          try clear hcz29_6
          try clear hcz29_7
          try clear hcz29_8
          try clear hcz30_0
          try clear hcz30_1
          try clear hcz30_2
          try clear hcz30_3
          try clear hcz30_4
          try clear hcz30_5
          try clear hcz30_6
          try clear hcz30_7
          try clear hcz30_8
          try clear hcz31_0
          try clear hcz31_1
          try clear hcz31_2
          try clear hcz31_3
          try clear hcz31_4
          try clear hcz31_5
          try clear hcz31_6
          try clear hcz31_7
          try clear hcz31_8
          try clear hcz5_0
          try clear hcz5_1
          try clear hcz5_2
          try clear hcz5_3
          try clear hcz5_4
          try clear hcz5_5
          try clear hcz5_6
          try clear hcz5_7
          try clear hcz5_8
          try clear hcz7_0
          try clear hcz7_1
          try clear hcz7_2
          try clear hcz7_3
          try clear hcz7_4
          try clear hcz7_5
          try clear hcz7_6
          try clear hcz7_7
          try clear hcz7_8
          try clear hfz11_0
          try clear hfz11_1
          try clear hfz11_2
          try clear hfz11_3
          try clear hfz11_4
          try clear hfz11_5
          try clear hfz11_6
          try clear hfz11_7
          try clear hfz11_8
          try clear hfz13_0
          try clear hfz13_1
          try clear hfz13_2
          try clear hfz13_3
          try clear hfz13_4
          try clear hfz13_5
          try clear hfz13_6
          try clear hfz13_7
          try clear hfz13_8
          try clear hfz15_0
          try clear hfz15_1
          try clear hfz15_2
          try clear hfz15_3
          try clear hfz15_4
          try clear hfz15_5
          try clear hfz15_6
          try clear hfz15_7
          try clear hfz15_8
          try clear hfz20_0
          try clear hfz20_1
          try clear hfz20_2
          try clear hfz20_3
          try clear hfz20_4
          try clear hfz20_5
          try clear hfz20_6
          try clear hfz20_7
          try clear hfz20_8
          try clear hfz22_0
          try clear hfz22_1
          try clear hfz22_2
          try clear hfz22_3
          try clear hfz22_4
          try clear hfz22_5
          try clear hfz22_6
          try clear hfz22_7
          try clear hfz22_8
          try clear hfz25_0
          try clear hfz25_1
          try clear hfz25_2
          try clear hfz25_3
          try clear hfz25_4
          try clear hfz25_5
          try clear hfz25_6
          try clear hfz25_7
          try clear hfz25_8
          try clear hfz26_0
          try clear hfz26_1
          try clear hfz26_2
          try clear hfz26_3
          try clear hfz26_4
          try clear hfz26_5
          try clear hfz26_6
          try clear hfz26_7
          try clear hfz26_8
          try clear hfz29_0
          try clear hfz29_1
          try clear hfz29_2
          try clear hfz29_3
          try clear hfz29_4
          try clear hfz29_5
          try clear hfz29_6
          try clear hfz29_7
          try clear hfz29_8
          try clear hfz30_0
          try clear hfz30_1
          try clear hfz30_2
          try clear hfz30_3
          try clear hfz30_4
          try clear hfz30_5
          try clear hfz30_6
          try clear hfz30_7
          try clear hfz30_8
          try clear hfz31_0
          try clear hfz31_1
          try clear hfz31_2
          try clear hfz31_3
          try clear hfz31_4
          try clear hfz31_5
          try clear hfz31_6
          try clear hfz31_7
          try clear hfz31_8
          try clear hfz5_0
          try clear hfz5_1
          try clear hfz5_2
          try clear hfz5_3
          try clear hfz5_4
          try clear hfz5_5
          try clear hfz5_6
          try clear hfz5_7
          try clear hfz5_8
          try clear hfz7_0
          try clear hfz7_1
          try clear hfz7_2
          try clear hfz7_3
          try clear hfz7_4
          try clear hfz7_5
          try clear hfz7_6
          try clear hfz7_7
          try clear hfz7_8
          try clear p2
          obtain ⟨kq, x22_17, rfl, HA, HJ17, BK106, HB⟩ := hcut
          cases kq with
          | zero => exact absurd HA.out (by simp [rec_May.j1])
          | succ kj17 =>
            have H := HA.out
            clear HA
            simp only [rec_May.j1] at H
            by_cases c32 : x22_17 = true
            · subst c32
              have H1 : (some false) = some r := by rw [if_pos rfl] at H; exact H
              clear H
              have H := H1
              clear H1
              obtain rfl := Option.some.inj H
              go_wp2
              go_ret
              exact ⟨by first | rfl | (simp [errW_none, errW_some] <;> rfl) | (simp [*, errW_none, errW_some] <;> rfl), by repeat (first | (with_reducible first | exact HB.out | apply below_alloc | apply pw_below_drewN | apply below_drew1 | refine below_set ?_ GE106.out) | exact HB.out)⟩
            · replace c32 := Bool.eq_false_iff.mpr c32
              subst c32
              have H1 : ((rec_tells.f a0_0).bind fun t109 => (if t109 = true then ((rec_Rises.f kj17 l0_6 64).bind fun t110 => (if t110 = true then ((rec_Rises.f kj17 l0_7 16).bind fun t111 => (if t111 = true then (some (decide ((l0_8.length : Int) ≤ 4096))) else (some false))) else (some false))) else (some ((wrap64 ((wrap64 ((l0_6.length : Int) + (l0_7.length : Int))) + (l0_8.length : Int))) == 0)))) = some r := by rw [if_neg (show ¬ (false = true) by decide)] at H; exact H
              clear H
              have H := H1
              clear H1
              replace H := Option.bind_eq_some_iff.mp H
              obtain ⟨t109, A330, H⟩ := H
              replace H : (if t109 = true then ((rec_Rises.f kj17 l0_6 64).bind fun t110 => (if t110 = true then ((rec_Rises.f kj17 l0_7 16).bind fun t111 => (if t111 = true then (some (decide ((l0_8.length : Int) ≤ 4096))) else (some false))) else (some false))) else (some ((wrap64 ((wrap64 ((l0_6.length : Int) + (l0_7.length : Int))) + (l0_8.length : Int))) == 0))) = some r := H
              have A33 := Aside0.mk A330
              clear A330
              by_cases c34 : t109 = true
              · subst c34
                have H1 : ((rec_Rises.f kj17 l0_6 64).bind fun t110 => (if t110 = true then ((rec_Rises.f kj17 l0_7 16).bind fun t111 => (if t111 = true then (some (decide ((l0_8.length : Int) ≤ 4096))) else (some false))) else (some false))) = some r := by rw [if_pos rfl] at H; exact H
                clear H
                have H := H1
                clear H1
                replace H := Option.bind_eq_some_iff.mp H
                obtain ⟨t110, A350, H⟩ := H
                replace H : (if t110 = true then ((rec_Rises.f kj17 l0_7 16).bind fun t111 => (if t111 = true then (some (decide ((l0_8.length : Int) ≤ 4096))) else (some false))) else (some false)) = some r := H
                have A35 := Aside0.mk A350
                clear A350
                by_cases c36 : t110 = true
                · subst c36
                  have H1 : ((rec_Rises.f kj17 l0_7 16).bind fun t111 => (if t111 = true then (some (decide ((l0_8.length : Int) ≤ 4096))) else (some false))) = some r := by rw [if_pos rfl] at H; exact H
                  clear H
                  have H := H1
                  clear H1
                  replace H := Option.bind_eq_some_iff.mp H
                  obtain ⟨t111, A370, H⟩ := H
                  replace H : (if t111 = true then (some (decide ((l0_8.length : Int) ≤ 4096))) else (some false)) = some r := H
                  have A37 := Aside0.mk A370
                  clear A370
                  by_cases c38 : t111 = true
                  · subst c38
                    have H1 : (some (decide ((l0_8.length : Int) ≤ 4096))) = some r := by rw [if_pos rfl] at H; exact H
                    clear H
                    have H := H1
                    clear H1
                    obtain rfl := Option.some.inj H
                    have hcz39_0 : wc.cell? ⟨gb106, 0, none⟩ = some (.int .i64 a0_0) := (blk_cell BK106.out 0).trans rfl
                    have hcz39_1 : wc.cell? ⟨gb106, 1, none⟩ = some (.int .i64 a0_1) := (blk_cell BK106.out 1).trans rfl
                    have hcz39_2 : wc.cell? ⟨gb106, 2, none⟩ = some (.int .i64 a0_2) := (blk_cell BK106.out 2).trans rfl
                    have hcz39_3 : wc.cell? ⟨gb106, 3, none⟩ = some (.int .i64 a0_3) := (blk_cell BK106.out 3).trans rfl
                    have hcz39_4 : wc.cell? ⟨gb106, 4, none⟩ = some (.int .i64 a0_4) := (blk_cell BK106.out 4).trans rfl
                    have hcz39_5 : wc.cell? ⟨gb106, 5, none⟩ = some (.bool a0_5) := (blk_cell BK106.out 5).trans rfl
                    have hcz39_6 : wc.cell? ⟨gb106, 6, none⟩ = some (.slice A0_6 l0_6.length c0_6) := (blk_cell BK106.out 6).trans rfl
                    have hcz39_7 : wc.cell? ⟨gb106, 7, none⟩ = some (.slice A0_7 l0_7.length c0_7) := (blk_cell BK106.out 7).trans rfl
                    have hcz39_8 : wc.cell? ⟨gb106, 8, none⟩ = some (.slice A0_8 l0_8.length c0_8) := (blk_cell BK106.out 8).trans rfl
                    have hfz39_0 := blk_frozen BK106.out 0
                    have hfz39_1 := blk_frozen BK106.out 1
                    have hfz39_2 := blk_frozen BK106.out 2
                    have hfz39_3 := blk_frozen BK106.out 3
                    have hfz39_4 := blk_frozen BK106.out 4
                    have hfz39_5 := blk_frozen BK106.out 5
                    have hfz39_6 := blk_frozen BK106.out 6
                    have hfz39_7 := blk_frozen BK106.out 7
                    have hfz39_8 := blk_frozen BK106.out 8
                    go_wp2_with (first | ((with_reducible refine gate_callee (f := 40) rfl ?_); refine goesL_ (some 53) rfl rfl Try.func40 (by kernel_rfl) rfl #[.int .i64 a0_0] rfl (by (try simp only [List.map_toArray, List.map_cons, List.map_nil]); first | done | rfl | (simp only [List.length_drop, List.length_take]; rfl)) ?_; (with_reducible refine (rec_tells.calls a0_0 true _ A33.out).mono ?_); rintro e w' ⟨rfl, ⟨nd, rfl⟩⟩; refine ⟨_, rfl, ?_⟩) | ((with_reducible refine gate_callee (f := 41) rfl ?_); refine goesL_ (some 69) rfl rfl Try.func41 (by kernel_rfl) rfl #[.slice A0_6 l0_6.length c0_6, .int .i64 64] rfl (by (try simp only [List.map_toArray, List.map_cons, List.map_nil]); first | done | rfl | (simp only [List.length_drop, List.length_take]; rfl)) ?_; (with_reducible refine (rec_Rises.calls kj17 _ _ l0_6 64 true _ ?side1 ?side2 A35.out).mono ?_); (case side1 => repeat (first | exact (Kd.C_below HR0_6.out (by repeat (first | (with_reducible first | exact HB.out | apply below_alloc | apply pw_below_drewN | apply below_drew1 | refine below_set ?_ GE106.out) | exact HB.out))) | (with_reducible refine Kd.C_alloc ?_ _) | (with_reducible refine Kd.C_drewN ?_ _) | (with_reducible refine Kd.C_drew ?_))); (case side2 => exact HC0_6.out); rintro e w' ⟨rfl, ⟨nd, rfl⟩⟩; refine ⟨_, rfl, ?_⟩) | (go_at_call 41; (with_reducible refine (rec_Rises.calls kj17 _ _ l0_7 16 true _ ?side1 ?side2 A37.out).mono ?_); (case side1 => repeat (first | exact (Kd.C_below HR0_7.out (by repeat (first | (with_reducible first | exact HB.out | apply below_alloc | apply pw_below_drewN | apply below_drew1 | refine below_set ?_ GE106.out) | exact HB.out))) | (with_reducible refine Kd.C_alloc ?_ _) | (with_reducible refine Kd.C_drewN ?_ _) | (with_reducible refine Kd.C_drew ?_))); (case side2 => exact HC0_7.out); rintro e w' ⟨rfl, ⟨nd, rfl⟩⟩))
                    go_ret
                    exact ⟨by first | rfl | (simp [errW_none, errW_some] <;> rfl) | (simp [*, errW_none, errW_some] <;> rfl), by repeat (first | (with_reducible first | exact HB.out | apply below_alloc | apply pw_below_drewN | apply below_drew1 | refine below_set ?_ GE106.out) | exact HB.out)⟩
                  · replace c38 := Bool.eq_false_iff.mpr c38
                    subst c38
                    have H1 : (some false) = some r := by rw [if_neg (show ¬ (false = true) by decide)] at H; exact H
                    clear H
                    have H := H1
                    clear H1
                    obtain rfl := Option.some.inj H
                    have hcz40_0 : wc.cell? ⟨gb106, 0, none⟩ = some (.int .i64 a0_0) := (blk_cell BK106.out 0).trans rfl
                    have hcz40_1 : wc.cell? ⟨gb106, 1, none⟩ = some (.int .i64 a0_1) := (blk_cell BK106.out 1).trans rfl
                    have hcz40_2 : wc.cell? ⟨gb106, 2, none⟩ = some (.int .i64 a0_2) := (blk_cell BK106.out 2).trans rfl
                    have hcz40_3 : wc.cell? ⟨gb106, 3, none⟩ = some (.int .i64 a0_3) := (blk_cell BK106.out 3).trans rfl
                    have hcz40_4 : wc.cell? ⟨gb106, 4, none⟩ = some (.int .i64 a0_4) := (blk_cell BK106.out 4).trans rfl
                    have hcz40_5 : wc.cell? ⟨gb106, 5, none⟩ = some (.bool a0_5) := (blk_cell BK106.out 5).trans rfl
                    have hcz40_6 : wc.cell? ⟨gb106, 6, none⟩ = some (.slice A0_6 l0_6.length c0_6) := (blk_cell BK106.out 6).trans rfl
                    have hcz40_7 : wc.cell? ⟨gb106, 7, none⟩ = some (.slice A0_7 l0_7.length c0_7) := (blk_cell BK106.out 7).trans rfl
                    have hcz40_8 : wc.cell? ⟨gb106, 8, none⟩ = some (.slice A0_8 l0_8.length c0_8) := (blk_cell BK106.out 8).trans rfl
                    have hfz40_0 := blk_frozen BK106.out 0
                    have hfz40_1 := blk_frozen BK106.out 1
                    have hfz40_2 := blk_frozen BK106.out 2
                    have hfz40_3 := blk_frozen BK106.out 3
                    have hfz40_4 := blk_frozen BK106.out 4
                    have hfz40_5 := blk_frozen BK106.out 5
                    have hfz40_6 := blk_frozen BK106.out 6
                    have hfz40_7 := blk_frozen BK106.out 7
                    have hfz40_8 := blk_frozen BK106.out 8
                    go_wp2_with (first | ((with_reducible refine gate_callee (f := 40) rfl ?_); refine goesL_ (some 53) rfl rfl Try.func40 (by kernel_rfl) rfl #[.int .i64 a0_0] rfl (by (try simp only [List.map_toArray, List.map_cons, List.map_nil]); first | done | rfl | (simp only [List.length_drop, List.length_take]; rfl)) ?_; (with_reducible refine (rec_tells.calls a0_0 true _ A33.out).mono ?_); rintro e w' ⟨rfl, ⟨nd, rfl⟩⟩; refine ⟨_, rfl, ?_⟩) | ((with_reducible refine gate_callee (f := 41) rfl ?_); refine goesL_ (some 69) rfl rfl Try.func41 (by kernel_rfl) rfl #[.slice A0_6 l0_6.length c0_6, .int .i64 64] rfl (by (try simp only [List.map_toArray, List.map_cons, List.map_nil]); first | done | rfl | (simp only [List.length_drop, List.length_take]; rfl)) ?_; (with_reducible refine (rec_Rises.calls kj17 _ _ l0_6 64 true _ ?side1 ?side2 A35.out).mono ?_); (case side1 => repeat (first | exact (Kd.C_below HR0_6.out (by repeat (first | (with_reducible first | exact HB.out | apply below_alloc | apply pw_below_drewN | apply below_drew1 | refine below_set ?_ GE106.out) | exact HB.out))) | (with_reducible refine Kd.C_alloc ?_ _) | (with_reducible refine Kd.C_drewN ?_ _) | (with_reducible refine Kd.C_drew ?_))); (case side2 => exact HC0_6.out); rintro e w' ⟨rfl, ⟨nd, rfl⟩⟩; refine ⟨_, rfl, ?_⟩) | (go_at_call 41; (with_reducible refine (rec_Rises.calls kj17 _ _ l0_7 16 false _ ?side1 ?side2 A37.out).mono ?_); (case side1 => repeat (first | exact (Kd.C_below HR0_7.out (by repeat (first | (with_reducible first | exact HB.out | apply below_alloc | apply pw_below_drewN | apply below_drew1 | refine below_set ?_ GE106.out) | exact HB.out))) | (with_reducible refine Kd.C_alloc ?_ _) | (with_reducible refine Kd.C_drewN ?_ _) | (with_reducible refine Kd.C_drew ?_))); (case side2 => exact HC0_7.out); rintro e w' ⟨rfl, ⟨nd, rfl⟩⟩))
                    go_ret
                    exact ⟨by first | rfl | (simp [errW_none, errW_some] <;> rfl) | (simp [*, errW_none, errW_some] <;> rfl), by repeat (first | (with_reducible first | exact HB.out | apply below_alloc | apply pw_below_drewN | apply below_drew1 | refine below_set ?_ GE106.out) | exact HB.out)⟩
                · replace c36 := Bool.eq_false_iff.mpr c36
                  subst c36
                  have H1 : (some false) = some r := by rw [if_neg (show ¬ (false = true) by decide)] at H; exact H
                  clear H
                  have H := H1
                  clear H1
                  obtain rfl := Option.some.inj H
                  have hcz41_0 : wc.cell? ⟨gb106, 0, none⟩ = some (.int .i64 a0_0) := (blk_cell BK106.out 0).trans rfl
                  have hcz41_1 : wc.cell? ⟨gb106, 1, none⟩ = some (.int .i64 a0_1) := (blk_cell BK106.out 1).trans rfl
                  have hcz41_2 : wc.cell? ⟨gb106, 2, none⟩ = some (.int .i64 a0_2) := (blk_cell BK106.out 2).trans rfl
                  have hcz41_3 : wc.cell? ⟨gb106, 3, none⟩ = some (.int .i64 a0_3) := (blk_cell BK106.out 3).trans rfl
                  have hcz41_4 : wc.cell? ⟨gb106, 4, none⟩ = some (.int .i64 a0_4) := (blk_cell BK106.out 4).trans rfl
                  have hcz41_5 : wc.cell? ⟨gb106, 5, none⟩ = some (.bool a0_5) := (blk_cell BK106.out 5).trans rfl
                  have hcz41_6 : wc.cell? ⟨gb106, 6, none⟩ = some (.slice A0_6 l0_6.length c0_6) := (blk_cell BK106.out 6).trans rfl
                  have hcz41_7 : wc.cell? ⟨gb106, 7, none⟩ = some (.slice A0_7 l0_7.length c0_7) := (blk_cell BK106.out 7).trans rfl
                  have hcz41_8 : wc.cell? ⟨gb106, 8, none⟩ = some (.slice A0_8 l0_8.length c0_8) := (blk_cell BK106.out 8).trans rfl
                  have hfz41_0 := blk_frozen BK106.out 0
                  have hfz41_1 := blk_frozen BK106.out 1
                  have hfz41_2 := blk_frozen BK106.out 2
                  have hfz41_3 := blk_frozen BK106.out 3
                  have hfz41_4 := blk_frozen BK106.out 4
                  have hfz41_5 := blk_frozen BK106.out 5
                  have hfz41_6 := blk_frozen BK106.out 6
                  have hfz41_7 := blk_frozen BK106.out 7
                  have hfz41_8 := blk_frozen BK106.out 8
                  go_wp2_with (first | ((with_reducible refine gate_callee (f := 40) rfl ?_); refine goesL_ (some 53) rfl rfl Try.func40 (by kernel_rfl) rfl #[.int .i64 a0_0] rfl (by (try simp only [List.map_toArray, List.map_cons, List.map_nil]); first | done | rfl | (simp only [List.length_drop, List.length_take]; rfl)) ?_; (with_reducible refine (rec_tells.calls a0_0 true _ A33.out).mono ?_); rintro e w' ⟨rfl, ⟨nd, rfl⟩⟩; refine ⟨_, rfl, ?_⟩) | ((with_reducible refine gate_callee (f := 41) rfl ?_); refine goesL_ (some 69) rfl rfl Try.func41 (by kernel_rfl) rfl #[.slice A0_6 l0_6.length c0_6, .int .i64 64] rfl (by (try simp only [List.map_toArray, List.map_cons, List.map_nil]); first | done | rfl | (simp only [List.length_drop, List.length_take]; rfl)) ?_; (with_reducible refine (rec_Rises.calls kj17 _ _ l0_6 64 false _ ?side1 ?side2 A35.out).mono ?_); (case side1 => repeat (first | exact (Kd.C_below HR0_6.out (by repeat (first | (with_reducible first | exact HB.out | apply below_alloc | apply pw_below_drewN | apply below_drew1 | refine below_set ?_ GE106.out) | exact HB.out))) | (with_reducible refine Kd.C_alloc ?_ _) | (with_reducible refine Kd.C_drewN ?_ _) | (with_reducible refine Kd.C_drew ?_))); (case side2 => exact HC0_6.out); rintro e w' ⟨rfl, ⟨nd, rfl⟩⟩; refine ⟨_, rfl, ?_⟩))
                  go_ret
                  exact ⟨by first | rfl | (simp [errW_none, errW_some] <;> rfl) | (simp [*, errW_none, errW_some] <;> rfl), by repeat (first | (with_reducible first | exact HB.out | apply below_alloc | apply pw_below_drewN | apply below_drew1 | refine below_set ?_ GE106.out) | exact HB.out)⟩
              · replace c34 := Bool.eq_false_iff.mpr c34
                subst c34
                have H1 : (some ((wrap64 ((wrap64 ((l0_6.length : Int) + (l0_7.length : Int))) + (l0_8.length : Int))) == 0)) = some r := by rw [if_neg (show ¬ (false = true) by decide)] at H; exact H
                clear H
                have H := H1
                clear H1
                obtain rfl := Option.some.inj H
                have hcz42_0 : wc.cell? ⟨gb106, 0, none⟩ = some (.int .i64 a0_0) := (blk_cell BK106.out 0).trans rfl
                have hcz42_1 : wc.cell? ⟨gb106, 1, none⟩ = some (.int .i64 a0_1) := (blk_cell BK106.out 1).trans rfl
                have hcz42_2 : wc.cell? ⟨gb106, 2, none⟩ = some (.int .i64 a0_2) := (blk_cell BK106.out 2).trans rfl
                have hcz42_3 : wc.cell? ⟨gb106, 3, none⟩ = some (.int .i64 a0_3) := (blk_cell BK106.out 3).trans rfl
                have hcz42_4 : wc.cell? ⟨gb106, 4, none⟩ = some (.int .i64 a0_4) := (blk_cell BK106.out 4).trans rfl
                have hcz42_5 : wc.cell? ⟨gb106, 5, none⟩ = some (.bool a0_5) := (blk_cell BK106.out 5).trans rfl
                have hcz42_6 : wc.cell? ⟨gb106, 6, none⟩ = some (.slice A0_6 l0_6.length c0_6) := (blk_cell BK106.out 6).trans rfl
                have hcz42_7 : wc.cell? ⟨gb106, 7, none⟩ = some (.slice A0_7 l0_7.length c0_7) := (blk_cell BK106.out 7).trans rfl
                have hcz42_8 : wc.cell? ⟨gb106, 8, none⟩ = some (.slice A0_8 l0_8.length c0_8) := (blk_cell BK106.out 8).trans rfl
                have hfz42_0 := blk_frozen BK106.out 0
                have hfz42_1 := blk_frozen BK106.out 1
                have hfz42_2 := blk_frozen BK106.out 2
                have hfz42_3 := blk_frozen BK106.out 3
                have hfz42_4 := blk_frozen BK106.out 4
                have hfz42_5 := blk_frozen BK106.out 5
                have hfz42_6 := blk_frozen BK106.out 6
                have hfz42_7 := blk_frozen BK106.out 7
                have hfz42_8 := blk_frozen BK106.out 8
                go_wp2_with (first | ((with_reducible refine gate_callee (f := 40) rfl ?_); refine goesL_ (some 53) rfl rfl Try.func40 (by kernel_rfl) rfl #[.int .i64 a0_0] rfl (by (try simp only [List.map_toArray, List.map_cons, List.map_nil]); first | done | rfl | (simp only [List.length_drop, List.length_take]; rfl)) ?_; (with_reducible refine (rec_tells.calls a0_0 false _ A33.out).mono ?_); rintro e w' ⟨rfl, ⟨nd, rfl⟩⟩; refine ⟨_, rfl, ?_⟩))
                go_ret
                exact ⟨by first | rfl | (simp [errW_none, errW_some] <;> rfl) | (simp [*, errW_none, errW_some] <;> rfl), by repeat (first | (with_reducible first | exact HB.out | apply below_alloc | apply pw_below_drewN | apply below_drew1 | refine below_set ?_ GE106.out) | exact HB.out)⟩

end Go.Proofs.Ytleljfmhefobeaa.GJ
