-- laid by a program of this session (print_proof, changed for laws over structs)
import Derived.Test.YtleljfmhefobeaaGKx0
import Derived.Test.YtleljfmhefobeaaGKx2
namespace Go.Proofs.Ytleljfmhefobeaa.GK
open Go.RowKit Go.Proofs.YtleljfmhefobeaaW.PrintWords Go.Proofs.YtleljfmhefobeaaW.PrintLast Go.Proofs.YtleljfmhefobeaaW.PrintMore
attribute [local go_sem] max2_int min2_int max_two min_two max_three min_three max_four min_four   -- for this text's walks alone
set_option linter.unusedVariables false
set_option linter.unusedSimpArgs false

/-! ### wire_May: function 20 -/
mutual
def wire_May.j0 : Nat → Bool → Int → Int → Int → Int → Int → Int → Int → Int → Int → Bool → Int → Int → List Int → List Int → List Int → Option (Bool)
  | 0, _, _, _, _, _, _, _, _, _, _, _, _, _, _, _, _ => none
  | k + 1, x34, x104000, x104001, x104002, x104003, x104004, x104005, x104006, x104007, x104008, x104009, x104010, x104011, x104012, x104013, x104014 => if x34 = true then (some false) else ((wire_within.f x104003 1099511627776).bind fun t108 => (if t108 = true then ((wire_within.f x104004 1099511627776).bind fun t109 => (if t109 = true then ((wire_within.f x104006 1099511627776).bind fun t110 => (if t110 = true then ((wire_within.f x104008 1099511627776).bind fun t111 => (if t111 = true then ((wire_within.f x104010 140737488355328).bind fun t112 => (if t112 = true then ((wire_within.f x104011 140737488355328).bind fun t113 => (wire_May.j1 k (!t113) x104000 x104001 x104002 x104003 x104004 x104005 x104006 x104007 x104008 x104009 x104010 x104011 x104012 x104013 x104014)) else (wire_May.j1 k true x104000 x104001 x104002 x104003 x104004 x104005 x104006 x104007 x104008 x104009 x104010 x104011 x104012 x104013 x104014))) else (wire_May.j1 k true x104000 x104001 x104002 x104003 x104004 x104005 x104006 x104007 x104008 x104009 x104010 x104011 x104012 x104013 x104014))) else (wire_May.j1 k true x104000 x104001 x104002 x104003 x104004 x104005 x104006 x104007 x104008 x104009 x104010 x104011 x104012 x104013 x104014))) else (wire_May.j1 k true x104000 x104001 x104002 x104003 x104004 x104005 x104006 x104007 x104008 x104009 x104010 x104011 x104012 x104013 x104014))) else (wire_May.j1 k true x104000 x104001 x104002 x104003 x104004 x104005 x104006 x104007 x104008 x104009 x104010 x104011 x104012 x104013 x104014)))
def wire_May.j1 : Nat → Bool → Int → Int → Int → Int → Int → Int → Int → Int → Int → Bool → Int → Int → List Int → List Int → List Int → Option (Bool)
  | 0, _, _, _, _, _, _, _, _, _, _, _, _, _, _, _, _ => none
  | k + 1, x70, x104000, x104001, x104002, x104003, x104004, x104005, x104006, x104007, x104008, x104009, x104010, x104011, x104012, x104013, x104014 => if x70 = true then (some false) else ((rec_Rises.f k x104012 64).bind fun t114 => (if t114 = true then ((rec_Rises.f k x104013 16).bind fun t115 => (if t115 = true then (some (decide ((x104014.length : Int) ≤ 4096))) else (some false))) else (some false)))
end
def wire_May.f (k : Nat) (a0_0 : Int) (a0_1 : Int) (a0_2 : Int) (a0_3 : Int) (a0_4 : Int) (a0_5 : Int) (a0_6 : Int) (a0_7 : Int) (a0_8 : Int) (a0_9 : Bool) (a0_10 : Int) (a0_11 : Int) (l0_12 : List Int) (l0_13 : List Int) (l0_14 : List Int) : Option (Bool) := if a0_0 < 1 then (wire_May.j0 k true a0_0 a0_1 a0_2 a0_3 a0_4 a0_5 a0_6 a0_7 a0_8 a0_9 a0_10 a0_11 l0_12 l0_13 l0_14) else (if a0_0 > 8 then (wire_May.j0 k true a0_0 a0_1 a0_2 a0_3 a0_4 a0_5 a0_6 a0_7 a0_8 a0_9 a0_10 a0_11 l0_12 l0_13 l0_14) else ((wire_within.f a0_1 15).bind fun t104 => (if t104 = true then ((wire_within.f a0_2 15).bind fun t105 => (if t105 = true then ((wire_within.f a0_5 3).bind fun t106 => (if t106 = true then ((wire_within.f a0_7 255).bind fun t107 => (wire_May.j0 k (!t107) a0_0 a0_1 a0_2 a0_3 a0_4 a0_5 a0_6 a0_7 a0_8 a0_9 a0_10 a0_11 l0_12 l0_13 l0_14)) else (wire_May.j0 k true a0_0 a0_1 a0_2 a0_3 a0_4 a0_5 a0_6 a0_7 a0_8 a0_9 a0_10 a0_11 l0_12 l0_13 l0_14))) else (wire_May.j0 k true a0_0 a0_1 a0_2 a0_3 a0_4 a0_5 a0_6 a0_7 a0_8 a0_9 a0_10 a0_11 l0_12 l0_13 l0_14))) else (wire_May.j0 k true a0_0 a0_1 a0_2 a0_3 a0_4 a0_5 a0_6 a0_7 a0_8 a0_9 a0_10 a0_11 l0_12 l0_13 l0_14))))
theorem wire_May.mono_l : ∀ k, (∀ y0 y1 y2 y3 y4 y5 y6 y7 y8 y9 y10 y11 y12 y13 y14 y15, LeO (wire_May.j0 k y0 y1 y2 y3 y4 y5 y6 y7 y8 y9 y10 y11 y12 y13 y14 y15) (wire_May.j0 (k + 1) y0 y1 y2 y3 y4 y5 y6 y7 y8 y9 y10 y11 y12 y13 y14 y15)) ∧ (∀ y0 y1 y2 y3 y4 y5 y6 y7 y8 y9 y10 y11 y12 y13 y14 y15, LeO (wire_May.j1 k y0 y1 y2 y3 y4 y5 y6 y7 y8 y9 y10 y11 y12 y13 y14 y15) (wire_May.j1 (k + 1) y0 y1 y2 y3 y4 y5 y6 y7 y8 y9 y10 y11 y12 y13 y14 y15))
  | 0 => ⟨fun _ _ _ _ _ _ _ _ _ _ _ _ _ _ _ _ r h => by simp [wire_May.j0] at h, fun _ _ _ _ _ _ _ _ _ _ _ _ _ _ _ _ r h => by simp [wire_May.j1] at h⟩
  | k + 1 => by
    obtain ⟨ih0, ih1⟩ := wire_May.mono_l k
    refine ⟨?_, ?_⟩
    · intro y0 y1 y2 y3 y4 y5 y6 y7 y8 y9 y10 y11 y12 y13 y14 y15
      unfold wire_May.j0
      repeat' first
      | (with_reducible exact ih0 _ _ _ _ _ _ _ _ _ _ _ _ _ _ _ _)
      | (with_reducible exact ih1 _ _ _ _ _ _ _ _ _ _ _ _ _ _ _ _)
      | (with_reducible exact rec_Rises.mono _ _ _)
      | (with_reducible exact LeO.refl _)
      | (with_reducible exact LeO.none _)
      | (with_reducible refine LeO.ite ?_ ?_)
      | (with_reducible refine LeO.bind ?_ (fun _ => ?_))
      | exact ih0 _ _ _ _ _ _ _ _ _ _ _ _ _ _ _ _
      | exact ih1 _ _ _ _ _ _ _ _ _ _ _ _ _ _ _ _
      | exact rec_Rises.mono _ _ _
      | exact LeO.none _
      | refine LeO.ite ?_ ?_
      | refine LeO.bind ?_ (fun _ => ?_)
    · intro y0 y1 y2 y3 y4 y5 y6 y7 y8 y9 y10 y11 y12 y13 y14 y15
      unfold wire_May.j1
      repeat' first
      | (with_reducible exact ih0 _ _ _ _ _ _ _ _ _ _ _ _ _ _ _ _)
      | (with_reducible exact ih1 _ _ _ _ _ _ _ _ _ _ _ _ _ _ _ _)
      | (with_reducible exact rec_Rises.mono _ _ _)
      | (with_reducible exact LeO.refl _)
      | (with_reducible exact LeO.none _)
      | (with_reducible refine LeO.ite ?_ ?_)
      | (with_reducible refine LeO.bind ?_ (fun _ => ?_))
      | exact ih0 _ _ _ _ _ _ _ _ _ _ _ _ _ _ _ _
      | exact ih1 _ _ _ _ _ _ _ _ _ _ _ _ _ _ _ _
      | exact rec_Rises.mono _ _ _
      | exact LeO.none _
      | refine LeO.ite ?_ ?_
      | refine LeO.bind ?_ (fun _ => ?_)
theorem wire_May.mono : ∀ a0 a1 a2 a3 a4 a5 a6 a7 a8 a9 a10 a11 a12 a13 a14 k, LeO (wire_May.f k a0 a1 a2 a3 a4 a5 a6 a7 a8 a9 a10 a11 a12 a13 a14) (wire_May.f (k + 1) a0 a1 a2 a3 a4 a5 a6 a7 a8 a9 a10 a11 a12 a13 a14) := by
  intro a0 a1 a2 a3 a4 a5 a6 a7 a8 a9 a10 a11 a12 a13 a14 k
  obtain ⟨ih0, ih1⟩ := wire_May.mono_l k
  unfold wire_May.f
  repeat' first
      | (with_reducible exact ih0 _ _ _ _ _ _ _ _ _ _ _ _ _ _ _ _)
      | (with_reducible exact ih1 _ _ _ _ _ _ _ _ _ _ _ _ _ _ _ _)
      | (with_reducible exact rec_Rises.mono _ _ _)
      | (with_reducible exact LeO.refl _)
      | (with_reducible exact LeO.none _)
      | (with_reducible refine LeO.ite ?_ ?_)
      | (with_reducible refine LeO.bind ?_ (fun _ => ?_))
      | exact ih0 _ _ _ _ _ _ _ _ _ _ _ _ _ _ _ _
      | exact ih1 _ _ _ _ _ _ _ _ _ _ _ _ _ _ _ _
      | exact rec_Rises.mono _ _ _
      | exact LeO.none _
      | refine LeO.ite ?_ ?_
      | refine LeO.bind ?_ (fun _ => ?_)
set_option maxHeartbeats 8000000 in
set_option maxRecDepth 100000 in
theorem wire_May.calls (k : Nat) (a0_0 : Int) (a0_1 : Int) (a0_2 : Int) (a0_3 : Int) (a0_4 : Int) (a0_5 : Int) (a0_6 : Int) (a0_7 : Int) (a0_8 : Int) (a0_9 : Bool) (a0_10 : Int) (a0_11 : Int) (A0_12 : Option Addr) (c0_12 : Nat) (l0_12 : List Int) (A0_13 : Option Addr) (c0_13 : Nat) (l0_13 : List Int) (A0_14 : Option Addr) (c0_14 : Nat) (l0_14 : List Int) (r : Bool) (w : World) (hr0_12 : Kd.C (Kd.int .i64) w A0_12 l0_12.length l0_12) (hc0_12 : l0_12.length ≤ c0_12) (hr0_13 : Kd.C (Kd.int .i64) w A0_13 l0_13.length l0_13) (hc0_13 : l0_13.length ≤ c0_13) (hr0_14 : Kd.C (Kd.int .u8) w A0_14 l0_14.length l0_14) (hc0_14 : l0_14.length ≤ c0_14) (h : wire_May.f k a0_0 a0_1 a0_2 a0_3 a0_4 a0_5 a0_6 a0_7 a0_8 a0_9 a0_10 a0_11 l0_12 l0_13 l0_14 = some r) :
    Calls Try.prog 20 #[.agg #[.int .i64 a0_0, .int .i64 a0_1, .int .i64 a0_2, .int .i64 a0_3, .int .i64 a0_4, .int .i64 a0_5, .int .i64 a0_6, .int .i64 a0_7, .int .i64 a0_8, .bool a0_9, .int .i64 a0_10, .int .i64 a0_11, .slice A0_12 l0_12.length c0_12, .slice A0_13 l0_13.length c0_13, .slice A0_14 l0_14.length c0_14]] w fun e w' => e = .returned (.bool r) ∧ Below w.heap.size w w' := by
  have hu27 := Try.underlying27
  have HR0_12 := Aside0.mk hr0_12
  have HC0_12 := Aside0.mk hc0_12
  clear hr0_12 hc0_12
  have HR0_13 := Aside0.mk hr0_13
  have HC0_13 := Aside0.mk hc0_13
  clear hr0_13 hc0_13
  have HR0_14 := Aside0.mk hr0_14
  have HC0_14 := Aside0.mk hc0_14
  clear hr0_14 hc0_14
  have HB := Aside0.mk (Below.refl w.heap.size w)
  have H : (if a0_0 < 1 then (wire_May.j0 k true a0_0 a0_1 a0_2 a0_3 a0_4 a0_5 a0_6 a0_7 a0_8 a0_9 a0_10 a0_11 l0_12 l0_13 l0_14) else (if a0_0 > 8 then (wire_May.j0 k true a0_0 a0_1 a0_2 a0_3 a0_4 a0_5 a0_6 a0_7 a0_8 a0_9 a0_10 a0_11 l0_12 l0_13 l0_14) else ((wire_within.f a0_1 15).bind fun t104 => (if t104 = true then ((wire_within.f a0_2 15).bind fun t105 => (if t105 = true then ((wire_within.f a0_5 3).bind fun t106 => (if t106 = true then ((wire_within.f a0_7 255).bind fun t107 => (wire_May.j0 k (!t107) a0_0 a0_1 a0_2 a0_3 a0_4 a0_5 a0_6 a0_7 a0_8 a0_9 a0_10 a0_11 l0_12 l0_13 l0_14)) else (wire_May.j0 k true a0_0 a0_1 a0_2 a0_3 a0_4 a0_5 a0_6 a0_7 a0_8 a0_9 a0_10 a0_11 l0_12 l0_13 l0_14))) else (wire_May.j0 k true a0_0 a0_1 a0_2 a0_3 a0_4 a0_5 a0_6 a0_7 a0_8 a0_9 a0_10 a0_11 l0_12 l0_13 l0_14))) else (wire_May.j0 k true a0_0 a0_1 a0_2 a0_3 a0_4 a0_5 a0_6 a0_7 a0_8 a0_9 a0_10 a0_11 l0_12 l0_13 l0_14))))) = some r := h
  clear h
  have HC2 := Aside0.mk H
  clear H
  go_enter Try.func20, Try.ntmps20
  go_upto_region 1 with (first | ((with_reducible refine gate_dst (N := 1) rfl ?_); (try (refine gate_guard (by rfl) ?_; dsimp only)); refine box_event ?hg (N := 1) ?hd (cs := #[.int .i64 a0_0, .int .i64 a0_1, .int .i64 a0_2, .int .i64 a0_3, .int .i64 a0_4, .int .i64 a0_5, .int .i64 a0_6, .int .i64 a0_7, .int .i64 a0_8, .bool a0_9, .int .i64 a0_10, .int .i64 a0_11, .slice A0_12 l0_12.length c0_12, .slice A0_13 l0_13.length c0_13, .slice A0_14 l0_14.length c0_14]) (t := 27) ?hr ?_; (case hd => rfl); (case hg => rfl); (case hr => first | (go_simp; done) | (go_simp; rfl)); intro gb103 hg w3 hbox hb; have n0_ := Aside0.mk (below_step (by repeat (first | (with_reducible first | exact HB.out | apply below_alloc | apply pw_below_drewN | apply below_drew1) | exact HB.out)) hb); have n1_ := Aside0.mk (hbox); have n2_ := Aside0.mk ((by rw [hg]; exact (below_size (by repeat (first | (with_reducible first | exact HB.out | apply below_alloc | apply pw_below_drewN | apply below_drew1) | exact HB.out))) : w.heap.size ≤ gb103)); have n3_ := Aside0.mk ((by rw [hg]; exact (below_size (by repeat (first | (with_reducible first | exact HB.out | apply below_alloc | apply pw_below_drewN | apply below_drew1) | exact HB.out))) : w.heap.size ≤ gb103)); clear HB; have HB := n0_; have BK103 := n1_; have GW103 := n2_; have GE103 := n3_; clear n0_ n1_ n2_ n3_; clear hb hbox hg))
  (try simp only [Act.put, List.setIfInBounds_toArray, List.set_cons_zero, List.set_cons_succ])
  go_cut [34] (fun v34 wc => ∃ (kq : Nat) (x34_1 : Bool), v34 = .bool x34_1 ∧ Aside0 (wire_May.j0 kq x34_1 a0_0 a0_1 a0_2 a0_3 a0_4 a0_5 a0_6 a0_7 a0_8 a0_9 a0_10 a0_11 l0_12 l0_13 l0_14 = some r) ∧ Aside0 (kq ≤ k) ∧ Aside0 (wc.heap[gb103]? = some (.cells #[.int .i64 a0_0, .int .i64 a0_1, .int .i64 a0_2, .int .i64 a0_3, .int .i64 a0_4, .int .i64 a0_5, .int .i64 a0_6, .int .i64 a0_7, .int .i64 a0_8, .bool a0_9, .int .i64 a0_10, .int .i64 a0_11, (.slice A0_12 l0_12.length c0_12), (.slice A0_13 l0_13.length c0_13), (.slice A0_14 l0_14.length c0_14)] 27 (0, 0))) ∧ Aside0 (Below w.heap.size w wc))
  case first =>
    have H := HC2.out
    clear HC2
    by_cases c4 : a0_0 < 1
    · rw [if_pos c4] at H
      have c4b0 : decide (a0_0 < 1) = true := decide_eq_true c4
      clear c4
      (first | rw [c4b0] | (simp only [i64_w, i32_w]; rw [c4b0]) | skip)
      have H' := Aside0.mk H
      clear H
      have hcz5_0 : w3.cell? ⟨gb103, 0, none⟩ = some (.int .i64 a0_0) := (blk_cell BK103.out 0).trans rfl
      have hcz5_1 : w3.cell? ⟨gb103, 1, none⟩ = some (.int .i64 a0_1) := (blk_cell BK103.out 1).trans rfl
      have hcz5_2 : w3.cell? ⟨gb103, 2, none⟩ = some (.int .i64 a0_2) := (blk_cell BK103.out 2).trans rfl
      have hcz5_3 : w3.cell? ⟨gb103, 3, none⟩ = some (.int .i64 a0_3) := (blk_cell BK103.out 3).trans rfl
      have hcz5_4 : w3.cell? ⟨gb103, 4, none⟩ = some (.int .i64 a0_4) := (blk_cell BK103.out 4).trans rfl
      have hcz5_5 : w3.cell? ⟨gb103, 5, none⟩ = some (.int .i64 a0_5) := (blk_cell BK103.out 5).trans rfl
      have hcz5_6 : w3.cell? ⟨gb103, 6, none⟩ = some (.int .i64 a0_6) := (blk_cell BK103.out 6).trans rfl
      have hcz5_7 : w3.cell? ⟨gb103, 7, none⟩ = some (.int .i64 a0_7) := (blk_cell BK103.out 7).trans rfl
      have hcz5_8 : w3.cell? ⟨gb103, 8, none⟩ = some (.int .i64 a0_8) := (blk_cell BK103.out 8).trans rfl
      have hcz5_9 : w3.cell? ⟨gb103, 9, none⟩ = some (.bool a0_9) := (blk_cell BK103.out 9).trans rfl
      have hcz5_10 : w3.cell? ⟨gb103, 10, none⟩ = some (.int .i64 a0_10) := (blk_cell BK103.out 10).trans rfl
      have hcz5_11 : w3.cell? ⟨gb103, 11, none⟩ = some (.int .i64 a0_11) := (blk_cell BK103.out 11).trans rfl
      have hcz5_12 : w3.cell? ⟨gb103, 12, none⟩ = some (.slice A0_12 l0_12.length c0_12) := (blk_cell BK103.out 12).trans rfl
      have hcz5_13 : w3.cell? ⟨gb103, 13, none⟩ = some (.slice A0_13 l0_13.length c0_13) := (blk_cell BK103.out 13).trans rfl
      have hcz5_14 : w3.cell? ⟨gb103, 14, none⟩ = some (.slice A0_14 l0_14.length c0_14) := (blk_cell BK103.out 14).trans rfl
      have hfz5_0 := blk_frozen BK103.out 0
      have hfz5_1 := blk_frozen BK103.out 1
      have hfz5_2 := blk_frozen BK103.out 2
      have hfz5_3 := blk_frozen BK103.out 3
      have hfz5_4 := blk_frozen BK103.out 4
      have hfz5_5 := blk_frozen BK103.out 5
      have hfz5_6 := blk_frozen BK103.out 6
      have hfz5_7 := blk_frozen BK103.out 7
      have hfz5_8 := blk_frozen BK103.out 8
      have hfz5_9 := blk_frozen BK103.out 9
      have hfz5_10 := blk_frozen BK103.out 10
      have hfz5_11 := blk_frozen BK103.out 11
      have hfz5_12 := blk_frozen BK103.out 12
      have hfz5_13 := blk_frozen BK103.out 13
      have hfz5_14 := blk_frozen BK103.out 14
      go_wp2
      go_meet
      case rel => exact ⟨_, (true), (by first | rfl | (simp; done) | (simp [*]; done)), H', ⟨by first | omega | exact Nat.le_refl _⟩, ⟨by (with_reducible repeat (first | refine blk_drewN ?_ _ | refine blk_drew ?_ | refine blk_alloc ?_ _)); exact BK103.out⟩, ⟨by repeat (first | (with_reducible first | exact HB.out | apply below_alloc | apply pw_below_drewN | apply below_drew1 | refine below_set ?_ GE103.out) | exact HB.out)⟩⟩
    · rw [if_neg c4] at H
      have c4b0 : decide (a0_0 < 1) = false := decide_eq_false c4
      clear c4
      (first | rw [c4b0] | (simp only [i64_w, i32_w]; rw [c4b0]) | skip)
      by_cases c6 : a0_0 > 8
      · rw [if_pos c6] at H
        have c6b0 : decide (8 < a0_0) = true := decide_eq_true c6
        clear c6
        have H' := Aside0.mk H
        clear H
        have hcz7_0 : w3.cell? ⟨gb103, 0, none⟩ = some (.int .i64 a0_0) := (blk_cell BK103.out 0).trans rfl
        have hcz7_1 : w3.cell? ⟨gb103, 1, none⟩ = some (.int .i64 a0_1) := (blk_cell BK103.out 1).trans rfl
        have hcz7_2 : w3.cell? ⟨gb103, 2, none⟩ = some (.int .i64 a0_2) := (blk_cell BK103.out 2).trans rfl
        have hcz7_3 : w3.cell? ⟨gb103, 3, none⟩ = some (.int .i64 a0_3) := (blk_cell BK103.out 3).trans rfl
        have hcz7_4 : w3.cell? ⟨gb103, 4, none⟩ = some (.int .i64 a0_4) := (blk_cell BK103.out 4).trans rfl
        have hcz7_5 : w3.cell? ⟨gb103, 5, none⟩ = some (.int .i64 a0_5) := (blk_cell BK103.out 5).trans rfl
        have hcz7_6 : w3.cell? ⟨gb103, 6, none⟩ = some (.int .i64 a0_6) := (blk_cell BK103.out 6).trans rfl
        have hcz7_7 : w3.cell? ⟨gb103, 7, none⟩ = some (.int .i64 a0_7) := (blk_cell BK103.out 7).trans rfl
        have hcz7_8 : w3.cell? ⟨gb103, 8, none⟩ = some (.int .i64 a0_8) := (blk_cell BK103.out 8).trans rfl
        have hcz7_9 : w3.cell? ⟨gb103, 9, none⟩ = some (.bool a0_9) := (blk_cell BK103.out 9).trans rfl
        have hcz7_10 : w3.cell? ⟨gb103, 10, none⟩ = some (.int .i64 a0_10) := (blk_cell BK103.out 10).trans rfl
        have hcz7_11 : w3.cell? ⟨gb103, 11, none⟩ = some (.int .i64 a0_11) := (blk_cell BK103.out 11).trans rfl
        have hcz7_12 : w3.cell? ⟨gb103, 12, none⟩ = some (.slice A0_12 l0_12.length c0_12) := (blk_cell BK103.out 12).trans rfl
        have hcz7_13 : w3.cell? ⟨gb103, 13, none⟩ = some (.slice A0_13 l0_13.length c0_13) := (blk_cell BK103.out 13).trans rfl
        have hcz7_14 : w3.cell? ⟨gb103, 14, none⟩ = some (.slice A0_14 l0_14.length c0_14) := (blk_cell BK103.out 14).trans rfl
        have hfz7_0 := blk_frozen BK103.out 0
        have hfz7_1 := blk_frozen BK103.out 1
        have hfz7_2 := blk_frozen BK103.out 2
        have hfz7_3 := blk_frozen BK103.out 3
        have hfz7_4 := blk_frozen BK103.out 4
        have hfz7_5 := blk_frozen BK103.out 5
        have hfz7_6 := blk_frozen BK103.out 6
        have hfz7_7 := blk_frozen BK103.out 7
        have hfz7_8 := blk_frozen BK103.out 8
        have hfz7_9 := blk_frozen BK103.out 9
        have hfz7_10 := blk_frozen BK103.out 10
        have hfz7_11 := blk_frozen BK103.out 11
        have hfz7_12 := blk_frozen BK103.out 12
        have hfz7_13 := blk_frozen BK103.out 13
        have hfz7_14 := blk_frozen BK103.out 14
        go_wp2
        go_meet
        case rel => exact ⟨_, (true), (by first | rfl | (simp; done) | (simp [*]; done)), H', ⟨by first | omega | exact Nat.le_refl _⟩, ⟨by (with_reducible repeat (first | refine blk_drewN ?_ _ | refine blk_drew ?_ | refine blk_alloc ?_ _)); exact BK103.out⟩, ⟨by repeat (first | (with_reducible first | exact HB.out | apply below_alloc | apply pw_below_drewN | apply below_drew1 | refine below_set ?_ GE103.out) | exact HB.out)⟩⟩
      · rw [if_neg c6] at H
        have c6b0 : decide (8 < a0_0) = false := decide_eq_false c6
        clear c6
        replace H := Option.bind_eq_some_iff.mp H
        obtain ⟨t104, A80, H⟩ := H
        replace H : (if t104 = true then ((wire_within.f a0_2 15).bind fun t105 => (if t105 = true then ((wire_within.f a0_5 3).bind fun t106 => (if t106 = true then ((wire_within.f a0_7 255).bind fun t107 => (wire_May.j0 k (!t107) a0_0 a0_1 a0_2 a0_3 a0_4 a0_5 a0_6 a0_7 a0_8 a0_9 a0_10 a0_11 l0_12 l0_13 l0_14)) else (wire_May.j0 k true a0_0 a0_1 a0_2 a0_3 a0_4 a0_5 a0_6 a0_7 a0_8 a0_9 a0_10 a0_11 l0_12 l0_13 l0_14))) else (wire_May.j0 k true a0_0 a0_1 a0_2 a0_3 a0_4 a0_5 a0_6 a0_7 a0_8 a0_9 a0_10 a0_11 l0_12 l0_13 l0_14))) else (wire_May.j0 k true a0_0 a0_1 a0_2 a0_3 a0_4 a0_5 a0_6 a0_7 a0_8 a0_9 a0_10 a0_11 l0_12 l0_13 l0_14)) = some r := H
        have A8 := Aside0.mk A80
        clear A80
        by_cases c9 : t104 = true
        · subst c9
          have H1 : ((wire_within.f a0_2 15).bind fun t105 => (if t105 = true then ((wire_within.f a0_5 3).bind fun t106 => (if t106 = true then ((wire_within.f a0_7 255).bind fun t107 => (wire_May.j0 k (!t107) a0_0 a0_1 a0_2 a0_3 a0_4 a0_5 a0_6 a0_7 a0_8 a0_9 a0_10 a0_11 l0_12 l0_13 l0_14)) else (wire_May.j0 k true a0_0 a0_1 a0_2 a0_3 a0_4 a0_5 a0_6 a0_7 a0_8 a0_9 a0_10 a0_11 l0_12 l0_13 l0_14))) else (wire_May.j0 k true a0_0 a0_1 a0_2 a0_3 a0_4 a0_5 a0_6 a0_7 a0_8 a0_9 a0_10 a0_11 l0_12 l0_13 l0_14))) = some r := by rw [if_pos rfl] at H; exact H
          clear H
          have H := H1
          clear H1
          replace H := Option.bind_eq_some_iff.mp H
          obtain ⟨t105, A100, H⟩ := H
          replace H : (if t105 = true then ((wire_within.f a0_5 3).bind fun t106 => (if t106 = true then ((wire_within.f a0_7 255).bind fun t107 => (wire_May.j0 k (!t107) a0_0 a0_1 a0_2 a0_3 a0_4 a0_5 a0_6 a0_7 a0_8 a0_9 a0_10 a0_11 l0_12 l0_13 l0_14)) else (wire_May.j0 k true a0_0 a0_1 a0_2 a0_3 a0_4 a0_5 a0_6 a0_7 a0_8 a0_9 a0_10 a0_11 l0_12 l0_13 l0_14))) else (wire_May.j0 k true a0_0 a0_1 a0_2 a0_3 a0_4 a0_5 a0_6 a0_7 a0_8 a0_9 a0_10 a0_11 l0_12 l0_13 l0_14)) = some r := H
          have A10 := Aside0.mk A100
          clear A100
          by_cases c11 : t105 = true
          · subst c11
            have H1 : ((wire_within.f a0_5 3).bind fun t106 => (if t106 = true then ((wire_within.f a0_7 255).bind fun t107 => (wire_May.j0 k (!t107) a0_0 a0_1 a0_2 a0_3 a0_4 a0_5 a0_6 a0_7 a0_8 a0_9 a0_10 a0_11 l0_12 l0_13 l0_14)) else (wire_May.j0 k true a0_0 a0_1 a0_2 a0_3 a0_4 a0_5 a0_6 a0_7 a0_8 a0_9 a0_10 a0_11 l0_12 l0_13 l0_14))) = some r := by rw [if_pos rfl] at H; exact H
            clear H
            have H := H1
            clear H1
            replace H := Option.bind_eq_some_iff.mp H
            obtain ⟨t106, A120, H⟩ := H
            replace H : (if t106 = true then ((wire_within.f a0_7 255).bind fun t107 => (wire_May.j0 k (!t107) a0_0 a0_1 a0_2 a0_3 a0_4 a0_5 a0_6 a0_7 a0_8 a0_9 a0_10 a0_11 l0_12 l0_13 l0_14)) else (wire_May.j0 k true a0_0 a0_1 a0_2 a0_3 a0_4 a0_5 a0_6 a0_7 a0_8 a0_9 a0_10 a0_11 l0_12 l0_13 l0_14)) = some r := H
            have A12 := Aside0.mk A120
            clear A120
            by_cases c13 : t106 = true
            · subst c13
              have H1 : ((wire_within.f a0_7 255).bind fun t107 => (wire_May.j0 k (!t107) a0_0 a0_1 a0_2 a0_3 a0_4 a0_5 a0_6 a0_7 a0_8 a0_9 a0_10 a0_11 l0_12 l0_13 l0_14)) = some r := by rw [if_pos rfl] at H; exact H
              clear H
              have H := H1
              clear H1
              replace H := Option.bind_eq_some_iff.mp H
              obtain ⟨t107, A140, H⟩ := H
              replace H : (wire_May.j0 k (!t107) a0_0 a0_1 a0_2 a0_3 a0_4 a0_5 a0_6 a0_7 a0_8 a0_9 a0_10 a0_11 l0_12 l0_13 l0_14) = some r := H
              have A14 := Aside0.mk A140
              clear A140
              have H' := Aside0.mk H
              clear H
              have hcz15_0 : w3.cell? ⟨gb103, 0, none⟩ = some (.int .i64 a0_0) := (blk_cell BK103.out 0).trans rfl
              have hcz15_1 : w3.cell? ⟨gb103, 1, none⟩ = some (.int .i64 a0_1) := (blk_cell BK103.out 1).trans rfl
              have hcz15_2 : w3.cell? ⟨gb103, 2, none⟩ = some (.int .i64 a0_2) := (blk_cell BK103.out 2).trans rfl
              have hcz15_3 : w3.cell? ⟨gb103, 3, none⟩ = some (.int .i64 a0_3) := (blk_cell BK103.out 3).trans rfl
              have hcz15_4 : w3.cell? ⟨gb103, 4, none⟩ = some (.int .i64 a0_4) := (blk_cell BK103.out 4).trans rfl
              have hcz15_5 : w3.cell? ⟨gb103, 5, none⟩ = some (.int .i64 a0_5) := (blk_cell BK103.out 5).trans rfl
              have hcz15_6 : w3.cell? ⟨gb103, 6, none⟩ = some (.int .i64 a0_6) := (blk_cell BK103.out 6).trans rfl
              have hcz15_7 : w3.cell? ⟨gb103, 7, none⟩ = some (.int .i64 a0_7) := (blk_cell BK103.out 7).trans rfl
              have hcz15_8 : w3.cell? ⟨gb103, 8, none⟩ = some (.int .i64 a0_8) := (blk_cell BK103.out 8).trans rfl
              have hcz15_9 : w3.cell? ⟨gb103, 9, none⟩ = some (.bool a0_9) := (blk_cell BK103.out 9).trans rfl
              have hcz15_10 : w3.cell? ⟨gb103, 10, none⟩ = some (.int .i64 a0_10) := (blk_cell BK103.out 10).trans rfl
              have hcz15_11 : w3.cell? ⟨gb103, 11, none⟩ = some (.int .i64 a0_11) := (blk_cell BK103.out 11).trans rfl
              have hcz15_12 : w3.cell? ⟨gb103, 12, none⟩ = some (.slice A0_12 l0_12.length c0_12) := (blk_cell BK103.out 12).trans rfl
              have hcz15_13 : w3.cell? ⟨gb103, 13, none⟩ = some (.slice A0_13 l0_13.length c0_13) := (blk_cell BK103.out 13).trans rfl
              have hcz15_14 : w3.cell? ⟨gb103, 14, none⟩ = some (.slice A0_14 l0_14.length c0_14) := (blk_cell BK103.out 14).trans rfl
              have hfz15_0 := blk_frozen BK103.out 0
              have hfz15_1 := blk_frozen BK103.out 1
              have hfz15_2 := blk_frozen BK103.out 2
              have hfz15_3 := blk_frozen BK103.out 3
              have hfz15_4 := blk_frozen BK103.out 4
              have hfz15_5 := blk_frozen BK103.out 5
              have hfz15_6 := blk_frozen BK103.out 6
              have hfz15_7 := blk_frozen BK103.out 7
              have hfz15_8 := blk_frozen BK103.out 8
              have hfz15_9 := blk_frozen BK103.out 9
              have hfz15_10 := blk_frozen BK103.out 10
              have hfz15_11 := blk_frozen BK103.out 11
              have hfz15_12 := blk_frozen BK103.out 12
              have hfz15_13 := blk_frozen BK103.out 13
              have hfz15_14 := blk_frozen BK103.out 14
              go_wp2_with (first | (go_at_call 43; (with_reducible refine (wire_within.calls a0_1 15 true _ A8.out).mono ?_); rintro e w' ⟨rfl, ⟨nd, rfl⟩⟩) | (go_at_call 43; (with_reducible refine (wire_within.calls a0_2 15 true _ A10.out).mono ?_); rintro e w' ⟨rfl, ⟨nd, rfl⟩⟩) | (go_at_call 43; (with_reducible refine (wire_within.calls a0_5 3 true _ A12.out).mono ?_); rintro e w' ⟨rfl, ⟨nd, rfl⟩⟩) | (go_at_call 43; (with_reducible refine (wire_within.calls a0_7 255 t107 _ A14.out).mono ?_); rintro e w' ⟨rfl, ⟨nd, rfl⟩⟩))
              go_meet
              case rel => exact ⟨_, (!t107), (by first | rfl | (simp; done) | (simp [*]; done)), H', ⟨by first | omega | exact Nat.le_refl _⟩, ⟨by (with_reducible repeat (first | refine blk_drewN ?_ _ | refine blk_drew ?_ | refine blk_alloc ?_ _)); exact BK103.out⟩, ⟨by repeat (first | (with_reducible first | exact HB.out | apply below_alloc | apply pw_below_drewN | apply below_drew1 | refine below_set ?_ GE103.out) | exact HB.out)⟩⟩
            · replace c13 := Bool.eq_false_iff.mpr c13
              subst c13
              have H1 : (wire_May.j0 k true a0_0 a0_1 a0_2 a0_3 a0_4 a0_5 a0_6 a0_7 a0_8 a0_9 a0_10 a0_11 l0_12 l0_13 l0_14) = some r := by rw [if_neg (show ¬ (false = true) by decide)] at H; exact H
              clear H
              have H := H1
              clear H1
              have H' := Aside0.mk H
              clear H
              have hcz16_0 : w3.cell? ⟨gb103, 0, none⟩ = some (.int .i64 a0_0) := (blk_cell BK103.out 0).trans rfl
              have hcz16_1 : w3.cell? ⟨gb103, 1, none⟩ = some (.int .i64 a0_1) := (blk_cell BK103.out 1).trans rfl
              have hcz16_2 : w3.cell? ⟨gb103, 2, none⟩ = some (.int .i64 a0_2) := (blk_cell BK103.out 2).trans rfl
              have hcz16_3 : w3.cell? ⟨gb103, 3, none⟩ = some (.int .i64 a0_3) := (blk_cell BK103.out 3).trans rfl
              have hcz16_4 : w3.cell? ⟨gb103, 4, none⟩ = some (.int .i64 a0_4) := (blk_cell BK103.out 4).trans rfl
              have hcz16_5 : w3.cell? ⟨gb103, 5, none⟩ = some (.int .i64 a0_5) := (blk_cell BK103.out 5).trans rfl
              have hcz16_6 : w3.cell? ⟨gb103, 6, none⟩ = some (.int .i64 a0_6) := (blk_cell BK103.out 6).trans rfl
              have hcz16_7 : w3.cell? ⟨gb103, 7, none⟩ = some (.int .i64 a0_7) := (blk_cell BK103.out 7).trans rfl
              have hcz16_8 : w3.cell? ⟨gb103, 8, none⟩ = some (.int .i64 a0_8) := (blk_cell BK103.out 8).trans rfl
              have hcz16_9 : w3.cell? ⟨gb103, 9, none⟩ = some (.bool a0_9) := (blk_cell BK103.out 9).trans rfl
              have hcz16_10 : w3.cell? ⟨gb103, 10, none⟩ = some (.int .i64 a0_10) := (blk_cell BK103.out 10).trans rfl
              have hcz16_11 : w3.cell? ⟨gb103, 11, none⟩ = some (.int .i64 a0_11) := (blk_cell BK103.out 11).trans rfl
              have hcz16_12 : w3.cell? ⟨gb103, 12, none⟩ = some (.slice A0_12 l0_12.length c0_12) := (blk_cell BK103.out 12).trans rfl
              have hcz16_13 : w3.cell? ⟨gb103, 13, none⟩ = some (.slice A0_13 l0_13.length c0_13) := (blk_cell BK103.out 13).trans rfl
              have hcz16_14 : w3.cell? ⟨gb103, 14, none⟩ = some (.slice A0_14 l0_14.length c0_14) := (blk_cell BK103.out 14).trans rfl
              have hfz16_0 := blk_frozen BK103.out 0
              have hfz16_1 := blk_frozen BK103.out 1
              have hfz16_2 := blk_frozen BK103.out 2
              have hfz16_3 := blk_frozen BK103.out 3
              have hfz16_4 := blk_frozen BK103.out 4
              have hfz16_5 := blk_frozen BK103.out 5
              have hfz16_6 := blk_frozen BK103.out 6
              have hfz16_7 := blk_frozen BK103.out 7
              have hfz16_8 := blk_frozen BK103.out 8
              have hfz16_9 := blk_frozen BK103.out 9
              have hfz16_10 := blk_frozen BK103.out 10
              have hfz16_11 := blk_frozen BK103.out 11
              have hfz16_12 := blk_frozen BK103.out 12
              have hfz16_13 := blk_frozen BK103.out 13
              have hfz16_14 := blk_frozen BK103.out 14
              go_wp2_with (first | (go_at_call 43; (with_reducible refine (wire_within.calls a0_1 15 true _ A8.out).mono ?_); rintro e w' ⟨rfl, ⟨nd, rfl⟩⟩) | (go_at_call 43; (with_reducible refine (wire_within.calls a0_2 15 true _ A10.out).mono ?_); rintro e w' ⟨rfl, ⟨nd, rfl⟩⟩) | (go_at_call 43; (with_reducible refine (wire_within.calls a0_5 3 false _ A12.out).mono ?_); rintro e w' ⟨rfl, ⟨nd, rfl⟩⟩))
              go_meet
              case rel => exact ⟨_, (true), (by first | rfl | (simp; done) | (simp [*]; done)), H', ⟨by first | omega | exact Nat.le_refl _⟩, ⟨by (with_reducible repeat (first | refine blk_drewN ?_ _ | refine blk_drew ?_ | refine blk_alloc ?_ _)); exact BK103.out⟩, ⟨by repeat (first | (with_reducible first | exact HB.out | apply below_alloc | apply pw_below_drewN | apply below_drew1 | refine below_set ?_ GE103.out) | exact HB.out)⟩⟩
          · replace c11 := Bool.eq_false_iff.mpr c11
            subst c11
            have H1 : (wire_May.j0 k true a0_0 a0_1 a0_2 a0_3 a0_4 a0_5 a0_6 a0_7 a0_8 a0_9 a0_10 a0_11 l0_12 l0_13 l0_14) = some r := by rw [if_neg (show ¬ (false = true) by decide)] at H; exact H
            clear H
            have H := H1
            clear H1
            have H' := Aside0.mk H
            clear H
            have hcz17_0 : w3.cell? ⟨gb103, 0, none⟩ = some (.int .i64 a0_0) := (blk_cell BK103.out 0).trans rfl
            have hcz17_1 : w3.cell? ⟨gb103, 1, none⟩ = some (.int .i64 a0_1) := (blk_cell BK103.out 1).trans rfl
            have hcz17_2 : w3.cell? ⟨gb103, 2, none⟩ = some (.int .i64 a0_2) := (blk_cell BK103.out 2).trans rfl
            have hcz17_3 : w3.cell? ⟨gb103, 3, none⟩ = some (.int .i64 a0_3) := (blk_cell BK103.out 3).trans rfl
            have hcz17_4 : w3.cell? ⟨gb103, 4, none⟩ = some (.int .i64 a0_4) := (blk_cell BK103.out 4).trans rfl
            have hcz17_5 : w3.cell? ⟨gb103, 5, none⟩ = some (.int .i64 a0_5) := (blk_cell BK103.out 5).trans rfl
            have hcz17_6 : w3.cell? ⟨gb103, 6, none⟩ = some (.int .i64 a0_6) := (blk_cell BK103.out 6).trans rfl
            have hcz17_7 : w3.cell? ⟨gb103, 7, none⟩ = some (.int .i64 a0_7) := (blk_cell BK103.out 7).trans rfl
            have hcz17_8 : w3.cell? ⟨gb103, 8, none⟩ = some (.int .i64 a0_8) := (blk_cell BK103.out 8).trans rfl
            have hcz17_9 : w3.cell? ⟨gb103, 9, none⟩ = some (.bool a0_9) := (blk_cell BK103.out 9).trans rfl
            have hcz17_10 : w3.cell? ⟨gb103, 10, none⟩ = some (.int .i64 a0_10) := (blk_cell BK103.out 10).trans rfl
            have hcz17_11 : w3.cell? ⟨gb103, 11, none⟩ = some (.int .i64 a0_11) := (blk_cell BK103.out 11).trans rfl
            have hcz17_12 : w3.cell? ⟨gb103, 12, none⟩ = some (.slice A0_12 l0_12.length c0_12) := (blk_cell BK103.out 12).trans rfl
            have hcz17_13 : w3.cell? ⟨gb103, 13, none⟩ = some (.slice A0_13 l0_13.length c0_13) := (blk_cell BK103.out 13).trans rfl
            have hcz17_14 : w3.cell? ⟨gb103, 14, none⟩ = some (.slice A0_14 l0_14.length c0_14) := (blk_cell BK103.out 14).trans rfl
            have hfz17_0 := blk_frozen BK103.out 0
            have hfz17_1 := blk_frozen BK103.out 1
            have hfz17_2 := blk_frozen BK103.out 2
            have hfz17_3 := blk_frozen BK103.out 3
            have hfz17_4 := blk_frozen BK103.out 4
            have hfz17_5 := blk_frozen BK103.out 5
            have hfz17_6 := blk_frozen BK103.out 6
            have hfz17_7 := blk_frozen BK103.out 7
            have hfz17_8 := blk_frozen BK103.out 8
            have hfz17_9 := blk_frozen BK103.out 9
            have hfz17_10 := blk_frozen BK103.out 10
            have hfz17_11 := blk_frozen BK103.out 11
            have hfz17_12 := blk_frozen BK103.out 12
            have hfz17_13 := blk_frozen BK103.out 13
            have hfz17_14 := blk_frozen BK103.out 14
            go_wp2_with (first | (go_at_call 43; (with_reducible refine (wire_within.calls a0_1 15 true _ A8.out).mono ?_); rintro e w' ⟨rfl, ⟨nd, rfl⟩⟩) | (go_at_call 43; (with_reducible refine (wire_within.calls a0_2 15 false _ A10.out).mono ?_); rintro e w' ⟨rfl, ⟨nd, rfl⟩⟩))
            go_meet
            case rel => exact ⟨_, (true), (by first | rfl | (simp; done) | (simp [*]; done)), H', ⟨by first | omega | exact Nat.le_refl _⟩, ⟨by (with_reducible repeat (first | refine blk_drewN ?_ _ | refine blk_drew ?_ | refine blk_alloc ?_ _)); exact BK103.out⟩, ⟨by repeat (first | (with_reducible first | exact HB.out | apply below_alloc | apply pw_below_drewN | apply below_drew1 | refine below_set ?_ GE103.out) | exact HB.out)⟩⟩
        · replace c9 := Bool.eq_false_iff.mpr c9
          subst c9
          have H1 : (wire_May.j0 k true a0_0 a0_1 a0_2 a0_3 a0_4 a0_5 a0_6 a0_7 a0_8 a0_9 a0_10 a0_11 l0_12 l0_13 l0_14) = some r := by rw [if_neg (show ¬ (false = true) by decide)] at H; exact H
          clear H
          have H := H1
          clear H1
          have H' := Aside0.mk H
          clear H
          have hcz18_0 : w3.cell? ⟨gb103, 0, none⟩ = some (.int .i64 a0_0) := (blk_cell BK103.out 0).trans rfl
          have hcz18_1 : w3.cell? ⟨gb103, 1, none⟩ = some (.int .i64 a0_1) := (blk_cell BK103.out 1).trans rfl
          have hcz18_2 : w3.cell? ⟨gb103, 2, none⟩ = some (.int .i64 a0_2) := (blk_cell BK103.out 2).trans rfl
          have hcz18_3 : w3.cell? ⟨gb103, 3, none⟩ = some (.int .i64 a0_3) := (blk_cell BK103.out 3).trans rfl
          have hcz18_4 : w3.cell? ⟨gb103, 4, none⟩ = some (.int .i64 a0_4) := (blk_cell BK103.out 4).trans rfl
          have hcz18_5 : w3.cell? ⟨gb103, 5, none⟩ = some (.int .i64 a0_5) := (blk_cell BK103.out 5).trans rfl
          have hcz18_6 : w3.cell? ⟨gb103, 6, none⟩ = some (.int .i64 a0_6) := (blk_cell BK103.out 6).trans rfl
          have hcz18_7 : w3.cell? ⟨gb103, 7, none⟩ = some (.int .i64 a0_7) := (blk_cell BK103.out 7).trans rfl
          have hcz18_8 : w3.cell? ⟨gb103, 8, none⟩ = some (.int .i64 a0_8) := (blk_cell BK103.out 8).trans rfl
          have hcz18_9 : w3.cell? ⟨gb103, 9, none⟩ = some (.bool a0_9) := (blk_cell BK103.out 9).trans rfl
          have hcz18_10 : w3.cell? ⟨gb103, 10, none⟩ = some (.int .i64 a0_10) := (blk_cell BK103.out 10).trans rfl
          have hcz18_11 : w3.cell? ⟨gb103, 11, none⟩ = some (.int .i64 a0_11) := (blk_cell BK103.out 11).trans rfl
          have hcz18_12 : w3.cell? ⟨gb103, 12, none⟩ = some (.slice A0_12 l0_12.length c0_12) := (blk_cell BK103.out 12).trans rfl
          have hcz18_13 : w3.cell? ⟨gb103, 13, none⟩ = some (.slice A0_13 l0_13.length c0_13) := (blk_cell BK103.out 13).trans rfl
          have hcz18_14 : w3.cell? ⟨gb103, 14, none⟩ = some (.slice A0_14 l0_14.length c0_14) := (blk_cell BK103.out 14).trans rfl
          have hfz18_0 := blk_frozen BK103.out 0
          have hfz18_1 := blk_frozen BK103.out 1
          have hfz18_2 := blk_frozen BK103.out 2
          have hfz18_3 := blk_frozen BK103.out 3
          have hfz18_4 := blk_frozen BK103.out 4
          have hfz18_5 := blk_frozen BK103.out 5
          have hfz18_6 := blk_frozen BK103.out 6
          have hfz18_7 := blk_frozen BK103.out 7
          have hfz18_8 := blk_frozen BK103.out 8
          have hfz18_9 := blk_frozen BK103.out 9
          have hfz18_10 := blk_frozen BK103.out 10
          have hfz18_11 := blk_frozen BK103.out 11
          have hfz18_12 := blk_frozen BK103.out 12
          have hfz18_13 := blk_frozen BK103.out 13
          have hfz18_14 := blk_frozen BK103.out 14
          go_wp2_with (first | (go_at_call 43; (with_reducible refine (wire_within.calls a0_1 15 false _ A8.out).mono ?_); rintro e w' ⟨rfl, ⟨nd, rfl⟩⟩))
          go_meet
          case rel => exact ⟨_, (true), (by first | rfl | (simp; done) | (simp [*]; done)), H', ⟨by first | omega | exact Nat.le_refl _⟩, ⟨by (with_reducible repeat (first | refine blk_drewN ?_ _ | refine blk_drew ?_ | refine blk_alloc ?_ _)); exact BK103.out⟩, ⟨by repeat (first | (with_reducible first | exact HB.out | apply below_alloc | apply pw_below_drewN | apply below_drew1 | refine below_set ?_ GE103.out) | exact HB.out)⟩⟩
  case rest =>
    clear HC2
    try clear c1
    try clear c2
    try clear p2
    try clear c4
    try clear c4b0
    try clear c6
    try clear c6b0
    try clear c9
    try clear c11
    try clear c13
    try clear hcz15_0
    try clear hcz15_1
    try clear hcz15_10
    try clear hcz15_11
    try clear hcz15_12
    try clear hcz15_13
    try clear hcz15_14
    try clear hcz15_2
    try clear hcz15_3
    try clear hcz15_4
    try clear hcz15_5
    try clear hcz15_6
    try clear hcz15_7
    try clear hcz15_8
    try clear hcz15_9
    try clear hcz16_0
    try clear hcz16_1
    try clear hcz16_10
    try clear hcz16_11
    try clear hcz16_12
    try clear hcz16_13
    try clear hcz16_14
    try clear hcz16_2
    try clear hcz16_3
    try clear hcz16_4
    try clear hcz16_5
    try clear hcz16_6
    try clear hcz16_7
    try clear hcz16_8
    try clear hcz16_9
    try clear hcz17_0
    try clear hcz17_1
    try clear hcz17_10
    try clear hcz17_11
    try clear hcz17_12
    try clear hcz17_13
    try clear hcz17_14
    try clear hcz17_2
    try clear hcz17_3
    try clear hcz17_4
    try clear hcz17_5
    try clear hcz17_6
    try clear hcz17_7
    try clear hcz17_8
    try clear hcz17_9
    try clear hcz18_0
    try clear hcz18_1
    try clear hcz18_10
    try clear hcz18_11
    try clear hcz18_12
    try clear hcz18_13
    try clear hcz18_14
    try clear hcz18_2
    try clear hcz18_3
    try clear hcz18_4
    try clear hcz18_5
    try clear hcz18_6
    try clear hcz18_7
    try clear hcz18_8
    try clear hcz18_9
    try clear hcz5_0
    try clear hcz5_1
    try clear hcz5_10
    try clear hcz5_11
    try clear hcz5_12
    try clear hcz5_13
    try clear hcz5_14
    try clear hcz5_2
    try clear hcz5_3
    try clear hcz5_4
    try clear hcz5_5
    try clear hcz5_6
    try clear hcz5_7
    try clear hcz5_8
    try clear hcz5_9
    try clear hcz7_0
    try clear hcz7_1
    try clear hcz7_10
    try clear hcz7_11
    try clear hcz7_12
    try clear hcz7_13
    try clear hcz7_14
    try clear hcz7_2
    try clear hcz7_3
    try clear hcz7_4
    try clear hcz7_5
    try clear hcz7_6
    try clear hcz7_7
    try clear hcz7_8
    try clear hcz7_9
    try clear hfz15_0
    try clear hfz15_1
    try clear hfz15_10
    try clear hfz15_11
    try clear hfz15_12
    try clear hfz15_13
    try clear hfz15_14
    try clear hfz15_2
    try clear hfz15_3
    try clear hfz15_4
    try clear hfz15_5
    try clear hfz15_6
    try clear hfz15_7
    try clear hfz15_8
    try clear hfz15_9
    try clear hfz16_0
    try clear hfz16_1
    try clear hfz16_10
    try clear hfz16_11
    try clear hfz16_12
    try clear hfz16_13
    try clear hfz16_14
    try clear hfz16_2
    try clear hfz16_3
    try clear hfz16_4
    try clear hfz16_5
    try clear hfz16_6
    try clear hfz16_7
    try clear hfz16_8
    try clear hfz16_9
    try clear hfz17_0
    try clear hfz17_1
    try clear hfz17_10
    try clear hfz17_11
    try clear hfz17_12
    try clear hfz17_13
    try clear hfz17_14
    try clear hfz17_2
    try clear hfz17_3
    try clear hfz17_4
    try clear hfz17_5
    try clear hfz17_6
    try clear hfz17_7
    try clear hfz17_8
    try clear hfz17_9
    try clear hfz18_0
    try clear hfz18_1
    try clear hfz18_10
    try clear hfz18_11
    try clear hfz18_12
    try clear hfz18_13
    try clear hfz18_14
    try clear hfz18_2
    try clear hfz18_3
    try clear hfz18_4
    try clear hfz18_5
    try clear hfz18_6
    try clear hfz18_7
    try clear hfz18_8
    try clear hfz18_9
    try clear hfz5_0
    try clear hfz5_1
    try clear hfz5_10
    try clear hfz5_11
    try clear hfz5_12
    try clear hfz5_13
    try clear hfz5_14
    try clear hfz5_2
    try clear hfz5_3
    try clear hfz5_4
    try clear hfz5_5
    try clear hfz5_6
    try clear hfz5_7
    try clear hfz5_8
    try clear hfz5_9
    try clear hfz7_0
    try clear hfz7_1
    try clear hfz7_10
    try clear hfz7_11
    try clear hfz7_12
    try clear hfz7_13
    try clear hfz7_14
    try clear hfz7_2
    try clear hfz7_3
    try clear hfz7_4
    try clear hfz7_5
    try clear hfz7_6
    try clear hfz7_7
    try clear hfz7_8
    try clear hfz7_9
    obtain ⟨kq, x34_1, rfl, HA, HJ1, BK103, HB⟩ := hcut
    cases kq with
    | zero => exact absurd HA.out (by simp [wire_May.j0])
    | succ kj1 =>
      have H := HA.out
      clear HA
      simp only [wire_May.j0] at H
      by_cases c19 : x34_1 = true
      · subst c19
        have H1 : (some false) = some r := by rw [if_pos rfl] at H; exact H
        clear H
        have H := H1
        clear H1
        obtain rfl := Option.some.inj H
        go_wp2
        go_ret
        exact ⟨by first | rfl | (simp [errW_none, errW_some] <;> rfl) | (simp [*, errW_none, errW_some] <;> rfl), by repeat (first | (with_reducible first | exact HB.out | apply below_alloc | apply pw_below_drewN | apply below_drew1 | refine below_set ?_ GE103.out) | exact HB.out)⟩
      · replace c19 := Bool.eq_false_iff.mpr c19
        subst c19
        have H1 : ((wire_within.f a0_3 1099511627776).bind fun t108 => (if t108 = true then ((wire_within.f a0_4 1099511627776).bind fun t109 => (if t109 = true then ((wire_within.f a0_6 1099511627776).bind fun t110 => (if t110 = true then ((wire_within.f a0_8 1099511627776).bind fun t111 => (if t111 = true then ((wire_within.f a0_10 140737488355328).bind fun t112 => (if t112 = true then ((wire_within.f a0_11 140737488355328).bind fun t113 => (wire_May.j1 kj1 (!t113) a0_0 a0_1 a0_2 a0_3 a0_4 a0_5 a0_6 a0_7 a0_8 a0_9 a0_10 a0_11 l0_12 l0_13 l0_14)) else (wire_May.j1 kj1 true a0_0 a0_1 a0_2 a0_3 a0_4 a0_5 a0_6 a0_7 a0_8 a0_9 a0_10 a0_11 l0_12 l0_13 l0_14))) else (wire_May.j1 kj1 true a0_0 a0_1 a0_2 a0_3 a0_4 a0_5 a0_6 a0_7 a0_8 a0_9 a0_10 a0_11 l0_12 l0_13 l0_14))) else (wire_May.j1 kj1 true a0_0 a0_1 a0_2 a0_3 a0_4 a0_5 a0_6 a0_7 a0_8 a0_9 a0_10 a0_11 l0_12 l0_13 l0_14))) else (wire_May.j1 kj1 true a0_0 a0_1 a0_2 a0_3 a0_4 a0_5 a0_6 a0_7 a0_8 a0_9 a0_10 a0_11 l0_12 l0_13 l0_14))) else (wire_May.j1 kj1 true a0_0 a0_1 a0_2 a0_3 a0_4 a0_5 a0_6 a0_7 a0_8 a0_9 a0_10 a0_11 l0_12 l0_13 l0_14))) = some r := by rw [if_neg (show ¬ (false = true) by decide)] at H; exact H
        clear H
        have H := H1
        clear H1
        have HC20 := Aside0.mk H
        clear H
        go_upto_region 3 with (fail)
        go_cut [70] (fun v70 wc => ∃ (kq : Nat) (x70_19 : Bool), v70 = .bool x70_19 ∧ Aside0 (wire_May.j1 kq x70_19 a0_0 a0_1 a0_2 a0_3 a0_4 a0_5 a0_6 a0_7 a0_8 a0_9 a0_10 a0_11 l0_12 l0_13 l0_14 = some r) ∧ Aside0 (kq ≤ kj1) ∧ Aside0 (wc.heap[gb103]? = some (.cells #[.int .i64 a0_0, .int .i64 a0_1, .int .i64 a0_2, .int .i64 a0_3, .int .i64 a0_4, .int .i64 a0_5, .int .i64 a0_6, .int .i64 a0_7, .int .i64 a0_8, .bool a0_9, .int .i64 a0_10, .int .i64 a0_11, (.slice A0_12 l0_12.length c0_12), (.slice A0_13 l0_13.length c0_13), (.slice A0_14 l0_14.length c0_14)] 27 (0, 0))) ∧ Aside0 (Below w.heap.size w wc))
        case first =>
          have H := HC20.out
          clear HC20
          replace H := Option.bind_eq_some_iff.mp H
          obtain ⟨t108, A210, H⟩ := H
          replace H : (if t108 = true then ((wire_within.f a0_4 1099511627776).bind fun t109 => (if t109 = true then ((wire_within.f a0_6 1099511627776).bind fun t110 => (if t110 = true then ((wire_within.f a0_8 1099511627776).bind fun t111 => (if t111 = true then ((wire_within.f a0_10 140737488355328).bind fun t112 => (if t112 = true then ((wire_within.f a0_11 140737488355328).bind fun t113 => (wire_May.j1 kj1 (!t113) a0_0 a0_1 a0_2 a0_3 a0_4 a0_5 a0_6 a0_7 a0_8 a0_9 a0_10 a0_11 l0_12 l0_13 l0_14)) else (wire_May.j1 kj1 true a0_0 a0_1 a0_2 a0_3 a0_4 a0_5 a0_6 a0_7 a0_8 a0_9 a0_10 a0_11 l0_12 l0_13 l0_14))) else (wire_May.j1 kj1 true a0_0 a0_1 a0_2 a0_3 a0_4 a0_5 a0_6 a0_7 a0_8 a0_9 a0_10 a0_11 l0_12 l0_13 l0_14))) else (wire_May.j1 kj1 true a0_0 a0_1 a0_2 a0_3 a0_4 a0_5 a0_6 a0_7 a0_8 a0_9 a0_10 a0_11 l0_12 l0_13 l0_14))) else (wire_May.j1 kj1 true a0_0 a0_1 a0_2 a0_3 a0_4 a0_5 a0_6 a0_7 a0_8 a0_9 a0_10 a0_11 l0_12 l0_13 l0_14))) else (wire_May.j1 kj1 true a0_0 a0_1 a0_2 a0_3 a0_4 a0_5 a0_6 a0_7 a0_8 a0_9 a0_10 a0_11 l0_12 l0_13 l0_14)) = some r := H
          have A21 := Aside0.mk A210
          clear A210
          by_cases c22 : t108 = true
          · subst c22
            have H1 : ((wire_within.f a0_4 1099511627776).bind fun t109 => (if t109 = true then ((wire_within.f a0_6 1099511627776).bind fun t110 => (if t110 = true then ((wire_within.f a0_8 1099511627776).bind fun t111 => (if t111 = true then ((wire_within.f a0_10 140737488355328).bind fun t112 => (if t112 = true then ((wire_within.f a0_11 140737488355328).bind fun t113 => (wire_May.j1 kj1 (!t113) a0_0 a0_1 a0_2 a0_3 a0_4 a0_5 a0_6 a0_7 a0_8 a0_9 a0_10 a0_11 l0_12 l0_13 l0_14)) else (wire_May.j1 kj1 true a0_0 a0_1 a0_2 a0_3 a0_4 a0_5 a0_6 a0_7 a0_8 a0_9 a0_10 a0_11 l0_12 l0_13 l0_14))) else (wire_May.j1 kj1 true a0_0 a0_1 a0_2 a0_3 a0_4 a0_5 a0_6 a0_7 a0_8 a0_9 a0_10 a0_11 l0_12 l0_13 l0_14))) else (wire_May.j1 kj1 true a0_0 a0_1 a0_2 a0_3 a0_4 a0_5 a0_6 a0_7 a0_8 a0_9 a0_10 a0_11 l0_12 l0_13 l0_14))) else (wire_May.j1 kj1 true a0_0 a0_1 a0_2 a0_3 a0_4 a0_5 a0_6 a0_7 a0_8 a0_9 a0_10 a0_11 l0_12 l0_13 l0_14))) = some r := by rw [if_pos rfl] at H; exact H
            clear H
            have H := H1
            clear H1
            replace H := Option.bind_eq_some_iff.mp H
            obtain ⟨t109, A230, H⟩ := H
            replace H : (if t109 = true then ((wire_within.f a0_6 1099511627776).bind fun t110 => (if t110 = true then ((wire_within.f a0_8 1099511627776).bind fun t111 => (if t111 = true then ((wire_within.f a0_10 140737488355328).bind fun t112 => (if t112 = true then ((wire_within.f a0_11 140737488355328).bind fun t113 => (wire_May.j1 kj1 (!t113) a0_0 a0_1 a0_2 a0_3 a0_4 a0_5 a0_6 a0_7 a0_8 a0_9 a0_10 a0_11 l0_12 l0_13 l0_14)) else (wire_May.j1 kj1 true a0_0 a0_1 a0_2 a0_3 a0_4 a0_5 a0_6 a0_7 a0_8 a0_9 a0_10 a0_11 l0_12 l0_13 l0_14))) else (wire_May.j1 kj1 true a0_0 a0_1 a0_2 a0_3 a0_4 a0_5 a0_6 a0_7 a0_8 a0_9 a0_10 a0_11 l0_12 l0_13 l0_14))) else (wire_May.j1 kj1 true a0_0 a0_1 a0_2 a0_3 a0_4 a0_5 a0_6 a0_7 a0_8 a0_9 a0_10 a0_11 l0_12 l0_13 l0_14))) else (wire_May.j1 kj1 true a0_0 a0_1 a0_2 a0_3 a0_4 a0_5 a0_6 a0_7 a0_8 a0_9 a0_10 a0_11 l0_12 l0_13 l0_14)) = some r := H
            have A23 := Aside0.mk A230
            clear A230
            by_cases c24 : t109 = true
            · subst c24
              have H1 : ((wire_within.f a0_6 1099511627776).bind fun t110 => (if t110 = true then ((wire_within.f a0_8 1099511627776).bind fun t111 => (if t111 = true then ((wire_within.f a0_10 140737488355328).bind fun t112 => (if t112 = true then ((wire_within.f a0_11 140737488355328).bind fun t113 => (wire_May.j1 kj1 (!t113) a0_0 a0_1 a0_2 a0_3 a0_4 a0_5 a0_6 a0_7 a0_8 a0_9 a0_10 a0_11 l0_12 l0_13 l0_14)) else (wire_May.j1 kj1 true a0_0 a0_1 a0_2 a0_3 a0_4 a0_5 a0_6 a0_7 a0_8 a0_9 a0_10 a0_11 l0_12 l0_13 l0_14))) else (wire_May.j1 kj1 true a0_0 a0_1 a0_2 a0_3 a0_4 a0_5 a0_6 a0_7 a0_8 a0_9 a0_10 a0_11 l0_12 l0_13 l0_14))) else (wire_May.j1 kj1 true a0_0 a0_1 a0_2 a0_3 a0_4 a0_5 a0_6 a0_7 a0_8 a0_9 a0_10 a0_11 l0_12 l0_13 l0_14))) = some r := by rw [if_pos rfl] at H; exact H
              clear H
              have H := H1
              clear H1
              replace H := Option.bind_eq_some_iff.mp H
              obtain ⟨t110, A250, H⟩ := H
              replace H : (if t110 = true then ((wire_within.f a0_8 1099511627776).bind fun t111 => (if t111 = true then ((wire_within.f a0_10 140737488355328).bind fun t112 => (if t112 = true then ((wire_within.f a0_11 140737488355328).bind fun t113 => (wire_May.j1 kj1 (!t113) a0_0 a0_1 a0_2 a0_3 a0_4 a0_5 a0_6 a0_7 a0_8 a0_9 a0_10 a0_11 l0_12 l0_13 l0_14)) else (wire_May.j1 kj1 true a0_0 a0_1 a0_2 a0_3 a0_4 a0_5 a0_6 a0_7 a0_8 a0_9 a0_10 a0_11 l0_12 l0_13 l0_14))) else (wire_May.j1 kj1 true a0_0 a0_1 a0_2 a0_3 a0_4 a0_5 a0_6 a0_7 a0_8 a0_9 a0_10 a0_11 l0_12 l0_13 l0_14))) else (wire_May.j1 kj1 true a0_0 a0_1 a0_2 a0_3 a0_4 a0_5 a0_6 a0_7 a0_8 a0_9 a0_10 a0_11 l0_12 l0_13 l0_14)) = some r := H
              have A25 := Aside0.mk A250
              clear A250
              by_cases c26 : t110 = true
              · subst c26
                have H1 : ((wire_within.f a0_8 1099511627776).bind fun t111 => (if t111 = true then ((wire_within.f a0_10 140737488355328).bind fun t112 => (if t112 = true then ((wire_within.f a0_11 140737488355328).bind fun t113 => (wire_May.j1 kj1 (!t113) a0_0 a0_1 a0_2 a0_3 a0_4 a0_5 a0_6 a0_7 a0_8 a0_9 a0_10 a0_11 l0_12 l0_13 l0_14)) else (wire_May.j1 kj1 true a0_0 a0_1 a0_2 a0_3 a0_4 a0_5 a0_6 a0_7 a0_8 a0_9 a0_10 a0_11 l0_12 l0_13 l0_14))) else (wire_May.j1 kj1 true a0_0 a0_1 a0_2 a0_3 a0_4 a0_5 a0_6 a0_7 a0_8 a0_9 a0_10 a0_11 l0_12 l0_13 l0_14))) = some r := by rw [if_pos rfl] at H; exact H
                clear H
                have H := H1
                clear H1
                replace H := Option.bind_eq_some_iff.mp H
                obtain ⟨t111, A270, H⟩ := H
                replace H : (if t111 = true then ((wire_within.f a0_10 140737488355328).bind fun t112 => (if t112 = true then ((wire_within.f a0_11 140737488355328).bind fun t113 => (wire_May.j1 kj1 (!t113) a0_0 a0_1 a0_2 a0_3 a0_4 a0_5 a0_6 a0_7 a0_8 a0_9 a0_10 a0_11 l0_12 l0_13 l0_14)) else (wire_May.j1 kj1 true a0_0 a0_1 a0_2 a0_3 a0_4 a0_5 a0_6 a0_7 a0_8 a0_9 a0_10 a0_11 l0_12 l0_13 l0_14))) else (wire_May.j1 kj1 true a0_0 a0_1 a0_2 a0_3 a0_4 a0_5 a0_6 a0_7 a0_8 a0_9 a0_10 a0_11 l0_12 l0_13 l0_14)) = some r := H
                have A27 := Aside0.mk A270
                clear A270
                by_cases c28 : t111 = true
                · subst c28
                  have H1 : ((wire_within.f a0_10 140737488355328).bind fun t112 => (if t112 = true then ((wire_within.f a0_11 140737488355328).bind fun t113 => (wire_May.j1 kj1 (!t113) a0_0 a0_1 a0_2 a0_3 a0_4 a0_5 a0_6 a0_7 a0_8 a0_9 a0_10 a0_11 l0_12 l0_13 l0_14)) else (wire_May.j1 kj1 true a0_0 a0_1 a0_2 a0_3 a0_4 a0_5 a0_6 a0_7 a0_8 a0_9 a0_10 a0_11 l0_12 l0_13 l0_14))) = some r := by rw [if_pos rfl] at H; exact H
                  clear H
                  have H := H1
                  clear H1
                  replace H := Option.bind_eq_some_iff.mp H
                  obtain ⟨t112, A290, H⟩ := H
                  replace H : (if t112 = true then ((wire_within.f a0_11 140737488355328).bind fun t113 => (wire_May.j1 kj1 (!t113) a0_0 a0_1 a0_2 a0_3 a0_4 a0_5 a0_6 a0_7 a0_8 a0_9 a0_10 a0_11 l0_12 l0_13 l0_14)) else (wire_May.j1 kj1 true a0_0 a0_1 a0_2 a0_3 a0_4 a0_5 a0_6 a0_7 a0_8 a0_9 a0_10 a0_11 l0_12 l0_13 l0_14)) = some r := H
                  have A29 := Aside0.mk A290
                  clear A290
                  by_cases c30 : t112 = true
                  · subst c30
                    have H1 : ((wire_within.f a0_11 140737488355328).bind fun t113 => (wire_May.j1 kj1 (!t113) a0_0 a0_1 a0_2 a0_3 a0_4 a0_5 a0_6 a0_7 a0_8 a0_9 a0_10 a0_11 l0_12 l0_13 l0_14)) = some r := by rw [if_pos rfl] at H; exact H
                    clear H
                    have H := H1
                    clear H1
                    replace H := Option.bind_eq_some_iff.mp H
                    obtain ⟨t113, A310, H⟩ := H
                    replace H : (wire_May.j1 kj1 (!t113) a0_0 a0_1 a0_2 a0_3 a0_4 a0_5 a0_6 a0_7 a0_8 a0_9 a0_10 a0_11 l0_12 l0_13 l0_14) = some r := H
                    have A31 := Aside0.mk A310
                    clear A310
                    have H' := Aside0.mk H
                    clear H
                    have hcz32_0 : wc.cell? ⟨gb103, 0, none⟩ = some (.int .i64 a0_0) := (blk_cell BK103.out 0).trans rfl
                    have hcz32_1 : wc.cell? ⟨gb103, 1, none⟩ = some (.int .i64 a0_1) := (blk_cell BK103.out 1).trans rfl
                    have hcz32_2 : wc.cell? ⟨gb103, 2, none⟩ = some (.int .i64 a0_2) := (blk_cell BK103.out 2).trans rfl
                    have hcz32_3 : wc.cell? ⟨gb103, 3, none⟩ = some (.int .i64 a0_3) := (blk_cell BK103.out 3).trans rfl
                    have hcz32_4 : wc.cell? ⟨gb103, 4, none⟩ = some (.int .i64 a0_4) := (blk_cell BK103.out 4).trans rfl
                    have hcz32_5 : wc.cell? ⟨gb103, 5, none⟩ = some (.int .i64 a0_5) := (blk_cell BK103.out 5).trans rfl
                    have hcz32_6 : wc.cell? ⟨gb103, 6, none⟩ = some (.int .i64 a0_6) := (blk_cell BK103.out 6).trans rfl
                    have hcz32_7 : wc.cell? ⟨gb103, 7, none⟩ = some (.int .i64 a0_7) := (blk_cell BK103.out 7).trans rfl
                    have hcz32_8 : wc.cell? ⟨gb103, 8, none⟩ = some (.int .i64 a0_8) := (blk_cell BK103.out 8).trans rfl
                    have hcz32_9 : wc.cell? ⟨gb103, 9, none⟩ = some (.bool a0_9) := (blk_cell BK103.out 9).trans rfl
                    have hcz32_10 : wc.cell? ⟨gb103, 10, none⟩ = some (.int .i64 a0_10) := (blk_cell BK103.out 10).trans rfl
                    have hcz32_11 : wc.cell? ⟨gb103, 11, none⟩ = some (.int .i64 a0_11) := (blk_cell BK103.out 11).trans rfl
                    have hcz32_12 : wc.cell? ⟨gb103, 12, none⟩ = some (.slice A0_12 l0_12.length c0_12) := (blk_cell BK103.out 12).trans rfl
                    have hcz32_13 : wc.cell? ⟨gb103, 13, none⟩ = some (.slice A0_13 l0_13.length c0_13) := (blk_cell BK103.out 13).trans rfl
                    have hcz32_14 : wc.cell? ⟨gb103, 14, none⟩ = some (.slice A0_14 l0_14.length c0_14) := (blk_cell BK103.out 14).trans rfl
                    have hfz32_0 := blk_frozen BK103.out 0
                    have hfz32_1 := blk_frozen BK103.out 1
                    have hfz32_2 := blk_frozen BK103.out 2
                    have hfz32_3 := blk_frozen BK103.out 3
                    have hfz32_4 := blk_frozen BK103.out 4
                    have hfz32_5 := blk_frozen BK103.out 5
                    have hfz32_6 := blk_frozen BK103.out 6
                    have hfz32_7 := blk_frozen BK103.out 7
                    have hfz32_8 := blk_frozen BK103.out 8
                    have hfz32_9 := blk_frozen BK103.out 9
                    have hfz32_10 := blk_frozen BK103.out 10
                    have hfz32_11 := blk_frozen BK103.out 11
                    have hfz32_12 := blk_frozen BK103.out 12
                    have hfz32_13 := blk_frozen BK103.out 13
                    have hfz32_14 := blk_frozen BK103.out 14
                    go_wp2_with (first | ((with_reducible refine gate_callee (f := 43) rfl ?_); refine goesL_ (some 37) rfl rfl Try.func43 (by kernel_rfl) rfl #[.int .i64 a0_3, .int .i64 1099511627776] rfl (by (try simp only [List.map_toArray, List.map_cons, List.map_nil]); first | done | rfl | (simp only [List.length_drop, List.length_take]; rfl)) ?_; (with_reducible refine (wire_within.calls a0_3 1099511627776 true _ A21.out).mono ?_); rintro e w' ⟨rfl, ⟨nd, rfl⟩⟩; refine ⟨_, rfl, ?_⟩) | (go_at_call 43; (with_reducible refine (wire_within.calls a0_4 1099511627776 true _ A23.out).mono ?_); rintro e w' ⟨rfl, ⟨nd, rfl⟩⟩) | (go_at_call 43; (with_reducible refine (wire_within.calls a0_6 1099511627776 true _ A25.out).mono ?_); rintro e w' ⟨rfl, ⟨nd, rfl⟩⟩) | (go_at_call 43; (with_reducible refine (wire_within.calls a0_8 1099511627776 true _ A27.out).mono ?_); rintro e w' ⟨rfl, ⟨nd, rfl⟩⟩) | (go_at_call 43; (with_reducible refine (wire_within.calls a0_10 140737488355328 true _ A29.out).mono ?_); rintro e w' ⟨rfl, ⟨nd, rfl⟩⟩) | (go_at_call 43; (with_reducible refine (wire_within.calls a0_11 140737488355328 t113 _ A31.out).mono ?_); rintro e w' ⟨rfl, ⟨nd, rfl⟩⟩))
                    go_meet
                    case rel => exact ⟨_, (!t113), (by first | rfl | (simp; done) | (simp [*]; done)), H', ⟨by have := HJ1.out; first | omega | exact Nat.le_refl _⟩, ⟨by (with_reducible repeat (first | refine blk_drewN ?_ _ | refine blk_drew ?_ | refine blk_alloc ?_ _)); exact BK103.out⟩, ⟨by repeat (first | (with_reducible first | exact HB.out | apply below_alloc | apply pw_below_drewN | apply below_drew1 | refine below_set ?_ GE103.out) | exact HB.out)⟩⟩
                  · replace c30 := Bool.eq_false_iff.mpr c30
                    subst c30
                    have H1 : (wire_May.j1 kj1 true a0_0 a0_1 a0_2 a0_3 a0_4 a0_5 a0_6 a0_7 a0_8 a0_9 a0_10 a0_11 l0_12 l0_13 l0_14) = some r := by rw [if_neg (show ¬ (false = true) by decide)] at H; exact H
                    clear H
                    have H := H1
                    clear H1
                    have H' := Aside0.mk H
                    clear H
                    have hcz33_0 : wc.cell? ⟨gb103, 0, none⟩ = some (.int .i64 a0_0) := (blk_cell BK103.out 0).trans rfl
                    have hcz33_1 : wc.cell? ⟨gb103, 1, none⟩ = some (.int .i64 a0_1) := (blk_cell BK103.out 1).trans rfl
                    have hcz33_2 : wc.cell? ⟨gb103, 2, none⟩ = some (.int .i64 a0_2) := (blk_cell BK103.out 2).trans rfl
                    have hcz33_3 : wc.cell? ⟨gb103, 3, none⟩ = some (.int .i64 a0_3) := (blk_cell BK103.out 3).trans rfl
                    have hcz33_4 : wc.cell? ⟨gb103, 4, none⟩ = some (.int .i64 a0_4) := (blk_cell BK103.out 4).trans rfl
                    have hcz33_5 : wc.cell? ⟨gb103, 5, none⟩ = some (.int .i64 a0_5) := (blk_cell BK103.out 5).trans rfl
                    have hcz33_6 : wc.cell? ⟨gb103, 6, none⟩ = some (.int .i64 a0_6) := (blk_cell BK103.out 6).trans rfl
                    have hcz33_7 : wc.cell? ⟨gb103, 7, none⟩ = some (.int .i64 a0_7) := (blk_cell BK103.out 7).trans rfl
                    have hcz33_8 : wc.cell? ⟨gb103, 8, none⟩ = some (.int .i64 a0_8) := (blk_cell BK103.out 8).trans rfl
                    have hcz33_9 : wc.cell? ⟨gb103, 9, none⟩ = some (.bool a0_9) := (blk_cell BK103.out 9).trans rfl
                    have hcz33_10 : wc.cell? ⟨gb103, 10, none⟩ = some (.int .i64 a0_10) := (blk_cell BK103.out 10).trans rfl
                    have hcz33_11 : wc.cell? ⟨gb103, 11, none⟩ = some (.int .i64 a0_11) := (blk_cell BK103.out 11).trans rfl
                    have hcz33_12 : wc.cell? ⟨gb103, 12, none⟩ = some (.slice A0_12 l0_12.length c0_12) := (blk_cell BK103.out 12).trans rfl
                    have hcz33_13 : wc.cell? ⟨gb103, 13, none⟩ = some (.slice A0_13 l0_13.length c0_13) := (blk_cell BK103.out 13).trans rfl
                    have hcz33_14 : wc.cell? ⟨gb103, 14, none⟩ = some (.slice A0_14 l0_14.length c0_14) := (blk_cell BK103.out 14).trans rfl
                    have hfz33_0 := blk_frozen BK103.out 0
                    have hfz33_1 := blk_frozen BK103.out 1
                    have hfz33_2 := blk_frozen BK103.out 2
                    have hfz33_3 := blk_frozen BK103.out 3
                    have hfz33_4 := blk_frozen BK103.out 4
                    have hfz33_5 := blk_frozen BK103.out 5
                    have hfz33_6 := blk_frozen BK103.out 6
                    have hfz33_7 := blk_frozen BK103.out 7
                    have hfz33_8 := blk_frozen BK103.out 8
                    have hfz33_9 := blk_frozen BK103.out 9
                    have hfz33_10 := blk_frozen BK103.out 10
                    have hfz33_11 := blk_frozen BK103.out 11
                    have hfz33_12 := blk_frozen BK103.out 12
                    have hfz33_13 := blk_frozen BK103.out 13
                    have hfz33_14 := blk_frozen BK103.out 14
                    go_wp2_with (first | ((with_reducible refine gate_callee (f := 43) rfl ?_); refine goesL_ (some 37) rfl rfl Try.func43 (by kernel_rfl) rfl #[.int .i64 a0_3, .int .i64 1099511627776] rfl (by (try simp only [List.map_toArray, List.map_cons, List.map_nil]); first | done | rfl | (simp only [List.length_drop, List.length_take]; rfl)) ?_; (with_reducible refine (wire_within.calls a0_3 1099511627776 true _ A21.out).mono ?_); rintro e w' ⟨rfl, ⟨nd, rfl⟩⟩; refine ⟨_, rfl, ?_⟩) | (go_at_call 43; (with_reducible refine (wire_within.calls a0_4 1099511627776 true _ A23.out).mono ?_); rintro e w' ⟨rfl, ⟨nd, rfl⟩⟩) | (go_at_call 43; (with_reducible refine (wire_within.calls a0_6 1099511627776 true _ A25.out).mono ?_); rintro e w' ⟨rfl, ⟨nd, rfl⟩⟩) | (go_at_call 43; (with_reducible refine (wire_within.calls a0_8 1099511627776 true _ A27.out).mono ?_); rintro e w' ⟨rfl, ⟨nd, rfl⟩⟩) | (go_at_call 43; (with_reducible refine (wire_within.calls a0_10 140737488355328 false _ A29.out).mono ?_); rintro e w' ⟨rfl, ⟨nd, rfl⟩⟩))
                    go_meet
                    case rel => exact ⟨_, (true), (by first | rfl | (simp; done) | (simp [*]; done)), H', ⟨by have := HJ1.out; first | omega | exact Nat.le_refl _⟩, ⟨by (with_reducible repeat (first | refine blk_drewN ?_ _ | refine blk_drew ?_ | refine blk_alloc ?_ _)); exact BK103.out⟩, ⟨by repeat (first | (with_reducible first | exact HB.out | apply below_alloc | apply pw_below_drewN | apply below_drew1 | refine below_set ?_ GE103.out) | exact HB.out)⟩⟩
                · replace c28 := Bool.eq_false_iff.mpr c28
                  subst c28
                  have H1 : (wire_May.j1 kj1 true a0_0 a0_1 a0_2 a0_3 a0_4 a0_5 a0_6 a0_7 a0_8 a0_9 a0_10 a0_11 l0_12 l0_13 l0_14) = some r := by rw [if_neg (show ¬ (false = true) by decide)] at H; exact H
                  clear H
                  have H := H1
                  clear H1
                  have H' := Aside0.mk H
                  clear H
                  have hcz34_0 : wc.cell? ⟨gb103, 0, none⟩ = some (.int .i64 a0_0) := (blk_cell BK103.out 0).trans rfl
                  have hcz34_1 : wc.cell? ⟨gb103, 1, none⟩ = some (.int .i64 a0_1) := (blk_cell BK103.out 1).trans rfl
                  have hcz34_2 : wc.cell? ⟨gb103, 2, none⟩ = some (.int .i64 a0_2) := (blk_cell BK103.out 2).trans rfl
                  have hcz34_3 : wc.cell? ⟨gb103, 3, none⟩ = some (.int .i64 a0_3) := (blk_cell BK103.out 3).trans rfl
                  have hcz34_4 : wc.cell? ⟨gb103, 4, none⟩ = some (.int .i64 a0_4) := (blk_cell BK103.out 4).trans rfl
                  have hcz34_5 : wc.cell? ⟨gb103, 5, none⟩ = some (.int .i64 a0_5) := (blk_cell BK103.out 5).trans rfl
                  have hcz34_6 : wc.cell? ⟨gb103, 6, none⟩ = some (.int .i64 a0_6) := (blk_cell BK103.out 6).trans rfl
                  have hcz34_7 : wc.cell? ⟨gb103, 7, none⟩ = some (.int .i64 a0_7) := (blk_cell BK103.out 7).trans rfl
                  have hcz34_8 : wc.cell? ⟨gb103, 8, none⟩ = some (.int .i64 a0_8) := (blk_cell BK103.out 8).trans rfl
                  have hcz34_9 : wc.cell? ⟨gb103, 9, none⟩ = some (.bool a0_9) := (blk_cell BK103.out 9).trans rfl
                  have hcz34_10 : wc.cell? ⟨gb103, 10, none⟩ = some (.int .i64 a0_10) := (blk_cell BK103.out 10).trans rfl
                  have hcz34_11 : wc.cell? ⟨gb103, 11, none⟩ = some (.int .i64 a0_11) := (blk_cell BK103.out 11).trans rfl
                  have hcz34_12 : wc.cell? ⟨gb103, 12, none⟩ = some (.slice A0_12 l0_12.length c0_12) := (blk_cell BK103.out 12).trans rfl
                  have hcz34_13 : wc.cell? ⟨gb103, 13, none⟩ = some (.slice A0_13 l0_13.length c0_13) := (blk_cell BK103.out 13).trans rfl
                  have hcz34_14 : wc.cell? ⟨gb103, 14, none⟩ = some (.slice A0_14 l0_14.length c0_14) := (blk_cell BK103.out 14).trans rfl
                  have hfz34_0 := blk_frozen BK103.out 0
                  have hfz34_1 := blk_frozen BK103.out 1
                  have hfz34_2 := blk_frozen BK103.out 2
                  have hfz34_3 := blk_frozen BK103.out 3
                  have hfz34_4 := blk_frozen BK103.out 4
                  have hfz34_5 := blk_frozen BK103.out 5
                  have hfz34_6 := blk_frozen BK103.out 6
                  have hfz34_7 := blk_frozen BK103.out 7
                  have hfz34_8 := blk_frozen BK103.out 8
                  have hfz34_9 := blk_frozen BK103.out 9
                  have hfz34_10 := blk_frozen BK103.out 10
                  have hfz34_11 := blk_frozen BK103.out 11
                  have hfz34_12 := blk_frozen BK103.out 12
                  have hfz34_13 := blk_frozen BK103.out 13
                  have hfz34_14 := blk_frozen BK103.out 14
                  go_wp2_with (first | ((with_reducible refine gate_callee (f := 43) rfl ?_); refine goesL_ (some 37) rfl rfl Try.func43 (by kernel_rfl) rfl #[.int .i64 a0_3, .int .i64 1099511627776] rfl (by (try simp only [List.map_toArray, List.map_cons, List.map_nil]); first | done | rfl | (simp only [List.length_drop, List.length_take]; rfl)) ?_; (with_reducible refine (wire_within.calls a0_3 1099511627776 true _ A21.out).mono ?_); rintro e w' ⟨rfl, ⟨nd, rfl⟩⟩; refine ⟨_, rfl, ?_⟩) | (go_at_call 43; (with_reducible refine (wire_within.calls a0_4 1099511627776 true _ A23.out).mono ?_); rintro e w' ⟨rfl, ⟨nd, rfl⟩⟩) | (go_at_call 43; (with_reducible refine (wire_within.calls a0_6 1099511627776 true _ A25.out).mono ?_); rintro e w' ⟨rfl, ⟨nd, rfl⟩⟩) | (go_at_call 43; (with_reducible refine (wire_within.calls a0_8 1099511627776 false _ A27.out).mono ?_); rintro e w' ⟨rfl, ⟨nd, rfl⟩⟩))
                  go_meet
                  case rel => exact ⟨_, (true), (by first | rfl | (simp; done) | (simp [*]; done)), H', ⟨by have := HJ1.out; first | omega | exact Nat.le_refl _⟩, ⟨by (with_reducible repeat (first | refine blk_drewN ?_ _ | refine blk_drew ?_ | refine blk_alloc ?_ _)); exact BK103.out⟩, ⟨by repeat (first | (with_reducible first | exact HB.out | apply below_alloc | apply pw_below_drewN | apply below_drew1 | refine below_set ?_ GE103.out) | exact HB.out)⟩⟩
              · replace c26 := Bool.eq_false_iff.mpr c26
                subst c26
                have H1 : (wire_May.j1 kj1 true a0_0 a0_1 a0_2 a0_3 a0_4 a0_5 a0_6 a0_7 a0_8 a0_9 a0_10 a0_11 l0_12 l0_13 l0_14) = some r := by rw [if_neg (show ¬ (false = true) by decide)] at H; exact H
                clear H
                have H := H1
                clear H1
                have H' := Aside0.mk H
                clear H
                have hcz35_0 : wc.cell? ⟨gb103, 0, none⟩ = some (.int .i64 a0_0) := (blk_cell BK103.out 0).trans rfl
                have hcz35_1 : wc.cell? ⟨gb103, 1, none⟩ = some (.int .i64 a0_1) := (blk_cell BK103.out 1).trans rfl
                have hcz35_2 : wc.cell? ⟨gb103, 2, none⟩ = some (.int .i64 a0_2) := (blk_cell BK103.out 2).trans rfl
                have hcz35_3 : wc.cell? ⟨gb103, 3, none⟩ = some (.int .i64 a0_3) := (blk_cell BK103.out 3).trans rfl
                have hcz35_4 : wc.cell? ⟨gb103, 4, none⟩ = some (.int .i64 a0_4) := (blk_cell BK103.out 4).trans rfl
                have hcz35_5 : wc.cell? ⟨gb103, 5, none⟩ = some (.int .i64 a0_5) := (blk_cell BK103.out 5).trans rfl
                have hcz35_6 : wc.cell? ⟨gb103, 6, none⟩ = some (.int .i64 a0_6) := (blk_cell BK103.out 6).trans rfl
                have hcz35_7 : wc.cell? ⟨gb103, 7, none⟩ = some (.int .i64 a0_7) := (blk_cell BK103.out 7).trans rfl
                have hcz35_8 : wc.cell? ⟨gb103, 8, none⟩ = some (.int .i64 a0_8) := (blk_cell BK103.out 8).trans rfl
                have hcz35_9 : wc.cell? ⟨gb103, 9, none⟩ = some (.bool a0_9) := (blk_cell BK103.out 9).trans rfl
                have hcz35_10 : wc.cell? ⟨gb103, 10, none⟩ = some (.int .i64 a0_10) := (blk_cell BK103.out 10).trans rfl
                have hcz35_11 : wc.cell? ⟨gb103, 11, none⟩ = some (.int .i64 a0_11) := (blk_cell BK103.out 11).trans rfl
                have hcz35_12 : wc.cell? ⟨gb103, 12, none⟩ = some (.slice A0_12 l0_12.length c0_12) := (blk_cell BK103.out 12).trans rfl
                have hcz35_13 : wc.cell? ⟨gb103, 13, none⟩ = some (.slice A0_13 l0_13.length c0_13) := (blk_cell BK103.out 13).trans rfl
                have hcz35_14 : wc.cell? ⟨gb103, 14, none⟩ = some (.slice A0_14 l0_14.length c0_14) := (blk_cell BK103.out 14).trans rfl
                have hfz35_0 := blk_frozen BK103.out 0
                have hfz35_1 := blk_frozen BK103.out 1
                have hfz35_2 := blk_frozen BK103.out 2
                have hfz35_3 := blk_frozen BK103.out 3
                have hfz35_4 := blk_frozen BK103.out 4
                have hfz35_5 := blk_frozen BK103.out 5
                have hfz35_6 := blk_frozen BK103.out 6
                have hfz35_7 := blk_frozen BK103.out 7
                have hfz35_8 := blk_frozen BK103.out 8
                have hfz35_9 := blk_frozen BK103.out 9
                have hfz35_10 := blk_frozen BK103.out 10
                have hfz35_11 := blk_frozen BK103.out 11
                have hfz35_12 := blk_frozen BK103.out 12
                have hfz35_13 := blk_frozen BK103.out 13
                have hfz35_14 := blk_frozen BK103.out 14
                go_wp2_with (first | ((with_reducible refine gate_callee (f := 43) rfl ?_); refine goesL_ (some 37) rfl rfl Try.func43 (by kernel_rfl) rfl #[.int .i64 a0_3, .int .i64 1099511627776] rfl (by (try simp only [List.map_toArray, List.map_cons, List.map_nil]); first | done | rfl | (simp only [List.length_drop, List.length_take]; rfl)) ?_; (with_reducible refine (wire_within.calls a0_3 1099511627776 true _ A21.out).mono ?_); rintro e w' ⟨rfl, ⟨nd, rfl⟩⟩; refine ⟨_, rfl, ?_⟩) | (go_at_call 43; (with_reducible refine (wire_within.calls a0_4 1099511627776 true _ A23.out).mono ?_); rintro e w' ⟨rfl, ⟨nd, rfl⟩⟩) | (go_at_call 43; (with_reducible refine (wire_within.calls a0_6 1099511627776 false _ A25.out).mono ?_); rintro e w' ⟨rfl, ⟨nd, rfl⟩⟩))
                go_meet
                case rel => exact ⟨_, (true), (by first | rfl | (simp; done) | (simp [*]; done)), H', ⟨by have := HJ1.out; first | omega | exact Nat.le_refl _⟩, ⟨by (with_reducible repeat (first | refine blk_drewN ?_ _ | refine blk_drew ?_ | refine blk_alloc ?_ _)); exact BK103.out⟩, ⟨by repeat (first | (with_reducible first | exact HB.out | apply below_alloc | apply pw_below_drewN | apply below_drew1 | refine below_set ?_ GE103.out) | exact HB.out)⟩⟩
            · replace c24 := Bool.eq_false_iff.mpr c24
              subst c24
              have H1 : (wire_May.j1 kj1 true a0_0 a0_1 a0_2 a0_3 a0_4 a0_5 a0_6 a0_7 a0_8 a0_9 a0_10 a0_11 l0_12 l0_13 l0_14) = some r := by rw [if_neg (show ¬ (false = true) by decide)] at H; exact H
              clear H
              have H := H1
              clear H1
              have H' := Aside0.mk H
              clear H
              have hcz36_0 : wc.cell? ⟨gb103, 0, none⟩ = some (.int .i64 a0_0) := (blk_cell BK103.out 0).trans rfl
              have hcz36_1 : wc.cell? ⟨gb103, 1, none⟩ = some (.int .i64 a0_1) := (blk_cell BK103.out 1).trans rfl
              have hcz36_2 : wc.cell? ⟨gb103, 2, none⟩ = some (.int .i64 a0_2) := (blk_cell BK103.out 2).trans rfl
              have hcz36_3 : wc.cell? ⟨gb103, 3, none⟩ = some (.int .i64 a0_3) := (blk_cell BK103.out 3).trans rfl
              have hcz36_4 : wc.cell? ⟨gb103, 4, none⟩ = some (.int .i64 a0_4) := (blk_cell BK103.out 4).trans rfl
              have hcz36_5 : wc.cell? ⟨gb103, 5, none⟩ = some (.int .i64 a0_5) := (blk_cell BK103.out 5).trans rfl
              have hcz36_6 : wc.cell? ⟨gb103, 6, none⟩ = some (.int .i64 a0_6) := (blk_cell BK103.out 6).trans rfl
              have hcz36_7 : wc.cell? ⟨gb103, 7, none⟩ = some (.int .i64 a0_7) := (blk_cell BK103.out 7).trans rfl
              have hcz36_8 : wc.cell? ⟨gb103, 8, none⟩ = some (.int .i64 a0_8) := (blk_cell BK103.out 8).trans rfl
              have hcz36_9 : wc.cell? ⟨gb103, 9, none⟩ = some (.bool a0_9) := (blk_cell BK103.out 9).trans rfl
              have hcz36_10 : wc.cell? ⟨gb103, 10, none⟩ = some (.int .i64 a0_10) := (blk_cell BK103.out 10).trans rfl
              have hcz36_11 : wc.cell? ⟨gb103, 11, none⟩ = some (.int .i64 a0_11) := (blk_cell BK103.out 11).trans rfl
              have hcz36_12 : wc.cell? ⟨gb103, 12, none⟩ = some (.slice A0_12 l0_12.length c0_12) := (blk_cell BK103.out 12).trans rfl
              have hcz36_13 : wc.cell? ⟨gb103, 13, none⟩ = some (.slice A0_13 l0_13.length c0_13) := (blk_cell BK103.out 13).trans rfl
              have hcz36_14 : wc.cell? ⟨gb103, 14, none⟩ = some (.slice A0_14 l0_14.length c0_14) := (blk_cell BK103.out 14).trans rfl
              have hfz36_0 := blk_frozen BK103.out 0
              have hfz36_1 := blk_frozen BK103.out 1
              have hfz36_2 := blk_frozen BK103.out 2
              have hfz36_3 := blk_frozen BK103.out 3
              have hfz36_4 := blk_frozen BK103.out 4
              have hfz36_5 := blk_frozen BK103.out 5
              have hfz36_6 := blk_frozen BK103.out 6
              have hfz36_7 := blk_frozen BK103.out 7
              have hfz36_8 := blk_frozen BK103.out 8
              have hfz36_9 := blk_frozen BK103.out 9
              have hfz36_10 := blk_frozen BK103.out 10
              have hfz36_11 := blk_frozen BK103.out 11
              have hfz36_12 := blk_frozen BK103.out 12
              have hfz36_13 := blk_frozen BK103.out 13
              have hfz36_14 := blk_frozen BK103.out 14
              go_wp2_with (first | ((with_reducible refine gate_callee (f := 43) rfl ?_); refine goesL_ (some 37) rfl rfl Try.func43 (by kernel_rfl) rfl #[.int .i64 a0_3, .int .i64 1099511627776] rfl (by (try simp only [List.map_toArray, List.map_cons, List.map_nil]); first | done | rfl | (simp only [List.length_drop, List.length_take]; rfl)) ?_; (with_reducible refine (wire_within.calls a0_3 1099511627776 true _ A21.out).mono ?_); rintro e w' ⟨rfl, ⟨nd, rfl⟩⟩; refine ⟨_, rfl, ?_⟩) | (go_at_call 43; (with_reducible refine (wire_within.calls a0_4 1099511627776 false _ A23.out).mono ?_); rintro e w' ⟨rfl, ⟨nd, rfl⟩⟩))
              go_meet
              case rel => exact ⟨_, (true), (by first | rfl | (simp; done) | (simp [*]; done)), H', ⟨by have := HJ1.out; first | omega | exact Nat.le_refl _⟩, ⟨by (with_reducible repeat (first | refine blk_drewN ?_ _ | refine blk_drew ?_ | refine blk_alloc ?_ _)); exact BK103.out⟩, ⟨by repeat (first | (with_reducible first | exact HB.out | apply below_alloc | apply pw_below_drewN | apply below_drew1 | refine below_set ?_ GE103.out) | exact HB.out)⟩⟩
          · replace c22 := Bool.eq_false_iff.mpr c22
            subst c22
            have H1 : (wire_May.j1 kj1 true a0_0 a0_1 a0_2 a0_3 a0_4 a0_5 a0_6 a0_7 a0_8 a0_9 a0_10 a0_11 l0_12 l0_13 l0_14) = some r := by rw [if_neg (show ¬ (false = true) by decide)] at H; exact H
            clear H
            have H := H1
            clear H1
            have H' := Aside0.mk H
            clear H
            have hcz37_0 : wc.cell? ⟨gb103, 0, none⟩ = some (.int .i64 a0_0) := (blk_cell BK103.out 0).trans rfl
            have hcz37_1 : wc.cell? ⟨gb103, 1, none⟩ = some (.int .i64 a0_1) := (blk_cell BK103.out 1).trans rfl
            have hcz37_2 : wc.cell? ⟨gb103, 2, none⟩ = some (.int .i64 a0_2) := (blk_cell BK103.out 2).trans rfl
            have hcz37_3 : wc.cell? ⟨gb103, 3, none⟩ = some (.int .i64 a0_3) := (blk_cell BK103.out 3).trans rfl
            have hcz37_4 : wc.cell? ⟨gb103, 4, none⟩ = some (.int .i64 a0_4) := (blk_cell BK103.out 4).trans rfl
            have hcz37_5 : wc.cell? ⟨gb103, 5, none⟩ = some (.int .i64 a0_5) := (blk_cell BK103.out 5).trans rfl
            have hcz37_6 : wc.cell? ⟨gb103, 6, none⟩ = some (.int .i64 a0_6) := (blk_cell BK103.out 6).trans rfl
            have hcz37_7 : wc.cell? ⟨gb103, 7, none⟩ = some (.int .i64 a0_7) := (blk_cell BK103.out 7).trans rfl
            have hcz37_8 : wc.cell? ⟨gb103, 8, none⟩ = some (.int .i64 a0_8) := (blk_cell BK103.out 8).trans rfl
            have hcz37_9 : wc.cell? ⟨gb103, 9, none⟩ = some (.bool a0_9) := (blk_cell BK103.out 9).trans rfl
            have hcz37_10 : wc.cell? ⟨gb103, 10, none⟩ = some (.int .i64 a0_10) := (blk_cell BK103.out 10).trans rfl
            have hcz37_11 : wc.cell? ⟨gb103, 11, none⟩ = some (.int .i64 a0_11) := (blk_cell BK103.out 11).trans rfl
            have hcz37_12 : wc.cell? ⟨gb103, 12, none⟩ = some (.slice A0_12 l0_12.length c0_12) := (blk_cell BK103.out 12).trans rfl
            have hcz37_13 : wc.cell? ⟨gb103, 13, none⟩ = some (.slice A0_13 l0_13.length c0_13) := (blk_cell BK103.out 13).trans rfl
            have hcz37_14 : wc.cell? ⟨gb103, 14, none⟩ = some (.slice A0_14 l0_14.length c0_14) := (blk_cell BK103.out 14).trans rfl
            have hfz37_0 := blk_frozen BK103.out 0
            have hfz37_1 := blk_frozen BK103.out 1
            have hfz37_2 := blk_frozen BK103.out 2
            have hfz37_3 := blk_frozen BK103.out 3
            have hfz37_4 := blk_frozen BK103.out 4
            have hfz37_5 := blk_frozen BK103.out 5
            have hfz37_6 := blk_frozen BK103.out 6
            have hfz37_7 := blk_frozen BK103.out 7
            have hfz37_8 := blk_frozen BK103.out 8
            have hfz37_9 := blk_frozen BK103.out 9
            have hfz37_10 := blk_frozen BK103.out 10
            have hfz37_11 := blk_frozen BK103.out 11
            have hfz37_12 := blk_frozen BK103.out 12
            have hfz37_13 := blk_frozen BK103.out 13
            have hfz37_14 := blk_frozen BK103.out 14
            go_wp2_with (first | ((with_reducible refine gate_callee (f := 43) rfl ?_); refine goesL_ (some 37) rfl rfl Try.func43 (by kernel_rfl) rfl #[.int .i64 a0_3, .int .i64 1099511627776] rfl (by (try simp only [List.map_toArray, List.map_cons, List.map_nil]); first | done | rfl | (simp only [List.length_drop, List.length_take]; rfl)) ?_; (with_reducible refine (wire_within.calls a0_3 1099511627776 false _ A21.out).mono ?_); rintro e w' ⟨rfl, ⟨nd, rfl⟩⟩; refine ⟨_, rfl, ?_⟩))
            go_meet
            case rel => exact ⟨_, (true), (by first | rfl | (simp; done) | (simp [*]; done)), H', ⟨by have := HJ1.out; first | omega | exact Nat.le_refl _⟩, ⟨by (with_reducible repeat (first | refine blk_drewN ?_ _ | refine blk_drew ?_ | refine blk_alloc ?_ _)); exact BK103.out⟩, ⟨by repeat (first | (with_reducible first | exact HB.out | apply below_alloc | apply pw_below_drewN | apply below_drew1 | refine below_set ?_ GE103.out) | exact HB.out)⟩⟩
        case rest =>
          clear HC20
          try clear c1
          try clear c2
          try clear p2
          try clear c3
          try clear c4
          try clear c4b0
          try clear c6
          try clear c6b0
          try clear c9
          try clear c11
          try clear c13
          try clear c19
          try clear c22
          try clear c24
          try clear c26
          try clear c28
          try clear c30
          try clear hcz15_0
          try clear hcz15_1
          try clear hcz15_10
          try clear hcz15_11
          try clear hcz15_12
          try clear hcz15_13
          try clear hcz15_14
          try clear hcz15_2
          try clear hcz15_3
          try clear hcz15_4
          try clear hcz15_5
          try clear hcz15_6
          try clear hcz15_7
          try clear hcz15_8
          try clear hcz15_9
          try clear hcz16_0
          try clear hcz16_1
          try clear hcz16_10
          try clear hcz16_11
          try clear hcz16_12
          try clear hcz16_13
          try clear hcz16_14
          try clear hcz16_2
          try clear hcz16_3
          try clear hcz16_4
          try clear hcz16_5
          try clear hcz16_6
          try clear hcz16_7
          try clear hcz16_8
          try clear hcz16_9
          try clear hcz17_0
          try clear hcz17_1
          try clear hcz17_10
          try clear hcz17_11
          try clear hcz17_12
          try clear hcz17_13
          try clear hcz17_14
          try clear hcz17_2
          try clear hcz17_3
          try clear hcz17_4
          try clear hcz17_5
          try clear hcz17_6
          try clear hcz17_7
          try clear hcz17_8
          try clear hcz17_9
          try clear hcz18_0
          try clear hcz18_1
          try clear hcz18_10
          try clear hcz18_11
          try clear hcz18_12
          try clear hcz18_13
          try clear hcz18_14
          try clear hcz18_2
          try clear hcz18_3
          try clear hcz18_4
          try clear hcz18_5
          try clear hcz18_6
          try clear hcz18_7
          try clear hcz18_8
          try clear hcz18_9
          try clear hcz32_0
          try clear hcz32_1
          try clear hcz32_10
          try clear hcz32_11
          try clear hcz32_12
          try clear hcz32_13
          try clear hcz32_14
          try clear hcz32_2
          try clear hcz32_3
          try clear hcz32_4
          try clear hcz32_5
          try clear hcz32_6
          try clear hcz32_7
          try clear hcz32_8
          try clear hcz32_9
          try clear hcz33_0
          try clear hcz33_1
          try clear hcz33_10
          try clear hcz33_11
          try clear hcz33_12
          try clear hcz33_13
          try clear hcz33_14
          try clear hcz33_2
          try clear hcz33_3
          try clear hcz33_4
          try clear hcz33_5
          try clear hcz33_6
          try clear hcz33_7
          try clear hcz33_8
          try clear hcz33_9
          try clear hcz34_0
          try clear hcz34_1
          try clear hcz34_10
          try clear hcz34_11
          try clear hcz34_12
          try clear hcz34_13
          try clear hcz34_14
          try clear hcz34_2
          try clear hcz34_3
          try clear hcz34_4
          try clear hcz34_5
          try clear hcz34_6
          try clear hcz34_7
          try clear hcz34_8
          try clear hcz34_9
          try clear hcz35_0
          try clear hcz35_1
          try clear hcz35_10
          try clear hcz35_11
          try clear hcz35_12
          try clear hcz35_13
          try clear hcz35_14
          try clear hcz35_2
          try clear hcz35_3
          try clear hcz35_4
          try clear hcz35_5
          try clear hcz35_6
          try clear hcz35_7
          try clear hcz35_8
          try clear hcz35_9
          try clear hcz36_0
          try clear hcz36_1
          try clear hcz36_10
          try clear hcz36_11
          try clear hcz36_12
          try clear hcz36_13
          try clear hcz36_14
          try clear hcz36_2
          try clear hcz36_3
          try clear hcz36_4
          try clear hcz36_5
          try clear hcz36_6
          try clear hcz36_7
          try clear hcz36_8
          try clear hcz36_9
          try clear hcz37_0
          try clear hcz37_1
          try clear hcz37_10
          try clear hcz37_11
          try clear hcz37_12
          try clear hcz37_13
          try clear hcz37_14
          try clear hcz37_2
          try clear hcz37_3
          try clear hcz37_4
          try clear hcz37_5
          try clear hcz37_6
          try clear hcz37_7
          try clear hcz37_8
          try clear hcz37_9
          try clear hcz5_0
          try clear hcz5_1
          try clear hcz5_10
          try clear hcz5_11
          try clear hcz5_12
          try clear hcz5_13
          try clear hcz5_14
          try clear hcz5_2
          try clear hcz5_3
          try clear hcz5_4
          try clear hcz5_5
          try clear hcz5_6
          try clear hcz5_7
          try clear hcz5_8
          try clear hcz5_9
          try clear hcz7_0
          try clear hcz7_1
          try clear hcz7_10
          try clear hcz7_11
          try clear hcz7_12
          try clear hcz7_13
          try clear hcz7_14
          try clear hcz7_2
          try clear hcz7_3
          try clear hcz7_4
          try clear hcz7_5
          try clear hcz7_6
          try clear hcz7_7
          try clear hcz7_8
          try clear hcz7_9
          try clear hfz15_0
          try clear hfz15_1
          try clear hfz15_10
          try clear hfz15_11
          try clear hfz15_12
          try clear hfz15_13
          try clear hfz15_14
          try clear hfz15_2
          try clear hfz15_3
          try clear hfz15_4
          try clear hfz15_5
          try clear hfz15_6
          try clear hfz15_7
          try clear hfz15_8
          try clear hfz15_9
          try clear hfz16_0
          try clear hfz16_1
          try clear hfz16_10
          try clear hfz16_11
          try clear hfz16_12
          try clear hfz16_13
          try clear hfz16_14
          try clear hfz16_2
          try clear hfz16_3
          try clear hfz16_4
          try clear hfz16_5
          try clear hfz16_6
          try clear hfz16_7
          try clear hfz16_8
          try clear hfz16_9
          try clear hfz17_0
          try clear hfz17_1
          try clear hfz17_10
          try clear hfz17_11
          try clear hfz17_12
          try clear hfz17_13
          try clear hfz17_14
          try clear hfz17_2
          try clear hfz17_3
          try clear hfz17_4
          try clear hfz17_5
          try clear hfz17_6
          try clear hfz17_7
          try clear hfz17_8
          try clear hfz17_9
          try clear hfz18_0
          try clear hfz18_1
          try clear hfz18_10
          try clear hfz18_11
          try clear hfz18_12
          try clear hfz18_13
          try clear hfz18_14
          try clear hfz18_2
          try clear hfz18_3
          try clear hfz18_4
          try clear hfz18_5
          try clear hfz18_6
          try clear hfz18_7
          try clear hfz18_8
          try clear hfz18_9
          try clear hfz32_0
          try clear hfz32_1
          try clear hfz32_10
          try clear hfz32_11
          try clear hfz32_12
          try clear hfz32_13
          try clear hfz32_14
          try clear hfz32_2
          try clear hfz32_3
          try clear hfz32_4
          try clear hfz32_5
          try clear hfz32_6
          try clear hfz32_7
          try clear hfz32_8
          try clear hfz32_9
          try clear hfz33_0
          try clear hfz33_1
          try clear hfz33_10
          try clear hfz33_11
          try clear hfz33_12
          try clear hfz33_13
          try clear hfz33_14
          try clear hfz33_2
          try clear hfz33_3
          try clear hfz33_4
          try clear hfz33_5
          try clear hfz33_6
          try clear hfz33_7
          try clear hfz33_8
          try clear hfz33_9
          try clear hfz34_0
          try clear hfz34_1
          try clear hfz34_10
          try clear hfz34_11
          try clear hfz34_12
          try clear hfz34_13
          try clear hfz34_14
          try clear hfz34_2
          try clear hfz34_3
          try clear hfz34_4
          try clear hfz34_5
          try clear hfz34_6
          try clear hfz34_7
          try clear hfz34_8
          try clear hfz34_9
          try clear hfz35_0
          try clear hfz35_1
          try clear hfz35_10
          try clear hfz35_11
          try clear hfz35_12
          try clear hfz35_13
          try clear hfz35_14
          try clear hfz35_2
          try clear hfz35_3
          try clear hfz35_4
          try clear hfz35_5
          try clear hfz35_6
          try clear hfz35_7
          try clear hfz35_8
          try clear hfz35_9
          try clear hfz36_0
          try clear hfz36_1
          try clear hfz36_10
          try clear hfz36_11
          try clear hfz36_12
          try clear hfz36_13
          try clear hfz36_14
          try clear hfz36_2
          try clear hfz36_3
          try clear hfz36_4
          try clear hfz36_5
          try clear hfz36_6
          try clear hfz36_7
          try clear hfz36_8
          try clear hfz36_9
          try clear hfz37_0
          try clear hfz37_1
          try clear hfz37_10
          try clear hfz37_11
          try clear hfz37_12
          try clear hfz37_13
          try clear hfz37_14
          try clear hfz37_2
          try clear hfz37_3
          try clear hfz37_4
          try clear hfz37_5
          try clear hfz37_6
          try clear hfz37_7
          try clear hfz37_8
          try clear hfz37_9
          try clear hfz5_0
          try clear hfz5_1
          try clear hfz5_10
          try clear hfz5_11
          try clear hfz5_12
          try clear hfz5_13
          try clear hfz5_14
          try clear hfz5_2
          try clear hfz5_3
          try clear hfz5_4
          try clear hfz5_5
          try clear hfz5_6
          try clear hfz5_7
          try clear hfz5_8
          try clear hfz5_9
          try clear hfz7_0
          try clear hfz7_1
          try clear hfz7_10
          try clear hfz7_11
          try clear hfz7_12
          try clear hfz7_13
          try clear hfz7_14
          try clear hfz7_2
          try clear hfz7_3
          try clear hfz7_4
          try clear hfz7_5
          try clear hfz7_6
          try clear hfz7_7
          try clear hfz7_8
          try clear hfz7_9
          try clear p2
          obtain ⟨kq, x70_19, rfl, HA, HJ19, BK103, HB⟩ := hcut
          cases kq with
          | zero => exact absurd HA.out (by simp [wire_May.j1])
          | succ kj19 =>
            have H := HA.out
            clear HA
            simp only [wire_May.j1] at H
            by_cases c38 : x70_19 = true
            · subst c38
              have H1 : (some false) = some r := by rw [if_pos rfl] at H; exact H
              clear H
              have H := H1
              clear H1
              obtain rfl := Option.some.inj H
              go_wp2
              go_ret
              exact ⟨by first | rfl | (simp [errW_none, errW_some] <;> rfl) | (simp [*, errW_none, errW_some] <;> rfl), by repeat (first | (with_reducible first | exact HB.out | apply below_alloc | apply pw_below_drewN | apply below_drew1 | refine below_set ?_ GE103.out) | exact HB.out)⟩
            · replace c38 := Bool.eq_false_iff.mpr c38
              subst c38
              have H1 : ((rec_Rises.f kj19 l0_12 64).bind fun t114 => (if t114 = true then ((rec_Rises.f kj19 l0_13 16).bind fun t115 => (if t115 = true then (some (decide ((l0_14.length : Int) ≤ 4096))) else (some false))) else (some false))) = some r := by rw [if_neg (show ¬ (false = true) by decide)] at H; exact H
              clear H
              have H := H1
              clear H1
              replace H := Option.bind_eq_some_iff.mp H
              obtain ⟨t114, A390, H⟩ := H
              replace H : (if t114 = true then ((rec_Rises.f kj19 l0_13 16).bind fun t115 => (if t115 = true then (some (decide ((l0_14.length : Int) ≤ 4096))) else (some false))) else (some false)) = some r := H
              have A39 := Aside0.mk A390
              clear A390
              by_cases c40 : t114 = true
              · subst c40
                have H1 : ((rec_Rises.f kj19 l0_13 16).bind fun t115 => (if t115 = true then (some (decide ((l0_14.length : Int) ≤ 4096))) else (some false))) = some r := by rw [if_pos rfl] at H; exact H
                clear H
                have H := H1
                clear H1
                replace H := Option.bind_eq_some_iff.mp H
                obtain ⟨t115, A410, H⟩ := H
                replace H : (if t115 = true then (some (decide ((l0_14.length : Int) ≤ 4096))) else (some false)) = some r := H
                have A41 := Aside0.mk A410
                clear A410
                by_cases c42 : t115 = true
                · subst c42
                  have H1 : (some (decide ((l0_14.length : Int) ≤ 4096))) = some r := by rw [if_pos rfl] at H; exact H
                  clear H
                  have H := H1
                  clear H1
                  obtain rfl := Option.some.inj H
                  have hcz43_0 : wc.cell? ⟨gb103, 0, none⟩ = some (.int .i64 a0_0) := (blk_cell BK103.out 0).trans rfl
                  have hcz43_1 : wc.cell? ⟨gb103, 1, none⟩ = some (.int .i64 a0_1) := (blk_cell BK103.out 1).trans rfl
                  have hcz43_2 : wc.cell? ⟨gb103, 2, none⟩ = some (.int .i64 a0_2) := (blk_cell BK103.out 2).trans rfl
                  have hcz43_3 : wc.cell? ⟨gb103, 3, none⟩ = some (.int .i64 a0_3) := (blk_cell BK103.out 3).trans rfl
                  have hcz43_4 : wc.cell? ⟨gb103, 4, none⟩ = some (.int .i64 a0_4) := (blk_cell BK103.out 4).trans rfl
                  have hcz43_5 : wc.cell? ⟨gb103, 5, none⟩ = some (.int .i64 a0_5) := (blk_cell BK103.out 5).trans rfl
                  have hcz43_6 : wc.cell? ⟨gb103, 6, none⟩ = some (.int .i64 a0_6) := (blk_cell BK103.out 6).trans rfl
                  have hcz43_7 : wc.cell? ⟨gb103, 7, none⟩ = some (.int .i64 a0_7) := (blk_cell BK103.out 7).trans rfl
                  have hcz43_8 : wc.cell? ⟨gb103, 8, none⟩ = some (.int .i64 a0_8) := (blk_cell BK103.out 8).trans rfl
                  have hcz43_9 : wc.cell? ⟨gb103, 9, none⟩ = some (.bool a0_9) := (blk_cell BK103.out 9).trans rfl
                  have hcz43_10 : wc.cell? ⟨gb103, 10, none⟩ = some (.int .i64 a0_10) := (blk_cell BK103.out 10).trans rfl
                  have hcz43_11 : wc.cell? ⟨gb103, 11, none⟩ = some (.int .i64 a0_11) := (blk_cell BK103.out 11).trans rfl
                  have hcz43_12 : wc.cell? ⟨gb103, 12, none⟩ = some (.slice A0_12 l0_12.length c0_12) := (blk_cell BK103.out 12).trans rfl
                  have hcz43_13 : wc.cell? ⟨gb103, 13, none⟩ = some (.slice A0_13 l0_13.length c0_13) := (blk_cell BK103.out 13).trans rfl
                  have hcz43_14 : wc.cell? ⟨gb103, 14, none⟩ = some (.slice A0_14 l0_14.length c0_14) := (blk_cell BK103.out 14).trans rfl
                  have hfz43_0 := blk_frozen BK103.out 0
                  have hfz43_1 := blk_frozen BK103.out 1
                  have hfz43_2 := blk_frozen BK103.out 2
                  have hfz43_3 := blk_frozen BK103.out 3
                  have hfz43_4 := blk_frozen BK103.out 4
                  have hfz43_5 := blk_frozen BK103.out 5
                  have hfz43_6 := blk_frozen BK103.out 6
                  have hfz43_7 := blk_frozen BK103.out 7
                  have hfz43_8 := blk_frozen BK103.out 8
                  have hfz43_9 := blk_frozen BK103.out 9
                  have hfz43_10 := blk_frozen BK103.out 10
                  have hfz43_11 := blk_frozen BK103.out 11
                  have hfz43_12 := blk_frozen BK103.out 12
                  have hfz43_13 := blk_frozen BK103.out 13
                  have hfz43_14 := blk_frozen BK103.out 14
                  go_wp2_with (first | ((with_reducible refine gate_callee (f := 41) rfl ?_); refine goesL_ (some 73) rfl rfl Try.func41 (by kernel_rfl) rfl #[.slice A0_12 l0_12.length c0_12, .int .i64 64] rfl (by (try simp only [List.map_toArray, List.map_cons, List.map_nil]); first | done | rfl | (simp only [List.length_drop, List.length_take]; rfl)) ?_; (with_reducible refine (rec_Rises.calls kj19 _ _ l0_12 64 true _ ?side1 ?side2 A39.out).mono ?_); (case side1 => repeat (first | exact (Kd.C_below HR0_12.out HB.out) | (with_reducible refine Kd.C_alloc ?_ _) | (with_reducible refine Kd.C_drewN ?_ _) | (with_reducible refine Kd.C_drew ?_))); (case side2 => exact HC0_12.out); rintro e w' ⟨rfl, ⟨nd, rfl⟩⟩; refine ⟨_, rfl, ?_⟩) | (go_at_call 41; (with_reducible refine (rec_Rises.calls kj19 _ _ l0_13 16 true _ ?side1 ?side2 A41.out).mono ?_); (case side1 => repeat (first | exact (Kd.C_below HR0_13.out (by repeat (first | (with_reducible first | exact HB.out | apply below_alloc | apply pw_below_drewN | apply below_drew1 | refine below_set ?_ GE103.out) | exact HB.out))) | (with_reducible refine Kd.C_alloc ?_ _) | (with_reducible refine Kd.C_drewN ?_ _) | (with_reducible refine Kd.C_drew ?_))); (case side2 => exact HC0_13.out); rintro e w' ⟨rfl, ⟨nd, rfl⟩⟩))
                  go_ret
                  exact ⟨by first | rfl | (simp [errW_none, errW_some] <;> rfl) | (simp [*, errW_none, errW_some] <;> rfl), by repeat (first | (with_reducible first | exact HB.out | apply below_alloc | apply pw_below_drewN | apply below_drew1 | refine below_set ?_ GE103.out) | exact HB.out)⟩
                · replace c42 := Bool.eq_false_iff.mpr c42
                  subst c42
                  have H1 : (some false) = some r := by rw [if_neg (show ¬ (false = true) by decide)] at H; exact H
                  clear H
                  have H := H1
                  clear H1
                  obtain rfl := Option.some.inj H
                  have hcz44_0 : wc.cell? ⟨gb103, 0, none⟩ = some (.int .i64 a0_0) := (blk_cell BK103.out 0).trans rfl
                  have hcz44_1 : wc.cell? ⟨gb103, 1, none⟩ = some (.int .i64 a0_1) := (blk_cell BK103.out 1).trans rfl
                  have hcz44_2 : wc.cell? ⟨gb103, 2, none⟩ = some (.int .i64 a0_2) := (blk_cell BK103.out 2).trans rfl
                  have hcz44_3 : wc.cell? ⟨gb103, 3, none⟩ = some (.int .i64 a0_3) := (blk_cell BK103.out 3).trans rfl
                  have hcz44_4 : wc.cell? ⟨gb103, 4, none⟩ = some (.int .i64 a0_4) := (blk_cell BK103.out 4).trans rfl
                  have hcz44_5 : wc.cell? ⟨gb103, 5, none⟩ = some (.int .i64 a0_5) := (blk_cell BK103.out 5).trans rfl
                  have hcz44_6 : wc.cell? ⟨gb103, 6, none⟩ = some (.int .i64 a0_6) := (blk_cell BK103.out 6).trans rfl
                  have hcz44_7 : wc.cell? ⟨gb103, 7, none⟩ = some (.int .i64 a0_7) := (blk_cell BK103.out 7).trans rfl
                  have hcz44_8 : wc.cell? ⟨gb103, 8, none⟩ = some (.int .i64 a0_8) := (blk_cell BK103.out 8).trans rfl
                  have hcz44_9 : wc.cell? ⟨gb103, 9, none⟩ = some (.bool a0_9) := (blk_cell BK103.out 9).trans rfl
                  have hcz44_10 : wc.cell? ⟨gb103, 10, none⟩ = some (.int .i64 a0_10) := (blk_cell BK103.out 10).trans rfl
                  have hcz44_11 : wc.cell? ⟨gb103, 11, none⟩ = some (.int .i64 a0_11) := (blk_cell BK103.out 11).trans rfl
                  have hcz44_12 : wc.cell? ⟨gb103, 12, none⟩ = some (.slice A0_12 l0_12.length c0_12) := (blk_cell BK103.out 12).trans rfl
                  have hcz44_13 : wc.cell? ⟨gb103, 13, none⟩ = some (.slice A0_13 l0_13.length c0_13) := (blk_cell BK103.out 13).trans rfl
                  have hcz44_14 : wc.cell? ⟨gb103, 14, none⟩ = some (.slice A0_14 l0_14.length c0_14) := (blk_cell BK103.out 14).trans rfl
                  have hfz44_0 := blk_frozen BK103.out 0
                  have hfz44_1 := blk_frozen BK103.out 1
                  have hfz44_2 := blk_frozen BK103.out 2
                  have hfz44_3 := blk_frozen BK103.out 3
                  have hfz44_4 := blk_frozen BK103.out 4
                  have hfz44_5 := blk_frozen BK103.out 5
                  have hfz44_6 := blk_frozen BK103.out 6
                  have hfz44_7 := blk_frozen BK103.out 7
                  have hfz44_8 := blk_frozen BK103.out 8
                  have hfz44_9 := blk_frozen BK103.out 9
                  have hfz44_10 := blk_frozen BK103.out 10
                  have hfz44_11 := blk_frozen BK103.out 11
                  have hfz44_12 := blk_frozen BK103.out 12
                  have hfz44_13 := blk_frozen BK103.out 13
                  have hfz44_14 := blk_frozen BK103.out 14
                  go_wp2_with (first | ((with_reducible refine gate_callee (f := 41) rfl ?_); refine goesL_ (some 73) rfl rfl Try.func41 (by kernel_rfl) rfl #[.slice A0_12 l0_12.length c0_12, .int .i64 64] rfl (by (try simp only [List.map_toArray, List.map_cons, List.map_nil]); first | done | rfl | (simp only [List.length_drop, List.length_take]; rfl)) ?_; (with_reducible refine (rec_Rises.calls kj19 _ _ l0_12 64 true _ ?side1 ?side2 A39.out).mono ?_); (case side1 => repeat (first | exact (Kd.C_below HR0_12.out HB.out) | (with_reducible refine Kd.C_alloc ?_ _) | (with_reducible refine Kd.C_drewN ?_ _) | (with_reducible refine Kd.C_drew ?_))); (case side2 => exact HC0_12.out); rintro e w' ⟨rfl, ⟨nd, rfl⟩⟩; refine ⟨_, rfl, ?_⟩) | (go_at_call 41; (with_reducible refine (rec_Rises.calls kj19 _ _ l0_13 16 false _ ?side1 ?side2 A41.out).mono ?_); (case side1 => repeat (first | exact (Kd.C_below HR0_13.out (by repeat (first | (with_reducible first | exact HB.out | apply below_alloc | apply pw_below_drewN | apply below_drew1 | refine below_set ?_ GE103.out) | exact HB.out))) | (with_reducible refine Kd.C_alloc ?_ _) | (with_reducible refine Kd.C_drewN ?_ _) | (with_reducible refine Kd.C_drew ?_))); (case side2 => exact HC0_13.out); rintro e w' ⟨rfl, ⟨nd, rfl⟩⟩))
                  go_ret
                  exact ⟨by first | rfl | (simp [errW_none, errW_some] <;> rfl) | (simp [*, errW_none, errW_some] <;> rfl), by repeat (first | (with_reducible first | exact HB.out | apply below_alloc | apply pw_below_drewN | apply below_drew1 | refine below_set ?_ GE103.out) | exact HB.out)⟩
              · replace c40 := Bool.eq_false_iff.mpr c40
                subst c40
                have H1 : (some false) = some r := by rw [if_neg (show ¬ (false = true) by decide)] at H; exact H
                clear H
                have H := H1
                clear H1
                obtain rfl := Option.some.inj H
                have hcz45_0 : wc.cell? ⟨gb103, 0, none⟩ = some (.int .i64 a0_0) := (blk_cell BK103.out 0).trans rfl
                have hcz45_1 : wc.cell? ⟨gb103, 1, none⟩ = some (.int .i64 a0_1) := (blk_cell BK103.out 1).trans rfl
                have hcz45_2 : wc.cell? ⟨gb103, 2, none⟩ = some (.int .i64 a0_2) := (blk_cell BK103.out 2).trans rfl
                have hcz45_3 : wc.cell? ⟨gb103, 3, none⟩ = some (.int .i64 a0_3) := (blk_cell BK103.out 3).trans rfl
                have hcz45_4 : wc.cell? ⟨gb103, 4, none⟩ = some (.int .i64 a0_4) := (blk_cell BK103.out 4).trans rfl
                have hcz45_5 : wc.cell? ⟨gb103, 5, none⟩ = some (.int .i64 a0_5) := (blk_cell BK103.out 5).trans rfl
                have hcz45_6 : wc.cell? ⟨gb103, 6, none⟩ = some (.int .i64 a0_6) := (blk_cell BK103.out 6).trans rfl
                have hcz45_7 : wc.cell? ⟨gb103, 7, none⟩ = some (.int .i64 a0_7) := (blk_cell BK103.out 7).trans rfl
                have hcz45_8 : wc.cell? ⟨gb103, 8, none⟩ = some (.int .i64 a0_8) := (blk_cell BK103.out 8).trans rfl
                have hcz45_9 : wc.cell? ⟨gb103, 9, none⟩ = some (.bool a0_9) := (blk_cell BK103.out 9).trans rfl
                have hcz45_10 : wc.cell? ⟨gb103, 10, none⟩ = some (.int .i64 a0_10) := (blk_cell BK103.out 10).trans rfl
                have hcz45_11 : wc.cell? ⟨gb103, 11, none⟩ = some (.int .i64 a0_11) := (blk_cell BK103.out 11).trans rfl
                have hcz45_12 : wc.cell? ⟨gb103, 12, none⟩ = some (.slice A0_12 l0_12.length c0_12) := (blk_cell BK103.out 12).trans rfl
                have hcz45_13 : wc.cell? ⟨gb103, 13, none⟩ = some (.slice A0_13 l0_13.length c0_13) := (blk_cell BK103.out 13).trans rfl
                have hcz45_14 : wc.cell? ⟨gb103, 14, none⟩ = some (.slice A0_14 l0_14.length c0_14) := (blk_cell BK103.out 14).trans rfl
                have hfz45_0 := blk_frozen BK103.out 0
                have hfz45_1 := blk_frozen BK103.out 1
                have hfz45_2 := blk_frozen BK103.out 2
                have hfz45_3 := blk_frozen BK103.out 3
                have hfz45_4 := blk_frozen BK103.out 4
                have hfz45_5 := blk_frozen BK103.out 5
                have hfz45_6 := blk_frozen BK103.out 6
                have hfz45_7 := blk_frozen BK103.out 7
                have hfz45_8 := blk_frozen BK103.out 8
                have hfz45_9 := blk_frozen BK103.out 9
                have hfz45_10 := blk_frozen BK103.out 10
                have hfz45_11 := blk_frozen BK103.out 11
                have hfz45_12 := blk_frozen BK103.out 12
                have hfz45_13 := blk_frozen BK103.out 13
                have hfz45_14 := blk_frozen BK103.out 14
                go_wp2_with (first | ((with_reducible refine gate_callee (f := 41) rfl ?_); refine goesL_ (some 73) rfl rfl Try.func41 (by kernel_rfl) rfl #[.slice A0_12 l0_12.length c0_12, .int .i64 64] rfl (by (try simp only [List.map_toArray, List.map_cons, List.map_nil]); first | done | rfl | (simp only [List.length_drop, List.length_take]; rfl)) ?_; (with_reducible refine (rec_Rises.calls kj19 _ _ l0_12 64 false _ ?side1 ?side2 A39.out).mono ?_); (case side1 => repeat (first | exact (Kd.C_below HR0_12.out HB.out) | (with_reducible refine Kd.C_alloc ?_ _) | (with_reducible refine Kd.C_drewN ?_ _) | (with_reducible refine Kd.C_drew ?_))); (case side2 => exact HC0_12.out); rintro e w' ⟨rfl, ⟨nd, rfl⟩⟩; refine ⟨_, rfl, ?_⟩))
                go_ret
                exact ⟨by first | rfl | (simp [errW_none, errW_some] <;> rfl) | (simp [*, errW_none, errW_some] <;> rfl), by repeat (first | (with_reducible first | exact HB.out | apply below_alloc | apply pw_below_drewN | apply below_drew1 | refine below_set ?_ GE103.out) | exact HB.out)⟩

end Go.Proofs.Ytleljfmhefobeaa.GK
