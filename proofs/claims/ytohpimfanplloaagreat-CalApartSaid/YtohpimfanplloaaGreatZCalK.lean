/- voklaw17.first: a fixed round through the calendar; it answers true. -/
import Derived.Test.YtohpimfanplloaaGreatZCalJ
import Derived.Test.YtohpimfanplloaaGreatZGIx5
import Derived.Test.YtohpimfanplloaaGreatZV
import Derived.WalkKit
import Derived.WalkSpells
import Derived.Lib.Hide
import Derived.Deep.RegionHeld3
import Derived.Deep.RegionWith
import Derived.Deep.DeepCutAuto
set_option linter.unusedVariables false
set_option linter.unusedSimpArgs false
namespace Go.Proofs.YtohpimfanplloaaGreat.CalK
open Go.RowKit Go.Proofs.YtohpimfanplloaaGreatW.PrintWords Go.Proofs.YtohpimfanplloaaGreatW.PrintLast Go.Proofs.YtohpimfanplloaaGreatW.PrintMore Go.Proofs.YtohpimfanplloaaGreat.PureI1 Go.Proofs.YtohpimfanplloaaGreat.PureI2 Go.Proofs.YtohpimfanplloaaGreat.IvA Go.Proofs.YtohpimfanplloaaGreat.IvC Go.Proofs.YtohpimfanplloaaGreat.IvG Go.Proofs.YtohpimfanplloaaGreat.CalB Go.Proofs.YtohpimfanplloaaGreat.CalC Go.Proofs.YtohpimfanplloaaGreat.CalD Go.Proofs.YtohpimfanplloaaGreat.CalF Go.Proofs.YtohpimfanplloaaGreat.CalG Go.Proofs.YtohpimfanplloaaGreat.CalH Go.Proofs.YtohpimfanplloaaGreat.CalI Go.Proofs.YtohpimfanplloaaGreat.CalJ Go.Proofs.YtohpimfanplloaaGreat.GI
def s0 : Us := [some ([],[]), some ([],[])]
def s1 : Us := [some ([],[((5,9),17)]), some ([],[((5,9),17)])]
def s3 : Us := [some ([((5,9),17)],[]), some ([((5,9),17)],[])]
theorem e0 : newAll 1 0 2 = s0 := by rfl
theorem sort01 : sortI [0, 1] = [0, 1] := by unfold sortI; exact List.mergeSort_of_pairwise (by simp)
theorem sort1 (a : Int) : sortI [a] = [a] := by unfold sortI; exact List.mergeSort_singleton _
theorem norm1 (a b : Int) (h : a < b) : norm [(a, b)] = [(a, b)] := by
  have hi : inc [(a, b)] = [(a, b)] := by simp [inc, h]
  unfold norm; rw [hi, List.mergeSort_singleton]; rfl
theorem ck0 : check s0 [0, 1] [(5, 9)] 0 = none := by unfold check; rw [sort01, norm1 _ _ (by decide)]; decide +kernel
theorem ck1 : check s1 [1] [(8, 12)] 0 = some (((5,9),17),1) := by unfold check; rw [sort1, norm1 _ _ (by decide)]; decide +kernel
theorem ck3 : check s3 [0] [(8, 9)] 17 = none := by unfold check; rw [sort1, norm1 _ _ (by decide)]; decide +kernel
theorem m0 : mayRes s0 17 [0, 1] [(5, 9)] 0 = true := by unfold mayRes; rw [ck0]; decide +kernel
theorem m1 : mayRes s1 33 [1] [(8, 12)] 0 = false := by unfold mayRes; rw [ck1]; decide +kernel
theorem a1 : add [] [(5, 9)] 17 = [((5, 9), 17)] := by
  have h1 : mayAdd [] [(5, 9)] 17 = true := by unfold mayAdd; rw [norm1 _ _ (by decide)]; decide +kernel
  unfold add; rw [if_pos h1]; unfold addL; rw [norm1 _ _ (by decide)]; exact List.mergeSort_singleton _
theorem r0 : reserve s0 17 [0, 1] [(5, 9)] 0 = s1 := by unfold reserve; rw [m0]; simp [resAll, resOne, s0, a1, s1]
theorem r1 : reserve s1 33 [1] [(8, 12)] 0 = s1 := by unfold reserve; rw [m1]; simp
theorem r3 : PureI2.settle s1 17 = s3 := by
  have hf : fresh ([], [((5, 9), 17)]) 17 = [(5, 9)] := by
    have ho : ofo [((5, 9), 17)] 17 = [(5, 9)] := by decide +kernel
    have hn : (clash [] (norm [(5, 9)]) 0).isNone = true := by rw [norm1 _ _ (by decide)]; rfl
    show List.filter (fun x => (clash [] (norm [x]) 0).isNone) (ofo [((5, 9), 17)] 17) = _
    rw [ho, List.filter_cons, if_pos hn]; rfl
  simp [PureI2.settle, s1, s3, settleP, hf, remove, a1]
theorem b3 : ofU s3 0 = some ([((5,9),17)],[]) := by decide +kernel
theorem b4 : cut [((5,9),17)] 0 100 = [(5, 9)] := by decide +kernel
theorem small0 : Small s0 2 := fun p hp => by simp [s0] at hp; subst hp; simp
theorem small1 : Small s1 2 := fun p hp => by simp [s1] at hp; subst hp; simp
theorem small3 : Small s3 2 := fun p hp => by simp [s3] at hp; subst hp; simp
/-- A calendar that is new since w0. -/
def CF (w0 : World) (us : Us) (c ub : Nat) (cells : List Value) (W : World) : Prop := ∃ own, CalIn W own c ub cells us ∧ (∀ q, own q ≠ 0 → w0.heap.size ≤ q) ∧ Below w0.heap.size w0 W
theorem CF.below {w0 W W2 : World} {us : Us} {c ub : Nat} {cells : List Value} (h : CF w0 us c ub cells W) (hb : Below W.heap.size W W2) : CF w0 us c ub cells W2 := by
  obtain ⟨own, h1, h2, h3⟩ := h
  exact ⟨own, h1.below hb, h2, h3.trans (hb.mono h3.size)⟩
theorem cf_left {w0 W w' : World} {own : Nat → Nat} {us : Us} {c ub : Nat} {cells : List Value} (h2 : ∀ q, own q ≠ 0 → w0.heap.size ≤ q) (h3 : Below w0.heap.size w0 W) (h : LeftC W own c ub cells us w') : CF w0 us c ub cells w' := by
  obtain ⟨o, k1, k2, k3⟩ := h
  refine ⟨o, k1, fun q hq => ?_, k3.elder h3 (fun k hk => h2 k (by omega))⟩
  by_cases hlt : q < W.heap.size
  · rw [k2 q hlt] at hq; exact h2 q hq
  · have := h3.size; omega
theorem C_int1 {w : World} {g : Nat} {x : Int} (h0 : w.cell? ⟨g, 0, none⟩ = some (.int .i64 x)) : Kd.C (Kd.int .i64) w (some ⟨g, 0, none⟩) [x].length [x] :=
  ⟨rfl, by simp, fun _ => ⟨⟨g, 0, none⟩, rfl, fun j p hj => by
    cases j with
    | succ j => simp at hj
    | zero =>
      have hj' : x = p := by simpa using hj
      subst hj'
      refine ⟨[.int .i64 x], rfl, rfl, fun i u hu => ?_⟩
      rw [add_plain]
      match i, hu with
      | 0, hu => simp at hu; subst hu; exact h0
      | i + 1, hu => simp at hu⟩⟩
theorem C_int2 {w : World} {g : Nat} {x y : Int} (h0 : w.cell? ⟨g, 0, none⟩ = some (.int .i64 x)) (h1 : w.cell? ⟨g, 1, none⟩ = some (.int .i64 y)) : Kd.C (Kd.int .i64) w (some ⟨g, 0, none⟩) [x, y].length [x, y] :=
  ⟨rfl, by simp, fun _ => ⟨⟨g, 0, none⟩, rfl, fun j p hj => by
    match j, hj with
    | 0, hj =>
      have hj' : x = p := by simpa using hj
      subst hj'
      refine ⟨[.int .i64 x], rfl, rfl, fun i u hu => ?_⟩
      rw [add_plain]
      match i, hu with
      | 0, hu => simp at hu; subst hu; exact h0
      | i + 1, hu => simp at hu
    | 1, hj =>
      have hj' : y = p := by simpa using hj
      subst hj'
      refine ⟨[.int .i64 y], rfl, rfl, fun i u hu => ?_⟩
      rw [add_plain]
      match i, hu with
      | 0, hu => simp at hu; subst hu; exact h1
      | i + 1, hu => simp at hu
    | j + 2, hj => simp at hj⟩⟩
/-- Reserve at rows that were built just now. -/
theorem res_lit (w0 w2 W : World) (us : Us) (c ub : Nat) (cells : List Value) (tx : Int) (users : List Int) (l : List Sp) (g1 g2 : Nat) (hCF : CF w0 us c ub cells w2) (hS : Small us 2) (hb : Below w2.heap.size w2 W)
    (hul : users.length ≤ 2) (hll : l.length ≤ 1) (hg1 : w2.heap.size ≤ g1) (hl1 : g1 < W.heap.size) (hg2 : w2.heap.size ≤ g2) (hl2 : g2 < W.heap.size)
    (h1 : ∀ W', W'.heap[g1]? = W.heap[g1]? → Kd.C (Kd.int .i64) W' (some ⟨g1, 0, none⟩) users.length users) (h2 : ∀ W', W'.heap[g2]? = W.heap[g2]? → Kd.C kSp W' (some ⟨g2, 0, none⟩) l.length l) :
    Calls Tryz.prog 15 #[.pointer (some ⟨c, 0, none⟩), .int .i64 tx, .slice (some ⟨g1, 0, none⟩) users.length users.length, .slice (some ⟨g2, 0, none⟩) l.length l.length, .int .i64 0] W (fun e w' => e = .returned (.bool (mayRes us tx users l 0)) ∧ CF w0 (reserve us tx users l 0) c ub cells w') := by
  obtain ⟨own, k1, k2, k3⟩ := hCF
  have z : ∀ g, w2.heap.size ≤ g → ¬ 2 ≤ own g := fun g hg hk => by have := k1.dom g (by omega); omega
  have hmul : users.length * l.length ≤ 2 * 1 := Nat.mul_le_mul hul hll
  refine (reserve_any own c ub cells us 2 tx (some ⟨g1, 0, none⟩) users.length users (some ⟨g2, 0, none⟩) l.length l 0 W (k1.below hb) hS (by omega) (fun w' hk => h1 w' (hk.2 g1 hl1 (z g1 hg1))) (Nat.le_refl _) (by omega) (fun w' hk => h2 w' (hk.2 g2 hl2 (z g2 hg2))) (Nat.le_refl _) (by omega)).mono ?_
  rintro e w' ⟨rfl, hL⟩
  exact ⟨rfl, cf_left k2 (k3.trans (hb.mono k3.size)) hL⟩
theorem settle_cf (w0 W : World) (us : Us) (c ub : Nat) (cells : List Value) (tx : Int) (hCF : CF w0 us c ub cells W) (hS : Small us 2) :
    Calls Tryz.prog 17 #[.pointer (some ⟨c, 0, none⟩), .int .i64 tx] W (fun e w' => e = .returned (.tuple #[]) ∧ CF w0 (PureI2.settle us tx) c ub cells w') := by
  obtain ⟨own, k1, k2, k3⟩ := hCF
  refine (settle_any own c ub cells us 2 tx W k1 hS (by omega)).mono ?_
  rintro e w' ⟨rfl, hL⟩
  exact ⟨rfl, cf_left k2 k3 hL⟩
theorem C_to42 {w : World} {A : Option Addr} {n : Nat} {l : List Sp} (h : Kd.C kSp w A n l) : Kd.C k42 w A n (l.map fun p => (⟨p.1, p.2⟩ : S42)) := by
  obtain ⟨h1, h2, h3⟩ := h
  refine ⟨by simpa using h1, h2, fun hp => ?_⟩
  obtain ⟨ad, e, f⟩ := h3 hp
  refine ⟨ad, e, fun j p hj => ?_⟩
  rw [List.getElem?_map] at hj
  obtain ⟨q, hq, rfl⟩ := Option.map_eq_some_iff.1 hj
  exact f j q hq
theorem blk_eq {w W : World} {g : Nat} {o : Obj} (h : W.heap[g]? = w.heap[g]?) (hb : w.heap[g]? = some o) : W.heap[g]? = some o := h.trans hb
theorem busy_cf (w0 W : World) (us : Us) (c ub : Nat) (cells : List Value) (u lo hi : Int) (hCF : CF w0 us c ub cells W) (hS : Small us 2) :
    Calls Tryz.prog 13 #[.pointer (some ⟨c, 0, none⟩), .int .i64 u, .int .i64 lo, .int .i64 hi] W (fun e w' => BusyIs W us u lo hi e w' ∧ CF w0 us c ub cells w') := by
  have h := hCF
  obtain ⟨own, k1, k2, k3⟩ := h
  exact (busy_any own c ub cells us 2 u lo hi W k1 hS (by omega)).mono fun e w' hB => ⟨hB, by obtain ⟨v, _, _, hb⟩ := hB; exact hCF.below hb⟩
theorem check_cf (w0 W : World) (us : Us) (c ub : Nat) (cells : List Value) (A A2 : Option Addr) (users : List Int) (l : List Sp) (but : Int) (hCF : CF w0 us c ub cells W) (hS : Small us 2) (hul : users.length ≤ 2) (hll : l.length ≤ 1)
    (h1 : Kd.C (Kd.int .i64) W A users.length users) (h2 : Kd.C kSp W A2 l.length l) :
    Calls Tryz.prog 18 #[.pointer (some ⟨c, 0, none⟩), .slice A users.length users.length, .slice A2 l.length l.length, .int .i64 but] W (fun e w' => e = .returned (resC (check us users l but)) ∧ Below W.heap.size W w') := by
  obtain ⟨own, k1, k2, k3⟩ := hCF
  exact check_any own c ub cells us 2 A users.length users A2 l.length l but W k1 hS (by omega) h1 (Nat.le_refl _) (by omega) h2 (Nat.le_refl _) (by omega)
theorem spans_f : vokref_Spans.f 60 [⟨5, 9⟩] [⟨5, 9⟩] = some true := by kernel_rfl
set_option maxHeartbeats 2000000 in
set_option maxRecDepth 100000 in
theorem first_any (w : World) : Calls Tryz.prog 8 #[] w (fun e w' => e = .returned (.bool true) ∧ Below w.heap.size w w') := by
  have hu39 := Tryz.underlying39
  have hu33 := Tryz.underlying33
  have hu42 := Tryz.underlying42
  go_enter Tryz.func8, Tryz.ntmps8
  go_wp2_with fail
  refine (one_any _).mono ?_
  rintro e w1 ⟨A, c, rfl, hc, hr, hb⟩
  have HN := Lib.hid (new_yes 100 1 2 A c oneZ 1767225600 1772409600 0 w1 hr hc (by decide) (by decide) one_may (by decide) (by decide))
  have HB := Lib.hid hb
  clear hr hb
  go_wp2_with fail
  refine HN.out.mono ?_
  rintro e w2 ⟨own, cb, ub, cells, rfl, hC, hown, hb2⟩
  have HCF : Hid (CF w s0 cb ub cells w2) := Lib.hid ⟨own, hC, fun q hq => Nat.le_trans HB.out.size (hown q hq), HB.out.trans (hb2.mono HB.out.size)⟩
  clear HN HB hC hown hb2
  go_wp2_with fail
  refine (res_lit w w2 _ s0 cb ub cells 17 [0, 1] [(5, 9)] w2.heap.size (w2.heap.size + 1) HCF.out small0 (below_alloc (below_alloc (Below.refl _ _) _) _) (by simp) (by simp) (Nat.le_refl _) (by simp; omega) (by omega) (by simp)
    (fun W' he => C_int2 (blk_cell (blk_eq he (blk_alloc (newAt w2 _ _ rfl) _)) 0) (blk_cell (blk_eq he (blk_alloc (newAt w2 _ _ rfl) _)) 1)) (fun W' he => C_one (blk_cell (blk_eq he (new2 w2 _ _)) 0) (blk_cell (blk_eq he (new2 w2 _ _)) 1))).mono ?_
  rintro e w3 ⟨he, hCF⟩
  rw [m0] at he
  rw [r0] at hCF
  subst he
  have HCF3 := Lib.hid hCF
  clear hCF HCF
  go_wp2_with fail
  refine (res_lit w w3 _ s1 cb ub cells 33 [1] [(8, 12)] w3.heap.size (w3.heap.size + 1) HCF3.out small1 (below_alloc (below_alloc (Below.refl _ _) _) _) (by simp) (by simp) (Nat.le_refl _) (by simp; omega) (by omega) (by simp)
    (fun W' he => C_int1 (blk_cell (blk_eq he (blk_alloc (newAt w3 _ _ rfl) _)) 0)) (fun W' he => C_one (blk_cell (blk_eq he (new2 w3 _ _)) 0) (blk_cell (blk_eq he (new2 w3 _ _)) 1))).mono ?_
  rintro e w4 ⟨he, hCF⟩
  rw [m1] at he
  rw [r1] at hCF
  subst he
  have HCF4 := Lib.hid hCF
  clear hCF HCF3
  go_wp2_with fail
  refine (settle_cf w w4 s1 cb ub cells 17 HCF4.out small1).mono ?_
  rintro e w5 ⟨rfl, hCF⟩
  rw [r3] at hCF
  have HCF5 := Lib.hid hCF
  clear hCF HCF4
  go_wp2_with fail
  refine (busy_cf w w5 s3 cb ub cells 0 0 100 HCF5.out small3).mono ?_
  rintro e w6 ⟨⟨v, he, hrow, hb6⟩, hCF⟩
  rw [b3] at he hrow
  simp only [b4] at hrow
  obtain ⟨A6, c6, rfl, hc6, hr6⟩ := row_readsS hrow (by simp)
  subst he
  have HCF6 := Lib.hid hCF
  have HR6 := Lib.hid (C_to42 hr6)
  clear hCF HCF5 hrow hb6 hr6
  go_wp2_with fail
  refine (check_cf w _ s3 cb ub cells (some ⟨w6.heap.size, 0, none⟩) (some ⟨w6.heap.size + 1, 0, none⟩) [0] [(8, 9)] 17 (HCF6.out.below (below_alloc (below_alloc (Below.refl _ _) _) _)) small3 (by simp) (by simp)
    (C_int1 (blk_cell (blk_alloc (newAt w6 _ _ rfl) _) 0)) (C_one (blk_cell (new2 w6 _ _) 0) (blk_cell (new2 w6 _ _) 1))).mono ?_
  rintro e w7 ⟨he, hb7⟩
  rw [ck3] at he
  simp only [resC, tgV] at he
  subst he
  have hb67 := (below_alloc (below_alloc (Below.refl _ w6) _) _).trans (hb7.mono (below_alloc (below_alloc (Below.refl _ w6) _) _).size)
  have HR7 := Lib.hid (Kd.C_below HR6.out hb67)
  have HB7 := Lib.hid (HCF6.out.below hb67)
  clear hb7 hb67 HR6 HCF6
  go_wp2_with fail
  have hbW := below_alloc (below_alloc (Below.refl w7.heap.size w7) (.cells #[.int .i64 0, .int .i64 0, .int .i64 0] 46)) (.cells #[.int .i64 5, .int .i64 9] 42)
  refine (vokref_Spans.calls 60 A6 c6 [⟨5, 9⟩] (some ⟨w7.heap.size + 1, 0, none⟩) 1 [⟨5, 9⟩] true _ (Kd.C_below HR7.out hbW) (by simpa using hc6) (C_to42 (C_one (x := (5, 9)) (blk_cell (new2 w7 _ _) 0) (blk_cell (new2 w7 _ _) 1))) (Nat.le_refl _) spans_f).mono ?_
  rintro e w8 ⟨rfl, hd⟩
  obtain ⟨own, k1, k2, k3⟩ := HB7.out
  have HF := Lib.hid (k3.trans ((hbW.trans (hd.below.mono hbW.size)).mono k3.size))
  clear hd k1 k2 k3 hbW
  go_wp2
  go_ret
  exact ⟨rfl, HF.out⟩
end Go.Proofs.YtohpimfanplloaaGreat.CalK
