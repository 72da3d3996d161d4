/- cal.New: a calendar that is empty. -/
import Derived.Test.YtohpimfanplloaaGreatZCalH
import Derived.Test.YtohpimfanplloaaGreatZV
import Derived.WalkKit
import Derived.WalkSpells
import Derived.Lib.Hide
import Derived.Deep.RegionHeld3
import Derived.Deep.DeepCutAuto
set_option linter.unusedVariables false
set_option linter.unusedSimpArgs false
namespace Go.Proofs.YtohpimfanplloaaGreat.CalI
open Go.RowKit Go.Proofs.YtohpimfanplloaaGreatW.PrintWords Go.Proofs.YtohpimfanplloaaGreatW.PrintLast Go.Proofs.YtohpimfanplloaaGreatW.PrintMore Go.Proofs.YtohpimfanplloaaGreat.PureI1 Go.Proofs.YtohpimfanplloaaGreat.PureI2 Go.Proofs.YtohpimfanplloaaGreat.IvA Go.Proofs.YtohpimfanplloaaGreat.IvC Go.Proofs.YtohpimfanplloaaGreat.IvG Go.Proofs.YtohpimfanplloaaGreat.CalB Go.Proofs.YtohpimfanplloaaGreat.CalD Go.Proofs.YtohpimfanplloaaGreat.CalG Go.Proofs.YtohpimfanplloaaGreat.CalH Go.Proofs.YtohpimfanplloaaGreat.GI

def newAll (n node : Int) (m : Nat) : Us := newK n m node m m
theorem info_ps : (Tryz.prog.info? 81).map (fun i => (i.zero, i.size, i.bytes)) = some (some (Value.pointer none), 1, 8) := by kernel_rfl
theorem made_nil (m : Nat) : madeCells #[Value.pointer none] m = (List.replicate m (Value.pointer none)).toArray := by
  apply Array.ext
  · simp [size_madeCells]
  · intro i h1 h2
    simp [madeCells, Nat.mod_one]
/-- What the options' copy leaves. -/
def CopyOk (n lo hi : Int) (m : Nat) (w : World) (e : Ending) (w' : World) : Prop := (∃ A' m' c', e = .returned (.agg #[.int .i64 n, .int .i64 (m : Nat), .slice A' m' c', .int .i64 lo, .int .i64 hi])) ∧ Below w.heap.size w w'
theorem copy_w (n lo hi : Int) (m : Nat) (A : Option Addr) (c : Nat) (l : List S75) (w0 w w2 : World) (hb : Below w0.heap.size w0 w) (hr : Kd.C k75 w0 A l.length l) (hc : l.length ≤ c) (hl : l.length ≤ 1099511627776) (hz : ∀ z ∈ l, z.f1.length ≤ 1099511627776 ∧ z.f2.length ≤ 1099511627776) (hw : Below w.heap.size w w2) :
    Calls Tryz.prog 39 #[.agg #[.int .i64 n, .int .i64 (m : Nat), .slice A l.length c, .int .i64 lo, .int .i64 hi]] w2 (fun e w' => CopyOk n lo hi m w e w' ∧ Below w2.heap.size w2 w') :=
  (copyo_any n m A c l lo hi w2 (Kd.C_below hr (hb.trans (hw.mono hb.size))) hc hl hz).mono fun e w' ⟨A', m', c', he, hb'⟩ => ⟨⟨⟨A', m', c', he⟩, hw.trans (hb'.mono hw.size)⟩, hb'⟩
/-- The calendar's block and its users' block are laid. -/
def LaidAt (w w1 : World) (m : Nat) (cb ub : Nat) (wc : World) : Prop :=
  Below w1.heap.size w1 wc ∧ (∃ x0 x1 x2 x3 x4, ∃ nd : Int, wc.heap[cb]? = some (.cells #[x0, x1, x2, x3, x4, .int .i64 nd, .slice (some ⟨ub, 0, none⟩) m m] 80 (0, 0))) ∧
  wc.heap[ub]? = some (.cells (List.replicate m (Value.pointer none)).toArray 81 (0, 0)) ∧ w1.heap.size ≤ cb ∧ w1.heap.size ≤ ub
theorem laid1 {w w1 w5 : World} {m : Nat} {y0 y1 y2 y3 y4 : Value} {y5 : Int} (h : Below w1.heap.size w1 w5) : LaidAt w w1 m (w5.heap.size + 1) w5.heap.size ((w5.alloc (.cells (madeCells #[.pointer none] m) 81)).alloc (.cells #[y0, y1, y2, y3, y4, .int .i64 y5, .slice (some ⟨w5.heap.size, 0, none⟩) m m] 80)) :=
  ⟨below_alloc (below_alloc h _) _, ⟨_, _, _, _, _, _, new2 _ _ _⟩, by rw [← made_nil]; exact blk_alloc (newAt w5 _ _ rfl) _, by have := h.size; omega, h.size⟩
theorem laid2 {w w1 w5 : World} {m : Nat} {y0 y1 y2 y3 y4 : Value} {y5 : Int} (h : Below w1.heap.size w1 w5) (hua : w5.heap[w1.heap.size]? = some (.cells (madeCells #[.pointer none] m) 81 (0, 0))) : LaidAt w w1 m w5.heap.size w1.heap.size (w5.alloc (.cells #[y0, y1, y2, y3, y4, .int .i64 y5, .slice (some ⟨w1.heap.size, 0, none⟩) m m] 80)) :=
  ⟨below_alloc h _, ⟨_, _, _, _, _, _, newAt w5 _ _ rfl⟩, by rw [← made_nil]; exact blk_alloc hua _, h.size, Nat.le_refl _⟩
def NewAt (w w1 : World) (n node : Int) (m : Nat) (cb ub k : Nat) (wr : World) : Prop :=
  ∃ own cells, CalIn wr own cb ub cells (newK n m node m k) ∧ (∀ q, own q ≠ 0 → w1.heap.size ≤ q) ∧ Below w1.heap.size w1 wr
theorem laid_new {w w1 wc : World} {n node : Int} {m cb ub : Nat} (h : LaidAt w w1 m cb ub wc) (hm : 0 < m) (hm2 : m ≤ 64) : NewAt w w1 n node m cb ub 0 wc := by
  obtain ⟨h1, ⟨x0, x1, x2, x3, x4, x5, h2⟩, h3, h4, h5⟩ := h
  refine ⟨fun q => if q = cb then 1 else if q = ub then 1 else 0, List.replicate m (Value.pointer none), ⟨⟨x0, x1, x2, x3, x4, x5, by rw [newK_len]; exact h2⟩, by simp, h3, by simp, by rw [newK_len]; simp, by rw [newK_len]; exact hm, by rw [newK_len]; exact hm2, fun i p hp => ?_, fun q hq => ?_⟩, fun q hq => ?_, h1⟩
  · have hi : i < m := by have := (List.getElem?_eq_some_iff.1 hp).1; rwa [newK_len] at this
    rw [newK_get _ _ _ _ _ _ hi, if_neg (by omega)] at hp
    cases hp
    show (List.replicate m (Value.pointer none)).getD i undef = _
    simp [hi]
  · by_cases e1 : q = cb
    · rw [e1]; exact blk_lt h2
    · by_cases e2 : q = ub
      · rw [e2]; exact blk_lt h3
      · simp [e1, e2] at hq
  · by_cases e1 : q = cb
    · rw [e1]; exact h4
    · by_cases e2 : q = ub
      · rw [e2]; exact h5
      · simp [e1, e2] at hq
theorem new_step {w w1 w2 : World} {n node : Int} {m cb ub k : Nat} {own : Nat → Nat} {cells : List Value} (hC : CalIn w2 own cb ub cells (newK n m node m k)) (hlt : k < m) (hN : newK n m node m (k + 1) = (newK n m node m k).set k (some ([], [])))
    (hown : ∀ q, own q ≠ 0 → w1.heap.size ≤ q) (hb : Below w1.heap.size w1 w2) {s r : Nat} (hsr : (s = w2.heap.size ∧ r = w2.heap.size + 1) ∨ (s = w2.heap.size + 1 ∧ r = w2.heap.size)) :
    NewAt w w1 n node m cb ub (k + 1) (((((w2.alloc (.cells #[.slice none 0 0] 122)).alloc (.cells #[.slice none 0 0] 122)).alloc (.cells #[.pointer (some ⟨s, 0, none⟩), .pointer (some ⟨r, 0, none⟩)] 85)).setCell ⟨ub, k, none⟩ (.pointer (some ⟨w2.heap.size + 1 + 1, 0, none⟩))).drew) := by
  have hul := blk_lt hC.arr
  have hlen := hC.len
  rw [newK_len] at hlen
  have hk : (newK n m node m k)[k]? = some none := by rw [newK_get _ _ _ _ _ _ hlt, if_neg (by omega)]
  have ha3 : ∀ (o : Obj), ((w2.alloc (.cells #[.slice none 0 0] 122)).alloc (.cells #[.slice none 0 0] 122)).alloc o = ((w2.alloc (.cells #[.slice none 0 0] 122)).alloc (.cells #[.slice none 0 0] 122)).alloc o := fun _ => rfl
  obtain ⟨own', h1, h2⟩ := put_new hC hk hsr (W1 := (((((w2.alloc (.cells #[.slice none 0 0] 122)).alloc (.cells #[.slice none 0 0] 122)).alloc (.cells #[.pointer (some ⟨s, 0, none⟩), .pointer (some ⟨r, 0, none⟩)] 85)).setCell ⟨ub, k, none⟩ (.pointer (some ⟨w2.heap.size + 1 + 1, 0, none⟩))).drew))
    (fun q hq hne => (Below.heap_setCell _ ⟨ub, k, none⟩ _ q hne).trans ((below_alloc (below_alloc (below_alloc (Below.refl _ w2) _) _) _).block q hq))
    (by show (World.setCell _ _ _).heap.size = _; simp [World.setCell])
    (blk_drew (blk_far (blk_alloc (blk_alloc (newAt w2 _ _ rfl) _) _) (by dsimp only; omega) _))
    (blk_drew (blk_far (blk_alloc (new2 w2 _ _) _) (by dsimp only; omega) _))
    (blk_drew (blk_far (newAt _ _ (w2.heap.size + 2) (by simp)) (by dsimp only; omega) _))
    (by
      have := blk_set (blk_alloc (blk_alloc (blk_alloc hC.arr (.cells #[.slice none 0 0] 122)) (.cells #[.slice none 0 0] 122)) (.cells #[.pointer (some ⟨s, 0, none⟩), .pointer (some ⟨r, 0, none⟩)] 85)) k (.pointer (some ⟨w2.heap.size + 1 + 1, 0, none⟩))
      refine (blk_drew this).trans ?_
      rw [List.setIfInBounds_toArray])
  refine ⟨own', _, by rw [hN]; exact h1, fun q hq => ?_, ?_⟩
  · by_cases hq2 : q < w2.heap.size
    · rw [h2 q hq2] at hq; exact hown q hq
    · have := hb.size; omega
  · have h9 := hown ub (by rw [hC.ou]; omega)
    exact below_drew ((hb.trans ((below_alloc (below_alloc (below_alloc (Below.refl _ w2) _) _) _).mono hb.size)).setCell h9 _)
set_option maxHeartbeats 2000000 in
set_option maxRecDepth 100000 in
theorem new_yes (kk : Nat) (n : Int) (m : Nat) (A : Option Addr) (c : Nat) (l : List S75) (lo hi node : Int) (w : World) (hr : Kd.C k75 w A l.length l) (hc : l.length ≤ c) (hl : l.length ≤ 1099511627776) (hz : ∀ z ∈ l, z.f1.length ≤ 1099511627776 ∧ z.f2.length ≤ 1099511627776)
    (hM : cal_May.f kk n m l lo hi = some true) (h0 : 0 ≤ node) (h1 : node < n) :
    Calls Tryz.prog 12 #[.agg #[.int .i64 n, .int .i64 (m : Nat), .slice A l.length c, .int .i64 lo, .int .i64 hi], .int .i64 node] w (NewIs w (newAll n node m)) := by
  obtain ⟨b1, b2, b3, b4, _, _⟩ := may_bounds hM
  have hm1 : 0 < m := by omega
  have hm2 : m ≤ 64 := by omega
  have HM := Lib.hid (fun w1 (hb : Below w.heap.size w w1) => cal_May.calls kk n m A c l lo hi true w1 (Kd.C_below hr hb) hc hM)
  have hmk := print_make_of (P := Tryz.prog) 78 81 (Value.pointer none) 8 Tryz.underlying78 info_ps rfl (by decide) m (by omega)
  have HR := Lib.hid hr
  have HZ := Lib.hid hz
  have d1 : decide (node < 0) = false := decide_eq_false (by omega)
  have d2 : decide (n ≤ node) = false := decide_eq_false (by omega)
  clear hr hM hz
  go_enter Tryz.func12, Tryz.ntmps12
  go_wp2_with fail
  refine (HM.out _ ((Below.refl _ _).alloc (Nat.le_refl _) _)).mono ?_
  rintro e w1 ⟨rfl, hb⟩
  have HB := Lib.hid (((Below.refl w.heap.size w).alloc (Nat.le_refl _) (.cells #[.int .i64 n, .int .i64 (m : Nat), .slice A l.length c, .int .i64 lo, .int .i64 hi] 24)).trans (hb.mono (by simp)))
  have hbx : w1.heap[w.heap.size]? = some (.cells #[.int .i64 n, .int .i64 (m : Nat), .slice A l.length c, .int .i64 lo, .int .i64 hi] 24 (0, 0)) := (hb.block _ (by simp)).trans (newAt w _ _ rfl)
  have c0 : w1.cell? ⟨w.heap.size, 0, none⟩ = some (.int .i64 n) := blk_cell hbx 0
  have c1 : w1.cell? ⟨w.heap.size, 1, none⟩ = some (.int .i64 (m : Nat)) := blk_cell hbx 1
  have c2 : w1.cell? ⟨w.heap.size, 2, none⟩ = some (.slice A l.length c) := blk_cell hbx 2
  have c3 : w1.cell? ⟨w.heap.size, 3, none⟩ = some (.int .i64 lo) := blk_cell hbx 3
  have c4 : w1.cell? ⟨w.heap.size, 4, none⟩ = some (.int .i64 hi) := blk_cell hbx 4
  have hws := blk_lt hbx
  have hwn : w1.heap.size ≠ w.heap.size := by omega
  have hwn2 : w.heap.size ≠ w1.heap.size := by omega
  have HBx := Lib.hid hbx
  clear hb hbx HM
  go_wp2_with fail
  go_cut [6] (fun v6 wc => ∃ cb ub : Nat, v6 = .pointer (some ⟨cb, 0, none⟩) ∧ Hid (LaidAt w w1 m cb ub wc))
  case first =>
    have HW1 := Lib.hid (copy_w n lo hi m A c l w w1 w1.drew HB.out HR.out hc hl HZ.out (below_drew (Below.refl _ _)))
    have HW2 := Lib.hid (copy_w n lo hi m A c l w w1 (w1.alloc (.cells (madeCells #[.pointer none] m) 81)).drew HB.out HR.out hc hl HZ.out (below_drew (below_alloc (Below.refl _ _) _)))
    go_region_held3 (fun w' => w'.cell? ⟨w.heap.size, 0, none⟩ = some (.int .i64 n) ∧ w'.cell? ⟨w.heap.size, 1, none⟩ = some (.int .i64 (m : Nat)) ∧ w'.cell? ⟨w.heap.size, 2, none⟩ = some (.slice A l.length c) ∧ w'.cell? ⟨w.heap.size, 3, none⟩ = some (.int .i64 lo) ∧ w'.cell? ⟨w.heap.size, 4, none⟩ = some (.int .i64 hi))
      (((try dsimp only); (repeat' apply And.intro) <;> first | (with_reducible assumption) | go_keep))
      (first | (go_at_call 39; (with_reducible refine HW1.out.mono ?_); rintro e w5 ⟨⟨⟨A', m', c', rfl⟩, hz5⟩, hq5⟩; (have hbx5 : w5.heap[w.heap.size]? = some (.cells #[.int .i64 n, .int .i64 (m : Nat), .slice A l.length c, .int .i64 lo, .int .i64 hi] 24 (0, 0)) := blk_below HBx.out hz5); (have k0 : w5.cell? ⟨w.heap.size, 0, none⟩ = some (.int .i64 n) := blk_cell hbx5 0); (have k1 : w5.cell? ⟨w.heap.size, 1, none⟩ = some (.int .i64 (m : Nat)) := blk_cell hbx5 1); (have k2 : w5.cell? ⟨w.heap.size, 2, none⟩ = some (.slice A l.length c) := blk_cell hbx5 2); (have k3 : w5.cell? ⟨w.heap.size, 3, none⟩ = some (.int .i64 lo) := blk_cell hbx5 3); (have k4 : w5.cell? ⟨w.heap.size, 4, none⟩ = some (.int .i64 hi) := blk_cell hbx5 4); (have hs5 := hz5.size)) | (go_at_call 39; (with_reducible refine HW2.out.mono ?_); rintro e w5 ⟨⟨⟨A', m', c', rfl⟩, hz5⟩, hq5⟩; (have hbx5 : w5.heap[w.heap.size]? = some (.cells #[.int .i64 n, .int .i64 (m : Nat), .slice A l.length c, .int .i64 lo, .int .i64 hi] 24 (0, 0)) := blk_below HBx.out hz5); (have k0 : w5.cell? ⟨w.heap.size, 0, none⟩ = some (.int .i64 n) := blk_cell hbx5 0); (have k1 : w5.cell? ⟨w.heap.size, 1, none⟩ = some (.int .i64 (m : Nat)) := blk_cell hbx5 1); (have k2 : w5.cell? ⟨w.heap.size, 2, none⟩ = some (.slice A l.length c) := blk_cell hbx5 2); (have k3 : w5.cell? ⟨w.heap.size, 3, none⟩ = some (.int .i64 lo) := blk_cell hbx5 3); (have k4 : w5.cell? ⟨w.heap.size, 4, none⟩ = some (.int .i64 hi) := blk_cell hbx5 4); (have hs5 := hz5.size); (have hua : w5.heap[w1.heap.size]? = some (.cells (madeCells #[.pointer none] m) 81 (0, 0)) := (hq5.block w1.heap.size (by simp)).trans (blk_drew (newAt w1 _ _ rfl)))))
    all_goals
      go_wp2_with fail
      go_meet
      first | exact ⟨_, _, rfl, Lib.hid (laid1 hz5)⟩ | exact ⟨_, _, rfl, Lib.hid (laid2 hz5 hua)⟩
  case rest =>
    obtain ⟨cb, ub, rfl, HL⟩ := hcut
    have hN0 : Hid (NewAt w w1 n node m cb ub 0 wc) := Lib.hid (laid_new HL.out hm1 hm2)
    have hcb := HL.out.2.2.2.1
    have hub := HL.out.2.2.2.2
    obtain ⟨x0, x1, x2, x3, x4, x5, hcblk⟩ := HL.out.2.1
    have c6 : wc.cell? ⟨cb, 6, none⟩ = some (.slice (some ⟨ub, 0, none⟩) m m) := blk_cell hcblk 6
    clear hcblk HL hmk
    go_wp2_with fail
    clear c6
    go_loopw [34] (fun i wr => ∃ k : Nat, i = .int .i64 k ∧ k ≤ m ∧ Hid (NewAt w w1 n node m cb ub k wr)) (fun i _ => m - (intOf i).toNat)
    case atStart => exact ⟨0, by go_num, Nat.zero_le _, hN0⟩
    case round =>
      clear hN0
      obtain ⟨k, rfl, hk, HA⟩ := hrel
      by_cases hlt : k < m
      · obtain ⟨own, cells, hC, hown, hbw⟩ := HA.out
        have hbx : wr.heap[w.heap.size]? = some (.cells #[.int .i64 n, .int .i64 (m : Nat), .slice A l.length c, .int .i64 lo, .int .i64 hi] 24 (0, 0)) := blk_below HBx.out hbw
        have p0 : wr.cell? ⟨w.heap.size, 0, none⟩ = some (.int .i64 n) := blk_cell hbx 0
        have p1 : wr.cell? ⟨w.heap.size, 1, none⟩ = some (.int .i64 (m : Nat)) := blk_cell hbx 1
        have p2 : wr.cell? ⟨w.heap.size, 2, none⟩ = some (.slice A l.length c) := blk_cell hbx 2
        have p3 : wr.cell? ⟨w.heap.size, 3, none⟩ = some (.int .i64 lo) := blk_cell hbx 3
        have p4 : wr.cell? ⟨w.heap.size, 4, none⟩ = some (.int .i64 hi) := blk_cell hbx 4
        have HHo := Lib.hid (home_any n m k A l.length c lo hi wr (by omega) (by omega))
        have hwr := hbw.size
        clear hbx
        by_cases hq : homeF n m k = node
        · have hP : newP n m node k = some ([], []) := by unfold newP; rw [if_pos hq]
          have HNx : Hid (newK n m node m (k + 1) = (newK n m node m k).set k (some ([], []))) := Lib.hid (by rw [newK_next _ _ _ _ _ hlt, hP])
          have dq : (homeF n m k == node) = true := by simp [hq]
          have HC := Lib.hid hC
          have HOw := Lib.hid hown
          have HBw := Lib.hid hbw
          clear hq hP hC hown hbw
          go_wp2_with fail
          refine HHo.out.mono ?_
          rintro e w2 ⟨rfl, hb2⟩
          have HC2 := Lib.hid (HC.out.below hb2)
          have HB2 := Lib.hid (HBw.out.trans (hb2.mono hwr))
          have hw2 := hb2.size
          clear hb2
          obtain ⟨y0, y1, y2, y3, y4, y5, hcb2⟩ := HC2.out.blk
          have harr := HC2.out.arr
          have hlen := HC2.out.len
          rw [newK_len] at hlen hcb2
          have g6 : w2.cell? ⟨cb, 6, none⟩ = some (.slice (some ⟨ub, 0, none⟩) m m) := blk_cell hcb2 6
          have hgk := arr_cell harr k (by omega)
          have hnk : cells.getD k undef = .pointer none := HC2.out.each k none (by rw [newK_get _ _ _ _ _ _ hlt, if_neg (by omega)])
          rw [hnk] at hgk
          have hfk := blk_frozen harr k
          have hcl := blk_lt hcb2
          have hul := blk_lt harr
          have u1 : w2.heap.size ≠ ub := by omega
          have u2 : ub ≠ w2.heap.size := by omega
          have v1 : w2.heap.size ≠ cb := by omega
          have v2 : cb ≠ w2.heap.size := by omega
          have u3 : w2.heap.size + 1 ≠ ub := by omega
          have u4 : ub ≠ w2.heap.size + 1 := by omega
          have u5 : w2.heap.size + 1 + 1 ≠ ub := by omega
          have u6 : ub ≠ w2.heap.size + 1 + 1 := by omega
          have i1 : (0 : Int) ≤ (k : Int) := by omega
          have i2 : (k : Int) < (m : Int) := by omega
          have hcu : cb ≠ ub := fun he => by rw [he] at hcb2; rw [hcb2] at harr; cases harr
          have hcu2 : ub ≠ cb := fun he => hcu he.symm
          have HQ3 : Hid (∀ a b d : Obj, (((w2.alloc a).alloc b).alloc d).drew.cell? ⟨cb, 6, none⟩ = some (.slice (some ⟨ub, 0, none⟩) m m)) := Lib.hid (fun a b d => ((below_drew (below_alloc (below_alloc (below_alloc (Below.refl _ _) a) b) d)).cell (p := ⟨cb, 6, none⟩) hcl).trans g6)
          have HQ4 : Hid (∀ (a b d : Obj) (x : Value), ((((w2.alloc a).alloc b).alloc d).drew.setCell ⟨ub, k, none⟩ x).cell? ⟨cb, 6, none⟩ = some (.slice (some ⟨ub, 0, none⟩) m m)) := Lib.hid (fun a b d x => (World.cell?_of_block (Below.heap_setCell _ ⟨ub, k, none⟩ x cb hcu)).trans (HQ3.out a b d))
          have HQ5 : Hid (∀ (a b d : Obj) (x : Value), ((((w2.alloc a).alloc b).alloc d).setCell ⟨ub, k, none⟩ x).drew.cell? ⟨cb, 6, none⟩ = some (.slice (some ⟨ub, 0, none⟩) m m)) := Lib.hid (fun a b d x => HQ4.out a b d x)
          have q6 : ∀ a b d : Obj, (((w2.alloc a).alloc b).alloc d).drew.cell? ⟨ub, k, none⟩ = some (.pointer none) := fun a b d => ((below_drew (below_alloc (below_alloc (below_alloc (Below.refl _ _) a) b) d)).cell (p := ⟨ub, k, none⟩) hul).trans hgk
          have q7 : ∀ a b d : Obj, (((w2.alloc a).alloc b).alloc d).drew.frozen? ⟨ub, k, none⟩ = false := fun a b d => ((below_drew (below_alloc (below_alloc (below_alloc (Below.refl _ _) a) b) d)).frozen (p := ⟨ub, k, none⟩) hul).trans hfk
          have q8 : ∀ a b d : Obj, (((w2.alloc a).alloc b).alloc d).cell? ⟨ub, k, none⟩ = some (.pointer none) := q6
          have q9 : ∀ a b d : Obj, (((w2.alloc a).alloc b).alloc d).frozen? ⟨ub, k, none⟩ = false := q7
          clear hcb2 harr hlen hnk
          go_wp2_with fail
          go_region_held3 (fun w' => w'.cell? ⟨cb, 6, none⟩ = some (.slice (some ⟨ub, 0, none⟩) m m)) (first | (with_reducible exact HQ3.out _ _ _) | (with_reducible exact HQ4.out _ _ _ _) | (with_reducible exact HQ5.out _ _ _ _) | go_keep)
            ((go_at_call 40; refine (new_any _).mono ?_; rintro e w9 ⟨rfl, _, rfl⟩))
          all_goals
            go_wp2
            go_roundw
            case measure => simp [intOf]; omega
            case rel =>
              first | exact ⟨k + 1, by go_num, by omega, Lib.hid (new_step HC2.out hlt HNx.out HOw.out HB2.out (.inl ⟨rfl, rfl⟩))⟩ | exact ⟨k + 1, by go_num, by omega, Lib.hid (new_step HC2.out hlt HNx.out HOw.out HB2.out (.inr ⟨rfl, rfl⟩))⟩
        · have hP : newP n m node k = none := by unfold newP; rw [if_neg hq]
          have HNx : Hid (newK n m node m (k + 1) = newK n m node m k) := Lib.hid (newK_same _ _ _ _ _ hlt hP)
          have dq : (homeF n m k == node) = false := by simp [hq]
          have HC := Lib.hid hC
          have HOw := Lib.hid hown
          have HBw := Lib.hid hbw
          clear hq hP hC hown hbw
          go_wp2_with fail
          refine HHo.out.mono ?_
          rintro e w2 ⟨rfl, hb2⟩
          have HF : Hid (NewAt w w1 n node m cb ub (k + 1) w2) := Lib.hid ⟨own, cells, by rw [HNx.out]; exact HC.out.below hb2, HOw.out, HBw.out.trans (hb2.mono hwr)⟩
          clear hb2
          go_wp2
          go_roundw
          case measure => simp [intOf]; omega
          case rel => exact ⟨k + 1, by go_num, by omega, HF⟩
      · obtain rfl : k = m := by omega
        obtain ⟨own, cells, hC, hown, hbw⟩ := HA.out
        have HF : Hid (CalIn wr own cb ub cells (newAll n node k) ∧ (∀ q, own q ≠ 0 → w.heap.size ≤ q) ∧ Below w.heap.size w wr) := Lib.hid ⟨hC, fun q hq => Nat.le_trans (by omega) (hown q hq), HB.out.trans (hbw.mono (by omega))⟩
        clear hC hown hbw
        go_wp2
        go_ret2
        exact ⟨own, cb, ub, cells, rfl, HF.out⟩
end Go.Proofs.YtohpimfanplloaaGreat.CalI
