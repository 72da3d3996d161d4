/- WireUnlike: the walk. -/
import Derived.Test.YtleljfmhefobeaaGWSrc
import Derived.Test.YtleljfmhefobeaaGWAux
import Derived.Test.YtleljfmhefobeaaGWB
import Derived.WalkKit
import Derived.WalkSpells
import Derived.Lib.Hide
set_option linter.unusedVariables false
set_option linter.unusedSimpArgs false
namespace Go.Proofs.Ytleljfmhefobeaa.WalkWireUnlike
open Go.RowKit Go.Proofs.YtleljfmhefobeaaW.PrintWords Go.Proofs.YtleljfmhefobeaaW.PrintLast Go.Proofs.YtleljfmhefobeaaW.PrintMore Go.Proofs.Ytleljfmhefobeaa.GW Go.Proofs.Ytleljfmhefobeaa.GWPa Go.Proofs.Ytleljfmhefobeaa.GWPe Go.Proofs.Ytleljfmhefobeaa.GWPw Go.Proofs.Ytleljfmhefobeaa.GWB Go.Proofs.Ytleljfmhefobeaa.GWSrc Go.Proofs.Ytleljfmhefobeaa.GWAux

theorem C_set {d : Kd Int} {w : World} {A : Option Addr} {xs : List Int} {p : Nat} (v : Value) (j : Nat) (h : d.C w A xs.length xs) {w0 : World} (h0 : d.C w0 A xs.length xs) (hb : Below w0.heap.size w0 w) (hp : w0.heap.size ≤ p) : d.C (w.setCell ⟨p, j, none⟩ v) A xs.length xs :=
  Kd.C_below h0 (hb.setCell hp v)
theorem tail_inj {u n t u' n' t' : List Int} (h : tail u n t = tail u' n' t') (h1 : u.length ≤ 64) (h2 : u'.length ≤ 64) (h3 : n.length ≤ 16) (h4 : n'.length ≤ 16) (hu : ∀ x ∈ u, 0 ≤ x ∧ x < 256) (hu' : ∀ x ∈ u', 0 ≤ x ∧ x < 256) (hn : ∀ x ∈ n, 0 ≤ x ∧ x < 256) (hn' : ∀ x ∈ n', 0 ≤ x ∧ x < 256) :
    u = u' ∧ n = n' ∧ t = t' := by
  unfold tail at h
  rw [lows_id hu, lows_id hu', lows_id hn, lows_id hn'] at h
  simp only [List.cons_append, List.cons.injEq] at h
  obtain ⟨e1, h⟩ := h
  obtain ⟨e2, h⟩ := List.append_inj h (by omega)
  simp only [List.cons.injEq] at h
  obtain ⟨e3, h⟩ := h
  obtain ⟨e4, h⟩ := List.append_inj h (by omega)
  obtain ⟨_, e5⟩ := List.append_inj h (by simp [beR_length])
  exact ⟨e2, e4, e5⟩
theorem be6_inj {v w : Int} (hv : 0 ≤ v ∧ v < 281474976710656) (hw : 0 ≤ w ∧ w < 281474976710656) (h : beR 6 v = beR 6 w) : v = w := by
  rw [← num_be6 v hv.1 hv.2, h, num_be6 w hw.1 hw.2]
theorem w40 {n : Int} (h : within n 1099511627776) : 0 ≤ n ∧ n < 281474976710656 := by unfold within at h; omega
theorem w47 {n : Int} (h : within n 140737488355328) : 0 ≤ n ∧ n < 281474976710656 := by unfold within at h; omega
theorem us_range {m : M} (h : May m) : ∀ x ∈ m.us, 0 ≤ x ∧ x < 256 := fun x hx => by have := rises_range h.us x hx; omega
theorem ns_range {m : M} (h : May m) : ∀ x ∈ m.ns, 0 ≤ x ∧ x < 256 := fun x hx => by have := rises_range h.ns x hx; omega
theorem body_inj {r q : M} (hr : May r) (hq : May q) (h : body r = body q) : r = q := by
  have s1 := short hr; have s2 := short hq
  unfold body at h
  obtain ⟨e0, h⟩ := List.append_inj h (by simp)
  obtain ⟨e3, h⟩ := List.append_inj h (by simp [beR_length])
  obtain ⟨e4, h⟩ := List.append_inj h (by simp [beR_length])
  obtain ⟨e6, h⟩ := List.append_inj h (by simp [beR_length])
  obtain ⟨e8, h⟩ := List.append_inj h (by simp [beR_length])
  obtain ⟨el, h⟩ := List.append_inj h (by simp [beR_length])
  obtain ⟨eh, h⟩ := List.append_inj h (by simp [beR_length])
  obtain ⟨eu, en, et⟩ := tail_inj h (by omega) (by omega) (by omega) (by omega) (us_range hr) (us_range hq) (ns_range hr) (ns_range hq)
  simp only [List.cons.injEq, and_true] at e0
  have a0 := hr.kind; have b0 := hq.kind
  have a1 := hr.frm; have b1 := hq.frm; have a2 := hr.dst; have b2 := hq.dst; have a5 := hr.op; have b5 := hq.op; have a7 := hr.code; have b7 := hq.code
  unfold within at a1 b1 a2 b2 a5 b5 a7 b7
  have f0 : r.a0 = q.a0 := by omega
  have f1 : r.a1 = q.a1 := by omega
  have f2 : r.a2 = q.a2 := by omega
  have f5 : r.a5 = q.a5 := by omega
  have f7 : r.a7 = q.a7 := by omega
  have fy := flag_inj e0.2.2.2.2.2
  have f3 := be6_inj (w40 hr.tx) (w40 hq.tx) e3
  have f4 := be6_inj (w40 hr.id) (w40 hq.id) e4
  have f6 := be6_inj (w40 hr.old) (w40 hq.old) e6
  have f8 := be6_inj (w40 hr.owner) (w40 hq.owner) e8
  have fl := be6_inj (w47 hr.lo) (w47 hq.lo) el
  have fh := be6_inj (w47 hr.hi) (w47 hq.hi) eh
  cases r; cases q
  simp only at f0 f1 f2 f3 f4 f5 f6 f7 f8 fy fl fh eu en et
  subst f0 f1 f2 f3 f4 f5 f6 f7 f8 fy fl fh eu en et
  rfl

set_option maxRecDepth 100000 in
set_option maxHeartbeats 4000000 in
theorem walk_few (a0_0 : Int) (a0_1 : Int) (a0_2 : Int) (a0_3 : Int) (a0_4 : Int) (a0_5 : Int) (a0_6 : Int) (a0_7 : Int) (a0_8 : Int) (a0_9 : Bool) (a0_10 : Int) (a0_11 : Int) (A0_12 : Option Addr) (c0_12 : Nat) (l0_12 : List Int) (A0_13 : Option Addr) (c0_13 : Nat) (l0_13 : List Int) (A0_14 : Option Addr) (c0_14 : Nat) (l0_14 : List Int) (a1 : Int) (w : World) (hr0_12 : Kd.C (Kd.int .i64) w A0_12 l0_12.length l0_12) (hc0_12 : l0_12.length ≤ c0_12) (hr0_13 : Kd.C (Kd.int .i64) w A0_13 l0_13.length l0_13) (hc0_13 : l0_13.length ≤ c0_13) (hr0_14 : Kd.C (Kd.int .u8) w A0_14 l0_14.length l0_14) (hc0_14 : l0_14.length ≤ c0_14) (hbt : bytesL l0_14) (hfew : ¬ (l0_12.length ≤ 300 ∧ l0_13.length ≤ 300 ∧ l0_14.length ≤ 20000)) :
    Calls Try.prog 6 #[.agg #[.int .i64 a0_0, .int .i64 a0_1, .int .i64 a0_2, .int .i64 a0_3, .int .i64 a0_4, .int .i64 a0_5, .int .i64 a0_6, .int .i64 a0_7, .int .i64 a0_8, .bool a0_9, .int .i64 a0_10, .int .i64 a0_11, .slice A0_12 l0_12.length c0_12, .slice A0_13 l0_13.length c0_13, .slice A0_14 l0_14.length c0_14], .int .i64 a1] w fun e w' => e = .returned (.bool true) ∧ Below w.heap.size w w' := by
  have hurec := Try.underlying27
  have hu23 := Try.underlying23
  have HBt := Lib.hid hbt
  have hwlt : w.heap.size < w.heap.size + 1 := by omega
  have hbl := (Below.refl w.heap.size w).alloc (Nat.le_refl _) (.cells #[.int .i64 a0_0, .int .i64 a0_1, .int .i64 a0_2, .int .i64 a0_3, .int .i64 a0_4, .int .i64 a0_5, .int .i64 a0_6, .int .i64 a0_7, .int .i64 a0_8, .bool a0_9, .int .i64 a0_10, .int .i64 a0_11, .slice A0_12 l0_12.length c0_12, .slice A0_13 l0_13.length c0_13, .slice A0_14 l0_14.length c0_14] 27)
  have HB := Lib.hid hbl
  have HA := Lib.hid (blk_new w (.cells #[.int .i64 a0_0, .int .i64 a0_1, .int .i64 a0_2, .int .i64 a0_3, .int .i64 a0_4, .int .i64 a0_5, .int .i64 a0_6, .int .i64 a0_7, .int .i64 a0_8, .bool a0_9, .int .i64 a0_10, .int .i64 a0_11, .slice A0_12 l0_12.length c0_12, .slice A0_13 l0_13.length c0_13, .slice A0_14 l0_14.length c0_14] 27))
  have HC0_12 := Lib.hid (Kd.C_below hr0_12 hbl)
  have HR0_12 := Lib.hid hr0_12
  have HC0_13 := Lib.hid (Kd.C_below hr0_13 hbl)
  have HR0_13 := Lib.hid hr0_13
  have HC0_14 := Lib.hid (Kd.C_below hr0_14 hbl)
  have HR0_14 := Lib.hid hr0_14
  have hsw : (w.alloc (.cells #[.int .i64 a0_0, .int .i64 a0_1, .int .i64 a0_2, .int .i64 a0_3, .int .i64 a0_4, .int .i64 a0_5, .int .i64 a0_6, .int .i64 a0_7, .int .i64 a0_8, .bool a0_9, .int .i64 a0_10, .int .i64 a0_11, .slice A0_12 l0_12.length c0_12, .slice A0_13 l0_13.length c0_13, .slice A0_14 l0_14.length c0_14] 27)).heap.size = w.heap.size + 1 := by simp
  clear hbl hbt hr0_12 hr0_13 hr0_14
  have hfe := Lib.hid (few_eq ⟨a0_0, a0_1, a0_2, a0_3, a0_4, a0_5, a0_6, a0_7, a0_8, a0_9, a0_10, a0_11, l0_12, l0_13, l0_14⟩)
  go_enter Try.func6, Try.ntmps6
  go_wp2_with fail
  generalize hW0 : w.alloc (.cells #[.int .i64 a0_0, .int .i64 a0_1, .int .i64 a0_2, .int .i64 a0_3, .int .i64 a0_4, .int .i64 a0_5, .int .i64 a0_6, .int .i64 a0_7, .int .i64 a0_8, .bool a0_9, .int .i64 a0_10, .int .i64 a0_11, .slice A0_12 l0_12.length c0_12, .slice A0_13 l0_13.length c0_13, .slice A0_14 l0_14.length c0_14] 27) = W0 at *
  have hws : w.heap.size < W0.heap.size := by omega
  clear hW0 hsw hwlt
  have HC := Lib.hid (voklaw19_first.calls 1000 true W0 (first_eq 1000 (by omega) (by omega)))
  go_wp2_with fail
  refine HC.out.mono ?_
  rintro e w1 ⟨rfl, hbl⟩
  clear HC
  have HB' := Lib.hid (HB.out.trans (hbl.mono HB.out.size))
  clear HB
  have HB := HB'
  clear HB'
  have HA' := Lib.hid (blk_below HA.out hbl)
  clear HA
  have HA := HA'
  clear HA'
  have HC0_12' := Lib.hid (Kd.C_below HC0_12.out hbl)
  clear HC0_12
  have HC0_12 := HC0_12'
  clear HC0_12'
  have HC0_13' := Lib.hid (Kd.C_below HC0_13.out hbl)
  clear HC0_13
  have HC0_13 := HC0_13'
  clear HC0_13'
  have HC0_14' := Lib.hid (Kd.C_below HC0_14.out hbl)
  clear HC0_14
  have HC0_14 := HC0_14'
  clear HC0_14'
  clear hbl
  have hq_ := True.intro
  have xc0 := blk_cell HA.out 0
  have xc1 := blk_cell HA.out 1
  have xc2 := blk_cell HA.out 2
  have xc3 := blk_cell HA.out 3
  have xc4 := blk_cell HA.out 4
  have xc5 := blk_cell HA.out 5
  have xc6 := blk_cell HA.out 6
  have xc7 := blk_cell HA.out 7
  have xc8 := blk_cell HA.out 8
  have xc9 := blk_cell HA.out 9
  have xc10 := blk_cell HA.out 10
  have xc11 := blk_cell HA.out 11
  have xc12 := blk_cell HA.out 12
  have xc13 := blk_cell HA.out 13
  have xc14 := blk_cell HA.out 14
  simp only [List.getElem?_toArray, List.getElem?_cons_succ, List.getElem?_cons_zero] at xc0 xc1 xc2 xc3 xc4 xc5 xc6 xc7 xc8 xc9 xc10 xc11 xc12 xc13 xc14
  have HC := Lib.hid (voklaw19_Few.calls a0_0 a0_1 a0_2 a0_3 a0_4 a0_5 a0_6 a0_7 a0_8 a0_9 a0_10 a0_11 A0_12 c0_12 l0_12 A0_13 c0_13 l0_13 A0_14 c0_14 l0_14 _ w1 HC0_12.out hc0_12 HC0_13.out hc0_13 HC0_14.out hc0_14 hfe.out)
  rw [decide_eq_false hfew] at HC
  go_wp2_with fail
  refine HC.out.mono ?_
  rintro e w2 ⟨rfl, hbl⟩
  clear HC
  clear xc0 xc1 xc2 xc3 xc4 xc5 xc6 xc7 xc8 xc9 xc10 xc11 xc12 xc13 xc14
  have HB' := Lib.hid (HB.out.trans (hbl.mono HB.out.size))
  clear HB
  have HB := HB'
  clear HB'
  have HA' := Lib.hid (blk_below HA.out hbl)
  clear HA
  have HA := HA'
  clear HA'
  have HC0_12' := Lib.hid (Kd.C_below HC0_12.out hbl)
  clear HC0_12
  have HC0_12 := HC0_12'
  clear HC0_12'
  have HC0_13' := Lib.hid (Kd.C_below HC0_13.out hbl)
  clear HC0_13
  have HC0_13 := HC0_13'
  clear HC0_13'
  have HC0_14' := Lib.hid (Kd.C_below HC0_14.out hbl)
  clear HC0_14
  have HC0_14 := HC0_14'
  clear HC0_14'
  clear hbl
  have HC := Lib.hid (voklaw19_first.calls 1000 true w2 (first_eq 1000 (by omega) (by omega)))
  go_wp2_with fail
  refine HC.out.mono ?_
  rintro e w3 ⟨rfl, hbl⟩
  clear HC
  have HB' := Lib.hid (HB.out.trans (hbl.mono HB.out.size))
  clear HB
  have HB := HB'
  clear HB'
  have HA' := Lib.hid (blk_below HA.out hbl)
  clear HA
  have HA := HA'
  clear HA'
  have HC0_12' := Lib.hid (Kd.C_below HC0_12.out hbl)
  clear HC0_12
  have HC0_12 := HC0_12'
  clear HC0_12'
  have HC0_13' := Lib.hid (Kd.C_below HC0_13.out hbl)
  clear HC0_13
  have HC0_13 := HC0_13'
  clear HC0_13'
  have HC0_14' := Lib.hid (Kd.C_below HC0_14.out hbl)
  clear HC0_14
  have HC0_14 := HC0_14'
  clear HC0_14'
  clear hbl
  go_wp2
  go_ret
  exact ⟨rfl, HB.out⟩
set_option maxRecDepth 100000 in
set_option maxHeartbeats 4000000 in
theorem walk_no (a0_0 : Int) (a0_1 : Int) (a0_2 : Int) (a0_3 : Int) (a0_4 : Int) (a0_5 : Int) (a0_6 : Int) (a0_7 : Int) (a0_8 : Int) (a0_9 : Bool) (a0_10 : Int) (a0_11 : Int) (A0_12 : Option Addr) (c0_12 : Nat) (l0_12 : List Int) (A0_13 : Option Addr) (c0_13 : Nat) (l0_13 : List Int) (A0_14 : Option Addr) (c0_14 : Nat) (l0_14 : List Int) (a1 : Int) (w : World) (hr0_12 : Kd.C (Kd.int .i64) w A0_12 l0_12.length l0_12) (hc0_12 : l0_12.length ≤ c0_12) (hr0_13 : Kd.C (Kd.int .i64) w A0_13 l0_13.length l0_13) (hc0_13 : l0_13.length ≤ c0_13) (hr0_14 : Kd.C (Kd.int .u8) w A0_14 l0_14.length l0_14) (hc0_14 : l0_14.length ≤ c0_14) (hbt : bytesL l0_14) (hfew : l0_12.length ≤ 300 ∧ l0_13.length ≤ 300 ∧ l0_14.length ≤ 20000) (hm : ¬ May ⟨a0_0, a0_1, a0_2, a0_3, a0_4, a0_5, a0_6, a0_7, a0_8, a0_9, a0_10, a0_11, l0_12, l0_13, l0_14⟩) :
    Calls Try.prog 6 #[.agg #[.int .i64 a0_0, .int .i64 a0_1, .int .i64 a0_2, .int .i64 a0_3, .int .i64 a0_4, .int .i64 a0_5, .int .i64 a0_6, .int .i64 a0_7, .int .i64 a0_8, .bool a0_9, .int .i64 a0_10, .int .i64 a0_11, .slice A0_12 l0_12.length c0_12, .slice A0_13 l0_13.length c0_13, .slice A0_14 l0_14.length c0_14], .int .i64 a1] w fun e w' => e = .returned (.bool true) ∧ Below w.heap.size w w' := by
  have hurec := Try.underlying27
  have hu23 := Try.underlying23
  have HBt := Lib.hid hbt
  have hwlt : w.heap.size < w.heap.size + 1 := by omega
  have hbl := (Below.refl w.heap.size w).alloc (Nat.le_refl _) (.cells #[.int .i64 a0_0, .int .i64 a0_1, .int .i64 a0_2, .int .i64 a0_3, .int .i64 a0_4, .int .i64 a0_5, .int .i64 a0_6, .int .i64 a0_7, .int .i64 a0_8, .bool a0_9, .int .i64 a0_10, .int .i64 a0_11, .slice A0_12 l0_12.length c0_12, .slice A0_13 l0_13.length c0_13, .slice A0_14 l0_14.length c0_14] 27)
  have HB := Lib.hid hbl
  have HA := Lib.hid (blk_new w (.cells #[.int .i64 a0_0, .int .i64 a0_1, .int .i64 a0_2, .int .i64 a0_3, .int .i64 a0_4, .int .i64 a0_5, .int .i64 a0_6, .int .i64 a0_7, .int .i64 a0_8, .bool a0_9, .int .i64 a0_10, .int .i64 a0_11, .slice A0_12 l0_12.length c0_12, .slice A0_13 l0_13.length c0_13, .slice A0_14 l0_14.length c0_14] 27))
  have HC0_12 := Lib.hid (Kd.C_below hr0_12 hbl)
  have HR0_12 := Lib.hid hr0_12
  have HC0_13 := Lib.hid (Kd.C_below hr0_13 hbl)
  have HR0_13 := Lib.hid hr0_13
  have HC0_14 := Lib.hid (Kd.C_below hr0_14 hbl)
  have HR0_14 := Lib.hid hr0_14
  have hsw : (w.alloc (.cells #[.int .i64 a0_0, .int .i64 a0_1, .int .i64 a0_2, .int .i64 a0_3, .int .i64 a0_4, .int .i64 a0_5, .int .i64 a0_6, .int .i64 a0_7, .int .i64 a0_8, .bool a0_9, .int .i64 a0_10, .int .i64 a0_11, .slice A0_12 l0_12.length c0_12, .slice A0_13 l0_13.length c0_13, .slice A0_14 l0_14.length c0_14] 27)).heap.size = w.heap.size + 1 := by simp
  clear hbl hbt hr0_12 hr0_13 hr0_14
  have hfe := Lib.hid (few_eq ⟨a0_0, a0_1, a0_2, a0_3, a0_4, a0_5, a0_6, a0_7, a0_8, a0_9, a0_10, a0_11, l0_12, l0_13, l0_14⟩)
  go_enter Try.func6, Try.ntmps6
  go_wp2_with fail
  generalize hW0 : w.alloc (.cells #[.int .i64 a0_0, .int .i64 a0_1, .int .i64 a0_2, .int .i64 a0_3, .int .i64 a0_4, .int .i64 a0_5, .int .i64 a0_6, .int .i64 a0_7, .int .i64 a0_8, .bool a0_9, .int .i64 a0_10, .int .i64 a0_11, .slice A0_12 l0_12.length c0_12, .slice A0_13 l0_13.length c0_13, .slice A0_14 l0_14.length c0_14] 27) = W0 at *
  have hws : w.heap.size < W0.heap.size := by omega
  clear hW0 hsw hwlt
  have HC := Lib.hid (voklaw19_first.calls 1000 true W0 (first_eq 1000 (by omega) (by omega)))
  go_wp2_with fail
  refine HC.out.mono ?_
  rintro e w1 ⟨rfl, hbl⟩
  clear HC
  have HB' := Lib.hid (HB.out.trans (hbl.mono HB.out.size))
  clear HB
  have HB := HB'
  clear HB'
  have HA' := Lib.hid (blk_below HA.out hbl)
  clear HA
  have HA := HA'
  clear HA'
  have HC0_12' := Lib.hid (Kd.C_below HC0_12.out hbl)
  clear HC0_12
  have HC0_12 := HC0_12'
  clear HC0_12'
  have HC0_13' := Lib.hid (Kd.C_below HC0_13.out hbl)
  clear HC0_13
  have HC0_13 := HC0_13'
  clear HC0_13'
  have HC0_14' := Lib.hid (Kd.C_below HC0_14.out hbl)
  clear HC0_14
  have HC0_14 := HC0_14'
  clear HC0_14'
  clear hbl
  have hq_ := True.intro
  have xc0 := blk_cell HA.out 0
  have xc1 := blk_cell HA.out 1
  have xc2 := blk_cell HA.out 2
  have xc3 := blk_cell HA.out 3
  have xc4 := blk_cell HA.out 4
  have xc5 := blk_cell HA.out 5
  have xc6 := blk_cell HA.out 6
  have xc7 := blk_cell HA.out 7
  have xc8 := blk_cell HA.out 8
  have xc9 := blk_cell HA.out 9
  have xc10 := blk_cell HA.out 10
  have xc11 := blk_cell HA.out 11
  have xc12 := blk_cell HA.out 12
  have xc13 := blk_cell HA.out 13
  have xc14 := blk_cell HA.out 14
  simp only [List.getElem?_toArray, List.getElem?_cons_succ, List.getElem?_cons_zero] at xc0 xc1 xc2 xc3 xc4 xc5 xc6 xc7 xc8 xc9 xc10 xc11 xc12 xc13 xc14
  have HC := Lib.hid (voklaw19_Few.calls a0_0 a0_1 a0_2 a0_3 a0_4 a0_5 a0_6 a0_7 a0_8 a0_9 a0_10 a0_11 A0_12 c0_12 l0_12 A0_13 c0_13 l0_13 A0_14 c0_14 l0_14 _ w1 HC0_12.out hc0_12 HC0_13.out hc0_13 HC0_14.out hc0_14 hfe.out)
  rw [decide_eq_true hfew] at HC
  go_wp2_with fail
  refine HC.out.mono ?_
  rintro e w2 ⟨rfl, hbl⟩
  clear HC
  clear xc0 xc1 xc2 xc3 xc4 xc5 xc6 xc7 xc8 xc9 xc10 xc11 xc12 xc13 xc14
  have HB' := Lib.hid (HB.out.trans (hbl.mono HB.out.size))
  clear HB
  have HB := HB'
  clear HB'
  have HA' := Lib.hid (blk_below HA.out hbl)
  clear HA
  have HA := HA'
  clear HA'
  have HC0_12' := Lib.hid (Kd.C_below HC0_12.out hbl)
  clear HC0_12
  have HC0_12 := HC0_12'
  clear HC0_12'
  have HC0_13' := Lib.hid (Kd.C_below HC0_13.out hbl)
  clear HC0_13
  have HC0_13 := HC0_13'
  clear HC0_13'
  have HC0_14' := Lib.hid (Kd.C_below HC0_14.out hbl)
  clear HC0_14
  have HC0_14 := HC0_14'
  clear HC0_14'
  clear hbl
  obtain ⟨hfu, hfn, hft⟩ := hfew
  have xc0 := blk_cell HA.out 0
  have xc1 := blk_cell HA.out 1
  have xc2 := blk_cell HA.out 2
  have xc3 := blk_cell HA.out 3
  have xc4 := blk_cell HA.out 4
  have xc5 := blk_cell HA.out 5
  have xc6 := blk_cell HA.out 6
  have xc7 := blk_cell HA.out 7
  have xc8 := blk_cell HA.out 8
  have xc9 := blk_cell HA.out 9
  have xc10 := blk_cell HA.out 10
  have xc11 := blk_cell HA.out 11
  have xc12 := blk_cell HA.out 12
  have xc13 := blk_cell HA.out 13
  have xc14 := blk_cell HA.out 14
  simp only [List.getElem?_toArray, List.getElem?_cons_succ, List.getElem?_cons_zero] at xc0 xc1 xc2 xc3 xc4 xc5 xc6 xc7 xc8 xc9 xc10 xc11 xc12 xc13 xc14
  have HC := Lib.hid (wire_May.calls 1000 a0_0 a0_1 a0_2 a0_3 a0_4 a0_5 a0_6 a0_7 a0_8 a0_9 a0_10 a0_11 A0_12 c0_12 l0_12 A0_13 c0_13 l0_13 A0_14 c0_14 l0_14 _ w2 HC0_12.out hc0_12 HC0_13.out hc0_13 HC0_14.out hc0_14 (may_eq1000 ⟨a0_0, a0_1, a0_2, a0_3, a0_4, a0_5, a0_6, a0_7, a0_8, a0_9, a0_10, a0_11, l0_12, l0_13, l0_14⟩ (by show l0_12.length ≤ 300; omega) (by show l0_13.length ≤ 300; omega) (by show l0_14.length ≤ 20000; omega)))
  rw [mayB_no hm] at HC
  go_wp2_with fail
  refine HC.out.mono ?_
  rintro e w3 ⟨rfl, hbl⟩
  clear HC
  clear xc0 xc1 xc2 xc3 xc4 xc5 xc6 xc7 xc8 xc9 xc10 xc11 xc12 xc13 xc14
  have HB' := Lib.hid (HB.out.trans (hbl.mono HB.out.size))
  clear HB
  have HB := HB'
  clear HB'
  have HA' := Lib.hid (blk_below HA.out hbl)
  clear HA
  have HA := HA'
  clear HA'
  have HC0_12' := Lib.hid (Kd.C_below HC0_12.out hbl)
  clear HC0_12
  have HC0_12 := HC0_12'
  clear HC0_12'
  have HC0_13' := Lib.hid (Kd.C_below HC0_13.out hbl)
  clear HC0_13
  have HC0_13 := HC0_13'
  clear HC0_13'
  have HC0_14' := Lib.hid (Kd.C_below HC0_14.out hbl)
  clear HC0_14
  have HC0_14 := HC0_14'
  clear HC0_14'
  clear hbl
  have HC := Lib.hid (voklaw19_first.calls 1000 true w3 (first_eq 1000 (by omega) (by omega)))
  go_wp2_with fail
  refine HC.out.mono ?_
  rintro e w4 ⟨rfl, hbl⟩
  clear HC
  have HB' := Lib.hid (HB.out.trans (hbl.mono HB.out.size))
  clear HB
  have HB := HB'
  clear HB'
  have HA' := Lib.hid (blk_below HA.out hbl)
  clear HA
  have HA := HA'
  clear HA'
  have HC0_12' := Lib.hid (Kd.C_below HC0_12.out hbl)
  clear HC0_12
  have HC0_12 := HC0_12'
  clear HC0_12'
  have HC0_13' := Lib.hid (Kd.C_below HC0_13.out hbl)
  clear HC0_13
  have HC0_13 := HC0_13'
  clear HC0_13'
  have HC0_14' := Lib.hid (Kd.C_below HC0_14.out hbl)
  clear HC0_14
  have HC0_14 := HC0_14'
  clear HC0_14'
  clear hbl
  go_wp2
  go_ret
  exact ⟨rfl, HB.out⟩
end Go.Proofs.Ytleljfmhefobeaa.WalkWireUnlike
