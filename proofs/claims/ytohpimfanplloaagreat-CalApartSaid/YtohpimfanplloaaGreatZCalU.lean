/- iv.List, iv.Copy, cal.Copy: another one alike. -/
import Derived.Test.YtohpimfanplloaaGreatZCalI
import Derived.Says
import Derived.Outline
import Derived.WalkKit
import Derived.WalkSpells
import Derived.Lib.Hide
import Derived.Deep.QuietTactic
import Derived.Deep.RegionHeld3
import Derived.BigQuiet
import Derived.BigRegion
set_option linter.unusedVariables false
set_option linter.unusedSimpArgs false
namespace Go.Proofs.YtohpimfanplloaaGreat.CalU
open Go.RowKit Go.Proofs.YtohpimfanplloaaGreatW.PrintWords Go.Proofs.YtohpimfanplloaaGreatW.PrintLast Go.Proofs.YtohpimfanplloaaGreatW.PrintMore Go.Proofs.YtohpimfanplloaaGreat.PureI1 Go.Proofs.YtohpimfanplloaaGreat.PureI2 Go.Proofs.YtohpimfanplloaaGreat.IvA Go.Proofs.YtohpimfanplloaaGreat.IvB Go.Proofs.YtohpimfanplloaaGreat.IvC Go.Proofs.YtohpimfanplloaaGreat.IvG Go.Proofs.YtohpimfanplloaaGreat.CalB Go.Proofs.YtohpimfanplloaaGreat.CalD Go.Proofs.YtohpimfanplloaaGreat.CalF Go.Proofs.YtohpimfanplloaaGreat.CalI
theorem cloneT_any (base : Nat) (v : Value) (L : List Tg) (W : World) (h : RowT W base v L) (hm : L.length ≤ 1099511627776) :
    Calls Tryz.prog 112 #[v] W fun e w' => ∃ v', e = .returned v' ∧ RowT w' W.heap.size v' L ∧ Below W.heap.size W w' := by
  obtain ⟨i0, hi, hz0, hz1, hz2⟩ := info_parts info_tg
  rcases row_slice h with ⟨rfl, h0⟩ | ⟨g, c, rfl, hn, hb, hlt⟩
  · have hx : L = [] := List.length_eq_zero_iff.1 h0
    subst hx
    refine (AnyE.slices_Clone_nil Tryz.cloneT 0 0 W).mono ?_
    rintro e w' ⟨rfl, rfl⟩
    exact ⟨_, rfl, own_nil _ _ _ _, Below.refl _ _⟩
  · refine (AnyE.slices_Clone Tryz.cloneT i0 (.agg #[.int .i64 0, .int .i64 0, .int .i64 0]) 3 24 hi hz0 hz1 hz2 rfl (by decide) Tryz.sizeOf46 g 0 L.length c (L.flatMap encT) W (encT_len L) (by unfold maxLen; omega) (by omega) ?_ (oneT L)).mono ?_
    · intro j u hj
      have := (row_cells h j u hj).1
      simpa using this
    · rintro e w' ⟨v', rfl, h1, _, h2⟩
      exact ⟨v', rfl, h1, h2⟩
def ListIs (W : World) (L : List Tg) (e : Ending) (w' : World) : Prop := ∃ v, e = .returned v ∧ RowT w' W.heap.size v L ∧ Below W.heap.size W w'
theorem list_any (F : Nat → Prop) (b : Nat) (L : List Tg) (W : World) (hS : SetAt W F b L) (hm : L.length ≤ 1099511627776) :
    Calls Tryz.prog 85 #[.pointer (some ⟨b, 0, none⟩)] W (ListIs W L) := by
  obtain ⟨_, _, v0, hblk, hrow, _⟩ := hS
  have HCl := Lib.hid (cloneT_any 0 v0 L W hrow hm)
  have c0 : W.cell? ⟨b, 0, none⟩ = some v0 := blk_cell hblk 0
  clear hblk hrow
  go_enter Tryz.func85, Tryz.ntmps85
  go_wp2_with fail
  refine HCl.out.mono ?_
  rintro e w1 ⟨v1, rfl, hr1, hb1⟩
  have HF := Lib.hid (And.intro hr1 hb1)
  clear hr1 hb1
  go_wp2
  go_ret
  exact ⟨v1, rfl, HF.out⟩
/-- A set's copy: its block stands behind all others that the call made. -/
def CopySIs (W : World) (L : List Tg) (e : Ending) (w' : World) : Prop := ∃ b, e = .returned (.pointer (some ⟨b, 0, none⟩)) ∧ SetAt w' (fun q => W.heap.size ≤ q ∧ q < w'.heap.size) b L ∧ Below W.heap.size W w'
theorem copy_any (F : Nat → Prop) (b : Nat) (L : List Tg) (W : World) (hS : SetAt W F b L) (hm : L.length ≤ 1099511627776) :
    Calls Tryz.prog 58 #[.pointer (some ⟨b, 0, none⟩)] W (CopySIs W L) := by
  have HL := Lib.hid (list_any F b L W hS hm)
  have HI := Lib.hid hS.inv
  clear hS
  go_enter Tryz.func58, Tryz.ntmps58
  go_wp2_with fail
  refine HL.out.mono ?_
  rintro e w1 ⟨v1, rfl, hr1, hb1⟩
  obtain ⟨A1, c1, rfl⟩ := own_slice hr1
  have HR := Lib.hid hr1
  have HB := Lib.hid hb1
  clear hr1 hb1
  go_wp2
  go_ret
  refine ⟨w1.heap.size, rfl, ⟨⟨HB.out.size, by simp⟩, HI.out, _, newAt w1 _ _ rfl, own_weaken (HR.out.alloc _) (Nat.zero_le _), fun q hq => ?_⟩, HB.out.alloc HB.out.size _⟩
  have := HR.out.lt q hq
  exact ⟨this.1, by simp; omega⟩
/-! The calendar. -/
def cpK (us : Us) (k : Nat) : Us := us.take k ++ List.replicate (us.length - k) none
theorem cpK_zero (us : Us) : cpK us 0 = List.replicate us.length none := by simp [cpK]
theorem cpK_all (us : Us) : cpK us us.length = us := by simp [cpK]
theorem cpK_len (us : Us) (k : Nat) (h : k ≤ us.length) : (cpK us k).length = us.length := by simp [cpK]; omega
theorem cpK_get (us : Us) (k : Nat) (h : k < us.length) : (cpK us k)[k]? = some none := by
  unfold cpK
  rw [List.getElem?_append_right (by rw [List.length_take]; omega), List.length_take, Nat.min_eq_left (by omega), Nat.sub_self, List.getElem?_replicate, if_pos (by omega)]
theorem cpK_next (us : Us) (k : Nat) (h : k < us.length) : cpK us (k + 1) = (cpK us k).set k us[k] := by
  unfold cpK
  rw [List.set_append_right _ _ (by rw [List.length_take]; omega), List.length_take, Nat.min_eq_left (by omega), Nat.sub_self, show us.length - k = (us.length - (k + 1)) + 1 by omega, List.replicate_succ, List.set_cons_zero, List.take_succ_eq_append_getElem h, List.append_assoc]
  rfl
theorem cpK_none (us : Us) (k : Nat) (h : k < us.length) (hn : us[k] = none) : cpK us (k + 1) = cpK us k := by
  rw [cpK_next us k h, hn]
  apply List.ext_getElem?
  intro i
  by_cases he : k = i
  · subst he
    rw [List.getElem?_set_self (by rw [cpK_len _ _ (by omega)]; exact h), cpK_get _ _ h]
  · rw [List.getElem?_set_ne he]
/-- One pair of sets more. -/
theorem put_copy {W W1 : World} {own : Nat → Nat} {c ub : Nat} {cells : List Value} {us : Us} (h : CalIn W own c ub cells us) {k : Nat} (hk : us[k]? = some none) {p : Pr} {s r sb l1 u1 l2 u2 : Nat}
    (hold : ∀ q, q < W.heap.size → q ≠ ub → W1.heap[q]? = W.heap[q]?) (hs : SetAt W1 (fun q => l1 ≤ q ∧ q < u1) s p.1) (hr : SetAt W1 (fun q => l2 ≤ q ∧ q < u2) r p.2)
    (hl1 : W.heap.size ≤ l1) (hl2 : W.heap.size ≤ l2) (hd : u1 ≤ l2 ∨ u2 ≤ l1) (hsb1 : u1 ≤ sb) (hsb2 : u2 ≤ sb) (hsb0 : W.heap.size ≤ sb)
    (h2 : W1.heap[sb]? = some (.cells #[.pointer (some ⟨s, 0, none⟩), .pointer (some ⟨r, 0, none⟩)] 85 (0, 0)))
    (hub : W1.heap[ub]? = some (.cells (cells.set k (.pointer (some ⟨sb, 0, none⟩))).toArray 81 (0, 0))) :
    ∃ own', CalIn W1 own' c ub (cells.set k (.pointer (some ⟨sb, 0, none⟩))) (us.set k (some p)) ∧ (∀ q, q < W.heap.size → own' q = own q) := by
  have hlt : k < us.length := (List.getElem?_eq_some_iff.1 hk).1
  have hul := blk_lt h.arr
  have hsl := blk_lt h2
  obtain ⟨x0, x1, x2, x3, x4, x5, hb⟩ := h.blk
  have hcl := blk_lt hb
  have hcub : c ≠ ub := fun he => by rw [he] at hb; have := h.arr; rw [hb] at this; cases this
  let own' : Nat → Nat := fun q => if q < W.heap.size then own q else if q = sb then 1 else if l1 ≤ q ∧ q < u1 then 2 * k + 2 else if l2 ≤ q ∧ q < u2 then 2 * k + 3 else 0
  have o1 : ∀ q, q < W.heap.size → own' q = own q := fun q hq => by simp only [own']; rw [if_pos hq]
  have os : ∀ q, l1 ≤ q ∧ q < u1 → own' q = 2 * k + 2 := fun q hq => by simp only [own']; rw [if_neg (by omega), if_neg (by omega), if_pos hq]
  have or_ : ∀ q, l2 ≤ q ∧ q < u2 → own' q = 2 * k + 3 := fun q hq => by simp only [own']; rw [if_neg (by omega), if_neg (by omega), if_neg (by omega), if_pos hq]
  have ob : own' sb = 1 := by simp only [own']; rw [if_neg (by omega)]; simp
  have keep : ∀ (m : Nat), 2 ≤ m → ∀ {b : Nat} {L : List Tg}, SetAt W (fun q => own q = m) b L → SetAt W1 (fun q => own' q = m) b L := fun m hm2 b L hS => by
    have h9 := SetAt_bound hS
    have h8 : SetAt W1 (fun q => own q = m ∧ q < W.heap.size) b L := h9.keep (fun q hq _ => hold q hq.2 (fun he => by rw [he, h.ou] at hq; omega))
    exact h8.mono (fun q hq => by rw [o1 q hq.2]; exact hq.1)
  have hs' := SetAt_bound hs
  have hr' := SetAt_bound hr
  -- what lies past the world's end is nobody's
  let own2 : Nat → Nat := fun q => if q < W1.heap.size then own' q else 0
  have hws : W.heap.size ≤ W1.heap.size := by omega
  have p1 : ∀ q, q < W1.heap.size → own2 q = own' q := fun q hq => by simp only [own2]; rw [if_pos hq]
  have hcl1 : c < W1.heap.size := by omega
  have hul1 : ub < W1.heap.size := by omega
  refine ⟨own2, ⟨⟨x0, x1, x2, x3, x4, x5, by rw [List.length_set]; exact (hold c hcl hcub).trans hb⟩, by rw [p1 c hcl1, o1 c hcl]; exact h.oc, hub, by rw [p1 ub hul1, o1 ub hul]; exact h.ou, by rw [List.length_set, List.length_set]; exact h.len, by rw [List.length_set]; exact h.pos, by rw [List.length_set]; exact h.small, fun i p9 hp => ?_, fun q hq => ?_⟩, fun q hq => by rw [p1 q (by omega), o1 q hq]⟩
  · by_cases hi : k = i
    · subst hi
      rw [List.getElem?_set_self hlt] at hp
      cases hp
      exact ⟨sb, s, r, by rw [List.getD_eq_getElem?_getD, List.getElem?_set_self (by rw [h.len]; exact hlt)]; rfl, h2, by rw [p1 sb hsl]; exact ob, hs'.mono (fun q hq => by rw [p1 q hq.2]; exact os q hq.1), hr'.mono (fun q hq => by rw [p1 q hq.2]; exact or_ q hq.1)⟩
    · rw [List.getElem?_set_ne hi] at hp
      have he := h.each i p9 hp
      have hcell : (cells.set k (.pointer (some ⟨sb, 0, none⟩))).getD i undef = cells.getD i undef := by
        rw [List.getD_eq_getElem?_getD, List.getElem?_set_ne hi, List.getD_eq_getElem?_getD]
      rw [hcell]
      cases p9 with
      | none => exact he
      | some p9 =>
        obtain ⟨sb', s', r', f1, f2, f3, f4, f5⟩ := he
        have hsl := blk_lt f2
        have hne : sb' ≠ ub := fun hq => by rw [hq] at f2; have := h.arr; rw [f2] at this; cases this
        exact ⟨sb', s', r', f1, (hold sb' hsl hne).trans f2, by rw [p1 sb' (by omega), o1 sb' hsl]; exact f3, (SetAt_bound (keep _ (by omega) f4)).mono (fun q hq => by rw [p1 q hq.2]; exact hq.1), (SetAt_bound (keep _ (by omega) f5)).mono (fun q hq => by rw [p1 q hq.2]; exact hq.1)⟩
  · simp only [own2] at hq
    by_cases hlt2 : q < W1.heap.size
    · exact hlt2
    · rw [if_neg hlt2] at hq; exact absurd rfl hq
def CpAt (W : World) (us : Us) (cb ub k : Nat) (wr : World) : Prop :=
  ∃ own cells, CalIn wr own cb ub cells (cpK us k) ∧ (∀ q, own q ≠ 0 → W.heap.size ≤ q) ∧ Below W.heap.size W wr
theorem laid_copy {W wc : World} {us : Us} {cb ub : Nat} (h : LaidAt W W us.length cb ub wc) (hm : 0 < us.length) (hm2 : us.length ≤ 64) : CpAt W us cb ub 0 wc := by
  obtain ⟨h1, ⟨x0, x1, x2, x3, x4, x5, h2⟩, h3, h4, h5⟩ := h
  refine ⟨fun q => if q = cb then 1 else if q = ub then 1 else 0, List.replicate us.length (Value.pointer none), ⟨⟨x0, x1, x2, x3, x4, x5, by rw [cpK_len _ _ (Nat.zero_le _)]; exact h2⟩, by simp, h3, by simp, by rw [cpK_len _ _ (Nat.zero_le _)]; simp, by rw [cpK_len _ _ (Nat.zero_le _)]; exact hm, by rw [cpK_len _ _ (Nat.zero_le _)]; exact hm2, fun i p hp => ?_, fun q hq => ?_⟩, fun q hq => ?_, h1⟩
  · have hi : i < us.length := by have := (List.getElem?_eq_some_iff.1 hp).1; rwa [cpK_len _ _ (Nat.zero_le _)] at this
    rw [cpK_zero, List.getElem?_replicate, if_pos hi] at hp
    cases hp
    show (List.replicate us.length (Value.pointer none)).getD i undef = _
    simp [hi]
  · by_cases e1 : q = cb
    · rw [e1]; exact blk_lt h2
    · by_cases e2 : q = ub
      · rw [e2]; exact blk_lt h3
      · simp [e1, e2] at hq
  · by_cases e1 : q = cb
    · rw [e1]; exact h4
    · by_cases e2 : q = ub
      · rw [e2]; exact h5
      · simp [e1, e2] at hq
/-- Two copies more, their pair, and the pair's place. -/
theorem cp_step {W wr w6 : World} {us : Us} {cb ub k : Nat} {own : Nat → Nat} {cells : List Value} (hC : CalIn wr own cb ub cells (cpK us k)) (hlt : k < us.length) (hown : ∀ q, own q ≠ 0 → W.heap.size ≤ q) (hbw : Below W.heap.size W wr)
    {p : Pr} (hp : us[k] = some p) {s r l1 u1 l2 u2 : Nat} (hz : Below wr.heap.size wr w6) (hs : SetAt w6 (fun q => l1 ≤ q ∧ q < u1) s p.1) (hr : SetAt w6 (fun q => l2 ≤ q ∧ q < u2) r p.2)
    (hl1 : wr.heap.size ≤ l1) (hl2 : wr.heap.size ≤ l2) (hd : u1 ≤ l2 ∨ u2 ≤ l1) (hu1 : u1 ≤ w6.heap.size) (hu2 : u2 ≤ w6.heap.size) :
    CpAt W us cb ub (k + 1) ((w6.alloc (.cells #[.pointer (some ⟨s, 0, none⟩), .pointer (some ⟨r, 0, none⟩)] 85)).setCell ⟨ub, k, none⟩ (.pointer (some ⟨w6.heap.size, 0, none⟩))) := by
  have hul := blk_lt hC.arr
  have hsz := hz.size
  have hfar : ∀ q, q < w6.heap.size → q ≠ ub → ((w6.alloc (.cells #[.pointer (some ⟨s, 0, none⟩), .pointer (some ⟨r, 0, none⟩)] 85)).setCell ⟨ub, k, none⟩ (.pointer (some ⟨w6.heap.size, 0, none⟩))).heap[q]? = w6.heap[q]? := fun q hq hne =>
    (Below.heap_setCell _ ⟨ub, k, none⟩ _ q hne).trans ((below_alloc (Below.refl _ w6) _).block q hq)
  obtain ⟨own', h1, h2⟩ := put_copy hC (cpK_get us k hlt) (p := p) (s := s) (r := r) (sb := w6.heap.size) (l1 := l1) (u1 := u1) (l2 := l2) (u2 := u2)
    (W1 := (w6.alloc (.cells #[.pointer (some ⟨s, 0, none⟩), .pointer (some ⟨r, 0, none⟩)] 85)).setCell ⟨ub, k, none⟩ (.pointer (some ⟨w6.heap.size, 0, none⟩)))
    (fun q hq hne => (hfar q (by omega) hne).trans (hz.block q hq))
    (hs.keep (fun q hq hlt9 => hfar q hlt9 (by omega))) (hr.keep (fun q hq hlt9 => hfar q hlt9 (by omega))) hl1 hl2 hd hu1 hu2 hsz
    (blk_far (newAt w6 _ _ rfl) (by dsimp only; omega) _)
    (by
      have := blk_set (blk_alloc (blk_below hC.arr hz) (.cells #[.pointer (some ⟨s, 0, none⟩), .pointer (some ⟨r, 0, none⟩)] 85)) k (.pointer (some ⟨w6.heap.size, 0, none⟩))
      refine this.trans ?_
      rw [List.setIfInBounds_toArray])
  refine ⟨own', _, by rw [cpK_next us k hlt, hp]; exact h1, fun q hq => ?_, ?_⟩
  · by_cases hq2 : q < wr.heap.size
    · rw [h2 q hq2] at hq; exact hown q hq
    · have := hbw.size; omega
  · have h9 := hown ub (by rw [hC.ou]; omega)
    exact (hbw.trans ((hz.alloc hsz _).mono hbw.size)).setCell h9 _
def CopyCIs (W : World) (us : Us) (e : Ending) (w' : World) : Prop := ∃ own c ub cells, e = .returned (.pointer (some ⟨c, 0, none⟩)) ∧ CalIn w' own c ub cells us ∧ (∀ q, own q ≠ 0 → W.heap.size ≤ q) ∧ Below W.heap.size W w'
set_option maxHeartbeats 2000000 in
set_option maxRecDepth 100000 in
theorem copyC_any (own0 : Nat → Nat) (c0 ub0 : Nat) (cells0 : List Value) (us : Us) (N : Nat) (W : World) (hC : CalIn W own0 c0 ub0 cells0 us) (hN : Small us N) (hm : N ≤ 1099511627776) :
    Calls Tryz.prog 32 #[.pointer (some ⟨c0, 0, none⟩)] W (CopyCIs W us) := by
  have hm1 := hC.pos
  have hm2 := hC.small
  have hmk := print_make_of (P := Tryz.prog) 78 81 (Value.pointer none) 8 Tryz.underlying78 info_ps rfl (by decide) us.length (by omega)
  have HC := Lib.hid hC
  have HN := Lib.hid hN
  obtain ⟨x0, x1, x2, x3, x4, nd, hb⟩ := hC.blk
  have k0 : W.cell? ⟨c0, 0, none⟩ = some x0 := blk_cell hb 0
  have k1 : W.cell? ⟨c0, 1, none⟩ = some x1 := blk_cell hb 1
  have k2 : W.cell? ⟨c0, 2, none⟩ = some x2 := blk_cell hb 2
  have k3 : W.cell? ⟨c0, 3, none⟩ = some x3 := blk_cell hb 3
  have k4 : W.cell? ⟨c0, 4, none⟩ = some x4 := blk_cell hb 4
  have k5 : W.cell? ⟨c0, 5, none⟩ = some (.int .i64 nd) := blk_cell hb 5
  have k6 : W.cell? ⟨c0, 6, none⟩ = some (.slice (some ⟨ub0, 0, none⟩) us.length us.length) := blk_cell hb 6
  have hcl := blk_lt hb
  have HBk := Lib.hid hb
  clear hC hN hb
  go_enter Tryz.func32, Tryz.ntmps32
  go_wp2_with fail
  go_cut [3] (fun v3 wc => ∃ cb ub : Nat, v3 = .pointer (some ⟨cb, 0, none⟩) ∧ Hid (LaidAt W W us.length cb ub wc))
  case first =>
    have hn0 : W.heap.size ≠ c0 := by omega
    have hn1 : c0 ≠ W.heap.size := by omega
    go_region_held3 (fun w' => w'.cell? ⟨c0, 0, none⟩ = some x0 ∧ w'.cell? ⟨c0, 1, none⟩ = some x1 ∧ w'.cell? ⟨c0, 2, none⟩ = some x2 ∧ w'.cell? ⟨c0, 3, none⟩ = some x3 ∧ w'.cell? ⟨c0, 4, none⟩ = some x4 ∧ w'.cell? ⟨c0, 5, none⟩ = some (.int .i64 nd) ∧ w'.cell? ⟨c0, 6, none⟩ = some (.slice (some ⟨ub0, 0, none⟩) us.length us.length))
      (((try dsimp only); (repeat' apply And.intro) <;> first | (with_reducible assumption) | go_keep)) (fail)
    all_goals
      go_wp2_with fail
      go_meet
      first | exact ⟨_, _, rfl, Lib.hid (laid1 (below_drew (Below.refl _ _)))⟩ | exact ⟨_, _, rfl, Lib.hid (laid1 (Below.refl _ _))⟩
  case rest =>
    obtain ⟨cb, ub, rfl, HL⟩ := hcut
    have hN0 : Hid (CpAt W us cb ub 0 wc) := Lib.hid (laid_copy HL.out hm1 hm2)
    have hbw := HL.out.1
    have k6' : wc.cell? ⟨c0, 6, none⟩ = some (.slice (some ⟨ub0, 0, none⟩) us.length us.length) := (hbw.cell (p := ⟨c0, 6, none⟩) hcl).trans k6
    clear HL hmk k0 k1 k2 k3 k4 k5 k6 hbw
    go_wp2_with fail
    clear k6'
    go_loopw [27] (fun i wr => ∃ k : Nat, i = .int .i64 k ∧ k ≤ us.length ∧ Hid (CpAt W us cb ub k wr)) (fun i _ => us.length - (intOf i).toNat)
    case atStart => exact ⟨0, by go_num, Nat.zero_le _, hN0⟩
    case round =>
      clear hN0
      obtain ⟨k, rfl, hk, HA⟩ := hrel
      obtain ⟨own, cells, hC, hown, hbw⟩ := HA.out
      by_cases hlt : k < us.length
      · have hC0 := HC.out.below hbw
        have hgk := arr_cell hC0.arr k (by rw [hC0.len]; exact hlt)
        have hul0 := blk_lt hC0.arr
        have hea := hC0.each k us[k] (List.getElem?_eq_getElem hlt)
        have i1 : (0 : Int) ≤ (k : Int) := by omega
        have i2 : (k : Int) < (us.length : Int) := by omega
        cases hp : us[k] with
        | none =>
          rw [hp] at hea
          have hea2 : cells0.getD k undef = .pointer none := hea
          rw [hea2] at hgk
          have HF : Hid (CpAt W us cb ub (k + 1) wr) := Lib.hid (by rw [show CpAt W us cb ub (k + 1) wr = CpAt W us cb ub k wr by unfold CpAt; rw [cpK_none us k hlt hp]]; exact HA.out)
          clear hea hea2 hp hC hown hbw hC0
          go_wp2_with fail
          go_roundw
          case measure => simp [intOf]; omega
          case rel => exact ⟨k + 1, by go_num, by omega, HF⟩
        | some p =>
          rw [hp] at hea
          obtain ⟨sb0, s0, r0, f1, f2, f3, f4, f5⟩ := hea
          rw [f1] at hgk
          have hNp := HN.out p (List.mem_of_getElem? (by rw [List.getElem?_eq_getElem hlt, hp]))
          have hl1 : p.1.length ≤ 1099511627776 := by omega
          have hl2 : p.2.length ≤ 1099511627776 := by omega
          have HA1 : Hid (∀ w', Below wr.heap.size wr w' → Calls Tryz.prog 58 #[.pointer (some ⟨s0, 0, none⟩)] w' (CopySIs w' p.1)) := Lib.hid (fun w' hb => copy_any _ s0 p.1 w' (f4.below hb) hl1)
          have HB1 : Hid (∀ w', Below wr.heap.size wr w' → Calls Tryz.prog 58 #[.pointer (some ⟨r0, 0, none⟩)] w' (CopySIs w' p.2)) := Lib.hid (fun w' hb => copy_any _ r0 p.2 w' (f5.below hb) hl2)
          have HA0 := Lib.hid (HA1.out wr.drew (below_drew (Below.refl _ _)))
          have HB0 := Lib.hid (HB1.out wr.drew (below_drew (Below.refl _ _)))
          have q0 : wr.cell? ⟨sb0, 0, none⟩ = some (.pointer (some ⟨s0, 0, none⟩)) := blk_cell f2 0
          have q1 : wr.cell? ⟨sb0, 1, none⟩ = some (.pointer (some ⟨r0, 0, none⟩)) := blk_cell f2 1
          have hsb0 := blk_lt f2
          obtain ⟨y0, y1, y2, y3, y4, ny, hcb2⟩ := hC.blk
          rw [cpK_len _ _ (by omega)] at hcb2
          have g6 : wr.cell? ⟨cb, 6, none⟩ = some (.slice (some ⟨ub, 0, none⟩) us.length us.length) := blk_cell hcb2 6
          have harr := hC.arr
          have hlen := hC.len
          rw [cpK_len _ _ (by omega)] at hlen
          have hgk2 := arr_cell harr k (by omega)
          have hnk : cells.getD k undef = .pointer none := hC.each k none (cpK_get us k hlt)
          rw [hnk] at hgk2
          have hfk := blk_frozen harr k
          have hcl2 := blk_lt hcb2
          have hul := blk_lt harr
          have hcu : cb ≠ ub := fun he => by rw [he] at hcb2; rw [hcb2] at harr; cases harr
          have hsu : sb0 ≠ ub := fun he => by rw [he] at f2; rw [f2] at harr; cases harr
          have HCC := Lib.hid hC
          have HOwn := Lib.hid hown
          have HBw := Lib.hid hbw
          have HP := Lib.hid hp
          have HCb := Lib.hid hcb2
          have HK : Hid (∀ w', Below wr.heap.size wr w' → w'.cell? ⟨cb, 6, none⟩ = some (.slice (some ⟨ub, 0, none⟩) us.length us.length) ∧ w'.cell? ⟨sb0, 0, none⟩ = some (.pointer (some ⟨s0, 0, none⟩)) ∧ w'.cell? ⟨sb0, 1, none⟩ = some (.pointer (some ⟨r0, 0, none⟩))) := Lib.hid (fun w' hb => ⟨(hb.cell (p := ⟨cb, 6, none⟩) hcl2).trans g6, (hb.cell (p := ⟨sb0, 0, none⟩) hsb0).trans q0, (hb.cell (p := ⟨sb0, 1, none⟩) hsb0).trans q1⟩)
          have HKA : Hid (∀ (w' : World) (o : Obj), Below wr.heap.size wr w' → (w'.alloc o).cell? ⟨cb, 6, none⟩ = some (.slice (some ⟨ub, 0, none⟩) us.length us.length) ∧ (w'.alloc o).cell? ⟨sb0, 0, none⟩ = some (.pointer (some ⟨s0, 0, none⟩)) ∧ (w'.alloc o).cell? ⟨sb0, 1, none⟩ = some (.pointer (some ⟨r0, 0, none⟩))) := Lib.hid (fun w' o hb => HK.out _ (hb.alloc hb.size o))
          have HKS : Hid (∀ (w' : World) (o : Obj) (x : Value), Below wr.heap.size wr w' → ((w'.alloc o).setCell ⟨ub, k, none⟩ x).cell? ⟨cb, 6, none⟩ = some (.slice (some ⟨ub, 0, none⟩) us.length us.length) ∧ ((w'.alloc o).setCell ⟨ub, k, none⟩ x).cell? ⟨sb0, 0, none⟩ = some (.pointer (some ⟨s0, 0, none⟩)) ∧ ((w'.alloc o).setCell ⟨ub, k, none⟩ x).cell? ⟨sb0, 1, none⟩ = some (.pointer (some ⟨r0, 0, none⟩))) := Lib.hid (fun w' o x hb => ⟨(World.cell?_of_block (Below.heap_setCell _ ⟨ub, k, none⟩ x cb hcu)).trans (HKA.out w' o hb).1, (World.cell?_of_block (Below.heap_setCell _ ⟨ub, k, none⟩ x sb0 hsu)).trans (HKA.out w' o hb).2.1, (World.cell?_of_block (Below.heap_setCell _ ⟨ub, k, none⟩ x sb0 hsu)).trans (HKA.out w' o hb).2.2⟩)
          have HKU : Hid (∀ (w' : World) (o : Obj), Below wr.heap.size wr w' → (w'.alloc o).cell? ⟨ub, k, none⟩ = some (.pointer none) ∧ (w'.alloc o).frozen? ⟨ub, k, none⟩ = false) := Lib.hid (fun w' o hb => ⟨((hb.alloc hb.size o).cell (p := ⟨ub, k, none⟩) hul).trans hgk2, ((hb.alloc hb.size o).frozen (p := ⟨ub, k, none⟩) hul).trans hfk⟩)
          clear hcb2 harr hlen hnk hC hown hbw hp hC0 f1 f2 f3 f4 f5 hNp hl1 hl2 HA
          go_wp2_with fail
          go_region_held3 (fun w' => w'.cell? ⟨cb, 6, none⟩ = some (.slice (some ⟨ub, 0, none⟩) us.length us.length) ∧ w'.cell? ⟨sb0, 0, none⟩ = some (.pointer (some ⟨s0, 0, none⟩)) ∧ w'.cell? ⟨sb0, 1, none⟩ = some (.pointer (some ⟨r0, 0, none⟩)))
            (((try dsimp only); (repeat' apply And.intro) <;> first | (with_reducible assumption) | (with_reducible exact (HKA.out _ _ hz6).1) | (with_reducible exact (HKA.out _ _ hz6).2.1) | (with_reducible exact (HKA.out _ _ hz6).2.2) | (with_reducible exact (HKS.out _ _ _ hz6).1) | (with_reducible exact (HKS.out _ _ _ hz6).2.1) | (with_reducible exact (HKS.out _ _ _ hz6).2.2) | (with_reducible exact (HKA.out _ _ hz8).1) | (with_reducible exact (HKA.out _ _ hz8).2.1) | (with_reducible exact (HKA.out _ _ hz8).2.2) | (with_reducible exact (HKS.out _ _ _ hz8).1) | (with_reducible exact (HKS.out _ _ _ hz8).2.1) | (with_reducible exact (HKS.out _ _ _ hz8).2.2) | go_keep))
            (first | (go_at_call 58; (with_reducible refine HA0.out.mono ?_); rintro e w5 ⟨b5, rfl, hs5, hb5⟩; (have hz5 : Below wr.heap.size wr w5 := below_then (below_drew (Below.refl _ _)) (Nat.le_refl _) hb5); (have a1 := (HK.out w5 hz5).1); (have a2 := (HK.out w5 hz5).2.1); (have a3 := (HK.out w5 hz5).2.2); (have HB5 := Lib.hid (HB1.out w5 hz5))) | (go_at_call 58; (with_reducible refine HB5.out.mono ?_); rintro e w6 ⟨b6, rfl, hs6, hb6⟩; (have hz6 : Below wr.heap.size wr w6 := hz5.trans (hb6.mono hz5.size)); (have a1 := (HK.out w6 hz6).1); (have a2 := (HK.out w6 hz6).2.1); (have a3 := (HK.out w6 hz6).2.2); (have u1 := fun o => (HKU.out w6 o hz6).1); (have u2 := fun o => (HKU.out w6 o hz6).2); (have n1 : w6.heap.size ≠ ub := by have := hz6.size; omega); (have n2 : ub ≠ w6.heap.size := by have := hz6.size; omega)) | (go_at_call 58; (with_reducible refine HB0.out.mono ?_); rintro e w7 ⟨b7, rfl, hs7, hb7⟩; (have hz7 : Below wr.heap.size wr w7 := below_then (below_drew (Below.refl _ _)) (Nat.le_refl _) hb7); (have a1 := (HK.out w7 hz7).1); (have a2 := (HK.out w7 hz7).2.1); (have a3 := (HK.out w7 hz7).2.2); (have HA7 := Lib.hid (HA1.out w7 hz7))) | (go_at_call 58; (with_reducible refine HA7.out.mono ?_); rintro e w8 ⟨b8, rfl, hs8, hb8⟩; (have hz8 : Below wr.heap.size wr w8 := hz7.trans (hb8.mono hz7.size)); (have a1 := (HK.out w8 hz8).1); (have a2 := (HK.out w8 hz8).2.1); (have a3 := (HK.out w8 hz8).2.2); (have u1 := fun o => (HKU.out w8 o hz8).1); (have u2 := fun o => (HKU.out w8 o hz8).2); (have n1 : w8.heap.size ≠ ub := by have := hz8.size; omega); (have n2 : ub ≠ w8.heap.size := by have := hz8.size; omega)))
          all_goals
            go_wp2_with fail
            go_roundw
            case measure => simp [intOf]; omega
            case rel =>
              first
                | exact ⟨k + 1, by go_num, by omega, Lib.hid (cp_step HCC.out hlt HOwn.out HBw.out HP.out hz6 (hs5.below hb6) hs6 (Nat.le_refl _) hz5.size (.inl (Nat.le_refl _)) hb6.size (Nat.le_refl _))⟩
                | exact ⟨k + 1, by go_num, by omega, Lib.hid (cp_step HCC.out hlt HOwn.out HBw.out HP.out hz8 hs8 (hs7.below hb8) hz7.size (Nat.le_refl _) (.inr (Nat.le_refl _)) (Nat.le_refl _) hb8.size)⟩
      · obtain rfl : k = us.length := by omega
        rw [cpK_all] at hC
        have HF := Lib.hid (And.intro hC (And.intro hown hbw))
        clear hC hown hbw HA
        go_wp2_with fail
        go_ret
        exact ⟨own, cb, ub, cells, rfl, HF.out⟩
end Go.Proofs.YtohpimfanplloaaGreat.CalU
