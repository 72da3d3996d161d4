/- cal.New. -/
import Derived.Test.YtohpimfanplloaaGreatZCalG
import Derived.Test.YtohpimfanplloaaGreatZCalF
import Derived.Test.YtohpimfanplloaaGreatZGIx3
import Derived.Test.YtohpimfanplloaaGreatZV
import Derived.WalkKit
import Derived.WalkSpells
import Derived.Lib.Hide
import Derived.Deep.RegionHeld3
import Derived.Deep.DeepCutAuto
set_option linter.unusedVariables false
set_option linter.unusedSimpArgs false
namespace Go.Proofs.YtohpimfanplloaaGreat.CalH
open Go.RowKit Go.Proofs.YtohpimfanplloaaGreatW.PrintWords Go.Proofs.YtohpimfanplloaaGreatW.PrintLast Go.Proofs.YtohpimfanplloaaGreatW.PrintMore Go.Proofs.YtohpimfanplloaaGreat.PureI1 Go.Proofs.YtohpimfanplloaaGreat.PureI2 Go.Proofs.YtohpimfanplloaaGreat.IvA Go.Proofs.YtohpimfanplloaaGreat.IvC Go.Proofs.YtohpimfanplloaaGreat.IvG Go.Proofs.YtohpimfanplloaaGreat.CalB Go.Proofs.YtohpimfanplloaaGreat.CalD Go.Proofs.YtohpimfanplloaaGreat.CalG Go.Proofs.YtohpimfanplloaaGreat.GI

/-- A user's home. -/
def homeF (n u i : Int) : Int := if i < 0 then -1 else if u ≤ i then -1 else if n < 1 then -1 else i % n
set_option maxHeartbeats 1000000 in
theorem home_any (n u i : Int) (A : Option Addr) (m c : Nat) (lo hi : Int) (w : World) (hn : n ≤ 1099511627776) (hi9 : i ≤ 1099511627776 ∨ u ≤ i) :
    Calls Tryz.prog 11 #[.agg #[.int .i64 n, .int .i64 u, .slice A m c, .int .i64 lo, .int .i64 hi], .int .i64 i] w fun e w' => e = .returned (.int .i64 (homeF n u i)) ∧ Below w.heap.size w w' := by
  unfold homeF
  by_cases h1 : i < 0
  · rw [if_pos h1]
    have d1 : decide (i < 0) = true := decide_eq_true h1
    go_enter Tryz.func11, Tryz.ntmps11
    go_wp2
    go_ret
    exact ⟨rfl, (Below.refl _ _).alloc (Nat.le_refl _) _⟩
  · rw [if_neg h1]
    have d1 : decide (i < 0) = false := decide_eq_false h1
    by_cases h2 : u ≤ i
    · rw [if_pos h2]
      have d2 : decide (u ≤ i) = true := decide_eq_true h2
      go_enter Tryz.func11, Tryz.ntmps11
      go_wp2
      go_ret
      exact ⟨rfl, (Below.refl _ _).alloc (Nat.le_refl _) _⟩
    · rw [if_neg h2]
      have d2 : decide (u ≤ i) = false := decide_eq_false h2
      by_cases h3 : n < 1
      · rw [if_pos h3]
        have d3 : decide (n < 1) = true := decide_eq_true h3
        go_enter Tryz.func11, Tryz.ntmps11
        go_wp2
        go_ret
        exact ⟨rfl, (Below.refl _ _).alloc (Nat.le_refl _) _⟩
      · rw [if_neg h3]
        have d3 : decide (n < 1) = false := decide_eq_false h3
        have h4 : 0 ≤ i := by omega
        have h5 : 1 ≤ n := by omega
        go_enter Tryz.func11, Tryz.ntmps11
        go_wp2
        go_ret
        exact ⟨rfl, (Below.refl _ _).alloc (Nat.le_refl _) _⟩

theorem j0_no (k : Nat) (a b : Int) (l : List S75) (lo hi : Int) : cal_May.j0 k true a b l lo hi ≠ some true := by
  cases k with
  | zero => simp [cal_May.j0]
  | succ k => simp [cal_May.j0]
theorem may_bounds {k : Nat} {n u : Int} {l : List S75} {lo hi : Int} (h : cal_May.f k n u l lo hi = some true) : 1 ≤ n ∧ n ≤ 16 ∧ 1 ≤ u ∧ u ≤ 64 ∧ 1 ≤ l.length ∧ l.length ≤ 16 := by
  unfold cal_May.f at h
  by_cases h1 : n < 1
  · rw [if_pos h1] at h; exact absurd h (j0_no _ _ _ _ _ _)
  rw [if_neg h1] at h
  by_cases h2 : n > 16
  · rw [if_pos h2] at h; exact absurd h (j0_no _ _ _ _ _ _)
  rw [if_neg h2] at h
  by_cases h3 : u < 1
  · rw [if_pos h3] at h; exact absurd h (j0_no _ _ _ _ _ _)
  rw [if_neg h3] at h
  by_cases h4 : u > 64
  · rw [if_pos h4] at h; exact absurd h (j0_no _ _ _ _ _ _)
  rw [if_neg h4] at h
  by_cases h5 : (l.length : Int) < 1
  · rw [if_pos h5] at h; exact absurd h (j0_no _ _ _ _ _ _)
  rw [if_neg h5] at h
  by_cases h6 : (l.length : Int) > 16
  · rw [decide_eq_true h6] at h; exact absurd h (j0_no _ _ _ _ _ _)
  omega
def newP (n u node : Int) (i : Nat) : Option Pr := if homeF n u i = node then some ([], []) else none
/-- The first k users decided. -/
def newK (n u node : Int) (m k : Nat) : Us := (List.range m).map (fun i => if i < k then newP n u node i else none)
theorem newK_len (n u node : Int) (m k : Nat) : (newK n u node m k).length = m := by simp [newK]
theorem newK_get (n u node : Int) (m k i : Nat) (h : i < m) : (newK n u node m k)[i]? = some (if i < k then newP n u node i else none) := by
  unfold newK
  rw [List.getElem?_map, List.getElem?_range h]
  rfl
theorem newK_next (n u node : Int) (m k : Nat) (h : k < m) : newK n u node m (k + 1) = (newK n u node m k).set k (newP n u node k) := by
  apply List.ext_getElem?
  intro i
  by_cases hi : i < m
  · rw [newK_get _ _ _ _ _ _ hi]
    by_cases he : k = i
    · subst he
      rw [List.getElem?_set_self (by rw [newK_len]; exact h), if_pos (by omega)]
    · rw [List.getElem?_set_ne he, newK_get _ _ _ _ _ _ hi]
      by_cases hlt : i < k
      · rw [if_pos hlt, if_pos (by omega)]
      · rw [if_neg hlt, if_neg (by omega)]
  · rw [List.getElem?_eq_none (by rw [newK_len]; omega), List.getElem?_eq_none (by rw [List.length_set, newK_len]; omega)]
theorem newK_same (n u node : Int) (m k : Nat) (h : k < m) (hp : newP n u node k = none) : newK n u node m (k + 1) = newK n u node m k := by
  rw [newK_next _ _ _ _ _ h, hp]
  apply List.ext_getElem?
  intro i
  by_cases he : k = i
  · subst he
    rw [List.getElem?_set_self (by rw [newK_len]; exact h), newK_get _ _ _ _ _ _ h, if_neg (by omega)]
  · rw [List.getElem?_set_ne he]
/-- Two sets more, and their pair. -/
theorem put_new {W : World} {own : Nat → Nat} {c ub : Nat} {cells : List Value} {us : Us} (h : CalIn W own c ub cells us) {k : Nat} (hk : us[k]? = some none) {s r : Nat} (hsr : (s = W.heap.size ∧ r = W.heap.size + 1) ∨ (s = W.heap.size + 1 ∧ r = W.heap.size)) {W1 : World}
    (hold : ∀ q, q < W.heap.size → q ≠ ub → W1.heap[q]? = W.heap[q]?) (hsz : W1.heap.size = W.heap.size + 3)
    (h0 : W1.heap[W.heap.size]? = some (.cells #[.slice none 0 0] 122 (0, 0))) (h1 : W1.heap[W.heap.size + 1]? = some (.cells #[.slice none 0 0] 122 (0, 0)))
    (h2 : W1.heap[W.heap.size + 2]? = some (.cells #[.pointer (some ⟨s, 0, none⟩), .pointer (some ⟨r, 0, none⟩)] 85 (0, 0)))
    (hub : W1.heap[ub]? = some (.cells (cells.set k (.pointer (some ⟨W.heap.size + 2, 0, none⟩))).toArray 81 (0, 0))) :
    ∃ own', CalIn W1 own' c ub (cells.set k (.pointer (some ⟨W.heap.size + 2, 0, none⟩))) (us.set k (some ([], []))) ∧ (∀ q, q < W.heap.size → own' q = own q) := by
  have hlt : k < us.length := (List.getElem?_eq_some_iff.1 hk).1
  have hul := blk_lt h.arr
  obtain ⟨x0, x1, x2, x3, x4, x5, hb⟩ := h.blk
  have hcl := blk_lt hb
  have hcub : c ≠ ub := fun he => by rw [he] at hb; have := h.arr; rw [hb] at this; cases this
  let own' : Nat → Nat := fun q => if q < W.heap.size then own q else if q = s then 2 * k + 2 else if q = r then 2 * k + 3 else if q = W.heap.size + 2 then 1 else 0
  have o1 : ∀ q, q < W.heap.size → own' q = own q := fun q hq => by simp only [own']; rw [if_pos hq]
  have os : own' s = 2 * k + 2 := by simp only [own']; rw [if_neg (by omega)]; simp
  have or_ : own' r = 2 * k + 3 := by simp only [own']; rw [if_neg (by omega), if_neg (by omega)]; simp
  have ob : own' (W.heap.size + 2) = 1 := by simp only [own']; rw [if_neg (by omega), if_neg (by omega), if_neg (by omega)]; simp
  have hs1 : W1.heap[s]? = some (.cells #[.slice none 0 0] 122 (0, 0)) := by rcases hsr with h | h <;> rw [h.1] <;> assumption
  have hr1 : W1.heap[r]? = some (.cells #[.slice none 0 0] 122 (0, 0)) := by rcases hsr with h | h <;> rw [h.2] <;> assumption
  have keep : ∀ (m : Nat), 2 ≤ m → ∀ {b : Nat} {L : List Tg}, SetAt W (fun q => own q = m) b L → SetAt W1 (fun q => own' q = m) b L := fun m hm2 b L hS => by
    have h9 := SetAt_bound hS
    have h8 : SetAt W1 (fun q => own q = m ∧ q < W.heap.size) b L := h9.keep (fun q hq _ => hold q hq.2 (fun he => by rw [he, h.ou] at hq; omega))
    exact h8.mono (fun q hq => by rw [o1 q hq.2]; exact hq.1)
  refine ⟨own', ⟨⟨x0, x1, x2, x3, x4, x5, by rw [List.length_set]; exact (hold c hcl hcub).trans hb⟩, by rw [o1 c hcl]; exact h.oc, hub, by rw [o1 ub hul]; exact h.ou, by rw [List.length_set, List.length_set]; exact h.len, by rw [List.length_set]; exact h.pos, by rw [List.length_set]; exact h.small, fun i p hp => ?_, fun q hq => ?_⟩, o1⟩
  · by_cases hi : k = i
    · subst hi
      rw [List.getElem?_set_self hlt] at hp
      cases hp
      refine ⟨W.heap.size + 2, s, r, by rw [List.getD_eq_getElem?_getD, List.getElem?_set_self (by rw [h.len]; exact hlt)]; rfl, h2, ob, ⟨os, Inv.nil, _, hs1, own_nil _ _ _ _, fun q hq => by cases hq⟩, ⟨or_, Inv.nil, _, hr1, own_nil _ _ _ _, fun q hq => by cases hq⟩⟩
    · rw [List.getElem?_set_ne hi] at hp
      have he := h.each i p hp
      have hcell : (cells.set k (.pointer (some ⟨W.heap.size + 2, 0, none⟩))).getD i undef = cells.getD i undef := by
        rw [List.getD_eq_getElem?_getD, List.getElem?_set_ne hi, List.getD_eq_getElem?_getD]
      rw [hcell]
      cases p with
      | none => exact he
      | some p =>
        obtain ⟨sb', s', r', f1, f2, f3, f4, f5⟩ := he
        have hsl := blk_lt f2
        have hne : sb' ≠ ub := fun hq => by rw [hq] at f2; have := h.arr; rw [f2] at this; cases this
        exact ⟨sb', s', r', f1, (hold sb' hsl hne).trans f2, by rw [o1 sb' hsl]; exact f3, keep _ (by omega) f4, keep _ (by omega) f5⟩
  · simp only [own'] at hq
    by_cases hlt2 : q < W.heap.size
    · omega
    · rw [if_neg hlt2] at hq
      by_cases e1 : q = s
      · omega
      · rw [if_neg e1] at hq
        by_cases e2 : q = r
        · omega
        · rw [if_neg e2] at hq
          by_cases e3 : q = W.heap.size + 2
          · omega
          · rw [if_neg e3] at hq; exact absurd rfl hq

def NewNo (w : World) (e : Ending) (w' : World) : Prop := e = .returned (.tuple #[.pointer none, .int .i64 1]) ∧ Below w.heap.size w w'
def NewIs (w : World) (us : Us) (e : Ending) (w' : World) : Prop := ∃ own c ub cells, e = .returned (.tuple #[.pointer (some ⟨c, 0, none⟩), .int .i64 0]) ∧ CalIn w' own c ub cells us ∧ (∀ q, own q ≠ 0 → w.heap.size ≤ q) ∧ Below w.heap.size w w'
set_option maxHeartbeats 2000000 in
set_option maxRecDepth 100000 in
theorem new_no (k : Nat) (n u : Int) (A : Option Addr) (c : Nat) (l : List S75) (lo hi node : Int) (mb : Bool) (w : World) (hr : Kd.C k75 w A l.length l) (hc : l.length ≤ c) (hM : cal_May.f k n u l lo hi = some mb) (hno : mb = false ∨ node < 0 ∨ n ≤ node) :
    Calls Tryz.prog 12 #[.agg #[.int .i64 n, .int .i64 u, .slice A l.length c, .int .i64 lo, .int .i64 hi], .int .i64 node] w (NewNo w) := by
  have HM := Lib.hid (fun w1 (hb : Below w.heap.size w w1) => cal_May.calls k n u A c l lo hi mb w1 (Kd.C_below hr hb) hc hM)
  clear hr hM
  cases mb with
  | false =>
    clear hno
    go_enter Tryz.func12, Tryz.ntmps12
    go_wp2_with fail
    refine (HM.out _ ((Below.refl _ _).alloc (Nat.le_refl _) _)).mono ?_
    rintro e w1 ⟨rfl, hb⟩
    have HB := Lib.hid (((Below.refl w.heap.size w).alloc (Nat.le_refl _) (.cells #[.int .i64 n, .int .i64 u, .slice A l.length c, .int .i64 lo, .int .i64 hi] 24)).trans (hb.mono (by simp)))
    clear hb
    go_wp2
    go_ret2
    exact ⟨rfl, HB.out⟩
  | true =>
    have hno : node < 0 ∨ n ≤ node := by rcases hno with h | h; cases h; exact h
    by_cases h1 : node < 0
    · have d1 : decide (node < 0) = true := decide_eq_true h1
      clear hno
      go_enter Tryz.func12, Tryz.ntmps12
      go_wp2_with fail
      refine (HM.out _ ((Below.refl _ _).alloc (Nat.le_refl _) _)).mono ?_
      rintro e w1 ⟨rfl, hb⟩
      have HB := Lib.hid (((Below.refl w.heap.size w).alloc (Nat.le_refl _) (.cells #[.int .i64 n, .int .i64 u, .slice A l.length c, .int .i64 lo, .int .i64 hi] 24)).trans (hb.mono (by simp)))
      clear hb
      go_wp2
      go_ret2
      exact ⟨rfl, HB.out⟩
    · have d1 : decide (node < 0) = false := decide_eq_false h1
      have h2 : n ≤ node := by omega
      have d2 : decide (n ≤ node) = true := decide_eq_true h2
      clear hno
      go_enter Tryz.func12, Tryz.ntmps12
      go_wp2_with fail
      refine (HM.out _ ((Below.refl _ _).alloc (Nat.le_refl _) _)).mono ?_
      rintro e w1 ⟨rfl, hb⟩
      have HB := Lib.hid (((Below.refl w.heap.size w).alloc (Nat.le_refl _) (.cells #[.int .i64 n, .int .i64 u, .slice A l.length c, .int .i64 lo, .int .i64 hi] 24)).trans (hb.mono (by simp)))
      have b0 : w1.cell? ⟨w.heap.size, 0, none⟩ = some (.int .i64 n) := (hb.cell (p := ⟨w.heap.size, 0, none⟩) (by simp)).trans (blk_cell (newAt w _ _ rfl) 0)
      clear hb
      go_wp2
      go_ret2
      exact ⟨rfl, HB.out⟩
end Go.Proofs.YtohpimfanplloaaGreat.CalH
