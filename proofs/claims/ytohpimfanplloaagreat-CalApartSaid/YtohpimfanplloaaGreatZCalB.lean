/- A node's calendar in memory; of, has, Check, Busy. -/
import Derived.Test.YtohpimfanplloaaGreatZCalA
import Derived.Test.YtohpimfanplloaaGreatZV
import Derived.WalkKit
import Derived.WalkSpells
import Derived.Lib.Hide
import Derived.Deep.QuietTactic
import Derived.BigQuiet
set_option linter.unusedVariables false
set_option linter.unusedSimpArgs false
namespace Go.Proofs.YtohpimfanplloaaGreat.CalB
open Go.RowKit Go.Proofs.YtohpimfanplloaaGreatW.PrintWords Go.Proofs.YtohpimfanplloaaGreatW.PrintLast Go.Proofs.YtohpimfanplloaaGreatW.PrintMore Go.Proofs.YtohpimfanplloaaGreat.PureI1 Go.Proofs.YtohpimfanplloaaGreat.PureI2 Go.Proofs.YtohpimfanplloaaGreat.IvA Go.Proofs.YtohpimfanplloaaGreat.IvB Go.Proofs.YtohpimfanplloaaGreat.IvC Go.Proofs.YtohpimfanplloaaGreat.IvD Go.Proofs.YtohpimfanplloaaGreat.IvE Go.Proofs.YtohpimfanplloaaGreat.IvG Go.Proofs.YtohpimfanplloaaGreat.IvH Go.Proofs.YtohpimfanplloaaGreat.CalA

/-- Whose a block is: 0 nobody's here, 1 the calendar's own, 2 i + 2 and 2 i + 3 user i's two sets'. -/
def UserAt (W : World) (own : Nat → Nat) (i : Nat) (cell : Value) : Option Pr → Prop
  | none => cell = .pointer none
  | some p => ∃ sb s r, cell = .pointer (some ⟨sb, 0, none⟩) ∧ W.heap[sb]? = some (.cells #[.pointer (some ⟨s, 0, none⟩), .pointer (some ⟨r, 0, none⟩)] 85 (0, 0)) ∧ own sb = 1 ∧
      SetAt W (fun k => own k = 2 * i + 2) s p.1 ∧ SetAt W (fun k => own k = 2 * i + 3) r p.2
structure CalIn (W : World) (own : Nat → Nat) (c ub : Nat) (cells : List Value) (us : Us) : Prop where
  blk : ∃ x0 x1 x2 x3 x4, ∃ nd : Int, W.heap[c]? = some (.cells #[x0, x1, x2, x3, x4, .int .i64 nd, .slice (some ⟨ub, 0, none⟩) us.length us.length] 80 (0, 0))
  oc : own c = 1
  arr : W.heap[ub]? = some (.cells cells.toArray 81 (0, 0))
  ou : own ub = 1
  len : cells.length = us.length
  pos : 0 < us.length
  small : us.length ≤ 64
  each : ∀ i p, us[i]? = some p → UserAt W own i (cells.getD i undef) p
  dom : ∀ k, own k ≠ 0 → k < W.heap.size
def Small (us : Us) (N : Nat) : Prop := ∀ p, some p ∈ us → p.1.length + p.2.length ≤ N
theorem UserAt.keep {W W1 : World} {own : Nat → Nat} {i : Nat} {cell : Value} {p : Option Pr} (h : UserAt W own i cell p) (hk : ∀ k, own k ≠ 0 → k < W.heap.size → W1.heap[k]? = W.heap[k]?) : UserAt W1 own i cell p := by
  cases p with
  | none => exact h
  | some p =>
    obtain ⟨sb, s, r, h1, h2, h3, h4, h5⟩ := h
    exact ⟨sb, s, r, h1, (hk sb (by omega) (blk_lt h2)).trans h2, h3, h4.keep (fun k hk1 hlt => hk k (by rw [hk1]; omega) hlt), h5.keep (fun k hk1 hlt => hk k (by rw [hk1]; omega) hlt)⟩
theorem CalIn.keep {W W1 : World} {own : Nat → Nat} {c ub : Nat} {cells : List Value} {us : Us} (h : CalIn W own c ub cells us) (hs : W.heap.size ≤ W1.heap.size) (hk : ∀ k, own k ≠ 0 → k < W.heap.size → W1.heap[k]? = W.heap[k]?) : CalIn W1 own c ub cells us := by
  obtain ⟨x0, x1, x2, x3, x4, x5, hb⟩ := h.blk
  exact ⟨⟨x0, x1, x2, x3, x4, x5, (hk c (by rw [h.oc]; omega) (blk_lt hb)).trans hb⟩, h.oc, (hk ub (by rw [h.ou]; omega) (blk_lt h.arr)).trans h.arr, h.ou, h.len, h.pos, h.small, fun i p hp => (h.each i p hp).keep hk, fun k hk1 => Nat.lt_of_lt_of_le (h.dom k hk1) hs⟩
theorem CalIn.below {W W1 : World} {own : Nat → Nat} {c ub : Nat} {cells : List Value} {us : Us} (h : CalIn W own c ub cells us) (hb : Below W.heap.size W W1) : CalIn W1 own c ub cells us := h.keep hb.size (fun k _ hlt => hb.block k hlt)
theorem CalIn.inv {W : World} {own : Nat → Nat} {c ub : Nat} {cells : List Value} {us : Us} (h : CalIn W own c ub cells us) : InvU us := fun p hp => by
  obtain ⟨i, hi, he⟩ := List.getElem_of_mem hp
  obtain ⟨sb, s, r, h1, h2, h3, h4, h5⟩ := h.each i (some p) (by rw [List.getElem?_eq_getElem hi, he])
  exact ⟨h4.inv, h5.inv⟩
/-- A user's pointer. -/
def uptr (cells : List Value) (u : Int) : Value := if u < 0 ∨ (cells.length : Int) ≤ u then .pointer none else cells.getD u.toNat undef
theorem arr_cell {W : World} {ub : Nat} {cells : List Value} (h : W.heap[ub]? = some (.cells cells.toArray 81 (0, 0))) (i : Nat) (hi : i < cells.length) : W.cell? ⟨ub, i, none⟩ = some (cells.getD i undef) := by
  rw [blk_cell h i]
  simp [hi]
theorem ptr_form {W : World} {own : Nat → Nat} {c ub : Nat} {cells : List Value} {us : Us} (h : CalIn W own c ub cells us) (i : Nat) (hi : i < us.length) : ∃ q : Option Addr, cells.getD i undef = .pointer q := by
  have := h.each i us[i] (List.getElem?_eq_getElem hi)
  cases hp : us[i] with
  | none => rw [hp] at this; exact ⟨none, this⟩
  | some p => rw [hp] at this; obtain ⟨sb, s, r, h1, _⟩ := this; exact ⟨_, h1⟩

set_option maxHeartbeats 1000000 in
theorem of_u (own : Nat → Nat) (c ub : Nat) (cells : List Value) (us : Us) (u : Int) (W : World) (hC : CalIn W own c ub cells us) :
    Calls Tryz.prog 41 #[.pointer (some ⟨c, 0, none⟩), .int .i64 u] W fun e w' => e = .returned (uptr cells u) ∧ w' = W := by
  obtain ⟨x0, x1, x2, x3, x4, x5, hb⟩ := hC.blk
  have c6 : W.cell? ⟨c, 6, none⟩ = some (.slice (some ⟨ub, 0, none⟩) us.length us.length) := blk_cell hb 6
  have hl := hC.len
  have hs := hC.small
  have HC := Lib.hid hC
  unfold uptr
  clear hb hC
  by_cases h0 : u < 0
  · rw [if_pos (.inl h0)]
    have d0 : decide (u < 0) = true := decide_eq_true h0
    clear hl
    go_enter Tryz.func41, Tryz.ntmps41
    go_wp2
    go_ret
    exact ⟨rfl, rfl⟩
  · have d0 : decide (u < 0) = false := decide_eq_false h0
    obtain ⟨n, rfl⟩ := Int.eq_ofNat_of_zero_le (show 0 ≤ u by omega)
    by_cases h1 : us.length ≤ n
    · rw [if_pos (.inr (by omega))]
      have d1 : decide ((us.length : Int) ≤ (n : Int)) = true := decide_eq_true (by omega)
      have d2 : decide (us.length ≤ n) = true := decide_eq_true h1
      clear hl
      go_enter Tryz.func41, Tryz.ntmps41
      go_wp2
      go_ret
      exact ⟨rfl, rfl⟩
    · rw [if_neg (by omega), Int.toNat_natCast]
      have d1 : decide ((us.length : Int) ≤ (n : Int)) = false := decide_eq_false (by omega)
      have d2 : decide (us.length ≤ n) = false := decide_eq_false h1
      have hn : n < us.length := by omega
      have hcell := arr_cell HC.out.arr n (by omega)
      obtain ⟨q, hq⟩ := ptr_form HC.out n hn
      rw [hq] at hcell ⊢
      clear hl hq
      go_enter Tryz.func41, Tryz.ntmps41
      go_wp2
      go_ret
      exact ⟨rfl, rfl⟩
/-- What a user's pointer is. -/
theorem uptr_cases {W : World} {own : Nat → Nat} {c ub : Nat} {cells : List Value} {us : Us} (h : CalIn W own c ub cells us) (u : Int) :
    (ofU us u = none ∧ uptr cells u = .pointer none) ∨ ∃ p n, u = (n : Nat) ∧ n < us.length ∧ us[n]? = some (some p) ∧ ofU us u = some p ∧ uptr cells u = cells.getD n undef := by
  unfold ofU uptr
  by_cases h0 : u < 0
  · exact .inl ⟨by rw [if_pos h0], by rw [if_pos (.inl h0)]⟩
  · obtain ⟨n, rfl⟩ := Int.eq_ofNat_of_zero_le (show 0 ≤ u by omega)
    rw [if_neg h0, Int.toNat_natCast]
    by_cases h1 : us.length ≤ n
    · exact .inl ⟨by rw [List.getElem?_eq_none h1]; rfl, by rw [if_pos (.inr (by rw [h.len]; omega))]⟩
    · have hn : n < us.length := by omega
      rw [if_neg (by rw [h.len]; omega)]
      have he := h.each n us[n] (List.getElem?_eq_getElem hn)
      cases hp : us[n] with
      | none => rw [hp] at he; exact .inl ⟨by rw [List.getElem?_eq_getElem hn, hp]; rfl, he⟩
      | some p => exact .inr ⟨p, n, rfl, hn, by rw [List.getElem?_eq_getElem hn, hp], by rw [List.getElem?_eq_getElem hn, hp]; rfl, rfl⟩

def BusyIs (W : World) (us : Us) (u lo hi : Int) (e : Ending) (w' : World) : Prop :=
  ∃ v, e = .returned (.tuple #[v, .int .i64 (if (ofU us u).isSome then 0 else 11)]) ∧ RowS w' W.heap.size v (match ofU us u with | some p => cut p.1 lo hi | none => []) ∧ Below W.heap.size W w'
set_option maxHeartbeats 1000000 in
theorem busy_any (own : Nat → Nat) (c ub : Nat) (cells : List Value) (us : Us) (N : Nat) (u lo hi : Int) (W : World) (hC : CalIn W own c ub cells us) (hN : Small us N) (hm : N ≤ 1099511627776) :
    Calls Tryz.prog 13 #[.pointer (some ⟨c, 0, none⟩), .int .i64 u, .int .i64 lo, .int .i64 hi] W (BusyIs W us u lo hi) := by
  have HO := Lib.hid (of_u own c ub cells us u W hC)
  unfold BusyIs
  rcases uptr_cases hC u with ⟨h1, h2⟩ | ⟨p, n, h0, hn, hp, h1, h2⟩
  · rw [h2] at HO
    rw [h1]
    clear hC hN h1 h2
    go_enter Tryz.func13, Tryz.ntmps13
    go_wp2_with fail
    refine HO.out.mono ?_
    rintro e w1 ⟨rfl, rfl⟩
    go_wp2
    go_ret2
    exact ⟨_, rfl, own_nil _ _ _ _, Below.refl _ _⟩
  · obtain ⟨sb, s, r, k1, k2, k3, k4, k5⟩ := hC.each n (some p) hp
    rw [h2, k1] at HO
    rw [h1]
    have c0 : W.cell? ⟨sb, 0, none⟩ = some (.pointer (some ⟨s, 0, none⟩)) := blk_cell k2 0
    have hNp := hN p (List.mem_of_getElem? hp)
    have HS := Lib.hid k4
    clear hC hN h0 hp h1 h2 k1 k2 k4 k5
    go_enter Tryz.func13, Tryz.ntmps13
    go_wp2_with fail
    refine HO.out.mono ?_
    rintro e w1 ⟨rfl, rfl⟩
    go_wp2_with fail
    refine (cut_any _ s p.1 lo hi _ HS.out (by omega)).mono ?_
    rintro e w2 ⟨v, rfl, hrow, hb⟩
    have HRow := Lib.hid hrow
    have HB := Lib.hid hb
    clear hrow hb
    go_wp2
    go_ret2
    exact ⟨_, rfl, HRow.out, HB.out⟩
end Go.Proofs.YtohpimfanplloaaGreat.CalB
