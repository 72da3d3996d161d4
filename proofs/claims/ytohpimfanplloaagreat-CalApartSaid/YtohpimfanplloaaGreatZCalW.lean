/- Two calendars side by side: what one call does to one leaves the other as it is. -/
import Derived.Test.YtohpimfanplloaaGreatZCalO
import Derived.Test.YtohpimfanplloaaGreatZCalU
import Derived.Test.YtohpimfanplloaaGreatZCalV
import Derived.Says
import Derived.Outline
import Derived.WalkKit
import Derived.WalkSpells
import Derived.Lib.Hide
set_option linter.unusedVariables false
set_option linter.unusedSimpArgs false
namespace Go.Proofs.YtohpimfanplloaaGreat.CalW
open Go.RowKit Go.Proofs.YtohpimfanplloaaGreatW.PrintWords Go.Proofs.YtohpimfanplloaaGreatW.PrintLast Go.Proofs.YtohpimfanplloaaGreatW.PrintMore Go.Proofs.YtohpimfanplloaaGreat.PureI1 Go.Proofs.YtohpimfanplloaaGreat.PureI2 Go.Proofs.YtohpimfanplloaaGreat.IvA Go.Proofs.YtohpimfanplloaaGreat.IvB Go.Proofs.YtohpimfanplloaaGreat.IvC Go.Proofs.YtohpimfanplloaaGreat.IvG Go.Proofs.YtohpimfanplloaaGreat.CalA Go.Proofs.YtohpimfanplloaaGreat.CalB Go.Proofs.YtohpimfanplloaaGreat.CalC Go.Proofs.YtohpimfanplloaaGreat.CalD Go.Proofs.YtohpimfanplloaaGreat.CalE Go.Proofs.YtohpimfanplloaaGreat.CalF Go.Proofs.YtohpimfanplloaaGreat.CalG Go.Proofs.YtohpimfanplloaaGreat.CalH Go.Proofs.YtohpimfanplloaaGreat.CalI Go.Proofs.YtohpimfanplloaaGreat.CalJ Go.Proofs.YtohpimfanplloaaGreat.CalK Go.Proofs.YtohpimfanplloaaGreat.CalM Go.Proofs.YtohpimfanplloaaGreat.CalQ Go.Proofs.YtohpimfanplloaaGreat.CalO Go.Proofs.YtohpimfanplloaaGreat.CalU Go.Proofs.YtohpimfanplloaaGreat.CalV
structure Side where
  us : Us
  c : Nat
  ub : Nat
  cells : List Value
abbrev Side.At (s : Side) (W : World) (own : Nat → Nat) : Prop := CalIn W own s.c s.ub s.cells s.us
def Two (w0 W : World) (a b : Side) : Prop := ∃ o1 o2 : Nat → Nat, a.At W o1 ∧ b.At W o2 ∧ (∀ q, o1 q ≠ 0 → o2 q = 0) ∧ (∀ q, o1 q ≠ 0 → w0.heap.size ≤ q) ∧ (∀ q, o2 q ≠ 0 → w0.heap.size ≤ q) ∧ Below w0.heap.size w0 W
theorem Two.swap {w0 W : World} {a b : Side} (h : Two w0 W a b) : Two w0 W b a := by
  obtain ⟨o1, o2, h1, h2, h3, h4, h5, h6⟩ := h
  exact ⟨o2, o1, h2, h1, fun q hq => by
    by_cases h : o1 q = 0
    · exact h
    · exact absurd (h3 q h) hq, h5, h4, h6⟩
theorem Two.cf {w0 W : World} {a b : Side} (h : Two w0 W a b) : CF w0 a.us a.c a.ub a.cells W := by
  obtain ⟨o1, o2, h1, h2, h3, h4, h5, h6⟩ := h
  exact ⟨o1, h1, h4, h6⟩
theorem Two.base {w0 W : World} {a b : Side} (h : Two w0 W a b) : Below w0.heap.size w0 W := by
  obtain ⟨o1, o2, h1, h2, h3, h4, h5, h6⟩ := h
  exact h6
theorem Two.below {w0 W W2 : World} {a b : Side} (h : Two w0 W a b) (hb : Below W.heap.size W W2) : Two w0 W2 a b := by
  obtain ⟨o1, o2, h1, h2, h3, h4, h5, h6⟩ := h
  exact ⟨o1, o2, h1.below hb, h2.below hb, h3, h4, h5, h6.trans (hb.mono h6.size)⟩
theorem Two.left {w0 W w' : World} {a b : Side} {o1 o2 : Nat → Nat} {us' : Us} (h1 : a.At W o1) (h2 : b.At W o2) (h3 : ∀ q, o1 q ≠ 0 → o2 q = 0) (h4 : ∀ q, o1 q ≠ 0 → w0.heap.size ≤ q) (h5 : ∀ q, o2 q ≠ 0 → w0.heap.size ≤ q)
    (h6 : Below w0.heap.size w0 W) (hL : LeftC W o1 a.c a.ub a.cells us' w') : Two w0 w' ⟨us', a.c, a.ub, a.cells⟩ b := by
  obtain ⟨o1', k1, k2, k3⟩ := hL
  have hsz := h6.size
  refine ⟨o1', o2, k1, h2.keep k3.size (fun k hk hlt => k3.2 k hlt (fun hq => by
    by_cases h : o1 k = 0
    · rw [h] at hq; omega
    · exact hk (h3 k h))), fun q hq => ?_, fun q hq => ?_, h5, k3.elder h6 (fun k hk => h4 k (by omega))⟩
  · by_cases hlt : q < W.heap.size
    · rw [k2 q hlt] at hq; exact h3 q hq
    · by_cases h : o2 q = 0
      · exact h
      · exact absurd (h2.dom q h) hlt
  · by_cases hlt : q < W.heap.size
    · rw [k2 q hlt] at hq; exact h4 q hq
    · omega
/-- Reserve at users and spans that lie in the elder world. -/
theorem two_reserve (w0 W : World) (a b : Side) (N : Nat) (tx : Int) (A : Option Addr) (ca : Nat) (users : List Int) (A2 : Option Addr) (c2 : Nat) (l : List Sp) (but : Int) (hT : Two w0 W a b) (hS : Small a.us N) (hN : N ≤ 549755813888)
    (hul : users.length ≤ 1000) (hll : l.length ≤ 1000) (h1 : Kd.C (Kd.int .i64) w0 A users.length users) (hca : users.length ≤ ca) (h2 : Kd.C kSp w0 A2 l.length l) (hc2 : l.length ≤ c2) :
    Calls Tryz.prog 15 #[.pointer (some ⟨a.c, 0, none⟩), .int .i64 tx, .slice A users.length ca, .slice A2 l.length c2, .int .i64 but] W (fun e w' => e = .returned (.bool (mayRes a.us tx users l but)) ∧ Two w0 w' ⟨reserve a.us tx users l but, a.c, a.ub, a.cells⟩ b) := by
  obtain ⟨o1, o2, k1, k2, k3, k4, k5, k6⟩ := hT
  have hmul : users.length * l.length ≤ 1000 * 1000 := Nat.mul_le_mul hul hll
  have el : ∀ w', Kept5 W w' (fun k => 2 ≤ o1 k) → Below w0.heap.size w0 w' := fun w' hk => hk.elder k6 (fun k h => k4 k (by omega))
  refine (reserve_any o1 a.c a.ub a.cells a.us N tx A ca users A2 c2 l but W k1 hS (by omega) (fun w' hk => Kd.C_below h1 (el w' hk)) hca (by omega) (fun w' hk => Kd.C_below h2 (el w' hk)) hc2 (by omega)).mono ?_
  rintro e w' ⟨rfl, hL⟩
  exact ⟨rfl, Two.left k1 k2 k3 k4 k5 k6 hL⟩
theorem two_settle (w0 W : World) (a b : Side) (N : Nat) (tx : Int) (hT : Two w0 W a b) (hS : Small a.us N) (hN : N ≤ 549755813888) :
    Calls Tryz.prog 17 #[.pointer (some ⟨a.c, 0, none⟩), .int .i64 tx] W (fun e w' => e = .returned (.tuple #[]) ∧ Two w0 w' ⟨PureI2.settle a.us tx, a.c, a.ub, a.cells⟩ b) := by
  obtain ⟨o1, o2, k1, k2, k3, k4, k5, k6⟩ := hT
  refine (settle_any o1 a.c a.ub a.cells a.us N tx W k1 hS (by omega)).mono ?_
  rintro e w' ⟨rfl, hL⟩
  exact ⟨rfl, Two.left k1 k2 k3 k4 k5 k6 hL⟩
theorem two_free (w0 W : World) (a b : Side) (N : Nat) (tx : Int) (hT : Two w0 W a b) (hS : Small a.us N) (hN : N ≤ 549755813888) :
    Calls Tryz.prog 28 #[.pointer (some ⟨a.c, 0, none⟩), .int .i64 tx] W (fun e w' => e = .returned (.tuple #[]) ∧ Two w0 w' ⟨PureI2.free a.us tx, a.c, a.ub, a.cells⟩ b) := by
  obtain ⟨o1, o2, k1, k2, k3, k4, k5, k6⟩ := hT
  refine (free_any o1 a.c a.ub a.cells a.us N tx W k1 hS (by omega)).mono ?_
  rintro e w' ⟨rfl, hL⟩
  exact ⟨rfl, Two.left k1 k2 k3 k4 k5 k6 hL⟩
/-- The copy stands beside. -/
theorem two_copy (w0 W : World) (us : Us) (c ub : Nat) (cells : List Value) (N : Nat) (hCF : CF w0 us c ub cells W) (hS : Small us N) (hN : N ≤ 549755813888) :
    Calls Tryz.prog 32 #[.pointer (some ⟨c, 0, none⟩)] W (fun e w' => ∃ d : Side, e = .returned (.pointer (some ⟨d.c, 0, none⟩)) ∧ d.us = us ∧ Two w0 w' ⟨us, c, ub, cells⟩ d) := by
  obtain ⟨own, k1, k2, k3⟩ := hCF
  refine (copyC_any own c ub cells us N W k1 hS (by omega)).mono ?_
  rintro e w' ⟨o2, c2, ub2, cells2, rfl, h1, h2, h3⟩
  have hsz := k3.size
  exact ⟨⟨us, c2, ub2, cells2⟩, rfl, rfl, own, o2, k1.below h3, h1, fun q hq => by
    by_cases h : o2 q = 0
    · exact h
    · have := h2 q h; have := k1.dom q hq; omega, k2, fun q hq => by have := h2 q hq; omega, k3.trans (h3.mono hsz)⟩
/-- Reserve for one calendar alone, at users and spans that lie in the elder world. -/
theorem one_reserve (w0 W : World) (us : Us) (c ub : Nat) (cells : List Value) (N : Nat) (tx : Int) (A : Option Addr) (ca : Nat) (users : List Int) (A2 : Option Addr) (c2 : Nat) (l : List Sp) (but : Int) (hCF : CF w0 us c ub cells W) (hS : Small us N) (hN : N ≤ 549755813888)
    (hul : users.length ≤ 1000) (hll : l.length ≤ 1000) (h1 : Kd.C (Kd.int .i64) w0 A users.length users) (hca : users.length ≤ ca) (h2 : Kd.C kSp w0 A2 l.length l) (hc2 : l.length ≤ c2) :
    Calls Tryz.prog 15 #[.pointer (some ⟨c, 0, none⟩), .int .i64 tx, .slice A users.length ca, .slice A2 l.length c2, .int .i64 but] W (fun e w' => e = .returned (.bool (mayRes us tx users l but)) ∧ CF w0 (reserve us tx users l but) c ub cells w') := by
  obtain ⟨own, k1, k2, k3⟩ := hCF
  have hmul : users.length * l.length ≤ 1000 * 1000 := Nat.mul_le_mul hul hll
  have el : ∀ w', Kept5 W w' (fun k => 2 ≤ own k) → Below w0.heap.size w0 w' := fun w' hk => hk.elder k3 (fun k h => k2 k (by omega))
  refine (reserve_any own c ub cells us N tx A ca users A2 c2 l but W k1 hS (by omega) (fun w' hk => Kd.C_below h1 (el w' hk)) hca (by omega) (fun w' hk => Kd.C_below h2 (el w' hk)) hc2 (by omega)).mono ?_
  rintro e w' ⟨rfl, hL⟩
  exact ⟨rfl, cf_left k2 k3 hL⟩
theorem CF.base {w0 W : World} {us : Us} {c ub : Nat} {cells : List Value} (h : CF w0 us c ub cells W) : Below w0.heap.size w0 W := by
  obtain ⟨_, _, _, h⟩ := h
  exact h
theorem CF.inv {w0 W : World} {us : Us} {c ub : Nat} {cells : List Value} (h : CF w0 us c ub cells W) : InvU us := by
  obtain ⟨_, h, _, _⟩ := h
  exact h.inv
theorem C_fr42 {w : World} {A : Option Addr} {n : Nat} {l : List Go.Proofs.YtohpimfanplloaaGreat.GI.S42} (h : Kd.C Go.Proofs.YtohpimfanplloaaGreat.GI.k42 w A n l) : Kd.C kSp w A n (l.map fun x => (x.f0, x.f1)) := by
  obtain ⟨h1, h2, h3⟩ := h
  refine ⟨by simpa using h1, h2, fun hp => ?_⟩
  obtain ⟨ad, e, f⟩ := h3 hp
  refine ⟨ad, e, fun j p hj => ?_⟩
  rw [List.getElem?_map] at hj
  obtain ⟨q, hq, rfl⟩ := Option.map_eq_some_iff.1 hj
  exact f j q hq
def busyL (us : Us) (u lo hi : Int) : List Sp := match ofU us u with | some p => cut p.1 lo hi | none => []
def ownS (us : Us) (u : Int) : List Int := match ofU us u with | some p => ownersF p.1 | none => []
def ownR (us : Us) (u : Int) : List Int := match ofU us u with | some p => ownersF p.2 | none => []
theorem ofU_in {c : Us} {u : Int} {p : Pr} (h : ofU c u = some p) : some p ∈ c := by
  unfold ofU at h
  by_cases hu : u < 0
  · rw [if_pos hu] at h; cases h
  · rw [if_neg hu] at h
    cases hc : c[u.toNat]? with
    | none => rw [hc] at h; cases h
    | some q =>
      rw [hc] at h
      obtain rfl : q = some p := h
      exact List.mem_of_getElem? hc
theorem busyL_le {us : Us} {N : Nat} (hS : Small us N) (u lo hi : Int) : (busyL us u lo hi).length ≤ N := by
  unfold busyL
  cases h : ofU us u with
  | none => exact Nat.zero_le _
  | some p =>
    have := hS p (ofU_in h)
    have h2 : (cut p.1 lo hi).length ≤ p.1.length := by unfold cut; refine Nat.le_trans (norm_len _) ?_; rw [List.length_map]; exact Nat.le_refl _
    show (cut p.1 lo hi).length ≤ N
    omega
theorem ownS_le {us : Us} {N : Nat} (hS : Small us N) (u : Int) : (ownS us u).length ≤ N := by
  unfold ownS
  cases h : ofU us u with
  | none => exact Nat.zero_le _
  | some p =>
    have := hS p (ofU_in h)
    have := owners_le p.1
    show (ownersF p.1).length ≤ N
    omega
theorem ownR_le {us : Us} {N : Nat} (hS : Small us N) (u : Int) : (ownR us u).length ≤ N := by
  unfold ownR
  cases h : ofU us u with
  | none => exact Nat.zero_le _
  | some p =>
    have := hS p (ofU_in h)
    have := owners_le p.2
    show (ownersF p.2).length ≤ N
    omega
def BusySl (W : World) (L : List Sp) (e : Ending) (w' : World) : Prop := ∃ A c' er, e = .returned (.tuple #[.slice A L.length c', .int .i64 er]) ∧ L.length ≤ c' ∧ Kd.C kSp w' A L.length L ∧ Below W.heap.size W w'
def OwnSl (W : World) (S R : List Int) (e : Ending) (w' : World) : Prop := ∃ A1 c1 A2 c2, e = .returned (.tuple #[.slice A1 S.length c1, .slice A2 R.length c2]) ∧ S.length ≤ c1 ∧ R.length ≤ c2 ∧ Kd.C (Kd.int .i64) w' A1 S.length S ∧ Kd.C (Kd.int .i64) w' A2 R.length R ∧ Below W.heap.size W w'
theorem busy_sl (w0 W : World) (us : Us) (c ub : Nat) (cells : List Value) (N : Nat) (u lo hi : Int) (hCF : CF w0 us c ub cells W) (hS : Small us N) (hN : N ≤ 549755813888) :
    Calls Tryz.prog 13 #[.pointer (some ⟨c, 0, none⟩), .int .i64 u, .int .i64 lo, .int .i64 hi] W (BusySl W (busyL us u lo hi)) := by
  refine (busy_arg w0 W us c ub cells N u lo hi hCF hS hN).mono ?_
  rintro e w' ⟨⟨v, he, hrow, hb⟩, _⟩
  have hrow' : RowS w' W.heap.size v (busyL us u lo hi) := hrow
  have hle := busyL_le hS u lo hi
  obtain ⟨A, c', rfl, hc', hC⟩ := row_readsS hrow' (by omega)
  exact ⟨A, c', _, he, hc', hC, hb⟩
theorem own_sl (w0 W : World) (us : Us) (c ub : Nat) (cells : List Value) (N : Nat) (u : Int) (hCF : CF w0 us c ub cells W) (hS : Small us N) (hN : N ≤ 549755813888) :
    Calls Tryz.prog 20 #[.pointer (some ⟨c, 0, none⟩), .int .i64 u] W (OwnSl W (ownS us u) (ownR us u)) := by
  refine (own_arg w0 W us c ub cells N u hCF hS hN).mono ?_
  rintro e w' ⟨⟨v1, v2, he, hr1, hr2, hb⟩, _⟩
  have hr1' : RowN w' W.heap.size v1 (ownS us u) := hr1
  have hr2' : RowN w' W.heap.size v2 (ownR us u) := hr2
  have hle1 := ownS_le hS u
  have hle2 := ownR_le hS u
  obtain ⟨A1, c1, rfl, hc1, hC1⟩ := rowN_reads hr1' (by omega)
  obtain ⟨A2, c2, rfl, hc2, hC2⟩ := rowN_reads hr2' (by omega)
  exact ⟨A1, c1, A2, c2, he, hc1, hc2, hC1, hC2, hb⟩
theorem spans_eqq (q : List Sp) (A1 A2 : Option Addr) (c1 c2 : Nat) (W : World) (h1 : Kd.C kSp W A1 q.length q) (hc1 : q.length ≤ c1) (h2 : Kd.C kSp W A2 q.length q) (hc2 : q.length ≤ c2) (hq : q.length ≤ 1099511627776) :
    Calls Tryz.prog 21 #[.slice A1 q.length c1, .slice A2 q.length c2] W (fun e w' => e = .returned (.bool true) ∧ Below W.heap.size W w') := by
  have hl : (to42 q).length = q.length := by unfold to42; rw [List.length_map]
  have := Go.Proofs.YtohpimfanplloaaGreat.GI.vokref_Spans.calls ((to42 q).length + 1) A1 c1 (to42 q) A2 c2 (to42 q) true W (by rw [hl]; exact C_to42 h1) (by rw [hl]; exact hc1) (by rw [hl]; exact C_to42 h2) (by rw [hl]; exact hc2) (spans_same _ (by rw [hl]; exact hq))
  rw [hl] at this
  exact this.mono fun e w' ⟨he, hd⟩ => ⟨he, hd.below⟩
theorem ints_eqq (q : List Int) (A1 A2 : Option Addr) (c1 c2 : Nat) (W : World) (h1 : Kd.C (Kd.int .i64) W A1 q.length q) (hc1 : q.length ≤ c1) (h2 : Kd.C (Kd.int .i64) W A2 q.length q) (hc2 : q.length ≤ c2) (hq : q.length ≤ 1099511627776) :
    Calls Tryz.prog 34 #[.slice A1 q.length c1, .slice A2 q.length c2] W (fun e w' => e = .returned (.bool true) ∧ Below W.heap.size W w') :=
  (Go.Proofs.YtohpimfanplloaaGreat.GI.vokref_Ints.calls (q.length + 1) A1 c1 q A2 c2 q true W h1 hc1 h2 hc2 (ints_same _ hq)).mono fun e w' ⟨he, hd⟩ => ⟨he, hd.below⟩
theorem has_q (L : List Int) (a : Int) (A : Option Addr) (c : Nat) (W : World) (h : Kd.C (Kd.int .i64) W A L.length L) (hc : L.length ≤ c) (hL : L.length ≤ 1099511627776) :
    Calls Tryz.prog 35 #[.slice A L.length c, .int .i64 a] W (fun e w' => e = .returned (.bool (decide (a ∈ L))) ∧ Below W.heap.size W w') :=
  (Go.Proofs.YtohpimfanplloaaGreat.GI.vokref_Has.calls (L.length + 1) A c L a _ W h hc (has_f L a hL)).mono fun e w' ⟨he, hd⟩ => ⟨he, hd.below⟩
end Go.Proofs.YtohpimfanplloaaGreat.CalW
