/- Spans in order and together, sets of spans with owners, the search in a set, a calendar of users: plain lists. -/
import Derived.Test.YtohpimfanplloaaGreatZV
set_option linter.unusedVariables false
set_option linter.unusedSimpArgs false
namespace Go.Proofs.YtohpimfanplloaaGreat.PureI1

abbrev Sp := Int × Int
abbrev Tg := (Int × Int) × Int
/-- What a list of spans covers. -/
def Cov (l : List Sp) (t : Int) : Prop := ∃ s ∈ l, s.1 ≤ t ∧ t < s.2
def inc (l : List Sp) : List Sp := l.filter (fun s => decide (s.1 < s.2))
def step (out : List Sp) (s : Sp) : List Sp :=
  match out.getLast? with
  | none => [s]
  | some p => if s.1 ≤ p.2 then out.dropLast ++ [(p.1, max p.2 s.2)] else out ++ [s]
def merged (l : List Sp) : List Sp := l.foldl step []
def SortedLo (l : List Sp) : Prop := l.Pairwise (fun a b => a.1 ≤ b.1)
def Full (l : List Sp) : Prop := ∀ s ∈ l, s.1 < s.2
structure Canon (l : List Sp) : Prop where
  full : Full l
  apart : l.Pairwise (fun a b => a.2 < b.1)

theorem nil_or_snoc {α : Type} (l : List α) : l = [] ∨ ∃ i p, l = i ++ [p] := by
  rcases List.eq_nil_or_concat l with h | ⟨i, p, h⟩
  · exact .inl h
  · exact .inr ⟨i, p, by simpa using h⟩
theorem step_nil (s : Sp) : step [] s = [s] := rfl
theorem step_snoc (i : List Sp) (p s : Sp) : step (i ++ [p]) s = if s.1 ≤ p.2 then i ++ [(p.1, max p.2 s.2)] else i ++ [p] ++ [s] := by
  simp [step]
theorem cov_append (a b : List Sp) (t : Int) : Cov (a ++ b) t ↔ Cov a t ∨ Cov b t := by
  simp only [Cov, List.mem_append]
  constructor
  · rintro ⟨s, h | h, k⟩
    · exact .inl ⟨s, h, k⟩
    · exact .inr ⟨s, h, k⟩
  · rintro (⟨s, h, k⟩ | ⟨s, h, k⟩)
    · exact ⟨s, .inl h, k⟩
    · exact ⟨s, .inr h, k⟩
theorem cov_one (s : Sp) (t : Int) : Cov [s] t ↔ s.1 ≤ t ∧ t < s.2 := by simp [Cov]
theorem cov_cons (s : Sp) (l : List Sp) (t : Int) : Cov (s :: l) t ↔ (s.1 ≤ t ∧ t < s.2) ∨ Cov l t := by
  rw [show s :: l = [s] ++ l from rfl, cov_append, cov_one]
theorem cov_perm {a b : List Sp} (h : a.Perm b) (t : Int) : Cov a t ↔ Cov b t := by simp only [Cov, h.mem_iff]

theorem canon_snoc {i : List Sp} {p : Sp} (h : Canon i) (hp : p.1 < p.2) (ha : ∀ s ∈ i, s.2 < p.1) : Canon (i ++ [p]) :=
  ⟨fun s hs => by rcases List.mem_append.1 hs with h1 | h1
                  · exact h.full s h1
                  · simp at h1; subst h1; exact hp,
   List.pairwise_append.2 ⟨h.apart, List.pairwise_singleton _ _, fun a haa b hb => by simp at hb; subst hb; exact ha a haa⟩⟩
theorem canon_of_snoc {i : List Sp} {p : Sp} (h : Canon (i ++ [p])) : Canon i ∧ p.1 < p.2 ∧ ∀ s ∈ i, s.2 < p.1 := by
  have := List.pairwise_append.1 h.apart
  exact ⟨⟨fun s hs => h.full s (by simp [hs]), this.1⟩, h.full p (by simp), fun s hs => this.2.2 s hs p (by simp)⟩

theorem fold_canon : ∀ (l out : List Sp), SortedLo l → Full l → Canon out → (∀ p ∈ out, ∀ s ∈ l, p.1 ≤ s.1) →
    Canon (l.foldl step out) ∧ ∀ t, Cov (l.foldl step out) t ↔ Cov out t ∨ Cov l t := by
  intro l
  induction l with
  | nil => intro out _ _ hc _; exact ⟨hc, fun t => by simp [Cov]⟩
  | cons s l ih =>
    intro out hs hf hc hle
    have hs' := List.pairwise_cons.1 hs
    have hsf : s.1 < s.2 := hf s (by simp)
    have key : Canon (step out s) ∧ (∀ t, Cov (step out s) t ↔ Cov out t ∨ (s.1 ≤ t ∧ t < s.2)) ∧ ∀ p ∈ step out s, p.1 ≤ s.1 := by
      rcases nil_or_snoc out with rfl | ⟨i, p, rfl⟩
      · exact ⟨⟨fun x hx => by simp [step_nil] at hx; subst hx; exact hsf, by simp [step_nil]⟩, fun t => by rw [step_nil, cov_one]; simp [Cov], fun p hp => by simp [step_nil] at hp; subst hp; exact Int.le_refl _⟩
      · obtain ⟨hi, hpf, hpa⟩ := canon_of_snoc hc
        have hps : p.1 ≤ s.1 := hle p (by simp) s (by simp)
        rw [step_snoc]
        by_cases h : s.1 ≤ p.2
        · rw [if_pos h]
          refine ⟨canon_snoc hi (by simp only; omega) hpa, fun t => ?_, fun x hx => ?_⟩
          · rw [cov_append, cov_append, cov_one, cov_one]
            simp only
            constructor
            · rintro (h1 | h1)
              · exact .inl (.inl h1)
              · by_cases h2 : t < p.2
                · exact .inl (.inr ⟨h1.1, h2⟩)
                · exact .inr ⟨by omega, by omega⟩
            · rintro ((h1 | h1) | h1)
              · exact .inl h1
              · exact .inr ⟨h1.1, by omega⟩
              · exact .inr ⟨by omega, by omega⟩
          · rcases List.mem_append.1 hx with h1 | h1
            · exact hle x (by simp [h1]) s (by simp)
            · simp at h1; subst h1; exact hps
        · rw [if_neg h]
          refine ⟨canon_snoc hc hsf (fun x hx => ?_), fun t => ?_, fun x hx => ?_⟩
          · rcases List.mem_append.1 hx with h1 | h1
            · have := hpa x h1; omega
            · simp at h1; subst h1; omega
          · rw [cov_append, cov_one]
          · rcases List.mem_append.1 hx with h1 | h1
            · exact hle x h1 s (by simp)
            · simp at h1; subst h1; exact Int.le_refl _
    obtain ⟨k1, k2, k3⟩ := key
    obtain ⟨r1, r2⟩ := ih (step out s) hs'.2 (fun x hx => hf x (by simp [hx])) k1 (fun p hp x hx => Int.le_trans (k3 p hp) (hs'.1 x hx))
    refine ⟨r1, fun t => ?_⟩
    rw [List.foldl_cons, r2, k2, cov_cons]
    constructor
    · rintro ((h | h) | h)
      · exact .inl h
      · exact .inr (.inl h)
      · exact .inr (.inr h)
    · rintro (h | h | h)
      · exact .inl (.inl h)
      · exact .inl (.inr h)
      · exact .inr h

theorem merged_canon {l : List Sp} (hs : SortedLo l) (hf : Full l) : Canon (merged l) ∧ ∀ t, Cov (merged l) t ↔ Cov l t := by
  obtain ⟨h1, h2⟩ := fold_canon l [] hs hf ⟨fun s h => by simp at h, List.Pairwise.nil⟩ (fun p h => by simp at h)
  exact ⟨h1, fun t => by rw [show merged l = l.foldl step [] from rfl, h2]; simp [Cov]⟩

theorem canon_lo {x : Sp} {a : List Sp} (h : Canon (x :: a)) : ∀ s ∈ x :: a, x.1 ≤ s.1 := fun s hs => by
  rcases List.mem_cons.1 hs with rfl | h1
  · exact Int.le_refl _
  · have := (List.pairwise_cons.1 h.apart).1 s h1
    have := h.full x (by simp)
    omega
theorem canon_unique : ∀ (a b : List Sp), Canon a → Canon b → (∀ t, Cov a t ↔ Cov b t) → a = b := by
  intro a
  induction a with
  | nil =>
    intro b _ hb h
    cases b with
    | nil => rfl
    | cons y b =>
      have := (h y.1).2 ⟨y, by simp, Int.le_refl _, hb.full y (by simp)⟩
      simp [Cov] at this
  | cons x a ih =>
    intro b ha hb h
    cases b with
    | nil =>
      have := (h x.1).1 ⟨x, by simp, Int.le_refl _, ha.full x (by simp)⟩
      simp [Cov] at this
    | cons y b =>
      have hx := ha.full x (by simp)
      have hy := hb.full y (by simp)
      have pa := (List.pairwise_cons.1 ha.apart).1
      have pb := (List.pairwise_cons.1 hb.apart).1
      have e1 : x.1 = y.1 := by
        obtain ⟨s, hs, h1, _⟩ := (h x.1).1 ⟨x, by simp, Int.le_refl _, hx⟩
        obtain ⟨s', hs', h1', _⟩ := (h y.1).2 ⟨y, by simp, Int.le_refl _, hy⟩
        have := canon_lo hb s hs
        have := canon_lo ha s' hs'
        omega
      have nocov : ∀ t, t = x.2 ∨ t = y.2 → (t = x.2 → ¬ Cov (x :: a) t) ∧ (t = y.2 → ¬ Cov (y :: b) t) := fun t _ => ⟨fun ht hc => by
          rw [cov_cons] at hc
          rcases hc with hc | ⟨s, hs, h1, h2⟩
          · omega
          · have := pa s hs; omega,
        fun ht hc => by
          rw [cov_cons] at hc
          rcases hc with hc | ⟨s, hs, h1, h2⟩
          · omega
          · have := pb s hs; omega⟩
      have e2 : x.2 = y.2 := by
        rcases Int.lt_trichotomy x.2 y.2 with h1 | h1 | h1
        · exact absurd ((h x.2).2 ⟨y, by simp, by omega, h1⟩) ((nocov x.2 (.inl rfl)).1 rfl)
        · exact h1
        · exact absurd ((h y.2).1 ⟨x, by simp, by omega, h1⟩) ((nocov y.2 (.inr rfl)).2 rfl)
      have e : x = y := Prod.ext e1 e2
      subst e
      congr 1
      refine ih b ⟨fun s hs => ha.full s (by simp [hs]), (List.pairwise_cons.1 ha.apart).2⟩ ⟨fun s hs => hb.full s (by simp [hs]), (List.pairwise_cons.1 hb.apart).2⟩ (fun t => ?_)
      have ht := h t
      rw [cov_cons, cov_cons] at ht
      constructor
      · rintro ⟨s, hs, h1, h2⟩
        have := pa s hs
        rcases ht.1 (.inr ⟨s, hs, h1, h2⟩) with h3 | h3
        · omega
        · exact h3
      · rintro ⟨s, hs, h1, h2⟩
        have := pb s hs
        rcases ht.2 (.inr ⟨s, hs, h1, h2⟩) with h3 | h3
        · omega
        · exact h3

def leLo (a b : Sp) : Bool := decide (a.1 ≤ b.1)
/-- Spans put in order, and together. -/
def norm (l : List Sp) : List Sp := merged ((inc l).mergeSort leLo)
theorem inc_full (l : List Sp) : Full (inc l) := fun s hs => by simpa [inc] using (List.mem_filter.1 hs).2
theorem sort_lo (l : List Sp) : SortedLo (l.mergeSort leLo) := by
  have := List.pairwise_mergeSort (le := leLo) (fun a b c h1 h2 => by simp [leLo] at *; omega) (fun a b => by simp [leLo]; omega) l
  exact this.imp (fun h => by simpa [leLo] using h)
theorem norm_canon (l : List Sp) : Canon (norm l) ∧ ∀ t, Cov (norm l) t ↔ Cov l t := by
  obtain ⟨h1, h2⟩ := merged_canon (sort_lo (inc l)) (fun s hs => inc_full l s ((List.mergeSort_perm _ _).mem_iff.1 hs))
  refine ⟨h1, fun t => ?_⟩
  rw [show norm l = merged ((inc l).mergeSort leLo) from rfl, h2, cov_perm (List.mergeSort_perm _ _)]
  constructor
  · rintro ⟨s, hs, h3⟩; exact ⟨s, (List.mem_filter.1 hs).1, h3⟩
  · rintro ⟨s, hs, h3, h4⟩; exact ⟨s, List.mem_filter.2 ⟨hs, by simp; omega⟩, h3, h4⟩
/-- Whatever order the sort gives to those that begin alike. -/
theorem norm_any {l d : List Sp} (hp : d.Perm (inc l)) (hs : SortedLo d) : merged d = norm l := by
  obtain ⟨h1, h2⟩ := merged_canon hs (fun s h => inc_full l s (hp.mem_iff.1 h))
  obtain ⟨h3, h4⟩ := norm_canon l
  refine canon_unique _ _ h1 h3 (fun t => ?_)
  rw [h2, h4, cov_perm hp]
  constructor
  · rintro ⟨s, hs, h3⟩; exact ⟨s, (List.mem_filter.1 hs).1, h3⟩
  · rintro ⟨s, hs, h3, h4⟩; exact ⟨s, List.mem_filter.2 ⟨hs, by simp; omega⟩, h3, h4⟩
theorem norm_unique {l d : List Sp} (hd : Canon d) (h : ∀ t, Cov d t ↔ Cov l t) : norm l = d :=
  canon_unique _ _ (norm_canon l).1 hd (fun t => by rw [(norm_canon l).2, h])
theorem norm_self {l : List Sp} (h : Canon l) : norm l = l := norm_unique h (fun _ => Iff.rfl)
theorem norm_nil : norm [] = [] := norm_unique ⟨fun s h => by simp at h, List.Pairwise.nil⟩ (fun _ => Iff.rfl)
theorem step_len (out : List Sp) (s : Sp) : (step out s).length ≤ out.length + 1 := by
  rcases nil_or_snoc out with rfl | ⟨i, p, rfl⟩
  · simp [step_nil]
  · rw [step_snoc]; split <;> simp
theorem fold_len : ∀ (l out : List Sp), (l.foldl step out).length ≤ out.length + l.length := by
  intro l
  induction l with
  | nil => intro out; simp
  | cons s l ih => intro out; have := ih (step out s); have := step_len out s; simp only [List.foldl_cons, List.length_cons]; omega
theorem merged_len (l : List Sp) : (merged l).length ≤ l.length := by have := fold_len l []; simpa [merged] using this
theorem norm_len (l : List Sp) : (norm l).length ≤ l.length := by
  have := merged_len ((inc l).mergeSort leLo)
  rw [(List.mergeSort_perm _ _).length_eq] at this
  exact Nat.le_trans this (List.length_filter_le _ _)

/-! ### Sets -/
structure Inv (L : List Tg) : Prop where
  full : ∀ t ∈ L, t.1.1 < t.1.2
  apart : L.Pairwise (fun a b => a.1.2 ≤ b.1.1)
  own : ∀ t ∈ L, 1 ≤ t.2
theorem Inv.nil : Inv [] := ⟨fun t h => by simp at h, List.Pairwise.nil, fun t h => by simp at h⟩
def meetsB (but : Int) (x : Sp) (t : Tg) : Bool := decide (t.1.1 < x.2) && decide (x.1 < t.1.2) && (t.2 != but)
def meets (L : List Tg) (x : Sp) (but : Int) : Option Tg := L.find? (meetsB but x)
def clash (L : List Tg) (xs : List Sp) (but : Int) : Option Tg := xs.findSome? (fun x => meets L x but)
def has (L : List Tg) (o : Int) : Bool := L.any (fun t => t.2 == o)
def leT (a b : Tg) : Bool := decide (a.1.1 ≤ b.1.1)
def addL (L : List Tg) (l : List Sp) (o : Int) : List Tg := (L ++ (norm l).map (fun x => (x, o))).mergeSort leT
def mayAdd (L : List Tg) (l : List Sp) (o : Int) : Bool := decide (1 ≤ o) && !has L o && (clash L (norm l) 0).isNone
def add (L : List Tg) (l : List Sp) (o : Int) : List Tg := if mayAdd L l o = true then addL L l o else L
def remove (L : List Tg) (o : Int) : List Tg := L.filter (fun t => t.2 != o)
def cut (L : List Tg) (lo hi : Int) : List Sp := norm (L.map fun t => (max t.1.1 lo, min t.1.2 hi))
def ofo (L : List Tg) (o : Int) : List Sp := (L.filter (fun t => t.2 == o)).map (·.1)

theorem Inv.remove {L : List Tg} (h : Inv L) (o : Int) : Inv (remove L o) :=
  ⟨fun t ht => h.full t (List.mem_filter.1 ht).1, h.apart.filter _, fun t ht => h.own t (List.mem_filter.1 ht).1⟩
/-- Sorted ones that are apart two by two, in whatever order they came. -/
theorem inv_of_apart {L : List Tg} (hf : ∀ t ∈ L, t.1.1 < t.1.2) (ho : ∀ t ∈ L, 1 ≤ t.2) (hs : L.Pairwise (fun a b => a.1.1 ≤ b.1.1))
    (ha : L.Pairwise (fun a b => a.1.2 ≤ b.1.1 ∨ b.1.2 ≤ a.1.1)) : Inv L := by
  refine ⟨hf, ?_, ho⟩
  have h2 := hs.and ha
  refine (List.Pairwise.imp_of_mem ?_ h2)
  intro a b hma hmb hab
  have := hf b hmb
  omega
theorem inv_of_perm {L M : List Tg} (hp : M.Perm L) (hf : ∀ t ∈ L, t.1.1 < t.1.2) (ho : ∀ t ∈ L, 1 ≤ t.2) (hs : M.Pairwise (fun a b => a.1.1 ≤ b.1.1))
    (ha : L.Pairwise (fun a b => a.1.2 ≤ b.1.1 ∨ b.1.2 ≤ a.1.1)) : Inv M :=
  inv_of_apart (fun t ht => hf t (hp.mem_iff.1 ht)) (fun t ht => ho t (hp.mem_iff.1 ht)) hs ((hp.pairwise_iff (fun {a b} h => h.symm)).2 ha)
/-- Two orders of one set are one. -/
theorem inv_unique : ∀ (a b : List Tg), Inv a → Inv b → a.Perm b → a = b := by
  intro a
  induction a with
  | nil => intro b _ _ hp; exact (List.nil_perm.1 hp).symm
  | cons x a ih =>
    intro b ha hb hp
    cases b with
    | nil => simp at hp
    | cons y b =>
      have pa := (List.pairwise_cons.1 ha.apart).1
      have pb := (List.pairwise_cons.1 hb.apart).1
      have e : x = y := by
        rcases List.mem_cons.1 (hp.mem_iff.1 (List.mem_cons_self (a := x) (l := a))) with h | h
        · exact h
        · rcases List.mem_cons.1 (hp.mem_iff.2 (List.mem_cons_self (a := y) (l := b))) with h' | h'
          · exact h'.symm
          · have h1 := pb x h
            have h2 := pa y h'
            have := ha.full x (by simp)
            have := hb.full y (by simp)
            omega
      subst e
      congr 1
      exact ih b ⟨fun t ht => ha.full t (by simp [ht]), (List.pairwise_cons.1 ha.apart).2, fun t ht => ha.own t (by simp [ht])⟩
        ⟨fun t ht => hb.full t (by simp [ht]), (List.pairwise_cons.1 hb.apart).2, fun t ht => hb.own t (by simp [ht])⟩ (List.Perm.cons_inv hp)
theorem clash_none {L : List Tg} {xs : List Sp} {but : Int} : clash L xs but = none ↔ ∀ x ∈ xs, ∀ t ∈ L, meetsB but x t = false := by
  simp [clash, meets, List.findSome?_eq_none_iff, List.find?_eq_none]
theorem canon_pair {n : List Sp} (h : Canon n) (o : Int) : (n.map (fun x => ((x, o) : Tg))).Pairwise (fun a b => a.1.2 ≤ b.1.1 ∨ b.1.2 ≤ a.1.1) := by
  rw [List.pairwise_map]
  exact h.apart.imp (fun h => .inl (by simp only; omega))
theorem sortT_perm (L : List Tg) : (L.mergeSort leT).Perm L := List.mergeSort_perm _ _
theorem sortT_sorted (L : List Tg) : (L.mergeSort leT).Pairwise (fun a b => a.1.1 ≤ b.1.1) := by
  have := List.pairwise_mergeSort (le := leT) (fun a b c h1 h2 => by simp [leT] at *; omega) (fun a b => by simp [leT]; omega) L
  exact this.imp (fun h => by simpa [leT] using h)
theorem mayAdd_iff {L : List Tg} {l : List Sp} {o : Int} : mayAdd L l o = true ↔ 1 ≤ o ∧ has L o = false ∧ clash L (norm l) 0 = none := by
  simp [mayAdd, and_assoc]
theorem apart_add {L : List Tg} (hL : Inv L) {l : List Sp} {o : Int} (h : mayAdd L l o = true) :
    (∀ t ∈ L ++ (norm l).map (fun x => ((x, o) : Tg)), t.1.1 < t.1.2) ∧ (∀ t ∈ L ++ (norm l).map (fun x => ((x, o) : Tg)), 1 ≤ t.2) ∧
    (L ++ (norm l).map (fun x => ((x, o) : Tg))).Pairwise (fun a b => a.1.2 ≤ b.1.1 ∨ b.1.2 ≤ a.1.1) := by
  obtain ⟨h1, h2, h3⟩ := mayAdd_iff.1 h
  have hn := (norm_canon l).1
  refine ⟨fun t ht => ?_, fun t ht => ?_, List.pairwise_append.2 ⟨hL.apart.imp (fun h => .inl h), canon_pair hn o, fun a ha b hb => ?_⟩⟩
  · rcases List.mem_append.1 ht with h | h
    · exact hL.full t h
    · obtain ⟨x, hx, rfl⟩ := List.mem_map.1 h; exact hn.full x hx
  · rcases List.mem_append.1 ht with h | h
    · exact hL.own t h
    · obtain ⟨x, hx, rfl⟩ := List.mem_map.1 h; exact h1
  · obtain ⟨x, hx, rfl⟩ := List.mem_map.1 hb
    have := clash_none.1 h3 x hx a ha
    have ho := hL.own a ha
    have hne : (a.2 != 0) = true := by simp; omega
    simp only [meetsB, hne, Bool.and_true, Bool.and_eq_false_iff, decide_eq_false_iff_not] at this
    simp only
    omega
theorem Inv.add {L : List Tg} (hL : Inv L) (l : List Sp) (o : Int) : Inv (add L l o) := by
  unfold PureI1.add
  by_cases h : mayAdd L l o = true
  · rw [if_pos h]
    obtain ⟨h1, h2, h3⟩ := apart_add hL h
    exact inv_of_perm (sortT_perm _) h1 h2 (sortT_sorted _) h3
  · rw [if_neg h]; exact hL
/-- Whatever order the sort gives. -/
theorem add_any {L : List Tg} (hL : Inv L) {l : List Sp} {o : Int} (h : mayAdd L l o = true) {M : List Tg} (hp : M.Perm (L ++ (norm l).map (fun x => ((x, o) : Tg)))) (hs : M.Pairwise (fun a b => a.1.1 ≤ b.1.1)) : M = addL L l o := by
  obtain ⟨h1, h2, h3⟩ := apart_add hL h
  exact inv_unique _ _ (inv_of_perm hp h1 h2 hs h3) (inv_of_perm (sortT_perm _) h1 h2 (sortT_sorted _) h3) (hp.trans (sortT_perm _).symm)
end Go.Proofs.YtohpimfanplloaaGreat.PureI1
namespace Go.Proofs.YtohpimfanplloaaGreat.PureI2
open Go.Proofs.YtohpimfanplloaaGreat.PureI1

def scan (x : Sp) (but : Int) : List Tg → Option Tg
  | [] => none
  | t :: r => if t.1.1 < x.2 then (if t.2 = but then scan x but r else some t) else none
def before (x : Int) (t : Tg) : Bool := decide (t.1.2 ≤ x)
theorem inv_tail {t : Tg} {L : List Tg} (h : Inv (t :: L)) : Inv L :=
  ⟨fun t ht => h.full t (by simp [ht]), (List.pairwise_cons.1 h.apart).2, fun t ht => h.own t (by simp [ht])⟩
theorem scan_find (x : Sp) (but : Int) : ∀ (L : List Tg), Inv L → (∀ t ∈ L, x.1 < t.1.2) → scan x but L = meets L x but := by
  intro L
  induction L with
  | nil => intro _ _; rfl
  | cons t L ih =>
    intro hI hx
    have pa := (List.pairwise_cons.1 hI.apart).1
    have hf := hI.full t (by simp)
    have ih' := ih (inv_tail hI) (fun s hs => hx s (by simp [hs]))
    have hxt := hx t (by simp)
    unfold scan
    by_cases h : t.1.1 < x.2
    · rw [if_pos h]
      by_cases hb : t.2 = but
      · rw [if_pos hb, ih']
        simp [meets, meetsB, List.find?_cons, hb]
      · rw [if_neg hb]
        simp [meets, meetsB, List.find?_cons, hb, h, hxt]
    · rw [if_neg h]
      symm
      simp only [meets, List.find?_eq_none]
      intro s hs
      have : ¬ s.1.1 < x.2 := by
        rcases List.mem_cons.1 hs with rfl | h1
        · exact h
        · have := pa s h1; omega
      simp [meetsB, this]
theorem scan_meets (x : Sp) (but : Int) : ∀ (L : List Tg), Inv L → scan x but (L.drop (L.countP (before x.1))) = meets L x but := by
  intro L
  induction L with
  | nil => intro _; rfl
  | cons t L ih =>
    intro hI
    have pa := (List.pairwise_cons.1 hI.apart).1
    have hf := hI.full t (by simp)
    by_cases h : t.1.2 ≤ x.1
    · rw [List.countP_cons_of_pos (by simp [before, h]), List.drop_succ_cons, ih (inv_tail hI)]
      have : ¬ x.1 < t.1.2 := by omega
      simp [meets, meetsB, List.find?_cons, this]
    · have h0 : (t :: L).countP (before x.1) = 0 := by
        rw [List.countP_eq_zero]
        intro s hs
        simp only [before, decide_eq_true_eq]
        rcases List.mem_cons.1 hs with rfl | h1
        · exact h
        · have := pa s h1; have := hI.full s hs; omega
      rw [h0, List.drop_zero]
      refine scan_find x but _ hI (fun s hs => ?_)
      rcases List.mem_cons.1 hs with rfl | h1
      · omega
      · have := pa s h1; have := hI.full s hs; omega
/-- The places ahead of which all ends lie before. -/
theorem before_mono {L : List Tg} (hI : Inv L) (x : Int) {a b : Nat} (hab : a ≤ b) (hb : b < L.length) (h : before x (L[b]) = true) : before x (L[a]'(by omega)) = true := by
  simp only [before, decide_eq_true_eq] at *
  rcases Nat.lt_or_ge a b with h1 | h1
  · have := List.pairwise_iff_getElem.1 hI.apart a b (by omega) hb h1
    have := hI.full L[b] (List.getElem_mem hb)
    omega
  · have : a = b := by omega
    subst this
    exact h
theorem count_mono {α : Type} (p : α → Bool) : ∀ (L : List α) (i : Nat), i ≤ L.length → (∀ a (h : a < L.length), a < i → p L[a] = true) → (∀ a (h : a < L.length), i ≤ a → p L[a] = false) → L.countP p = i := by
  intro L i hi h1 h2
  have e : L = L.take i ++ L.drop i := (List.take_append_drop i L).symm
  have a1 : (L.take i).countP p = i := by
    have : (L.take i).countP p = (L.take i).length := List.countP_eq_length.2 (fun x hx => by
      obtain ⟨n, hn, rfl⟩ := List.getElem_of_mem hx
      rw [List.length_take] at hn
      rw [List.getElem_take]
      exact h1 n (by omega) (by omega))
    rw [this, List.length_take]; omega
  have a2 : (L.drop i).countP p = 0 := List.countP_eq_zero.2 (fun x hx => by
      obtain ⟨n, hn, rfl⟩ := List.getElem_of_mem hx
      rw [List.length_drop] at hn
      rw [List.getElem_drop, h2 (i + n) (by omega) (by omega)]
      simp)
  rw [e, List.countP_append, a1, a2, Nat.add_zero]

/-! ### A node's calendar: of each user what is settled and what is reserved -/
abbrev Pr := List Tg × List Tg
abbrev Us := List (Option Pr)
def ofU (c : Us) (u : Int) : Option Pr := if u < 0 then none else (c[u.toNat]?).getD none
def clash2 (p : Pr) (n : List Sp) (but : Int) : Option Tg := match clash p.1 n but with | some t => some t | none => clash p.2 n 0
def sortI (l : List Int) : List Int := l.mergeSort (fun a b => decide (a ≤ b))
def checkL (c : Us) (n : List Sp) (but : Int) : List Int → Option (Tg × Int)
  | [] => none
  | u :: r => match ofU c u with
    | none => checkL c n but r
    | some p => match clash2 p n but with
      | some t => some (t, u)
      | none => checkL c n but r
def check (c : Us) (users : List Int) (l : List Sp) (but : Int) : Option (Tg × Int) := checkL c (norm l) but (sortI users)
def hasP (tx : Int) : Option Pr → Bool | none => false | some p => has p.1 tx || has p.2 tx
def hasC (c : Us) (tx : Int) : Bool := c.any (hasP tx)
def mayRes (c : Us) (tx : Int) (users : List Int) (l : List Sp) (but : Int) : Bool := (check c users l but).isNone && decide (1 ≤ tx) && !hasC c tx
def resOne (tx : Int) (l : List Sp) (c : Us) (u : Int) : Us := if u < 0 then c else c.modify u.toNat (Option.map fun p => (p.1, add p.2 l tx))
def resAll (c : Us) (tx : Int) (users : List Int) (l : List Sp) : Us := users.foldl (resOne tx l) c
def reserve (c : Us) (tx : Int) (users : List Int) (l : List Sp) (but : Int) : Us := if mayRes c tx users l but = true then resAll c tx users l else c
def fresh (p : Pr) (tx : Int) : List Sp := (ofo p.2 tx).filter fun x => (clash p.1 (norm [x]) 0).isNone
def settleP (tx : Int) (p : Pr) : Pr := (add p.1 (fresh p tx) tx, remove p.2 tx)
def settle (c : Us) (tx : Int) : Us := c.map (Option.map (settleP tx))
def free (c : Us) (tx : Int) : Us := c.map (Option.map fun p => (p.1, remove p.2 tx))
def removeC (c : Us) (tx : Int) : Us := c.map (Option.map fun p => (remove p.1 tx, p.2))
structure InvP (p : Pr) : Prop where
  s : Inv p.1
  r : Inv p.2
def InvU (c : Us) : Prop := ∀ p, some p ∈ c → InvP p
theorem InvU.map {c : Us} (h : InvU c) {f : Pr → Pr} (hf : ∀ p, InvP p → InvP (f p)) : InvU (c.map (Option.map f)) := fun p hp => by
  obtain ⟨q, hq, he⟩ := List.mem_map.1 hp
  cases q with
  | none => cases he
  | some q => simp only [Option.map_some, Option.some.injEq] at he; subst he; exact hf q (h q hq)
theorem InvU.settle {c : Us} (h : InvU c) (tx : Int) : InvU (settle c tx) := h.map fun p hp => ⟨hp.s.add _ _, hp.r.remove _⟩
theorem InvU.free {c : Us} (h : InvU c) (tx : Int) : InvU (free c tx) := h.map fun p hp => ⟨hp.s, hp.r.remove _⟩
theorem InvU.removeC {c : Us} (h : InvU c) (tx : Int) : InvU (removeC c tx) := h.map fun p hp => ⟨hp.s.remove _, hp.r⟩
theorem InvU.resOne {c : Us} (h : InvU c) (tx : Int) (l : List Sp) (u : Int) : InvU (resOne tx l c u) := by
  unfold PureI2.resOne
  by_cases hu : u < 0
  · rw [if_pos hu]; exact h
  · rw [if_neg hu]
    intro p hp
    obtain ⟨i, hi, he⟩ := List.getElem_of_mem hp
    rw [List.getElem_modify] at he
    rw [List.length_modify] at hi
    have hm : c[i] ∈ c := List.getElem_mem hi
    split at he
    · cases hq : c[i] with
      | none => rw [hq] at he; cases he
      | some q =>
        rw [hq] at he hm
        simp only [Option.map_some, Option.some.injEq] at he
        subst he
        have := h q hm
        exact ⟨this.s, this.r.add _ _⟩
    · rw [he] at hm; exact h p hm
theorem InvU.resAll {tx : Int} {l : List Sp} : ∀ {users : List Int} {c : Us}, InvU c → InvU (resAll c tx users l) := by
  intro users
  induction users with
  | nil => intro c h; exact h
  | cons u r ih => intro c h; exact ih (h.resOne tx l u)
theorem InvU.reserve {c : Us} (h : InvU c) (tx : Int) (users : List Int) (l : List Sp) (but : Int) : InvU (reserve c tx users l but) := by
  unfold PureI2.reserve
  split
  · exact h.resAll
  · exact h
end Go.Proofs.YtohpimfanplloaaGreat.PureI2
