/- What voklaw17.few, vokref.Has, vokref.Ints, vokref.Spans answer, in plain words. -/
import Derived.Test.YtohpimfanplloaaGreatZGIx5
import Derived.Test.YtohpimfanplloaaGreatZIvA
import Derived.Says
import Derived.Outline
import Derived.WalkKit
set_option linter.unusedVariables false
set_option linter.unusedSimpArgs false
namespace Go.Proofs.YtohpimfanplloaaGreat.CalV
open Go.RowKit Go.Proofs.YtohpimfanplloaaGreatW.PrintWords Go.Proofs.YtohpimfanplloaaGreatW.PrintLast Go.Proofs.YtohpimfanplloaaGreatW.PrintMore Go.Proofs.YtohpimfanplloaaGreat.GI Go.Proofs.YtohpimfanplloaaGreat.PureI1 Go.Proofs.YtohpimfanplloaaGreat.IvA
def FewIs (l : List S61) : Prop := l.length ≤ 100 ∧ ∀ x ∈ l, x.f3.length ≤ 1000 ∧ x.f4.length ≤ 1000
theorem mn_nat (n : Nat) : 0 ≤ mn (n : Int) 1001 ∧ mn (n : Int) 1001 ≤ 1001 ∧ (mn (n : Int) 1001 ≤ 1000 → n ≤ 1000) := by
  unfold mn
  split <;> omega
theorem few_l0 (l : List S61) : ∀ (m i : Nat) (s : Int), i + m = min l.length 100 → 0 ≤ s → s ≤ 2002 * i →
    ∃ b, voklaw17_few.l0 (m + 1) l s i = some b ∧ (b = true → l.length ≤ 100 ∧ s ≤ 1000 ∧ ∀ j, i ≤ j → (h : j < l.length) → l[j].f3.length ≤ 1000 ∧ l[j].f4.length ≤ 1000) := by
  intro m
  induction m with
  | zero =>
    intro i s hi h0 h1
    unfold voklaw17_few.l0
    by_cases h : l.length ≤ 100
    · rw [if_neg (by omega), if_pos (by omega)]
      refine ⟨_, rfl, fun hb => ⟨h, by simpa using hb, fun j hj hl => by omega⟩⟩
    · rw [if_pos (by omega), if_neg (by omega), if_neg (by omega)]
      exact ⟨_, rfl, fun hb => by cases hb⟩
  | succ m ih =>
    intro i s hi h0 h1
    have hlt : i < l.length := by omega
    unfold voklaw17_few.l0
    rw [if_pos (by omega), if_pos (by omega), if_pos (by omega)]
    have hrd : rd_T61 l (i : Int) = l[i] := by unfold rd_T61; rw [Int.toNat_natCast]; simp [hlt]
    rw [hrd]
    obtain ⟨a1, a2, a3⟩ := mn_nat l[i].f4.length
    obtain ⟨b1, b2, b3⟩ := mn_nat l[i].f3.length
    generalize hx : mn (l[i].f4.length : Int) 1001 = x at *
    generalize hy : mn (l[i].f3.length : Int) 1001 = y at *
    have w1 : wrap64 (s + x) = s + x := by unfold wrap64; omega
    have w2 : wrap64 (s + x + y) = s + x + y := by unfold wrap64; omega
    have w3 : wrap64 ((i : Int) + 1) = ((i + 1 : Nat) : Int) := by unfold wrap64; omega
    rw [w1, w2, w3]
    clear w1 w2 w3 hx hy hrd
    obtain ⟨b, hb, hc⟩ := ih (i + 1) (s + x + y) (by omega) (by omega) (by omega)
    refine ⟨b, hb, fun h => ?_⟩
    obtain ⟨c1, c2, c3⟩ := hc h
    refine ⟨c1, by omega, fun j hj hl => ?_⟩
    by_cases he : i = j
    · subst he
      exact ⟨b3 (by omega), a3 (by omega)⟩
    · exact c3 j (by omega) hl
theorem few_any (l : List S61) : ∃ k b, voklaw17_few.f k l = some b ∧ (b = true → FewIs l) := by
  obtain ⟨b, h1, h2⟩ := few_l0 l (min l.length 100) 0 0 (by omega) (by omega) (by omega)
  refine ⟨_, b, h1, fun h => ?_⟩
  obtain ⟨c1, _, c3⟩ := h2 h
  refine ⟨c1, fun x hx => ?_⟩
  obtain ⟨j, hj, rfl⟩ := List.getElem_of_mem hx
  exact c3 j (by omega) hj
theorem has_l0 (L : List Int) (a : Int) (hL : L.length ≤ 1099511627776) : ∀ (m i : Nat), i + m = L.length → vokref_Has.l0 (m + 1) L a i = some (decide (a ∈ L.drop i)) := by
  intro m
  induction m with
  | zero =>
    intro i hi
    unfold vokref_Has.l0
    rw [if_neg (by omega), List.drop_of_length_le (by omega)]
    simp
  | succ m ih =>
    intro i hi
    have hlt : i < L.length := by omega
    unfold vokref_Has.l0
    rw [if_pos (by omega), if_pos (by omega)]
    have hrd : rd L (i : Int) = L[i] := by unfold rd; rw [Int.toNat_natCast]; simp [hlt]
    have w3 : wrap64 ((i : Int) + 1) = ((i + 1 : Nat) : Int) := by unfold wrap64; omega
    rw [hrd, w3, ih (i + 1) (by omega), List.drop_eq_getElem_cons hlt]
    by_cases h : L[i] = a
    · rw [if_pos h]; simp [h]
    · rw [if_neg h]
      have : ¬ a = L[i] := fun e => h e.symm
      simp only [List.mem_cons, this, false_or]
theorem has_f (L : List Int) (a : Int) (hL : L.length ≤ 1099511627776) : vokref_Has.f (L.length + 1) L a = some (decide (a ∈ L)) := by
  have := has_l0 L a hL L.length 0 (by omega)
  rw [List.drop_zero] at this
  exact this
theorem ints_l0 (xs : List Int) (hx : xs.length ≤ 1099511627776) : ∀ (m i : Nat), i + m = xs.length → vokref_Ints.l0 (m + 1) xs xs i = some true := by
  intro m
  induction m with
  | zero =>
    intro i hi
    unfold vokref_Ints.l0
    rw [if_neg (by omega)]
  | succ m ih =>
    intro i hi
    unfold vokref_Ints.l0
    rw [if_pos (by omega), if_pos (by omega), if_pos (by omega), if_pos rfl]
    have hw : wrap64 ((i : Int) + 1) = ((i + 1 : Nat) : Int) := by unfold wrap64; omega
    rw [hw]
    exact ih (i + 1) (by omega)
theorem ints_same (xs : List Int) (hx : xs.length ≤ 1099511627776) : vokref_Ints.f (xs.length + 1) xs xs = some true := by
  unfold vokref_Ints.f
  rw [if_pos rfl]
  exact ints_l0 xs hx xs.length 0 (by omega)
def to42 (l : List Sp) : List S42 := l.map fun p => (⟨p.1, p.2⟩ : S42)
theorem spans_l0 (xs : List S42) (hx : xs.length ≤ 1099511627776) : ∀ (m i : Nat), i + m = xs.length → vokref_Spans.l0 (m + 1) xs xs i = some true := by
  intro m
  induction m with
  | zero =>
    intro i hi
    unfold vokref_Spans.l0
    rw [if_neg (by omega)]
  | succ m ih =>
    intro i hi
    unfold vokref_Spans.l0
    rw [if_pos (by omega), if_pos (by omega), if_pos (by omega), if_pos rfl, if_pos rfl]
    have hw : wrap64 ((i : Int) + 1) = ((i + 1 : Nat) : Int) := by unfold wrap64; omega
    rw [hw]
    exact ih (i + 1) (by omega)
theorem spans_same (xs : List S42) (hx : xs.length ≤ 1099511627776) : vokref_Spans.f (xs.length + 1) xs xs = some true := by
  unfold vokref_Spans.f
  rw [if_pos rfl]
  exact spans_l0 xs hx xs.length 0 (by omega)
end Go.Proofs.YtohpimfanplloaaGreat.CalV
