/- The reference's leaf functions (lists that rise, numbers as bytes, bytes as numbers), in plain lists and numbers. -/
import Derived.Test.YtleljfmhefobeaaGKPe
import Derived.Test.YtleljfmhefobeaaGKx9
import Derived.Test.YtleljfmhefobeaaGKx11
set_option linter.unusedVariables false
namespace Go.Proofs.Ytleljfmhefobeaa.GKRa
open Go.RowKit Go.Proofs.YtleljfmhefobeaaW.PrintWords Go.Proofs.YtleljfmhefobeaaW.PrintLast Go.Proofs.YtleljfmhefobeaaW.PrintMore Go.Proofs.Ytleljfmhefobeaa.GK Go.Proofs.Ytleljfmhefobeaa.GKPa Go.Proofs.Ytleljfmhefobeaa.GKPe

/-- from index i on: each within 0 and most -/
def inB (l : List Int) (m : Int) (i : Nat) : Prop := ∀ j, i ≤ j → j < l.length → 0 ≤ rd l j ∧ rd l j ≤ m
/-- from index i on (i at least 1): above what stands before it -/
def riB (l : List Int) (i : Nat) : Prop := ∀ j, i ≤ j → j < l.length → rd l ((j - 1 : Nat) : Int) < rd l j
theorem vrises_l0 (l : List Int) (hl : l.length ≤ 1099511627776) : ∀ d i k : Nat, l.length - i = d → 0 < i → d < k →
    ∃ r : Bool, vokref_Rises.l0 k l (i : Int) = some r ∧ (r = true ↔ riB l i) := by
  intro d
  induction d with
  | zero =>
    intro i k hd hi hk
    obtain ⟨k, rfl⟩ : ∃ m, k = m + 1 := ⟨k - 1, by omega⟩
    refine ⟨true, by simp only [vokref_Rises.l0]; rw [if_neg (by omega)], ?_⟩
    exact ⟨fun _ j h1 h2 => by omega, fun _ => rfl⟩
  | succ d ih =>
    intro i k hd hi hk
    obtain ⟨k, rfl⟩ : ∃ m, k = m + 1 := ⟨k - 1, by omega⟩
    have hlt : i < l.length := by omega
    have hw : wrap64 ((i : Int) + 1) = ((i + 1 : Nat) : Int) := by rw [w64 (by omega) (by omega)]; omega
    have hw1 : wrap64 ((i : Int) - 1) = ((i - 1 : Nat) : Int) := by rw [w64 (by omega) (by omega)]; omega
    by_cases h4 : rd l i ≤ rd l ((i - 1 : Nat) : Int)
    · refine ⟨false, by simp only [vokref_Rises.l0]; rw [if_pos (by omega), if_pos (by omega), hw1, if_pos (by omega), if_pos (by omega), if_pos h4], ?_⟩
      constructor
      · intro h; cases h
      · intro h; have := h i (Nat.le_refl _) hlt; omega
    · obtain ⟨r, hr, hiff⟩ := ih (i + 1) k (by omega) (by omega) (by omega)
      refine ⟨r, by simp only [vokref_Rises.l0]; rw [if_pos (by omega), if_pos (by omega), hw1, if_pos (by omega), if_pos (by omega), if_neg h4, hw]; exact hr, hiff.trans ⟨fun h j h1 h2 => ?_, fun h j h1 h2 => h j (by omega) h2⟩⟩
      by_cases e : j = i
      · subst e; omega
      · exact h j (by omega) h2
theorem vlist_l0 (l : List Int) (m n : Int) (hl : l.length ≤ 1099511627776) : ∀ d i k : Nat, l.length - i = d → i ≤ l.length → l.length + d + 1 < k →
    ∃ r : Bool, vokref10_List.l0 k l m n (i : Int) = some r ∧ (r = true ↔ (inB l m i ∧ (l.length : Int) ≤ n ∧ riB l 1)) := by
  intro d
  induction d with
  | zero =>
    intro i k hd hi hk
    obtain ⟨k, rfl⟩ : ∃ m, k = m + 1 := ⟨k - 1, by omega⟩
    have hin : inB l m i := fun j h1 h2 => by omega
    by_cases hn : (l.length : Int) ≤ n
    · obtain ⟨r, hr, hiff⟩ := vrises_l0 l hl (l.length - 1) 1 k (by omega) (by omega) (by omega)
      refine ⟨r, by simp only [vokref10_List.l0]; rw [if_neg (by omega), if_pos hn]; unfold vokref_Rises.f; rw [show (1 : Int) = ((1 : Nat) : Int) from rfl, hr]; rfl, ?_⟩
      rw [hiff]
      exact ⟨fun h => ⟨hin, hn, h⟩, fun h => h.2.2⟩
    · refine ⟨false, by simp only [vokref10_List.l0]; rw [if_neg (by omega), if_neg hn], ?_⟩
      exact ⟨(fun h => by cases h), fun h => absurd h.2.1 hn⟩
  | succ d ih =>
    intro i k hd hi hk
    obtain ⟨k, rfl⟩ : ∃ m, k = m + 1 := ⟨k - 1, by omega⟩
    have hlt : i < l.length := by omega
    have hw : wrap64 ((i : Int) + 1) = ((i + 1 : Nat) : Int) := by rw [w64 (by omega) (by omega)]; omega
    by_cases h1 : rd l i < 0
    · refine ⟨false, by simp only [vokref10_List.l0]; rw [if_pos (by omega), if_pos (by omega), if_pos h1], ?_⟩
      exact ⟨(fun h => by cases h), (fun h => by have := (h.1 i (Nat.le_refl _) hlt).1; omega)⟩
    · by_cases h2 : rd l i > m
      · refine ⟨false, by simp only [vokref10_List.l0]; rw [if_pos (by omega), if_pos (by omega), if_neg h1, if_pos h2], ?_⟩
        exact ⟨(fun h => by cases h), (fun h => by have := (h.1 i (Nat.le_refl _) hlt).2; omega)⟩
      · obtain ⟨r, hr, hiff⟩ := ih (i + 1) k (by omega) (by omega) (by omega)
        refine ⟨r, by simp only [vokref10_List.l0]; rw [if_pos (by omega), if_pos (by omega), if_neg h1, if_neg h2, hw]; exact hr, hiff.trans ⟨fun h => ⟨fun j g1 g2 => ?_, h.2⟩, fun h => ⟨fun j g1 g2 => h.1 j (by omega) g2, h.2⟩⟩⟩
        by_cases e : j = i
        · subst e; omega
        · exact h.1 j (by omega) g2
theorem rises_ref (l : List Int) (b : Int) : rises l b ↔ (inB l (b - 1) 0 ∧ (l.length : Int) ≤ b ∧ riB l 1) := by
  constructor
  · rintro ⟨h, h2⟩
    exact ⟨fun j h1 h3 => by have := h j h1 h3; omega, h2, fun j h1 h3 => (h j (by omega) h3).2.2 (by omega)⟩
  · rintro ⟨h, h2, h3⟩
    exact ⟨fun j h1 h4 => ⟨(h j h1 h4).1, by have := (h j h1 h4).2; omega, fun h5 => h3 j (by omega) h4⟩, h2⟩
theorem vlist_eq (l : List Int) (m n : Int) (hm : m = n - 1) (k : Nat) (hl : l.length ≤ 1099511627776) (hk : 2 * l.length + 1 < k) : vokref10_List.f k l m n = some (risesB l n) := by
  subst hm
  obtain ⟨r, hr, hiff⟩ := vlist_l0 l (n - 1) n hl l.length 0 k (by omega) (by omega) (by omega)
  have : r = risesB l n := by rw [Bool.eq_iff_iff, hiff, risesB_iff, rises_ref]
  subst this
  exact hr
theorem vbe_l0 (v : Int) : ∀ n k (l : List Int), n < k → n ≤ 8 → l.length + n < 140737488355328 → vokref10_Be.l0 k v l ((n : Int) - 1) = some (l ++ beR n v) := by
  intro n
  induction n with
  | zero =>
    intro k l hk _ _
    obtain ⟨k, rfl⟩ : ∃ m, k = m + 1 := ⟨k - 1, by omega⟩
    simp only [vokref10_Be.l0]
    rw [if_neg (by omega)]
    simp [beR]
  | succ n ih =>
    intro k l hk hn hl
    obtain ⟨k, rfl⟩ : ∃ m, k = m + 1 := ⟨k - 1, by omega⟩
    have e : ((n + 1 : Nat) : Int) - 1 = (n : Int) := by omega
    have e2 : IntKind.u64.wrap (wrap64 (8 * (n : Int))) = 8 * (n : Int) := by
      rw [w64 (by omega) (by omega), IntKind.wrap_u64]; omega
    rw [e]
    simp only [vokref10_Be.l0]
    rw [if_pos (by omega), e2, if_pos (by omega), if_pos (by omega), w64 (by omega) (by omega), shr_at v n (by omega), ih k _ (by omega) (by omega) (by simp; omega)]
    simp [beR]
theorem vbe_eq (k : Nat) (n : Nat) (v : Int) (hk : n < k) (hn : n ≤ 8) : vokref10_Be.f k (n : Int) v = some (beR n v) := by
  unfold vokref10_Be.f
  rw [w64 (by omega) (by omega)]
  exact vbe_l0 v n k [] hk hn (by simp; omega)
theorem vshort_l0 (us : List Int) : ∀ d i k (l : List Int), us.length - i = d → i ≤ us.length → d < k → l.length + d < 140737488355328 → us.length < 140737488355328 →
    vokref10_Short.l0 k us l (i : Int) = some (l ++ lows (us.drop i)) := by
  intro d
  induction d with
  | zero =>
    intro i k l hd hi hk hl hu
    obtain ⟨k, rfl⟩ : ∃ m, k = m + 1 := ⟨k - 1, by omega⟩
    simp only [vokref10_Short.l0]
    rw [if_neg (by omega), List.drop_eq_nil_of_le (by omega)]
    simp [lows]
  | succ d ih =>
    intro i k l hd hi hk hl hu
    obtain ⟨k, rfl⟩ : ∃ m, k = m + 1 := ⟨k - 1, by omega⟩
    have hlt : i < us.length := by omega
    simp only [vokref10_Short.l0]
    rw [if_pos (by omega), if_pos (by omega), if_pos (by omega), w64 (by omega) (by omega), show (i : Int) + 1 = ((i + 1 : Nat) : Int) by omega,
      ih (i + 1) k _ (by omega) (by omega) (by omega) (by simp; omega) hu, drop_rd hlt]
    simp [lows]
theorem vshort_eq (k : Nat) (us : List Int) (hk : us.length < k) (hl : us.length + 1 < 140737488355328) : vokref10_Short.f k us = some (((us.length : Int) % 256) :: lows us) := by
  unfold vokref10_Short.f
  have := vshort_l0 us us.length 0 k [(us.length : Int) % 256] (by omega) (by omega) hk (by simp; omega) (by omega)
  rw [show ((0 : Nat) : Int) = 0 from rfl] at this
  rw [this]
  simp
theorem vints_l0 (l m : List Int) (hl : l.length ≤ 1099511627776) (he : l.length = m.length) : ∀ d i k : Nat, l.length - i = d → i ≤ l.length → d < k →
    vokref_Ints.l0 k l m (i : Int) = some (decide (l.drop i = m.drop i)) := by
  intro d
  induction d with
  | zero =>
    intro i k hd hi hk
    obtain ⟨k, rfl⟩ : ∃ m, k = m + 1 := ⟨k - 1, by omega⟩
    simp only [vokref_Ints.l0]
    rw [if_neg (by omega), List.drop_eq_nil_of_le (by omega), List.drop_eq_nil_of_le (by omega)]
    rfl
  | succ d ih =>
    intro i k hd hi hk
    obtain ⟨k, rfl⟩ : ∃ m, k = m + 1 := ⟨k - 1, by omega⟩
    have hlt : i < l.length := by omega
    have hlm : i < m.length := by omega
    simp only [vokref_Ints.l0]
    rw [if_pos (by omega), if_pos (by omega), if_pos (by omega), drop_rd hlt, drop_rd hlm]
    by_cases h : rd l i = rd m i
    · rw [if_pos h, w64 (by omega) (by omega), show (i : Int) + 1 = ((i + 1 : Nat) : Int) by omega, ih (i + 1) k (by omega) (by omega) (by omega)]
      simp [h]
    · rw [if_neg h]
      simp [h]
theorem vints_eq (k : Nat) (l m : List Int) (hl : l.length ≤ 1099511627776) (hk : l.length < k) : vokref_Ints.f k l m = some (decide (l = m)) := by
  unfold vokref_Ints.f
  by_cases he : l.length = m.length
  · rw [if_pos (by omega)]
    exact vints_l0 l m hl he l.length 0 k (by omega) (by omega) hk
  · rw [if_neg (by omega), decide_eq_false (fun h => he (by rw [h]))]
/-- At most six bytes. -/
theorem vnum_l0 (l : List Int) (hb : bytesL l) (hl : l.length ≤ 6) : ∀ d i k : Nat, ∀ a : Int, l.length - i = d → i ≤ l.length → d < k → 0 ≤ a → a * 256 ^ d < 281474976710656 → a + 1 ≤ 256 ^ i →
    vokref10_Num.l0 k l a (i : Int) = some ((l.drop i).foldl (fun a x => a * 256 + x) a) := by
  intro d
  induction d with
  | zero =>
    intro i k a hd hi hk h0 h1 h2
    obtain ⟨k, rfl⟩ : ∃ m, k = m + 1 := ⟨k - 1, by omega⟩
    simp only [vokref10_Num.l0]
    rw [if_neg (by omega), List.drop_eq_nil_of_le (by omega)]
    rfl
  | succ d ih =>
    intro i k a hd hi hk h0 h1 h2
    obtain ⟨k, rfl⟩ : ∃ m, k = m + 1 := ⟨k - 1, by omega⟩
    have hlt : i < l.length := by omega
    have hx : 0 ≤ rd l i ∧ rd l i < 256 := by rw [rd_get hlt]; exact hb _ (List.getElem_mem hlt)
    have hi6 : i = 0 ∨ i = 1 ∨ i = 2 ∨ i = 3 ∨ i = 4 ∨ i = 5 := by omega
    have ha : a < 1099511627776 := by rcases hi6 with rfl | rfl | rfl | rfl | rfl | rfl <;> omega
    have h3 : a * 256 + rd l i + 1 ≤ 256 ^ (i + 1) := by rw [Int.pow_succ]; omega
    simp only [vokref10_Num.l0]
    rw [if_pos (by omega), if_pos (by omega), w64 (x := 256 * a) (by omega) (by omega), w64 (x := rd l i) (by omega) (by omega), w64 (x := 256 * a + rd l i) (by omega) (by omega), w64 (x := (i : Int) + 1) (by omega) (by omega), show (i : Int) + 1 = ((i + 1 : Nat) : Int) by omega,
      ih (i + 1) k _ (by omega) (by omega) (by omega) (by omega) ?_ (by omega), drop_rd hlt, List.foldl_cons, show 256 * a + rd l i = a * 256 + rd l i by omega]
    have hd6 : i + d + 1 ≤ 6 := by omega
    rcases hi6 with rfl | rfl | rfl | rfl | rfl | rfl <;> (have hdd : d = 0 ∨ d = 1 ∨ d = 2 ∨ d = 3 ∨ d = 4 ∨ d = 5 := by omega) <;> (rcases hdd with rfl | rfl | rfl | rfl | rfl | rfl) <;> omega
theorem vnum_eq (k : Nat) (l : List Int) (hb : bytesL l) (hl : l.length ≤ 6) (hk : l.length < k) : vokref10_Num.f k l = some (num l) := by
  unfold vokref10_Num.f
  exact vnum_l0 l hb hl l.length 0 k 0 (by omega) (by omega) hk (by omega) (by omega) (by decide)
end Go.Proofs.Ytleljfmhefobeaa.GKRa
