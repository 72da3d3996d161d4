/- Lists held against each other; numbers out of bytes. -/
import Derived.Test.YtleljfmhefobeaaGKPa
import Derived.Test.YtleljfmhefobeaaGKx6
import Derived.Test.YtleljfmhefobeaaGKx8
set_option linter.unusedVariables false
namespace Go.Proofs.Ytleljfmhefobeaa.GKPe
open Go.RowKit Go.Proofs.YtleljfmhefobeaaW.PrintWords Go.Proofs.YtleljfmhefobeaaW.PrintLast Go.Proofs.YtleljfmhefobeaaW.PrintMore Go.Proofs.Ytleljfmhefobeaa.GK Go.Proofs.Ytleljfmhefobeaa.GKPa

theorem rd_ext {l m : List Int} (h : l.length = m.length) (hr : ∀ i : Nat, i < l.length → rd l i = rd m i) : l = m := by
  apply List.ext_getElem h
  intro i h1 h2
  have := hr i h1
  rwa [rd_get h1, rd_get h2] at this
theorem equal_l0 (l m : List Int) (hl : l.length ≤ 1099511627776) (he : l.length = m.length) : ∀ d i k : Nat, l.length - i = d → i ≤ l.length → d < k →
    ∃ r : Bool, slices_Equal_int_int.l0 k l m (l.length : Int) (i : Int) = some r ∧ (r = true ↔ ∀ j : Nat, i ≤ j → j < l.length → rd l j = rd m j) := by
  intro d
  induction d with
  | zero =>
    intro i k hd hi hk
    obtain ⟨k, rfl⟩ : ∃ m, k = m + 1 := ⟨k - 1, by omega⟩
    exact ⟨true, by rw [slices_Equal_int_int.l0, if_neg (by omega)], ⟨fun _ j h1 h2 => by omega, fun _ => rfl⟩⟩
  | succ d ih =>
    intro i k hd hi hk
    obtain ⟨k, rfl⟩ : ∃ m, k = m + 1 := ⟨k - 1, by omega⟩
    by_cases h : rd l i = rd m i
    · obtain ⟨r, hr, hiff⟩ := ih (i + 1) k (by omega) (by omega) (by omega)
      refine ⟨r, by rw [slices_Equal_int_int.l0, if_pos (by omega), if_pos (by omega), if_pos (by omega), if_pos (by omega), if_pos h, w64 (by omega) (by omega), show (i : Int) + 1 = ((i + 1 : Nat) : Int) by omega]; exact hr, hiff.trans ⟨fun g j h1 h2 => ?_, fun g j h1 h2 => g j (by omega) h2⟩⟩
      by_cases e : j = i
      · subst e; exact h
      · exact g j (by omega) h2
    · refine ⟨false, by rw [slices_Equal_int_int.l0, if_pos (by omega), if_pos (by omega), if_pos (by omega), if_pos (by omega), if_neg h], ⟨(fun g => by cases g), fun g => absurd (g i (Nat.le_refl _) (by omega)) h⟩⟩
theorem equal_eq (k : Nat) (l m : List Int) (hl : l.length ≤ 1099511627776) (hk : l.length < k) : slices_Equal_int_int.f k l m = some (decide (l = m)) := by
  unfold slices_Equal_int_int.f
  by_cases he : l.length = m.length
  · rw [if_pos (by omega)]
    obtain ⟨r, hr, hiff⟩ := equal_l0 l m hl he l.length 0 k (by omega) (by omega) hk
    rw [show ((0 : Nat) : Int) = 0 from rfl] at hr
    rw [hr]
    congr 1
    rw [Bool.eq_iff_iff, hiff, decide_eq_true_eq]
    exact ⟨fun g => rd_ext he fun i hi => g i (Nat.zero_le _) hi, fun g j _ _ => by rw [g]⟩
  · rw [if_neg (by omega)]
    congr 1
    rw [Bool.eq_iff_iff]
    simp only [Bool.false_eq_true, decide_eq_true_eq, false_iff]
    exact fun g => he (by rw [g])
theorem bequal_eq (l m : List Int) (hl : bytesL l) (hm : bytesL m) : bytes_Equal.f l m = some (decide (l = m)) := by
  unfold bytes_Equal.f
  congr 1
  rw [Bool.eq_iff_iff, strs_eq hl hm, decide_eq_true_eq]
theorem vbytes_eq (l m : List Int) (hl : bytesL l) (hm : bytesL m) : vokref_Bytes.f l m = some (decide (l = m)) := by
  unfold vokref_Bytes.f
  congr 1
  rw [Bool.eq_iff_iff, strs_eq hl hm, decide_eq_true_eq]
def num (l : List Int) : Int := l.foldl (fun a x => a * 256 + x) 0
theorem num_be6 (v : Int) (h0 : 0 ≤ v) (h1 : v < 281474976710656) : num (beR 6 v) = v := by
  simp only [num, beR, List.foldl_cons, List.foldl_nil]
  omega
theorem num_be2 (v : Int) (h0 : 0 ≤ v) (h1 : v < 65536) : num (beR 2 v) = v := by
  simp only [num, beR, List.foldl_cons, List.foldl_nil]
  omega
theorem bytesL_beR : ∀ n v, bytesL (beR n v)
  | 0, _ => by intro x hx; cases hx
  | n + 1, v => by
    intro x hx
    rcases List.mem_cons.1 hx with rfl | hx
    · omega
    · exact bytesL_beR n v x hx
theorem bytesL_append {l m : List Int} (h : bytesL l) (h' : bytesL m) : bytesL (l ++ m) := fun x hx => (List.mem_append.1 hx).elim (h x) (h' x)
theorem bytesL_cons {x : Int} {m : List Int} (h : 0 ≤ x ∧ x < 256) (h' : bytesL m) : bytesL (x :: m) := fun y hy => by
  rcases List.mem_cons.1 hy with rfl | hy
  · exact h
  · exact h' y hy
theorem bytesL_nil : bytesL [] := fun _ h => by cases h
theorem bytesL_lows (l : List Int) : bytesL (lows l) := fun x hx => by
  obtain ⟨y, _, rfl⟩ := List.mem_map.1 hx
  omega
theorem rises_range {l : List Int} {b : Int} (h : rises l b) : ∀ x ∈ l, 0 ≤ x ∧ x < b := by
  intro x hx
  obtain ⟨i, hi⟩ := List.getElem?_of_mem hx
  obtain ⟨hlt, hget⟩ := List.getElem?_eq_some_iff.1 hi
  have := h.1 i (Nat.zero_le _) hlt
  rw [rd_get hlt, hget] at this
  exact ⟨this.1, this.2.1⟩
theorem lows_id {l : List Int} (h : ∀ x ∈ l, 0 ≤ x ∧ x < 256) : lows l = l := by
  unfold lows
  conv => rhs; rw [← List.map_id l]
  apply List.map_congr_left
  intro x hx
  have := h x hx
  simp only [id]
  omega
theorem wf8 {x : Int} (h : (Lit.int .u8 x).wf = true) : 0 ≤ x ∧ x < 256 := by
  simp only [Lit.wf, IntKind.min, IntKind.max, IntKind.signed, IntKind.bits, Bool.and_eq_true] at h
  simp at h
  omega
theorem bytesL_wf {l : List Int} (h : ∀ x ∈ l, (Lit.int .u8 x).wf = true) : bytesL l := fun x hx => wf8 (h x hx)
end Go.Proofs.Ytleljfmhefobeaa.GKPe
