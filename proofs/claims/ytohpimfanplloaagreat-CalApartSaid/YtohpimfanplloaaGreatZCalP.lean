/- The printed functions that are asked ahead of the calendar give an answer. -/
import Derived.Test.YtohpimfanplloaaGreatZGIx3
import Derived.Test.YtohpimfanplloaaGreatZMayS
set_option linter.unusedVariables false
set_option linter.unusedSimpArgs false
namespace Go.Proofs.YtohpimfanplloaaGreat.CalP
open Go.RowKit Go.Proofs.YtohpimfanplloaaGreatW.PrintWords Go.Proofs.YtohpimfanplloaaGreatW.PrintLast Go.Proofs.YtohpimfanplloaaGreatW.PrintMore Go.Proofs.YtohpimfanplloaaGreat.GI
theorem w64 {x : Int} (h0 : 0 ≤ x) (h1 : x < 9223372036854775807) : wrap64 x = x := by unfold wrap64; omega
theorem off_tot (a : Int) : ∃ r, zone_offset.f a = some r := by
  unfold zone_offset.f
  repeat' (first | exact ⟨_, rfl⟩ | split)
theorem year_tot (a : Int) : ∃ r, civil_year.f a = some r := by
  unfold civil_year.f
  repeat' (first | exact ⟨_, rfl⟩ | split)
theorem leap_tot (a : Int) : ∃ r, civil_Leap.f a = some r := by
  unfold civil_Leap.f
  repeat' (first | exact ⟨_, rfl⟩ | split)
theorem num_tot (a b c : Int) : ∃ r, civil_number.f a b c = some r := by
  unfold civil_number.f
  repeat' (first | exact ⟨_, rfl⟩ | split)
theorem len0_tot (k : Nat) (a b : Int) (x : Bool) : ∃ r, civil_Length.j0 (k + 1) a b x = some r := by
  obtain ⟨r, hr⟩ := leap_tot a
  simp only [civil_Length.j0, hr, Option.bind_some]
  repeat' (first | exact ⟨_, rfl⟩ | split)
theorem len_tot (k : Nat) (a b : Int) : ∃ r, civil_Length.f (k + 1) a b = some r := by
  unfold civil_Length.f
  repeat' (first | exact len0_tot _ _ _ _ | split)
theorem valid_tot (k : Nat) (a b c : Int) : ∃ r, civil_Valid.f (k + 1) a b c = some r := by
  obtain ⟨r, hr⟩ := year_tot a
  obtain ⟨s, hs⟩ := len_tot k a b
  simp only [civil_Valid.f, hr, hs, Option.bind_some]
  repeat' (first | exact ⟨_, rfl⟩ | split)
theorem days_tot (k : Nat) (a b c : Int) : ∃ r, civil_Days.f (k + 1) a b c = some r := by
  obtain ⟨r, hr⟩ := valid_tot k a b c
  obtain ⟨s, hs⟩ := num_tot a b c
  simp only [civil_Days.f, hr, hs, Option.bind_some]
  repeat' (first | exact ⟨_, rfl⟩ | split)
theorem make_tot (k : Nat) (a b c d e f : Int) : ∃ r, stamp_Make.f (k + 1) a b c d e f = some r := by
  obtain ⟨r, hr⟩ := days_tot k a b c
  simp only [stamp_Make.f, hr, Option.bind_some]
  repeat' (first | exact ⟨_, rfl⟩ | split)
theorem cyear_tot (k : Nat) (a : Int) : ∃ r, cal_year.f (k + 1) a = some r := by
  obtain ⟨r, hr⟩ := make_tot k a 1 1 0 0 0
  simp only [cal_year.f, hr, Option.bind_some]
  exact ⟨_, rfl⟩
theorem years_tot (l : List S119) (hl : l.length = 2) : ∀ (j k : Nat) (i : Int), 0 ≤ i → (2 - i).toNat ≤ j → ∃ r, zone_mayYears.l0 (k + j + 1) l l 2 i = some r
  | 0, k, i, h0, hj => by
    have h2 : ¬ i < 2 := by omega
    simp only [zone_mayYears.l0, if_neg h2, hl]
    repeat' (first | exact ⟨_, rfl⟩ | split | omega)
  | j + 1, k, i, h0, hj => by
    by_cases h2 : i < 2
    · have h3 : wrap64 (i + 1) = i + 1 := w64 (by omega) (by omega)
      obtain ⟨r, hr⟩ := off_tot ((rd_T119 l i).f4)
      obtain ⟨s, hs⟩ := years_tot l hl j k (i + 1) (by omega) (by omega)
      have h4 : i < (l.length : Int) := by omega
      show ∃ r, zone_mayYears.l0 ((k + j + 1) + 1) l l 2 i = some r
      generalize k + j + 1 = K at hs ⊢
      simp only [zone_mayYears.l0, if_pos h2, if_pos h0, if_pos h4, hr, Option.bind_some, h3, hs]
      repeat' (first | exact ⟨_, rfl⟩ | split)
    · show ∃ r, zone_mayYears.l0 ((k + j + 1) + 1) l l 2 i = some r
      simp only [zone_mayYears.l0, if_neg h2, hl]
      repeat' (first | exact ⟨_, rfl⟩ | split | omega)
theorem yearsf_tot (k : Nat) (l : List S119) (hl : l.length = 2) : ∃ r, zone_mayYears.f (k + 3) l = some r := by
  have := years_tot l hl 2 k 0 (by omega) (by omega)
  unfold zone_mayYears.f
  rw [hl]
  exact this
theorem zmay0_tot (k : Nat) (x : Bool) (a : Int) (l1 : List S115) (l2 : List S119) (b : Int) (h1 : l1.length ≤ 400) : ∃ r, zone_May.j0 (k + 4) x a l1 l2 b = some r := by
  obtain ⟨r, hr⟩ := make_tot (k + 2) b 1 1 0 0 0
  by_cases h2 : l2.length = 2
  · obtain ⟨s, hs⟩ := yearsf_tot k l2 h2
    by_cases h0 : l1.length = 0
    · simp only [zone_May.j0, hr, hs, Option.bind_some]
      have h0' : (l1.length : Int) = 0 := by omega
      simp only [h0', if_true]
      repeat' (first | exact ⟨_, rfl⟩ | split)
    · have h3 : wrap64 ((l1.length : Int) - 1) = (l1.length : Int) - 1 := w64 (by omega) (by omega)
      have h4 : 0 ≤ (l1.length : Int) - 1 := by omega
      have h5 : (l1.length : Int) - 1 < (l1.length : Int) := by omega
      simp only [zone_May.j0, hr, hs, Option.bind_some, h3, if_pos h4, if_pos h5]
      repeat' (first | exact ⟨_, rfl⟩ | split)
  · have h2' : ¬ (l2.length : Int) = 2 := by omega
    simp only [zone_May.j0, hr, Option.bind_some, if_neg h2']
    repeat' (first | exact ⟨_, rfl⟩ | split)
theorem zmay_tot (k : Nat) (z : S75) (h1 : z.f1.length ≤ 400) : ∃ r, zone_May.f (k + 4) z.f0 z.f1 z.f2 z.f3 = some r := by
  obtain ⟨r, hr⟩ := off_tot z.f0
  have hs : zone_mayShifts.f z.f1 = some (mayS z.f1) := rfl
  simp only [zone_May.f, hr, hs, Option.bind_some]
  split
  · exact zmay0_tot _ _ _ _ _ _ h1
  · exact zmay0_tot _ _ _ _ _ _ h1
theorem mayl_tot (l : List S75) (hl : l.length ≤ 30) (hz : ∀ z ∈ l, z.f1.length ≤ 400) (n u lo hi : Int) : ∀ (j k : Nat) (i : Int), 0 ≤ i → ((l.length : Int) - i).toNat ≤ j → ∃ r, cal_May.l0 (k + 4 + j + 1) l l.length i n u l lo hi = some r
  | 0, k, i, h0, hj => by
    have h2 : ¬ i < (l.length : Int) := by omega
    obtain ⟨r, hr⟩ := cyear_tot (k + 3) 9997
    show ∃ r, cal_May.l0 ((k + 4) + 1) l l.length i n u l lo hi = some r
    simp only [cal_May.l0, if_neg h2, hr, Option.bind_some]
    repeat' (first | exact ⟨_, rfl⟩ | split)
  | j + 1, k, i, h0, hj => by
    by_cases h2 : i < (l.length : Int)
    · have h3 : wrap64 (i + 1) = i + 1 := w64 (by omega) (by omega)
      obtain ⟨r, hr⟩ := zmay_tot (k + j + 1) (rd_T75 l i) (hz _ (by
        have hi : i.toNat < l.length := by omega
        have : rd_T75 l i = l[i.toNat] := by simp [rd_T75, hi]
        rw [this]; exact List.getElem_mem hi))
      have hr' : zone_May.f (k + 4 + j + 1) (rd_T75 l i).f0 (rd_T75 l i).f1 (rd_T75 l i).f2 (rd_T75 l i).f3 = some r := by
        rw [show k + 4 + j + 1 = k + j + 1 + 4 by omega]; exact hr
      obtain ⟨s, hs⟩ := mayl_tot l hl hz n u lo hi j k (i + 1) (by omega) (by omega)
      have h4 : i < (l.length : Int) := h2
      show ∃ r, cal_May.l0 ((k + 4 + j + 1) + 1) l l.length i n u l lo hi = some r
      generalize k + 4 + j + 1 = K at hs hr' ⊢
      simp only [cal_May.l0, if_pos h2, if_pos h0, hr', Option.bind_some, h3, hs]
      repeat' (first | exact ⟨_, rfl⟩ | split)
    · obtain ⟨r, hr⟩ := cyear_tot (k + 4 + j) 9997
      show ∃ r, cal_May.l0 ((k + 4 + j + 1) + 1) l l.length i n u l lo hi = some r
      simp only [cal_May.l0, if_neg h2, hr, Option.bind_some]
      repeat' (first | exact ⟨_, rfl⟩ | split)
theorem may_tot (n u : Int) (l : List S75) (lo hi : Int) (hl : l.length ≤ 30) (hz : ∀ z ∈ l, z.f1.length ≤ 400) : ∃ r, cal_May.f (4 + l.length + 2) n u l lo hi = some r := by
  obtain ⟨r, hr⟩ := mayl_tot l hl hz n u lo hi l.length 0 0 (by omega) (by omega)
  have hj : ∀ b, ∃ r, cal_May.j0 (4 + l.length + 2) b n u l lo hi = some r := fun b => by
    show ∃ r, cal_May.j0 ((4 + l.length + 1) + 1) b n u l lo hi = some r
    have hr' : cal_May.l0 (4 + l.length + 1) l l.length 0 n u l lo hi = some r := by rw [← hr]
    simp only [cal_May.j0, hr']
    split
    · exact ⟨_, rfl⟩
    · exact ⟨_, rfl⟩
  unfold cal_May.f
  repeat' (first | exact hj _ | split)
/-- FewZones answers; and where it answers true, the lists are short. -/
theorem fewz_tot (l : List S75) : ∀ (j : Nat) (i : Nat), i ≤ l.length → (30 - i) ≤ j → (∀ z ∈ l.take i, z.f1.length ≤ 400 ∧ z.f2.length ≤ 400) → ∃ r, voklaw9_FewZones.l0 (2 * j + 2) l i = some r ∧ (r = true → l.length ≤ 30 ∧ ∀ z ∈ l, z.f1.length ≤ 400 ∧ z.f2.length ≤ 400)
  | j, i, h0, hj, hz => by
    by_cases h1 : (i : Int) < (l.length : Int)
    · by_cases h2 : (i : Int) < 30
      · obtain ⟨j, rfl⟩ : ∃ j', j = j' + 1 := ⟨j - 1, by omega⟩
        have hi : i < l.length := by omega
        have h3 : wrap64 ((i : Int) + 1) = ((i + 1 : Nat) : Int) := by rw [w64 (by omega) (by omega)]; simp
        have hrd : rd_T75 l (i : Int) = l[i] := by simp [rd_T75, hi]
        have h5 : (0 : Int) ≤ (i : Int) := by omega
        show ∃ r, voklaw9_FewZones.l0 ((2 * j + 2 + 1) + 1) l i = some r ∧ _
        simp only [voklaw9_FewZones.l0, voklaw9_FewZones.j1, if_pos h1, decide_eq_true h2, if_pos h5, hrd, h3, if_true]
        unfold vokref_FewZone.f
        by_cases h6 : ((l[i].f1.length : Nat) : Int) ≤ 400
        · rw [if_pos h6]
          by_cases h7 : ((l[i].f2.length : Nat) : Int) ≤ 400
          · rw [decide_eq_true h7]
            simp only [Option.bind_some, if_true]
            exact fewz_tot l j (i + 1) (by omega) (by omega) (fun z hm => by
              rw [List.take_succ_eq_append_getElem hi, List.mem_append] at hm
              rcases hm with hm | hm
              · exact hz z hm
              · simp at hm; subst hm; exact ⟨by omega, by omega⟩)
          · rw [decide_eq_false h7]
            exact ⟨false, by simp, by simp⟩
        · rw [if_neg h6]
          exact ⟨false, by simp, by simp⟩
      · show ∃ r, voklaw9_FewZones.l0 ((2 * j + 1) + 1) l i = some r ∧ _
        have h4 : ¬ (l.length : Int) ≤ 30 := by omega
        simp only [voklaw9_FewZones.l0, if_pos h1, decide_eq_false h2]
        show ∃ r, voklaw9_FewZones.j1 ((2 * j) + 1) l i false = some r ∧ _
        simp only [voklaw9_FewZones.j1, decide_eq_false h4]
        exact ⟨false, by simp, by simp⟩
    · show ∃ r, voklaw9_FewZones.l0 ((2 * j + 1) + 1) l i = some r ∧ _
      simp only [voklaw9_FewZones.l0, if_neg h1]
      show ∃ r, voklaw9_FewZones.j1 ((2 * j) + 1) l i false = some r ∧ _
      simp only [voklaw9_FewZones.j1]
      refine ⟨decide ((l.length : Int) ≤ 30), by simp, fun h => ⟨by have := of_decide_eq_true h; omega, fun z hm => hz z ?_⟩⟩
      rw [List.take_of_length_le (by omega)]; exact hm
theorem few_tot (l : List S75) : ∃ r, voklaw9_FewZones.f 62 l = some r ∧ (r = true → l.length ≤ 30 ∧ ∀ z ∈ l, z.f1.length ≤ 400 ∧ z.f2.length ≤ 400) :=
  fewz_tot l 30 0 (by omega) (by omega) (by simp)
end Go.Proofs.YtohpimfanplloaaGreat.CalP
