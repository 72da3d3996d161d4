/- The reference's Decode in plain lists: it answers as the program's does. -/
import Derived.Test.YtleljfmhefobeaaGKDec
set_option linter.unusedVariables false
namespace Go.Proofs.Ytleljfmhefobeaa.GKRd
open Go.RowKit Go.Proofs.YtleljfmhefobeaaW.PrintWords Go.Proofs.YtleljfmhefobeaaW.PrintLast Go.Proofs.YtleljfmhefobeaaW.PrintMore Go.Proofs.Ytleljfmhefobeaa.GK Go.Proofs.Ytleljfmhefobeaa.GKPa Go.Proofs.Ytleljfmhefobeaa.GKPe Go.Proofs.Ytleljfmhefobeaa.GKPw Go.Proofs.Ytleljfmhefobeaa.GKSrc Go.Proofs.Ytleljfmhefobeaa.GKDec

theorem nx_bad (n : Nat) {s : List Int × Bool} (h : s.2 = true) : (nxtR n s).2 = true := by unfold nxtR; rw [if_pos (.inl h)]
theorem nx_ok {n : Nat} {s : List Int × Bool} (h : (nxtR n s).2 = false) : s.2 = false ∧ n ≤ s.1.length ∧ nxtR n s = (s.1.drop n, false) := by
  unfold nxtR at h ⊢
  by_cases g : s.2 = true ∨ s.1.length < n
  · rw [if_pos g] at h; cases h
  · rw [if_neg g]
    exact ⟨by cases e : s.2 with | false => rfl | true => exact absurd (.inl e) g, by omega, rfl⟩
theorem nx_go {n : Nat} {s : List Int} (h : n ≤ s.length) : nxtR n (s, false) = (s.drop n, false) := by
  unfold nxtR; rw [if_neg (by simp; omega)]
theorem num_go {n : Nat} {s : List Int} (h : n ≤ s.length) : numR n (s, false) = num (s.take n) := by
  unfold numR; rw [if_neg (by simp; omega)]
theorem lst_bad {s : List Int × Bool} (h : s.2 = true) : (lstN s).2 = true := nx_bad _ (nx_bad _ h)
/-- One list: its length's byte, then its bytes. -/
def one : List Int → Option (List Int × List Int)
  | [] => none
  | n :: t => if t.length < n.toNat then none else some (t.take n.toNat, t.drop n.toNat)
theorem lst_no {s : List Int} (h : one s = none) : (lstN (s, false)).2 = true := by
  cases s with
  | nil => exact nx_bad _ (by unfold nxtR; rw [if_pos (.inr (by simp))])
  | cons n t =>
    simp only [one] at h
    by_cases g : t.length < n.toNat
    · unfold lstN
      rw [num_go (by simp), nx_go (by simp)]
      unfold nxtR
      rw [if_pos (.inr (by simpa [num] using g))]
    · rw [if_neg g] at h; cases h
theorem lst_yes {s l r : List Int} (h : one s = some (l, r)) : lstN (s, false) = (r, false) ∧ lstR (s, false) = l := by
  cases s with
  | nil => cases h
  | cons n t =>
    simp only [one] at h
    by_cases g : t.length < n.toNat
    · rw [if_pos g] at h; cases h
    · rw [if_neg g] at h
      cases h
      unfold lstN lstR
      rw [num_go (by simp), nx_go (by simp)]
      have e : num (List.take 1 (n :: t)) = n := by simp [num]
      rw [e]
      refine ⟨nx_go (by simpa using g), ?_⟩
      unfold takeR
      rw [if_neg (by simpa using g)]
      rfl
def headM (b us ns tx : List Int) (y : Bool) : M := ⟨num (b.take 1), num ((b.drop 1).take 1), num ((b.drop 2).take 1), num ((b.drop 6).take 6), num ((b.drop 12).take 6), num ((b.drop 3).take 1), num ((b.drop 18).take 6), num ((b.drop 4).take 1), num ((b.drop 24).take 6), y, num ((b.drop 30).take 6), num ((b.drop 36).take 6), us, ns, tx⟩
def yR (b : List Int) : Bool := num ((b.drop 5).take 1) == 1
open Classical in
noncomputable def vdec (b : List Int) : M × Int :=
  if b.length < 42 then (m0, 2) else
  match one (b.drop 42) with
  | none => (m0, 2)
  | some (us, s1) =>
    match one s1 with
    | none => (m0, 2)
    | some (ns, s2) =>
      if s2.length < 2 then (m0, 2) else
      if (s2.drop 2).length < (num (s2.take 2)).toNat then (m0, 2) else
      if (s2.drop 2).length > (num (s2.take 2)).toNat then (m0, 3) else
      if ¬ May (headM b us ns (s2.drop 2) (yR b)) ∨ body (headM b us ns (s2.drop 2) (yR b)) ≠ b then (m0, 4) else (headM b us ns (s2.drop 2) (yR b), 0)
theorem over_bad {s : List Int × Bool} (h : s.2 = true) : overR s = 2 := by unfold overR; rw [if_pos h]
theorem dec_short {b : List Int} (h : (parse b).2.2 = true) : dec b = (m0, 2) := by
  unfold dec
  rw [over_bad h, if_pos (by decide)]
theorem parse_long {b : List Int} (h : 42 ≤ b.length) : nxtR 6 (nxtR 6 (nxtR 6 (nxtR 6 (nxtR 6 (nxtR 6 (nxtR 1 (nxtR 1 (nxtR 1 (nxtR 1 (nxtR 1 (nxtR 1 (b, false)))))))))))) = (b.drop 42, false) := by
  rw [nx_go (n := 1) (s := b) (by omega), nx_go (n := 1) (by simp; omega), nx_go (n := 1) (by simp; omega), nx_go (n := 1) (by simp; omega), nx_go (n := 1) (by simp; omega), nx_go (n := 1) (by simp; omega), nx_go (n := 6) (by simp; omega), nx_go (n := 6) (by simp; omega), nx_go (n := 6) (by simp; omega), nx_go (n := 6) (by simp; omega), nx_go (n := 6) (by simp; omega), nx_go (n := 6) (by simp; omega)]
  simp [List.drop_drop]
theorem parse_short {b : List Int} (h : b.length < 42) : (nxtR 6 (nxtR 6 (nxtR 6 (nxtR 6 (nxtR 6 (nxtR 6 (nxtR 1 (nxtR 1 (nxtR 1 (nxtR 1 (nxtR 1 (nxtR 1 (b, false))))))))))))).2 = true := by
  cases e : (nxtR 6 (nxtR 6 (nxtR 6 (nxtR 6 (nxtR 6 (nxtR 6 (nxtR 1 (nxtR 1 (nxtR 1 (nxtR 1 (nxtR 1 (nxtR 1 (b, false))))))))))))).2 with
  | true => rfl
  | false =>
    obtain ⟨h1, a1, e1⟩ := nx_ok e
    obtain ⟨h2, a2, e2⟩ := nx_ok h1
    obtain ⟨h3, a3, e3⟩ := nx_ok h2
    obtain ⟨h4, a4, e4⟩ := nx_ok h3
    obtain ⟨h5, a5, e5⟩ := nx_ok h4
    obtain ⟨h6, a6, e6⟩ := nx_ok h5
    obtain ⟨h7, a7, e7⟩ := nx_ok h6
    obtain ⟨h8, a8, e8⟩ := nx_ok h7
    obtain ⟨h9, a9, e9⟩ := nx_ok h8
    obtain ⟨h10, a10, e10⟩ := nx_ok h9
    obtain ⟨h11, a11, e11⟩ := nx_ok h10
    obtain ⟨h12, a12, e12⟩ := nx_ok h11
    rw [e2] at a1; rw [e3] at a1 a2; rw [e4] at a1 a2 a3; rw [e5] at a1 a2 a3 a4; rw [e6] at a1 a2 a3 a4 a5; rw [e7] at a1 a2 a3 a4 a5 a6; rw [e8] at a1 a2 a3 a4 a5 a6 a7; rw [e9] at a1 a2 a3 a4 a5 a6 a7 a8; rw [e10] at a1 a2 a3 a4 a5 a6 a7 a8 a9; rw [e11] at a1 a2 a3 a4 a5 a6 a7 a8 a9 a10; rw [e12] at a1 a2 a3 a4 a5 a6 a7 a8 a9 a10 a11
    simp at a1
    omega
theorem body_y (m : M) : num (((body m).drop 5).take 1) = flag m.y := by
  simp [body, beR, num]
theorem dec_vdec (b : List Int) (hb : bytesL b) : dec b = vdec b := by
  unfold vdec
  by_cases h : b.length < 42
  · rw [if_pos h]
    exact dec_short (nx_bad _ (nx_bad _ (lst_bad (lst_bad (parse_short h)))))
  rw [if_neg h]
  have hl := parse_long (b := b) (by omega)
  cases h1 : one (b.drop 42) with
  | none =>
    refine dec_short (nx_bad _ (nx_bad _ (lst_bad ?_)))
    rw [hl]; exact lst_no h1
  | some p1 =>
    obtain ⟨us, s1⟩ := p1
    obtain ⟨e1, f1⟩ := lst_yes h1
    simp only
    cases h2 : one s1 with
    | none =>
      refine dec_short (nx_bad _ (nx_bad _ ?_))
      rw [hl, e1]; exact lst_no h2
    | some p2 =>
      obtain ⟨ns, s2⟩ := p2
      obtain ⟨e2, f2⟩ := lst_yes h2
      simp only
      by_cases h3 : s2.length < 2
      · rw [if_pos h3]
        refine dec_short (nx_bad _ ?_)
        rw [hl, e1, e2]; unfold nxtR; rw [if_pos (.inr h3)]
      rw [if_neg h3]
      by_cases h4 : (s2.drop 2).length < (num (s2.take 2)).toNat
      · rw [if_pos h4]
        refine dec_short ?_
        show (nxtR _ _).2 = true
        rw [hl, e1, e2, num_go (by omega), nx_go (by omega)]; unfold nxtR; rw [if_pos (.inr h4)]
      rw [if_neg h4]
      have hp : parse b = (headM b us ns ((s2.drop 2).take (num (s2.take 2)).toNat) (num ((b.drop 5).take 1) != 0), ((s2.drop 2).drop (num (s2.take 2)).toNat, false)) := by
        unfold parse headM
        rw [hl, e1, e2, f1, f2, num_go (s := s2) (by omega), nx_go (s := s2) (by omega), nx_go (n := (num (s2.take 2)).toNat) (by omega)]
        rw [num_go (n := 1) (s := b) (by omega), nx_go (n := 1) (s := b) (by omega), num_go (n := 1) (by simp; omega), nx_go (n := 1) (by simp; omega), num_go (n := 1) (by simp; omega), nx_go (n := 1) (by simp; omega), num_go (n := 1) (by simp; omega), nx_go (n := 1) (by simp; omega), num_go (n := 1) (by simp; omega), nx_go (n := 1) (by simp; omega), num_go (n := 1) (by simp; omega), nx_go (n := 1) (by simp; omega), num_go (n := 6) (by simp; omega), nx_go (n := 6) (by simp; omega), num_go (n := 6) (by simp; omega), nx_go (n := 6) (by simp; omega), num_go (n := 6) (by simp; omega), nx_go (n := 6) (by simp; omega), num_go (n := 6) (by simp; omega), nx_go (n := 6) (by simp; omega), num_go (n := 6) (by simp; omega), nx_go (n := 6) (by simp; omega), num_go (n := 6) (by simp; omega)]
        unfold takeR
        rw [if_neg (by simp at h4 ⊢; omega)]
        simp [List.drop_drop]
      by_cases h5 : (s2.drop 2).length > (num (s2.take 2)).toNat
      · rw [if_pos h5]
        unfold dec
        rw [hp]
        have : overR ((s2.drop 2).drop (num (s2.take 2)).toNat, false) = 3 := by
          unfold overR; rw [if_neg (by simp), if_pos (by simp at h5 ⊢; omega)]
        rw [this, if_pos (by decide)]
      rw [if_neg h5]
      rw [show (s2.drop 2).take (num (s2.take 2)).toNat = s2.drop 2 from List.take_of_length_le (by omega), show (s2.drop 2).drop (num (s2.take 2)).toNat = [] from List.drop_eq_nil_of_le (by omega)] at hp
      unfold dec
      rw [hp]
      rw [show overR ([], false) = 0 from rfl, if_neg (by decide)]
      simp only
      by_cases hx : num ((b.drop 5).take 1) = 0 ∨ num ((b.drop 5).take 1) = 1
      · rw [show (num ((b.drop 5).take 1) != 0) = yR b by unfold yR; rcases hx with hx | hx <;> rw [hx] <;> rfl]
      · have no : ∀ m : M, body m ≠ b := fun m e => hx (by
          have := body_y m
          rw [e] at this
          rw [this]
          cases m.y
          · exact .inl rfl
          · exact .inr rfl)
        rw [if_pos (.inr (no _)), if_pos (.inr (no _))]
end Go.Proofs.Ytleljfmhefobeaa.GKRd
