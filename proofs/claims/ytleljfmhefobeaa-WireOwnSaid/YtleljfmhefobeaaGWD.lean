/- Reading bytes: laws of what Number, List and Take read, out of what was written. -/
import Derived.Test.YtleljfmhefobeaaGWSrc
set_option linter.unusedVariables false
namespace Go.Proofs.Ytleljfmhefobeaa.GWD
open Go.RowKit Go.Proofs.YtleljfmhefobeaaW.PrintWords Go.Proofs.Ytleljfmhefobeaa.GWPa Go.Proofs.Ytleljfmhefobeaa.GWPe Go.Proofs.Ytleljfmhefobeaa.GWSrc

theorem nxt_app {n : Nat} {X Y : List Int} (h : X.length = n) : nxtR n (X ++ Y, false) = (Y, false) := by
  unfold nxtR
  rw [if_neg (by simp; omega), ← h]
  simp
theorem num_app {n : Nat} {X Y : List Int} (h : X.length = n) : numR n (X ++ Y, false) = num X := by
  unfold numR
  rw [if_neg (by simp; omega), ← h]
  simp
theorem take_app {n : Nat} {X Y : List Int} (h : X.length = n) : takeR n (X ++ Y, false) = X := by
  unfold takeR
  rw [if_neg (by simp; omega), ← h]
  simp
theorem num_single (x : Int) : num [x] = x := by simp [num]
theorem nxt1 (x : Int) (Y : List Int) : nxtR 1 (x :: Y, false) = (Y, false) := nxt_app (X := [x]) rfl
theorem num1 (x : Int) (Y : List Int) : numR 1 (x :: Y, false) = x := (num_app (X := [x]) rfl).trans (num_single x)
theorem nxt6 (v : Int) (Y : List Int) : nxtR 6 (beR 6 v ++ Y, false) = (Y, false) := nxt_app (beR_length 6 v)
theorem num6 (v : Int) (Y : List Int) (h : 0 ≤ v ∧ v < 281474976710656) : numR 6 (beR 6 v ++ Y, false) = v := (num_app (beR_length 6 v)).trans (num_be6 v h.1 h.2)
theorem nxt2 (v : Int) (Y : List Int) : nxtR 2 (beR 2 v ++ Y, false) = (Y, false) := nxt_app (beR_length 2 v)
theorem num2 (v : Int) (Y : List Int) (h : 0 ≤ v ∧ v < 65536) : numR 2 (beR 2 v ++ Y, false) = v := (num_app (beR_length 2 v)).trans (num_be2 v h.1 h.2)
theorem lst_app (us Y : List Int) (h : us.length < 256) : lstR (((us.length : Int) % 256) :: (us ++ Y), false) = us := by
  unfold lstR
  rw [num1, nxt1]
  exact take_app (by omega)
theorem lstN_app (us Y : List Int) (h : us.length < 256) : lstN (((us.length : Int) % 256) :: (us ++ Y), false) = (Y, false) := by
  unfold lstN
  rw [num1, nxt1]
  exact nxt_app (by omega)

/-- s' is s with the last δ bytes gone, or it has been found too short. -/
def Rel (δ : Nat) (s s' : List Int × Bool) : Prop := s'.2 = true ∨ ∃ B c, s = (B, false) ∧ s' = (B.take c, false) ∧ c + δ = B.length
theorem Rel.start {B : List Int} {c : Nat} (h : c < B.length) : Rel (B.length - c) (B, false) (B.take c, false) := .inr ⟨B, c, rfl, rfl, by omega⟩
theorem short_nxt {n : Nat} {s : List Int × Bool} (h : s.2 = true) : (nxtR n s).2 = true := by
  unfold nxtR
  rw [if_pos (.inl h)]
theorem Rel.nxt {δ n : Nat} {s s' : List Int × Bool} (h : Rel δ s s') (hok : (nxtR n s).2 = false) : Rel δ (nxtR n s) (nxtR n s') ∧ (numR n s' = numR n s ∨ (nxtR n s').2 = true) := by
  rcases h with h | ⟨B, c, rfl, rfl, hc⟩
  · exact ⟨.inl (short_nxt h), .inr (short_nxt h)⟩
  · have hn : ¬ ((false : Bool) = true ∨ B.length < n) := by
      intro g
      have : (nxtR n (B, false)).2 = true := by unfold nxtR; rw [if_pos g]
      rw [this] at hok
      cases hok
    by_cases hs : (B.take c).length < n
    · have : (nxtR n (B.take c, false)).2 = true := by unfold nxtR; rw [if_pos (.inr hs)]
      exact ⟨.inl this, .inr this⟩
    · have hcl : (B.take c).length = c := by rw [List.length_take]; omega
      have hs' : ¬ ((false : Bool) = true ∨ (B.take c).length < n) := by simp; rw [hcl] at hs; omega
      refine ⟨.inr ⟨B.drop n, c - n, ?_, ?_, ?_⟩, .inl ?_⟩
      · unfold nxtR; rw [if_neg hn]
      · unfold nxtR; rw [if_neg hs', List.drop_take]
      · rw [List.length_drop]; rw [hcl] at hs; omega
      · unfold numR; rw [if_neg hn, if_neg hs', List.take_take, Nat.min_eq_left (by rw [hcl] at hs; omega)]
theorem Rel.lst {δ : Nat} {s s' : List Int × Bool} (h : Rel δ s s') (hok : (lstN s).2 = false) : Rel δ (lstN s) (lstN s') := by
  have h1 : (nxtR 1 s).2 = false := by
    cases e : (nxtR 1 s).2 with
    | false => rfl
    | true => have := short_nxt (n := (numR 1 s).toNat) e; unfold lstN at hok; rw [this] at hok; cases hok
  obtain ⟨hr, hn⟩ := h.nxt h1
  rcases hn with hn | hn
  · unfold lstN
    rw [hn]
    exact (hr.nxt hok).1
  · exact .inl (short_nxt hn)
theorem Rel.txt {δ : Nat} {s s' : List Int × Bool} (h : Rel δ s s') (hok : (nxtR (numR 2 s).toNat (nxtR 2 s)).2 = false) : Rel δ (nxtR (numR 2 s).toNat (nxtR 2 s)) (nxtR (numR 2 s').toNat (nxtR 2 s')) := by
  have h1 : (nxtR 2 s).2 = false := by
    cases e : (nxtR 2 s).2 with
    | false => rfl
    | true => have := short_nxt (n := (numR 2 s).toNat) e; rw [this] at hok; cases hok
  obtain ⟨hr, hn⟩ := h.nxt h1
  rcases hn with hn | hn
  · rw [hn]
    exact (hr.nxt hok).1
  · exact .inl (short_nxt hn)
theorem Rel.done {δ : Nat} {s' : List Int × Bool} (h : Rel δ ([], false) s') (hd : 0 < δ) : s'.2 = true := by
  rcases h with h | ⟨B, c, hB, _, hc⟩
  · exact h
  · have : B = [] := by injection hB with h1 _; exact h1.symm
    subst this
    simp at hc
    omega
theorem nxt_false {n : Nat} {s : List Int × Bool} (h : (nxtR n s).2 = false) : s.2 = false := by
  cases e : s.2 with
  | false => rfl
  | true => rw [short_nxt e] at h; cases h
end Go.Proofs.Ytleljfmhefobeaa.GWD
