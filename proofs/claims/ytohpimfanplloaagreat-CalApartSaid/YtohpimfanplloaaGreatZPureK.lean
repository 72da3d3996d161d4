/- Plain law of CalReplaces: what a transaction replaces does not stand in its way. -/
import Derived.Test.YtohpimfanplloaaGreatZPureJ
set_option linter.unusedVariables false
set_option linter.unusedSimpArgs false
namespace Go.Proofs.YtohpimfanplloaaGreat.PureK
open Go.Proofs.YtohpimfanplloaaGreat.PureI1 Go.Proofs.YtohpimfanplloaaGreat.PureI2 Go.Proofs.YtohpimfanplloaaGreat.PureJ
def at2 (u : Bool) (p : Pr) : Us := if u then [some ([], []), some p] else [some p, some ([], [])]
def uid (u : Bool) : Int := if u then 1 else 0
theorem check2 (u : Bool) (p : Pr) (l : List Sp) (but : Int) : check (at2 u p) [uid u] l but = match clash2 p (norm l) but with | none => none | some t => some (t, uid u) := by
  cases u
  · exact check0 _ _ _ _
  · exact check1 _ _ _ _
theorem may2 (u : Bool) (p : Pr) (tx : Int) (l : List Sp) (but : Int) : mayRes (at2 u p) tx [uid u] l but = ((clash2 p (norm l) but).isNone && decide (1 ≤ tx) && !(has p.1 tx || has p.2 tx)) := by
  cases u
  · show mayRes [some p, some ([], [])] tx [0] l but = _
    rw [may0]; simp [has_nil]
  · show mayRes [some ([], []), some p] tx [1] l but = _
    rw [may1]; simp [has_nil]
theorem all2 (u : Bool) (p : Pr) (tx : Int) (l : List Sp) : resAll (at2 u p) tx [uid u] l = at2 u (p.1, add p.2 l tx) := by
  cases u
  · exact all0 _ _ _ _
  · exact all1 _ _ _ _
theorem add_nil_nil (o : Int) : add [] [] o = [] := by
  unfold add addL
  rw [norm_nil]
  simp
theorem settle_nil (tx : Int) : settleP tx ([], []) = ([], []) := by
  unfold settleP
  rw [fresh_nil]
  show (add [] (ofo [] tx) tx, remove [] tx) = _
  rw [show ofo [] tx = [] from rfl, add_nil_nil]
  rfl
theorem settleU (u : Bool) (p : Pr) (tx : Int) : PureI2.settle (at2 u p) tx = at2 u (settleP tx p) := by
  cases u
  · show [some (settleP tx p), some (settleP tx ([], []))] = _
    rw [settle_nil]; rfl
  · show [some (settleP tx ([], [])), some (settleP tx p)] = _
    rw [settle_nil]; rfl
theorem removeU (u : Bool) (p : Pr) (tx : Int) : removeC (at2 u p) tx = at2 u (remove p.1 tx, p.2) := by cases u <;> rfl
theorem ofU2 (u : Bool) (p : Pr) : ofU (at2 u p) (uid u) = some p := by cases u <;> rfl
theorem z0_at (u : Bool) : z0 = at2 u ([], []) := by cases u <;> rfl
def u1 (a : List Sp) : Pr := settleP 1 ([], add [] a 1)
def u2 (a b : List Sp) : Pr := ((u1 a).1, add (u1 a).2 b 2)
def u3 (a b : List Sp) : Pr := settleP 2 (remove (u2 a b).1 1, (u2 a b).2)
theorem u1_is (a : List Sp) : (u1 a).1.Perm (tag (norm a) 1) ∧ (u1 a).2 = [] := by
  have := settled_of (add_nil a (show (1 : Int) ≤ 1 by decide)) (by decide)
  rwa [norm_norm] at this
theorem u2_is (a b : List Sp) : (u2 a b).2.Perm (tag (norm b) 2) := by
  unfold u2
  rw [(u1_is a).2]
  exact add_nil b (by decide)
theorem u3_is (a b : List Sp) : (u3 a b).1.Perm (tag (norm b) 2) ∧ (u3 a b).2 = [] := by
  have h0 := remove_perm (u1_is a).1 1
  rw [remove_tag] at h0
  have h1 : remove (u2 a b).1 1 = [] := h0.eq_nil
  unfold u3
  rw [h1]
  have := settled_of (u2_is a b) (by decide)
  rwa [norm_norm] at this
/-- The first reservation is taken; what stands behind it and behind its settling. -/
theorem step1 (u : Bool) (a : List Sp) : mayRes z0 1 [uid u] a 0 = true ∧ PureI2.settle (reserve z0 1 [uid u] a 0) 1 = at2 u (u1 a) := by
  have h : mayRes z0 1 [uid u] a 0 = true := by
    rw [z0_at u, may2, clash2_none.2 ⟨clash_nil _ _, clash_nil _ _⟩]
    rfl
  refine ⟨h, ?_⟩
  rw [reserve_yes h, z0_at u, all2, settleU]
  rfl
theorem step2 (u : Bool) (a b : List Sp) : mayRes (at2 u (u1 a)) 2 [uid u] b 1 = true ∧ reserve (at2 u (u1 a)) 2 [uid u] b 1 = at2 u (u2 a b) := by
  obtain ⟨h1, h2⟩ := u1_is a
  have h : mayRes (at2 u (u1 a)) 2 [uid u] b 1 = true := by
    rw [may2, h2, has_tag h1 (by decide), clash2_none.2 ⟨clash_but _ h1, by rw [h2]; exact clash_nil _ _⟩]
    rfl
  refine ⟨h, ?_⟩
  rw [reserve_yes h, all2]
  rfl
theorem step3 (u : Bool) (a b : List Sp) : (check (at2 u (u2 a b)) [uid u] b 1).isSome = decide (0 < (norm b).length) := by
  have h : clash2 (u2 a b) (norm b) 1 = none ↔ norm b = [] := by
    rw [clash2_none, clash_tag (u2_is a b) (by decide), over_self (fun s hs => (norm_canon b).1.full s hs)]
    have : clash (u2 a b).1 (norm b) 1 = none := clash_but _ (u1_is a).1
    simp [this]
  rw [check2]
  cases hc : clash2 (u2 a b) (norm b) 1 with
  | none => rw [hc] at h; simp [h.1 rfl]
  | some t =>
    rw [hc] at h
    have : norm b ≠ [] := fun e => by simpa using h.2 e
    simp [List.length_pos_iff, this]
theorem step4 (u : Bool) (a b : List Sp) : PureI2.settle (removeC (at2 u (u2 a b)) 1) 2 = at2 u (u3 a b) := by
  rw [removeU, settleU]
  rfl
def clip (lo hi : Int) (x : Sp) : Sp := (max x.1 lo, min x.2 hi)
theorem step5 (a b : List Sp) (lo hi : Int) : cut (u3 a b).1 lo hi = norm ((norm b).map (clip lo hi)) := by
  unfold cut
  refine norm_perm ?_
  have := (u3_is a b).1.map (fun t : Tg => ((max t.1.1 lo, min t.1.2 hi) : Sp))
  refine this.trans ?_
  unfold tag
  rw [List.map_map]
  exact List.Perm.refl _
end Go.Proofs.YtohpimfanplloaaGreat.PureK
