/- Plain laws of a calendar of two users on one node (for CalBoth and CalReplaces). -/
import Derived.Test.YtohpimfanplloaaGreatZPureI2
set_option linter.unusedVariables false
set_option linter.unusedSimpArgs false
namespace Go.Proofs.YtohpimfanplloaaGreat.PureJ
open Go.Proofs.YtohpimfanplloaaGreat.PureI1 Go.Proofs.YtohpimfanplloaaGreat.PureI2
def over (n m : List Sp) : Bool := n.any fun x => m.any fun y => decide (x.1 < y.2) && decide (y.1 < x.2)
def tag (n : List Sp) (o : Int) : List Tg := n.map fun x => (x, o)
theorem mem_tag {n : List Sp} {o : Int} {t : Tg} : t ∈ tag n o ↔ t.1 ∈ n ∧ t.2 = o := by
  unfold tag
  rw [List.mem_map]
  constructor
  · rintro ⟨x, hx, rfl⟩; exact ⟨hx, rfl⟩
  · rintro ⟨h1, h2⟩; exact ⟨t.1, h1, by rw [← h2]⟩
theorem clash_nil (n : List Sp) (but : Int) : clash [] n but = none := clash_none.2 (fun x _ t ht => by cases ht)
theorem clash_perm {L M : List Tg} (h : L.Perm M) (n : List Sp) (but : Int) : clash L n but = none ↔ clash M n but = none := by
  simp only [clash_none, h.mem_iff]
theorem over_false {n m : List Sp} : over n m = false ↔ ∀ x ∈ n, ∀ y ∈ m, ¬ (x.1 < y.2 ∧ y.1 < x.2) := by
  unfold over
  simp [List.any_eq_false]
theorem clash_tag {L : List Tg} {n m : List Sp} {o but : Int} (h : L.Perm (tag n o)) (ho : o ≠ but) : clash L m but = none ↔ over n m = false := by
  rw [clash_perm h, clash_none, over_false]
  constructor
  · intro h x hx y hy hxy
    have := h y hy (x, o) (mem_tag.2 ⟨hx, rfl⟩)
    simp [meetsB, hxy.1, hxy.2, ho] at this
  · intro h x hx t ht
    obtain ⟨h1, h2⟩ := mem_tag.1 ht
    have := h t.1 h1 x hx
    rw [Bool.eq_false_iff]
    intro hm
    simp [meetsB] at hm
    exact this ⟨hm.1.1, hm.1.2⟩
theorem clash_but {L : List Tg} {n : List Sp} (m : List Sp) {o : Int} (h : L.Perm (tag n o)) : clash L m o = none := by
  rw [clash_perm h, clash_none]
  intro x hx t ht
  have := (mem_tag.1 ht).2
  simp [meetsB, this]
theorem over_self {m : List Sp} (h : Full m) : over m m = false ↔ m = [] := by
  rw [over_false]
  constructor
  · intro h2
    cases m with
    | nil => rfl
    | cons x m => exact absurd ⟨h x (by simp), h x (by simp)⟩ (h2 x (by simp) x (by simp))
  · rintro rfl x hx; cases hx
theorem has_perm {L M : List Tg} (h : L.Perm M) (o : Int) : has L o = has M o := by
  unfold has
  rw [Bool.eq_iff_iff]
  simp only [List.any_eq_true, h.mem_iff]
theorem has_tag {L : List Tg} {n : List Sp} {o o' : Int} (h : L.Perm (tag n o)) (ho : o ≠ o') : has L o' = false := by
  rw [has_perm h]
  unfold has
  rw [List.any_eq_false]
  intro t ht
  have := (mem_tag.1 ht).2
  simp [this, ho]
theorem has_nil (o : Int) : has [] o = false := rfl
theorem add_perm {L : List Tg} {l : List Sp} {o : Int} (h1 : 1 ≤ o) (h2 : has L o = false) (h3 : clash L (norm l) 0 = none) : (add L l o).Perm (L ++ tag (norm l) o) := by
  unfold add
  rw [if_pos (mayAdd_iff.2 ⟨h1, h2, h3⟩)]
  exact sortT_perm _
theorem add_nil (l : List Sp) {o : Int} (h1 : 1 ≤ o) : (add [] l o).Perm (tag (norm l) o) := by
  simpa using add_perm (L := []) h1 rfl (clash_nil _ _)
theorem remove_perm {L M : List Tg} (h : L.Perm M) (o : Int) : (remove L o).Perm (remove M o) := h.filter _
theorem remove_tag (n : List Sp) (o : Int) : remove (tag n o) o = [] := by
  unfold remove
  rw [List.filter_eq_nil_iff]
  intro t ht
  simp [(mem_tag.1 ht).2]
theorem remove_other (n : List Sp) {o o' : Int} (h : o ≠ o') : remove (tag n o) o' = tag n o := by
  unfold remove
  rw [List.filter_eq_self]
  intro t ht
  simp [(mem_tag.1 ht).2, h]
theorem remove_app (L M : List Tg) (o : Int) : remove (L ++ M) o = remove L o ++ remove M o := List.filter_append ..
theorem ofo_app (L M : List Tg) (o : Int) : ofo (L ++ M) o = ofo L o ++ ofo M o := by unfold ofo; rw [List.filter_append, List.map_append]
theorem ofo_tag (n : List Sp) (o : Int) : ofo (tag n o) o = n := by
  unfold ofo
  rw [List.filter_eq_self.2 (fun t ht => by simp [(mem_tag.1 ht).2])]
  unfold tag
  rw [List.map_map]
  simp [Function.comp_def]
theorem ofo_other (n : List Sp) {o o' : Int} (h : o ≠ o') : ofo (tag n o) o' = [] := by
  unfold ofo
  rw [List.filter_eq_nil_iff.2 (fun t ht => by simp [(mem_tag.1 ht).2, h])]
  rfl
theorem ofo_perm {L M : List Tg} (h : L.Perm M) (o : Int) : (ofo L o).Perm (ofo M o) := (h.filter _).map _
theorem norm_perm {l m : List Sp} (h : l.Perm m) : norm l = norm m := norm_unique (norm_canon m).1 (fun t => ((norm_canon m).2 t).trans (cov_perm h t).symm)
theorem norm_norm (l : List Sp) : norm (norm l) = norm l := norm_self (norm_canon l).1
theorem fresh_nil (R : List Tg) (o : Int) : fresh ([], R) o = ofo R o := by
  unfold fresh
  rw [List.filter_eq_self.2 (fun x _ => by simp [clash_nil])]
theorem sort_one (a : Int) : sortI [a] = [a] := by unfold sortI; exact List.mergeSort_singleton _
theorem clash2_none {p : Pr} {n : List Sp} {but : Int} : clash2 p n but = none ↔ clash p.1 n but = none ∧ clash p.2 n 0 = none := by
  unfold clash2
  cases clash p.1 n but <;> simp
theorem check0 (p q : Pr) (l : List Sp) (but : Int) : check [some p, some q] [0] l but = match clash2 p (norm l) but with | none => none | some t => some (t, 0) := by
  unfold check
  rw [sort_one]
  simp only [checkL, ofU]
  simp
  cases clash2 p (norm l) but <;> rfl
theorem check1 (p q : Pr) (l : List Sp) (but : Int) : check [some p, some q] [1] l but = match clash2 q (norm l) but with | none => none | some t => some (t, 1) := by
  unfold check
  rw [sort_one]
  simp only [checkL, ofU]
  simp
  cases clash2 q (norm l) but <;> rfl
theorem may0 (p q : Pr) (tx : Int) (l : List Sp) (but : Int) : mayRes [some p, some q] tx [0] l but = ((clash2 p (norm l) but).isNone && decide (1 ≤ tx) && !((has p.1 tx || has p.2 tx) || (has q.1 tx || has q.2 tx))) := by
  unfold mayRes
  rw [check0]
  cases clash2 p (norm l) but <;> simp [hasC, hasP]
theorem may1 (p q : Pr) (tx : Int) (l : List Sp) (but : Int) : mayRes [some p, some q] tx [1] l but = ((clash2 q (norm l) but).isNone && decide (1 ≤ tx) && !((has p.1 tx || has p.2 tx) || (has q.1 tx || has q.2 tx))) := by
  unfold mayRes
  rw [check1]
  cases clash2 q (norm l) but <;> simp [hasC, hasP]
theorem all0 (p q : Pr) (tx : Int) (l : List Sp) : resAll [some p, some q] tx [0] l = [some (p.1, add p.2 l tx), some q] := by simp [resAll, resOne]
theorem all1 (p q : Pr) (tx : Int) (l : List Sp) : resAll [some p, some q] tx [1] l = [some p, some (q.1, add q.2 l tx)] := by simp [resAll, resOne]
theorem settle2 (p q : Pr) (tx : Int) : PureI2.settle [some p, some q] tx = [some (settleP tx p), some (settleP tx q)] := rfl
def z0 : Us := [some ([], []), some ([], [])]
/-- What settles when one reservation of l stands. -/
theorem settled_of {R : List Tg} {n : List Sp} {o : Int} (h : R.Perm (tag n o)) (ho : 1 ≤ o) : (settleP o ([], R)).1.Perm (tag (norm n) o) ∧ (settleP o ([], R)).2 = [] := by
  unfold settleP
  refine ⟨?_, ?_⟩
  · show (add [] (fresh ([], R) o) o).Perm _
    rw [fresh_nil]
    have h1 := ofo_perm h o
    rw [ofo_tag] at h1
    rw [← norm_perm h1]
    exact add_nil _ ho
  · show remove R o = []
    have := remove_perm h o
    rw [remove_tag] at this
    exact this.eq_nil
theorem reserve_yes {c : Us} {tx : Int} {users : List Int} {l : List Sp} {but : Int} (h : mayRes c tx users l but = true) : reserve c tx users l but = resAll c tx users l := by unfold reserve; rw [if_pos h]
theorem reserve_no {c : Us} {tx : Int} {users : List Int} {l : List Sp} {but : Int} (h : mayRes c tx users l but = false) : reserve c tx users l but = c := by unfold reserve; rw [h]; rfl
theorem isNone_eq {α : Type} {o : Option α} {b : Bool} (h : o = none ↔ b = false) : o.isNone = !b := by
  cases b
  · rw [h.2 rfl]; rfl
  · cases o with
    | none => exact absurd (h.1 rfl) (by decide)
    | some _ => rfl
theorem may_first (a : List Sp) : mayRes z0 1 [0] a 0 = true ∧ reserve z0 1 [0] a 0 = [some ([], add [] a 1), some ([], [])] := by
  have h : mayRes z0 1 [0] a 0 = true := by
    unfold z0
    rw [may0, clash2_none.2 ⟨clash_nil _ _, clash_nil _ _⟩]
    rfl
  refine ⟨h, ?_⟩
  rw [reserve_yes h]
  unfold z0
  rw [all0]
/-- CalBoth's law, the users apart. -/
theorem both_two (a b : List Sp) :
    mayRes (reserve z0 1 [0] a 0) 2 [1] b 0 = true ∧
    mayRes (PureI2.settle (reserve (reserve z0 1 [0] a 0) 2 [1] b 0) 1) 3 [0] b 0 = !over (norm a) (norm b) := by
  rw [(may_first a).2]
  have hR := add_nil a (show (1 : Int) ≤ 1 by decide)
  have hS := add_nil b (show (1 : Int) ≤ 2 by decide)
  have h1 : mayRes [some ([], add [] a 1), some ([], [])] 2 [1] b 0 = true := by
    rw [may1, clash2_none.2 ⟨clash_nil _ _, clash_nil _ _⟩, has_tag hR (by decide)]
    rfl
  refine ⟨h1, ?_⟩
  rw [reserve_yes h1, all1, settle2, may0]
  obtain ⟨h2, h3⟩ := settled_of hR (by decide)
  rw [norm_norm] at h2
  have h4 : has (settleP 1 (([], add [] b 2) : Pr)).1 3 = false := by
    show has (add [] (fresh ([], add [] b 2) 1) 1) 3 = false
    exact has_tag (add_nil _ (by decide)) (by decide)
  have h5 : has (settleP 1 (([], add [] b 2) : Pr)).2 3 = false := by
    show has (remove (add [] b 2) 1) 3 = false
    have := remove_perm hS 1
    rw [remove_other _ (by decide)] at this
    exact has_tag this (by decide)
  rw [has_tag h2 (by decide), h3, has_nil, h4, h5]
  have h6 : (clash2 (settleP 1 ([], add [] a 1)) (norm b) 0).isNone = !over (norm a) (norm b) := isNone_eq (by
    rw [clash2_none, h3, clash_tag h2 (by decide)]
    simp [clash_nil])
  rw [h6]
  simp
/-- CalBoth's law, one user. -/
theorem both_one (a b : List Sp) :
    mayRes (reserve z0 1 [0] a 0) 2 [0] b 0 = (!over (norm a) (norm b)) ∧
    mayRes (PureI2.settle (reserve (reserve z0 1 [0] a 0) 2 [0] b 0) 1) 3 [0] b 0 = (!over (norm a) (norm b) && decide (norm b = [])) := by
  rw [(may_first a).2]
  have hR := add_nil a (show (1 : Int) ≤ 1 by decide)
  have h1 : mayRes [some ([], add [] a 1), some ([], [])] 2 [0] b 0 = !over (norm a) (norm b) := by
    rw [may0, has_tag hR (by decide)]
    have h6 : (clash2 (([], add [] a 1) : Pr) (norm b) 0).isNone = !over (norm a) (norm b) := isNone_eq (by
      rw [clash2_none, clash_tag hR (by decide)]
      simp [clash_nil])
    rw [h6]
    simp [has_nil]
  refine ⟨h1, ?_⟩
  by_cases hov : over (norm a) (norm b) = true
  · rw [hov] at h1
    rw [reserve_no (by simpa using h1), settle2, may0, hov]
    obtain ⟨h2, h3⟩ := settled_of hR (by decide)
    rw [norm_norm] at h2
    have h6 : (clash2 (settleP 1 ([], add [] a 1)) (norm b) 0).isNone = !over (norm a) (norm b) := isNone_eq (by
      rw [clash2_none, h3, clash_tag h2 (by decide)]
      simp [clash_nil])
    rw [h6, hov]
    rfl
  · have hov := Bool.eq_false_iff.2 hov
    rw [hov] at h1
    rw [reserve_yes (by simpa using h1), all0, settle2, may0, hov]
    have hcl : clash (add [] a 1) (norm b) 0 = none := (clash_tag hR (by decide)).2 hov
    have hS : (add (add [] a 1) b 2).Perm (tag (norm a) 1 ++ tag (norm b) 2) := (add_perm (by decide) (has_tag hR (by decide)) hcl).trans (hR.append_right _)
    generalize add (add [] a 1) b 2 = S at *
    have h2 : (settleP 1 (([], S) : Pr)).1.Perm (tag (norm a) 1) := by
      show (add [] (fresh ([], S) 1) 1).Perm _
      rw [fresh_nil]
      have h1 := ofo_perm hS 1
      rw [ofo_app, ofo_tag, ofo_other _ (by decide), List.append_nil] at h1
      have := add_nil (ofo S 1) (show (1 : Int) ≤ 1 by decide)
      rwa [norm_perm h1, norm_norm] at this
    have h3 : (settleP 1 (([], S) : Pr)).2.Perm (tag (norm b) 2) := by
      show (remove S 1).Perm _
      have := remove_perm hS 1
      rwa [remove_app, remove_tag, remove_other _ (by decide), List.nil_append] at this
    rw [has_tag h2 (by decide), has_tag h3 (by decide)]
    have h4 : has (settleP 1 (([], []) : Pr)).1 3 = false := by
      show has (add [] (fresh ([], []) 1) 1) 3 = false
      exact has_tag (add_nil _ (by decide)) (by decide)
    have h5 : has (settleP 1 (([], []) : Pr)).2 3 = false := rfl
    rw [h4, h5]
    have h6 : (clash2 (settleP 1 ([], S)) (norm b) 0).isNone = decide (norm b = []) := by
      have := isNone_eq (o := clash2 (settleP 1 ([], S)) (norm b) 0) (b := !decide (norm b = [])) (by
        rw [clash2_none, clash_tag h2 (by decide), clash_tag h3 (by decide), over_self (fun s hs => (norm_canon b).1.full s hs)]
        simp [hov])
      simpa using this
    rw [h6]
    simp
end Go.Proofs.YtohpimfanplloaaGreat.PureJ
