/- Plain law of CalApart: what is reserved and freed is gone; what is reserved and settled is owned. -/
import Derived.Test.YtohpimfanplloaaGreatZPureJ
set_option linter.unusedVariables false
set_option linter.unusedSimpArgs false
namespace Go.Proofs.YtohpimfanplloaaGreat.PureL
open Go.Proofs.YtohpimfanplloaaGreat.PureI1 Go.Proofs.YtohpimfanplloaaGreat.PureI2 Go.Proofs.YtohpimfanplloaaGreat.PureJ
theorem ofU_nat (c : Us) (i : Nat) : ofU c i = (c[i]?).getD none := by
  unfold ofU
  rw [if_neg (by omega)]
  rfl
theorem resOne_at (us : Us) (tx : Int) (l : List Sp) (v u : Int) : ofU (resOne tx l us v) u = if v = u then (ofU us u).map (fun p => (p.1, add p.2 l tx)) else ofU us u := by
  unfold resOne
  by_cases hv : v < 0
  · rw [if_pos hv]
    split
    · rename_i h
      subst h
      unfold ofU
      rw [if_pos hv]
      rfl
    · rfl
  · rw [if_neg hv]
    unfold ofU
    by_cases hu : u < 0
    · rw [if_pos hu, if_pos hu, if_neg (by omega)]
    · rw [if_neg hu, if_neg hu, List.getElem?_modify]
      by_cases he : v = u
      · subst he
        rw [if_pos rfl]
        cases us[v.toNat]? <;> simp
      · rw [if_neg he]
        have : ¬ v.toNat = u.toNat := by omega
        cases us[u.toNat]? <;> simp [this]
def addN (l : List Sp) (tx : Int) : Nat → List Tg → List Tg
  | 0, R => R
  | k + 1, R => addN l tx k (add R l tx)
theorem resAll_at (tx : Int) (l : List Sp) (u : Int) : ∀ (users : List Int) (us : Us), ofU (resAll us tx users l) u = (ofU us u).map (fun p => (p.1, addN l tx (users.count u) p.2)) := by
  intro users
  induction users with
  | nil => intro us; cases h : ofU us u <;> simp [resAll, addN, h]
  | cons v r ih =>
    intro us
    show ofU (resAll (resOne tx l us v) tx r l) u = _
    rw [ih, resOne_at]
    by_cases h : v = u
    · subst h
      rw [if_pos rfl, List.count_cons_self]
      cases ofU us v <;> rfl
    · rw [if_neg h, List.count_cons_of_ne h]
theorem add_more {R R0 : List Tg} {l : List Sp} {tx : Int} (h : R.Perm (R0 ++ tag (norm l) tx)) : (add R l tx).Perm (R0 ++ tag (norm l) tx) := by
  unfold add
  split
  · rename_i hm
    obtain ⟨h1, h2, h3⟩ := mayAdd_iff.1 hm
    have hn : norm l = [] := by
      cases hn : norm l with
      | nil => rfl
      | cons x r =>
        rw [has_perm h, hn] at h2
        simp [has, tag] at h2
    refine (sortT_perm _).trans ?_
    rw [hn] at h ⊢
    simpa [tag] using h
  · exact h
theorem addN_more {R R0 : List Tg} {l : List Sp} {tx : Int} : ∀ (k : Nat) {R : List Tg}, R.Perm (R0 ++ tag (norm l) tx) → (addN l tx k R).Perm (R0 ++ tag (norm l) tx)
  | 0, R, h => h
  | k + 1, R, h => addN_more (R := R) k (add_more h)
theorem addN_pos {R : List Tg} {l : List Sp} {tx : Int} (h1 : 1 ≤ tx) (h2 : has R tx = false) (h3 : clash R (norm l) 0 = none) (k : Nat) (hk : 0 < k) : (addN l tx k R).Perm (R ++ tag (norm l) tx) := by
  cases k with
  | zero => omega
  | succ k => exact addN_more (R := R) k (add_perm h1 h2 h3)
theorem checkL_none (c : Us) (n : List Sp) (but : Int) : ∀ (xs : List Int), checkL c n but xs = none ↔ ∀ u ∈ xs, ∀ p, ofU c u = some p → clash2 p n but = none := by
  intro xs
  induction xs with
  | nil => simp [checkL]
  | cons v r ih =>
    unfold checkL
    cases hv : ofU c v with
    | none =>
      simp only [ih]
      constructor
      · intro h u hu p hp
        rcases List.mem_cons.1 hu with rfl | hu
        · rw [hv] at hp; cases hp
        · exact h u hu p hp
      · intro h u hu p hp
        exact h u (List.mem_cons_of_mem _ hu) p hp
    | some q =>
      cases hq : clash2 q n but with
      | some t =>
        simp only [hq]
        constructor
        · intro h; cases h
        · intro h
          have := h v (by simp) q hv
          rw [hq] at this
          cases this
      | none =>
        simp only [hq, ih]
        constructor
        · intro h u hu p hp
          rcases List.mem_cons.1 hu with rfl | hu
          · rw [hv] at hp; cases hp; exact hq
          · exact h u hu p hp
        · intro h u hu p hp
          exact h u (List.mem_cons_of_mem _ hu) p hp
theorem sort_mem {xs : List Int} {u : Int} : u ∈ sortI xs ↔ u ∈ xs := by
  unfold sortI
  exact (List.mergeSort_perm _ _).mem_iff
theorem ofU_mem {c : Us} {u : Int} {p : Pr} (h : ofU c u = some p) : some p ∈ c := by
  unfold ofU at h
  by_cases hu : u < 0
  · rw [if_pos hu] at h; cases h
  · rw [if_neg hu] at h
    cases hc : c[u.toNat]? with
    | none => rw [hc] at h; cases h
    | some q =>
      rw [hc] at h
      obtain rfl : q = some p := h
      exact List.mem_of_getElem? hc
structure Took (us : Us) (tx : Int) (users : List Int) (l : List Sp) : Prop where
  pos : 1 ≤ tx
  no : ∀ u p, ofU us u = some p → has p.1 tx = false ∧ has p.2 tx = false
  free : ∀ u ∈ users, ∀ p, ofU us u = some p → clash p.1 (norm l) 0 = none ∧ clash p.2 (norm l) 0 = none
theorem took {us : Us} {tx : Int} {users : List Int} {l : List Sp} (h : mayRes us tx users l 0 = true) : Took us tx users l := by
  unfold mayRes at h
  simp only [Bool.and_eq_true, decide_eq_true_eq, Bool.not_eq_true'] at h
  obtain ⟨⟨h1, h2⟩, h3⟩ := h
  refine ⟨h2, fun u p hp => ?_, fun u hu p hp => ?_⟩
  · have := List.any_eq_false.1 h3 _ (ofU_mem hp)
    simpa [hasP] using this
  · have h4 : check us users l 0 = none := by cases hc : check us users l 0 with | none => rfl | some _ => rw [hc] at h1; cases h1
    exact clash2_none.1 ((checkL_none _ _ _ _).1 h4 u (sort_mem.2 hu) p hp)
def gains (users : List Int) (u : Int) (n : List Sp) (tx : Int) : List Tg := if u ∈ users then tag n tx else []
theorem took_at {us : Us} {tx : Int} {users : List Int} {l : List Sp} (h : Took us tx users l) {u : Int} {p : Pr} (hp : ofU us u = some p) :
    ∃ R, ofU (resAll us tx users l) u = some (p.1, R) ∧ R.Perm (p.2 ++ gains users u (norm l) tx) := by
  refine ⟨_, by rw [resAll_at, hp]; rfl, ?_⟩
  unfold gains
  by_cases hu : u ∈ users
  · rw [if_pos hu]
    exact addN_pos h.pos (h.no u p hp).2 (h.free u hu p hp).2 _ (List.count_pos_iff.2 hu)
  · rw [if_neg hu, List.count_eq_zero.2 hu, List.append_nil]
    exact List.Perm.refl _
theorem remove_not {R : List Tg} {tx : Int} (h : has R tx = false) : remove R tx = R := by
  unfold remove
  rw [List.filter_eq_self]
  intro t ht
  have := List.any_eq_false.1 h t ht
  simpa using this
theorem remove_gains (users : List Int) (u : Int) (n : List Sp) (tx : Int) : remove (gains users u n tx) tx = [] := by
  unfold gains
  split
  · exact remove_tag _ _
  · rfl
theorem resOne_len (tx : Int) (l : List Sp) (c : Us) (u : Int) : (resOne tx l c u).length = c.length := by unfold resOne; split <;> simp
theorem resAll_len (tx : Int) (l : List Sp) : ∀ (users : List Int) (c : Us), (resAll c tx users l).length = c.length := by
  intro users
  induction users with
  | nil => intro c; rfl
  | cons v r ih => intro c; show (resAll (resOne tx l c v) tx r l).length = _; rw [ih, resOne_len]
/-- Reserved and freed: nothing has changed. -/
theorem freed {us : Us} {tx : Int} {users : List Int} {l : List Sp} (hI : InvU us) (h : mayRes us tx users l 0 = true) : PureI2.free (reserve us tx users l 0) tx = us := by
  have hT := took h
  rw [reserve_yes h]
  have hI2 := InvU.resAll (tx := tx) (l := l) (users := users) hI
  refine List.ext_getElem (by simp [PureI2.free, resAll_len]) (fun i h1 h2 => ?_)
  have e1 : (resAll us tx users l)[i]'(by rw [resAll_len]; exact h2) = ofU (resAll us tx users l) i := by
    rw [ofU_nat, List.getElem?_eq_getElem (by rw [resAll_len]; exact h2)]; rfl
  have e2 : us[i] = ofU us i := by rw [ofU_nat, List.getElem?_eq_getElem h2]; rfl
  have e3 : (PureI2.free (resAll us tx users l) tx)[i]'h1 = Option.map (fun p : Pr => (p.1, remove p.2 tx)) ((resAll us tx users l)[i]'(by rw [resAll_len]; exact h2)) := by simp [PureI2.free]
  rw [e3, e1, e2]
  cases hp : ofU us i with
  | none => rw [resAll_at, hp]; rfl
  | some p =>
    obtain ⟨R, h3, h4⟩ := took_at hT hp
    rw [h3]
    have h5 := remove_perm h4 tx
    rw [remove_app, remove_gains, List.append_nil, remove_not (hT.no _ _ hp).2] at h5
    have h6 := inv_unique _ _ ((hI2 _ (ofU_mem h3)).r.remove tx) (hI p (ofU_mem hp)).r h5
    show some (p.1, remove R tx) = some p
    rw [h6]
theorem clash_one {S : List Tg} {n : List Sp} (hf : Full n) (h : clash S n 0 = none) {x : Sp} (hx : x ∈ n) : clash S (norm [x]) 0 = none := by
  have : norm [x] = [x] := norm_self ⟨fun s hs => by rw [List.mem_singleton.1 hs]; exact hf x hx, List.pairwise_singleton _ _⟩
  rw [this, clash_none]
  intro y hy
  rw [List.mem_singleton.1 hy]
  exact clash_none.1 h x hx
/-- What stands settled behind a reservation and its settling. -/
theorem settled_at {us : Us} {tx : Int} {users : List Int} {l : List Sp} (h : mayRes us tx users l 0 = true) {u : Int} {p : Pr} (hp : ofU us u = some p) :
    ∃ q, ofU (PureI2.settle (reserve us tx users l 0) tx) u = some q ∧ has q.2 tx = false ∧ has q.1 tx = (decide (u ∈ users) && decide (0 < (norm l).length)) := by
  have hT := took h
  rw [reserve_yes h]
  obtain ⟨R, h3, h4⟩ := took_at hT hp
  refine ⟨settleP tx (p.1, R), ?_, ?_, ?_⟩
  · have := h3
    unfold ofU at this ⊢
    by_cases hu : u < 0
    · rw [if_pos hu] at this; cases this
    · rw [if_neg hu] at this ⊢
      unfold PureI2.settle
      rw [List.getElem?_map]
      cases hc : (resAll us tx users l)[u.toNat]? with
      | none => rw [hc] at this; cases this
      | some q => rw [hc] at this; obtain rfl : q = _ := this; rfl
  · show has (remove R tx) tx = false
    unfold has remove
    rw [List.any_eq_false]
    intro t ht
    have := (List.mem_filter.1 ht).2
    simpa using this
  · have ho := ofo_perm h4 tx
    have h0 : ofo p.2 tx = [] := by
      unfold ofo
      rw [List.filter_eq_nil_iff.2 (fun t ht => List.any_eq_false.1 (hT.no _ _ hp).2 t ht)]
      rfl
    rw [ofo_app, h0, List.nil_append] at ho
    show has (add p.1 ((ofo R tx).filter fun x => (clash p.1 (norm [x]) 0).isNone) tx) tx = _
    unfold gains at ho
    by_cases hu : u ∈ users
    · rw [if_pos hu, ofo_tag] at ho
      have hcl := (hT.free u hu p hp).1
      have hfull := (norm_canon l).1.full
      rw [List.filter_eq_self.2 (fun x hx => by rw [clash_one hfull hcl (ho.mem_iff.1 hx)]; rfl)]
      have hn : norm (ofo R tx) = norm l := by rw [norm_perm ho, norm_norm]
      rw [has_perm (add_perm hT.pos (hT.no _ _ hp).1 (by rw [hn]; exact hcl)), hn]
      have := (hT.no _ _ hp).1
      unfold has at this ⊢
      rw [List.any_append, this]
      cases norm l with
      | nil => simp [tag]
      | cons x r => simp [tag, hu]
    · rw [if_neg hu] at ho
      have : ofo R tx = [] := ho.eq_nil
      rw [this]
      have h9 := add_perm (L := p.1) (l := []) hT.pos (hT.no _ _ hp).1 (by rw [norm_nil]; rfl)
      rw [norm_nil] at h9
      show has (add p.1 [] tx) tx = _
      rw [has_perm h9]
      simp [tag, hu, (hT.no _ _ hp).1]
/-! The shape stays. -/
def sh (us : Us) : List Bool := us.map Option.isSome
theorem sh_map (f : Pr → Pr) (us : Us) : sh (us.map (Option.map f)) = sh us := by
  unfold sh
  rw [List.map_map]
  congr 1
  funext o
  cases o <;> rfl
theorem sh_settle (us : Us) (tx : Int) : sh (PureI2.settle us tx) = sh us := sh_map _ _
theorem sh_free (us : Us) (tx : Int) : sh (PureI2.free us tx) = sh us := sh_map _ _
theorem sh_remove (us : Us) (tx : Int) : sh (removeC us tx) = sh us := sh_map _ _
theorem sh_resOne (tx : Int) (l : List Sp) (us : Us) (u : Int) : sh (resOne tx l us u) = sh us := by
  unfold resOne sh
  split
  · rfl
  · refine List.ext_getElem (by simp) (fun i h1 h2 => ?_)
    simp only [List.getElem_map, List.getElem_modify]
    split
    · simp
    · rfl
theorem sh_resAll (tx : Int) (l : List Sp) : ∀ (users : List Int) (us : Us), sh (resAll us tx users l) = sh us := by
  intro users
  induction users with
  | nil => intro us; rfl
  | cons v r ih => intro us; show sh (resAll (resOne tx l us v) tx r l) = _; rw [ih, sh_resOne]
theorem sh_reserve (us : Us) (tx : Int) (users : List Int) (l : List Sp) (but : Int) : sh (reserve us tx users l but) = sh us := by
  unfold reserve
  split
  · exact sh_resAll _ _ _ _
  · rfl
theorem sh_ofU {a b : Us} (h : sh a = sh b) (u : Int) : (ofU a u).isSome = (ofU b u).isSome := by
  unfold ofU
  split
  · rfl
  · have := congrArg (fun l => l[u.toNat]?) h
    unfold sh at this
    simp only [List.getElem?_map] at this
    cases ha : a[u.toNat]? <;> cases hb : b[u.toNat]? <;> simp_all
/-! Sizes. -/
theorem settle_len (tx : Int) (p : Pr) : (settleP tx p).1.length + (settleP tx p).2.length ≤ p.1.length + p.2.length := by
  unfold settleP
  have h1 : (add p.1 (fresh p tx) tx).length ≤ p.1.length + (fresh p tx).length := by
    unfold add
    split
    · unfold addL
      rw [List.length_mergeSort, List.length_append, List.length_map]
      have := norm_len (fresh p tx)
      omega
    · omega
  have h2 : (fresh p tx).length ≤ (ofo p.2 tx).length := List.length_filter_le _ _
  have h3 : (ofo p.2 tx).length + (remove p.2 tx).length = p.2.length := by
    unfold ofo remove
    rw [List.length_map]
    generalize p.2 = L
    induction L with
    | nil => rfl
    | cons t L ih =>
      by_cases h : t.2 = tx
      · simp [h]; omega
      · simp [h]; omega
  show (add p.1 (fresh p tx) tx).length + (remove p.2 tx).length ≤ _
  omega
end Go.Proofs.YtohpimfanplloaaGreat.PureL
