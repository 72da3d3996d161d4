/- Lists of bytes: cut at a sign and joined, numbers in decimal digits, bytes in two digits. No program in this text. -/
import Derived.Lib.SplitLaws
import Derived.Lib.Join
import Derived.Lib.ItoaNum
import Derived.Lib.AtoiAllCases
import Derived.Lib.IndexBytes
set_option linter.unusedVariables false
set_option linter.unusedSimpArgs false
namespace Go.Proofs.YtohpimfanplloaaGreatDoor.PureS1
open Go

/-! ### cut and joined -/
def sp (c : UInt8) : List UInt8 → List (List UInt8)
  | [] => [[]]
  | b :: l => if b = c then [] :: sp c l else match sp c l with
    | [] => [[b]]
    | p :: r => (b :: p) :: r
theorem sp_ne (c : UInt8) : ∀ l, sp c l ≠ []
  | [] => by simp [sp]
  | b :: l => by
    unfold sp
    split
    · simp
    · split <;> simp
theorem sp_cons (c : UInt8) (l : List UInt8) : ∃ p r, sp c l = p :: r := by
  cases h : sp c l with
  | nil => exact absurd h (sp_ne c l)
  | cons p r => exact ⟨p, r, rfl⟩
theorem sp_eq (c : UInt8) (l : List UInt8) : sp c (c :: l) = [] :: sp c l := by simp [sp]
theorem sp_other {b c : UInt8} (h : b ≠ c) {l p : List UInt8} {r : List (List UInt8)} (hs : sp c l = p :: r) : sp c (b :: l) = (b :: p) :: r := by
  rw [sp, if_neg h, hs]
theorem join_cons2 (x y : List UInt8) (r : List (List UInt8)) (s : List UInt8) : Lib.join (x :: y :: r) s = x ++ s ++ Lib.join (y :: r) s := by
  rw [Lib.join_cons, Lib.join_cons]
  simp [Lib.joinTail]
theorem join_sp (c : UInt8) : ∀ l, Lib.join (sp c l) [c] = l
  | [] => by simp [sp, Lib.join_one]
  | b :: l => by
    have ih := join_sp c l
    obtain ⟨p, r, hs⟩ := sp_cons c l
    by_cases h : b = c
    · subst h
      rw [sp_eq, hs, join_cons2, ← hs, ih]
      rfl
    · rw [sp_other h hs]
      rw [hs] at ih
      cases r with
      | nil => rw [Lib.join_one] at ih ⊢; rw [ih]
      | cons y r =>
        rw [join_cons2] at ih ⊢
        rw [← ih]
        rfl
theorem sp_no (c : UInt8) : ∀ l p, p ∈ sp c l → c ∉ p
  | [], p, h => by simp [sp] at h; subst h; simp
  | b :: l, p, h => by
    obtain ⟨q, r, hs⟩ := sp_cons c l
    have ih := sp_no c l
    rw [hs] at ih
    by_cases hb : b = c
    · subst hb
      rw [sp_eq, hs] at h
      rcases List.mem_cons.1 h with rfl | h
      · simp
      · exact ih p h
    · rw [sp_other hb hs] at h
      rcases List.mem_cons.1 h with rfl | h
      · intro hm
        rcases List.mem_cons.1 hm with rfl | hm
        · exact hb rfl
        · exact ih q (List.mem_cons_self) hm
      · exact ih p (List.mem_cons_of_mem _ h)
theorem sp_app (c : UInt8) : ∀ (x t : List UInt8) (p : List UInt8) (r : List (List UInt8)), c ∉ x → sp c t = p :: r → sp c (x ++ t) = (x ++ p) :: r
  | [], t, p, r, _, hs => hs
  | b :: x, t, p, r, hx, hs => by
    have hb : b ≠ c := fun h => hx (h ▸ List.mem_cons_self)
    have ih := sp_app c x t p r (fun h => hx (List.mem_cons_of_mem _ h)) hs
    exact sp_other hb ih
theorem sp_join (c : UInt8) : ∀ ps : List (List UInt8), ps ≠ [] → (∀ p ∈ ps, c ∉ p) → sp c (Lib.join ps [c]) = ps
  | [], h, _ => absurd rfl h
  | [x], _, hn => by
    rw [Lib.join_one]
    have := sp_app c x [] [] [] (hn x (List.mem_cons_self)) rfl
    simpa using this
  | x :: y :: r, _, hn => by
    have ih := sp_join c (y :: r) (by simp) (fun p hp => hn p (List.mem_cons_of_mem _ hp))
    rw [join_cons2, List.append_assoc]
    have h2 : sp c ([c] ++ Lib.join (y :: r) [c]) = [] :: (y :: r) := by
      show sp c (c :: Lib.join (y :: r) [c]) = _
      rw [sp_eq, ih]
    have h3 := sp_app c x _ [] (y :: r) (hn x (List.mem_cons_self)) h2
    rw [h3, List.append_nil]
theorem join_iff (c : UInt8) (ps : List (List UInt8)) (l : List UInt8) (h : ps ≠ []) (hn : ∀ p ∈ ps, c ∉ p) : Lib.join ps [c] = l ↔ ps = sp c l :=
  ⟨fun e => by rw [← e, sp_join c ps h hn], fun e => by rw [e, join_sp]⟩
theorem splitK_sp (c : UInt8) : ∀ l, Lib.splitK [c] 0 (Lib.count l [c]) l = sp c l
  | [] => by
    have : Lib.count ([] : List UInt8) [c] = 0 := Lib.count_miss (by simp [Lib.index])
    rw [this]; rfl
  | b :: l => by
    have ih := splitK_sp c l
    by_cases h : b = c
    · subst h
      rw [Lib.count_cons_eq, Nat.add_comm, sp_eq, Lib.splitK]
      have hix : Lib.index (b :: l) [b] = 0 := by rw [Lib.index]; simp [List.isPrefixOf]
      rw [hix, if_neg (by decide)]
      show _ :: Lib.splitK [b] 0 _ ((b :: l).drop 1) = _
      rw [show (b :: l).drop 1 = l from rfl, ih]
      first | done | rfl
    · have hp : ([c] : List UInt8).isPrefixOf (b :: l) = false := by simp [List.isPrefixOf, Ne.symm h]
      have hix : Lib.index (b :: l) [c] = if Lib.index l [c] == -1 then -1 else Lib.index l [c] + 1 := by rw [Lib.index, hp]; simp
      rw [Lib.count_cons_ne b c l h]
      cases hk : Lib.count l [c] with
      | zero =>
        rw [hk] at ih
        have ih' : sp c l = [l] := ih.symm
        rw [sp_other h ih']
        rfl
      | succ k =>
        rw [hk] at ih
        by_cases hm : Lib.index l [c] = -1
        · rw [Lib.count_miss hm] at hk; cases hk
        · have hge := Lib.index_ge l [c]
          obtain ⟨j, hj⟩ : ∃ j : Nat, Lib.index l [c] = j := ⟨(Lib.index l [c]).toNat, by omega⟩
          have hix' : Lib.index (b :: l) [c] = ((j + 1 : Nat) : Int) := by rw [hix, if_neg (fun e => hm (beq_iff_eq.1 e)), hj]; omega
          rw [Lib.splitK, hj, if_neg (by first | (simp; done) | (simp; omega))] at ih
          rw [Lib.splitK, hix', if_neg (by first | (simp; done) | (simp; omega))]
          simp only [Int.toNat_natCast, Nat.add_zero, List.length_singleton] at ih ⊢
          rw [sp_other h ih.symm]
          rfl

/-! ### numbers -/
theorem digit_toNat (x : Nat) (h : x < 10) : (UInt8.ofNat (48 + x)).toNat = 48 + x := by
  rw [UInt8.toNat_ofNat']; omega
theorem decDigits_mem : ∀ (u : Nat) (b : UInt8), b ∈ Lib.decDigits u → 48 ≤ b.toNat ∧ b.toNat ≤ 57 := by
  intro u
  induction u using Nat.strongRecOn with
  | _ u ih =>
    intro b hb
    rw [Lib.decDigits] at hb
    by_cases h : u < 10
    · rw [dif_pos h] at hb
      rw [List.mem_singleton.1 hb, digit_toNat u h]; omega
    · rw [dif_neg h] at hb
      rcases List.mem_append.1 hb with hb | hb
      · exact ih (u / 10) (by omega) b hb
      · rw [List.mem_singleton.1 hb, digit_toNat (u % 10) (by omega)]; omega
theorem decDigits_ne (u : Nat) : Lib.decDigits u ≠ [] := by
  intro h
  have := Lib.decDigits_length u
  rw [h] at this
  have := Lib.nDigits_pos u
  simp at *
  omega
theorem itoa_mem (n : Int) (b : UInt8) (h : b ∈ Lib.itoa n) : b.toNat = 45 ∨ 48 ≤ b.toNat ∧ b.toNat ≤ 57 := by
  unfold Lib.itoa at h
  by_cases c : n < 0
  · rw [if_pos c] at h
    rcases List.mem_cons.1 h with rfl | h
    · exact .inl rfl
    · exact .inr (decDigits_mem _ b h)
  · rw [if_neg c] at h
    exact .inr (decDigits_mem _ b h)
theorem itoa_ne (n : Int) : Lib.itoa n ≠ [] := by
  unfold Lib.itoa
  split
  · simp
  · exact decDigits_ne _
theorem itoa_ne_minus (n : Int) : Lib.itoa n ≠ [45] := by
  unfold Lib.itoa
  split
  · intro h
    injection h with _ h
    exact decDigits_ne _ h
  · intro h
    have := decDigits_mem _ 45 (h ▸ List.mem_cons_self)
    have : (45 : UInt8).toNat = 45 := rfl
    omega
theorem itoa_no (n : Int) (c : UInt8) (hc : c.toNat = 32 ∨ c.toNat = 44) : c ∉ Lib.itoa n := by
  intro h
  have := itoa_mem n c h
  omega
theorem parse_app : ∀ (l : List UInt8) (acc v : Nat) (r : List UInt8), Lib.parseUint10 acc l = .ok v → Lib.parseUint10 acc (l ++ r) = Lib.parseUint10 v r
  | [], acc, v, r, h => by simp only [Lib.parseUint10] at h; injection h with h; subst h; rfl
  | c :: l, acc, v, r, h => by
    simp only [List.cons_append, Lib.parseUint10] at h ⊢
    split at h
    · rename_i c1
      rw [if_pos c1]
      split at h
      · cases h
      · rename_i c2
        rw [if_neg c2]
        split at h
        · cases h
        · rename_i c3
          rw [if_neg c3]
          exact parse_app l _ v r h
    · cases h
theorem parse_dec : ∀ u : Nat, u < 18446744073709551616 → Lib.parseUint10 0 (Lib.decDigits u) = .ok u := by
  intro u
  induction u using Nat.strongRecOn with
  | _ u ih =>
    intro hu
    rw [Lib.decDigits]
    by_cases h : u < 10
    · rw [dif_pos h]
      simp only [Lib.parseUint10, digit_toNat u h]
      rw [if_pos (by omega), if_neg (by omega), if_neg (by omega)]
      congr 1; omega
    · rw [dif_neg h, parse_app _ _ _ _ (ih (u / 10) (by omega) (by omega))]
      simp only [Lib.parseUint10, digit_toNat (u % 10) (by omega)]
      rw [if_pos (by omega), if_neg (by omega), if_neg (by omega)]
      congr 1; omega
/-- What strconv.Atoi answers beside its error. -/
def an (p : List UInt8) : Int := match Lib.atoiAll p with
  | .ok v => v
  | .range => Lib.atoiSat p
  | _ => 0
theorem an_itoa (n : Int) (h0 : -9223372036854775808 ≤ n) (h1 : n ≤ 9223372036854775807) : an (Lib.itoa n) = n := by
  have hm : ∀ u : Nat, u < 18446744073709551616 → Lib.parseMag (Lib.decDigits u) = .ok u := fun u hu => by
    unfold Lib.parseMag
    rw [if_neg (decDigits_ne u), parse_dec u hu]
  unfold an Lib.itoa
  by_cases c : n < 0
  · rw [if_pos c, Lib.atoiAll_minus, hm _ (by omega)]
    simp only [Lib.signed]
    rw [if_neg (by omega)]
    simp only
    omega
  · rw [if_neg c]
    cases hd : Lib.decDigits n.toNat with
    | nil => exact absurd hd (decDigits_ne _)
    | cons b r =>
      have hb := decDigits_mem n.toNat b (hd ▸ List.mem_cons_self)
      rw [Lib.atoiAll_plain b r (by omega) (by omega), ← hd, hm _ (by omega)]
      simp only [Lib.signless]
      rw [if_neg (by omega)]
      simp only
      omega
theorem an_range (p : List UInt8) : -9223372036854775808 ≤ an p ∧ an p ≤ 9223372036854775807 := by
  unfold an
  cases h : Lib.atoiAll p with
  | ok v => exact Lib.atoiAll_bounds h
  | range =>
    simp only
    unfold Lib.atoiSat
    split <;> decide
  | _ =>
    simp only
    omega
/-- Is a text a number as it is printed? -/
def isN (p : List UInt8) : Bool := Lib.itoa (an p) == p
theorem isN_iff (p : List UInt8) : isN p = true ↔ ∃ n : Int, -9223372036854775808 ≤ n ∧ n ≤ 9223372036854775807 ∧ p = Lib.itoa n := by
  unfold isN
  rw [beq_iff_eq]
  constructor
  · intro h
    exact ⟨an p, (an_range p).1, (an_range p).2, h.symm⟩
  · rintro ⟨n, h0, h1, rfl⟩
    rw [an_itoa n h0 h1]
theorem isN_itoa {n : Int} (h0 : -9223372036854775808 ≤ n) (h1 : n ≤ 9223372036854775807) : isN (Lib.itoa n) = true := (isN_iff _).2 ⟨n, h0, h1, rfl⟩
theorem isN_ne {p : List UInt8} (h : isN p = true) : p ≠ [] ∧ p ≠ [45] := by
  obtain ⟨n, _, _, rfl⟩ := (isN_iff p).1 h
  exact ⟨itoa_ne n, itoa_ne_minus n⟩

/-! ### lists of numbers -/
def lst (us : List Int) : List UInt8 := if us = [] then [45] else Lib.join (us.map Lib.itoa) [44]
def usOf (p : List UInt8) : List Int := if p = [45] then [] else (sp 44 p).map an
/-- Is a text a list as it is printed? -/
def isL (p : List UInt8) : Bool := p == [45] || (sp 44 p).all isN
theorem lst_usOf (p : List UInt8) : lst (usOf p) = p ↔ isL p = true := by
  unfold usOf isL
  by_cases h : p = [45]
  · rw [if_pos h]; subst h; simp [lst]
  · have hf : (p == [45]) = false := beq_eq_false_iff_ne.2 h
    have hne : (sp 44 p).map an ≠ [] := fun e => sp_ne 44 p (List.map_eq_nil_iff.1 e)
    rw [if_neg h, hf, Bool.false_or, List.all_eq_true, lst, if_neg hne, List.map_map,
      join_iff 44 _ p (fun e => sp_ne 44 p (List.map_eq_nil_iff.1 e)) (fun q hq => by
        obtain ⟨x, _, rfl⟩ := List.mem_map.1 hq
        exact itoa_no _ 44 (.inr rfl))]
    constructor
    · intro e x hx
      have : ∀ y ∈ sp 44 p, (Lib.itoa ∘ an) y = y := by
        have e' : (sp 44 p).map (Lib.itoa ∘ an) = (sp 44 p).map id := by rw [e, List.map_id]
        exact List.map_inj_left.1 e'
      exact beq_iff_eq.2 (this x hx)
    · intro hall
      have : (sp 44 p).map (Lib.itoa ∘ an) = (sp 44 p).map id := List.map_congr_left (fun x hx => beq_iff_eq.1 (hall x hx))
      rw [this, List.map_id]
theorem lst_no (us : List Int) (c : UInt8) (hc : c.toNat = 32) : c ∉ lst us := by
  unfold lst
  split
  · intro h
    rw [List.mem_singleton.1 h] at hc
    exact absurd hc (by decide)
  · intro h
    have hj : ∀ ps : List (List UInt8), (∀ p ∈ ps, c ∉ p) → c ∉ Lib.join ps [44] := by
      intro ps
      induction ps with
      | nil => intro _ h; simp [Lib.join_nil] at h
      | cons x r ih =>
        intro hn h
        cases r with
        | nil => rw [Lib.join_one] at h; exact hn x (List.mem_cons_self) h
        | cons y r =>
          rw [join_cons2] at h
          rcases List.mem_append.1 h with h | h
          · rcases List.mem_append.1 h with h | h
            · exact hn x (List.mem_cons_self) h
            · rw [List.mem_singleton.1 h] at hc; exact absurd hc (by decide)
          · exact ih (fun p hp => hn p (List.mem_cons_of_mem _ hp)) h
    exact hj _ (fun p hp => by
      obtain ⟨x, _, rfl⟩ := List.mem_map.1 hp
      exact itoa_no _ c (.inl hc)) h
theorem usOf_lst (us : List Int) (h : ∀ x ∈ us, -9223372036854775808 ≤ x ∧ x ≤ 9223372036854775807) : usOf (lst us) = us := by
  unfold lst
  by_cases e : us = []
  · rw [if_pos e, e]; rfl
  · rw [if_neg e]
    have hne : us.map Lib.itoa ≠ [] := fun h => e (List.map_eq_nil_iff.1 h)
    have hno : ∀ p ∈ us.map Lib.itoa, (44 : UInt8) ∉ p := fun p hp => by
      obtain ⟨x, _, rfl⟩ := List.mem_map.1 hp
      exact itoa_no _ 44 (.inr rfl)
    have hs := sp_join 44 _ hne hno
    have hm : Lib.join (us.map Lib.itoa) [44] ≠ [45] := by
      intro hj
      rw [hj] at hs
      have : us.map Lib.itoa = [[45]] := hs.symm.trans (by decide)
      cases us with
      | nil => exact e rfl
      | cons x r =>
        simp only [List.map_cons, List.cons.injEq] at this
        exact itoa_ne_minus x this.1
    unfold usOf
    rw [if_neg hm, hs, List.map_map]
    have : us.map (an ∘ Lib.itoa) = us.map id := List.map_congr_left (fun x hx => an_itoa x (h x hx).1 (h x hx).2)
    rw [this, List.map_id]
end Go.Proofs.YtohpimfanplloaaGreatDoor.PureS1
