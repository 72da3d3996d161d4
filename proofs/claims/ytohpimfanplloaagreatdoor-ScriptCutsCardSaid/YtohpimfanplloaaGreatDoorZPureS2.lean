/- Bytes in two digits each; acts as lines, lines as acts, as lists. No program in this text. -/
import Derived.Test.YtohpimfanplloaaGreatDoorZPureS1
set_option linter.unusedVariables false
set_option linter.unusedSimpArgs false
namespace Go.Proofs.YtohpimfanplloaaGreatDoor.PureS2
open Go Go.Proofs.YtohpimfanplloaaGreatDoor.PureS1

/-! ### bytes in two digits -/
def hx : List UInt8 := [48, 49, 50, 51, 52, 53, 54, 55, 56, 57, 97, 98, 99, 100, 101, 102]
/-- the digit of x -/
def H (x : Int) : UInt8 := hx.getD x.toNat 0
/-- what a digit counts, none: 0 -/
def ud (c : UInt8) : Int := if Lib.indexByte hx c < 0 then 0 else Lib.indexByte hx c
/-- what a digit counts, none: -1 -/
def hv (c : UInt8) : Int := Lib.indexByte hx c
def isH (c : UInt8) : Bool := decide (0 ≤ hv c)
theorem all_bytes (P : UInt8 → Bool) (h : (List.range 256).all (fun n => P (UInt8.ofNat n)) = true) (c : UInt8) : P c = true := by
  have := List.all_eq_true.1 h c.toNat (List.mem_range.2 (UInt8.toNat_lt c))
  simpa using this
theorem hv_facts (c : UInt8) : -1 ≤ hv c ∧ hv c ≤ 15 ∧ (0 ≤ hv c → H (hv c) = c ∧ ud c = hv c) ∧ 0 ≤ ud c ∧ ud c ≤ 15 := by
  have := all_bytes (fun c => decide (-1 ≤ hv c ∧ hv c ≤ 15 ∧ (0 ≤ hv c → H (hv c) = c ∧ ud c = hv c) ∧ 0 ≤ ud c ∧ ud c ≤ 15)) (by decide +kernel) c
  exact of_decide_eq_true this
theorem H_facts (n : Nat) (h : n < 16) : hv (H n) = n ∧ H n ≠ 45 ∧ H n ≠ 32 ∧ ud (H n) = n := by
  have h2 : (List.range 16).all (fun n => decide (hv (H n) = n ∧ H n ≠ 45 ∧ H n ≠ 32 ∧ ud (H n) = n)) = true := by decide +kernel
  exact of_decide_eq_true (List.all_eq_true.1 h2 n (List.mem_range.2 h))
theorem hv_class (c : UInt8) : hv c = if 48 ≤ c.toNat ∧ c.toNat ≤ 57 then (c.toNat : Int) - 48 else if 97 ≤ c.toNat ∧ c.toNat ≤ 102 then (c.toNat : Int) - 97 + 10 else -1 := by
  have := all_bytes (fun c => decide (hv c = if 48 ≤ c.toNat ∧ c.toNat ≤ 57 then (c.toNat : Int) - 48 else if 97 ≤ c.toNat ∧ c.toNat ≤ 102 then (c.toNat : Int) - 97 + 10 else -1)) (by decide +kernel) c
  exact of_decide_eq_true this
def two (b : List Int) : List UInt8 := b.flatMap (fun x => [H (x / 16), H (x % 16)])
def dig (b : List Int) : List UInt8 := if b = [] then [45] else two b
def un : List UInt8 → List Int
  | a :: b :: r => (16 * ud a + ud b) :: un r
  | _ => []
def allH (p : List UInt8) : Bool := p.all isH
/-- Are these bytes as they are printed? -/
def isB (p : List UInt8) : Bool := p == [45] || (!p.isEmpty && p.length % 2 == 0 && allH p)
theorem two_cons (x : Int) (b : List Int) : two (x :: b) = H (x / 16) :: H (x % 16) :: two b := rfl
theorem two_un : ∀ p : List UInt8, p.length % 2 = 0 → allH p = true → two (un p) = p
  | [], _, _ => rfl
  | [a], h, _ => by simp at h
  | a :: b :: r, h, hh => by
    simp only [allH, List.all_cons, Bool.and_eq_true] at hh
    obtain ⟨ha, hb, hr⟩ := hh
    have fa := hv_facts a
    have fb := hv_facts b
    have ha' := of_decide_eq_true ha
    have hb' := of_decide_eq_true hb
    obtain ⟨e1, e2⟩ := fa.2.2.1 ha'
    obtain ⟨e3, e4⟩ := fb.2.2.1 hb'
    rw [un, two_cons, two_un r (by simp only [List.length_cons] at h; omega) hr, e2, e4,
      show (16 * hv a + hv b) / 16 = hv a by omega, show (16 * hv a + hv b) % 16 = hv b by omega, e1, e3]
theorem two_len (b : List Int) : (two b).length = 2 * b.length := by
  induction b with
  | nil => rfl
  | cons x b ih => rw [two_cons, List.length_cons, List.length_cons, ih, List.length_cons]; omega
theorem two_H (b : List Int) (hb : ∀ x ∈ b, 0 ≤ x ∧ x ≤ 255) : allH (two b) = true := by
  induction b with
  | nil => rfl
  | cons x b ih =>
    have hx := hb x (List.mem_cons_self)
    have ih := ih (fun y hy => hb y (List.mem_cons_of_mem _ hy))
    have h1 := H_facts (x / 16).toNat (by omega)
    have h2 := H_facts (x % 16).toNat (by omega)
    rw [Int.toNat_of_nonneg (by omega)] at h1 h2
    rw [two_cons]
    simp only [allH, List.all_cons, Bool.and_eq_true] at ih ⊢
    exact ⟨decide_eq_true (by omega), decide_eq_true (by omega), ih⟩
theorem un_two (b : List Int) (hb : ∀ x ∈ b, 0 ≤ x ∧ x ≤ 255) : un (two b) = b := by
  induction b with
  | nil => rfl
  | cons x b ih =>
    have hx := hb x (List.mem_cons_self)
    have h1 := H_facts (x / 16).toNat (by omega)
    have h2 := H_facts (x % 16).toNat (by omega)
    rw [Int.toNat_of_nonneg (by omega)] at h1 h2
    rw [two_cons, un, ih (fun y hy => hb y (List.mem_cons_of_mem _ hy)), h1.2.2.2, h2.2.2.2]
    congr 1
    omega
theorem un_bytes : ∀ p x, x ∈ un p → 0 ≤ x ∧ x ≤ 255
  | [], x, h => by simp [un] at h
  | [a], x, h => by simp [un] at h
  | a :: b :: r, x, h => by
    rw [un] at h
    have fa := hv_facts a
    have fb := hv_facts b
    rcases List.mem_cons.1 h with rfl | h
    · omega
    · exact un_bytes r x h
theorem un_len : ∀ p, (un p).length = p.length / 2
  | [] => rfl
  | [a] => by simp [un]
  | a :: b :: r => by
    rw [un, List.length_cons, un_len r, List.length_cons, List.length_cons]; omega
theorem dig_un (p : List UInt8) : dig (un p) = p ↔ isB p = true := by
  unfold dig isB
  by_cases h : p = [45]
  · subst h; simp [un]
  · have hf : (p == [45]) = false := beq_eq_false_iff_ne.2 h
    rw [hf, Bool.false_or]
    constructor
    · intro e
      by_cases hu : un p = []
      · rw [if_pos hu] at e
        exact absurd e.symm h
      · rw [if_neg hu] at e
        have h1 := two_len (un p)
        have h2 := two_H (un p) (fun x hx => un_bytes p x hx)
        rw [e] at h1 h2
        rw [h2]
        have : un p ≠ [] := hu
        have h3 : 0 < (un p).length := List.length_pos_iff.2 hu
        have hne : p ≠ [] := fun e => by subst e; simp at h1; omega
        simp only [Bool.and_true, Bool.and_eq_true, Bool.not_eq_true', List.isEmpty_eq_false_iff, beq_iff_eq]
        exact ⟨hne, by omega⟩
    · intro hb
      simp only [Bool.and_eq_true, Bool.not_eq_true', List.isEmpty_eq_false_iff, beq_iff_eq] at hb
      obtain ⟨⟨hne, hev⟩, hall⟩ := hb
      have hl := un_len p
      have h3 : 0 < p.length := List.length_pos_iff.2 hne
      have hu : un p ≠ [] := fun e => by rw [e] at hl; simp at hl; omega
      rw [if_neg hu, two_un p hev hall]
theorem un_dig (b : List Int) (hb : ∀ x ∈ b, 0 ≤ x ∧ x ≤ 255) : un (dig b) = b := by
  unfold dig
  split
  · rename_i e; rw [e]; rfl
  · exact un_two b hb
theorem two_no (b : List Int) (hb : ∀ x ∈ b, 0 ≤ x ∧ x ≤ 255) : (32 : UInt8) ∉ two b := by
  induction b with
  | nil => simp [two]
  | cons x b ih =>
    have hx := hb x (List.mem_cons_self)
    have h1 := H_facts (x / 16).toNat (by omega)
    have h2 := H_facts (x % 16).toNat (by omega)
    rw [Int.toNat_of_nonneg (by omega)] at h1 h2
    rw [two_cons]
    intro h
    rcases List.mem_cons.1 h with h | h
    · exact h1.2.2.1 h.symm
    · rcases List.mem_cons.1 h with h | h
      · exact h2.2.2.1 h.symm
      · exact ih (fun y hy => hb y (List.mem_cons_of_mem _ hy)) h
theorem dig_no (b : List Int) (hb : ∀ x ∈ b, 0 ≤ x ∧ x ≤ 255) : (32 : UInt8) ∉ dig b := by
  unfold dig
  split
  · decide
  · exact two_no b hb

/-! ### acts -/
structure A8 where
  k : Int
  a : Int
  b : Int
  id : Int
  op : Int
  old : Int
  us : List Int
  tx : List Int
def a0 : A8 := ⟨0, 0, 0, 0, 0, 0, [], []⟩
def wds : List (List UInt8) := [[97, 115, 107], [100, 101, 108, 105, 118, 101, 114], [100, 114, 111, 112], [100, 111, 117, 98, 108, 101], [116, 105, 99, 107], [99, 114, 97, 115, 104], [115, 116, 97, 114, 116], [114, 111, 111, 109]]
def wd (k : Int) : List UInt8 := wds.getD (k - 1).toNat []
def kindOf (p : List UInt8) : Int := if p ∈ wds then (wds.idxOf p : Int) + 1 else 0
/-- an act as a line -/
def pr (x : A8) : List UInt8 :=
  if x.k < 1 ∨ 8 < x.k then [63] else
  if x.k = 1 then Lib.join [wd 1, Lib.join [Lib.itoa x.id, Lib.itoa x.op, Lib.itoa x.old] [32], lst x.us, dig x.tx] [32]
  else Lib.join [wd x.k, Lib.join [Lib.itoa x.a, Lib.itoa x.b] [32]] [32]
def pc (l : List (List UInt8)) (i : Nat) : List UInt8 := l.getD i []
def rdA (k : Int) (l : List (List UInt8)) : A8 :=
  if k = 1 then ⟨1, 0, 0, an (pc l 1), an (pc l 2), an (pc l 3), usOf (pc l 4), un (pc l 5)⟩
  else ⟨k, an (pc l 1), an (pc l 2), 0, 0, 0, [], []⟩
def wide (k : Int) : Nat := if k = 1 then 6 else 3
/-- a line as an act, and the error -/
def parse (s : List UInt8) : A8 × Int :=
  if kindOf (pc (sp 32 s) 0) = 0 then (a0, 6) else
  if (sp 32 s).length < wide (kindOf (pc (sp 32 s) 0)) then (a0, 2) else
  if pr (rdA (kindOf (pc (sp 32 s) 0)) (sp 32 s)) = s then (rdA (kindOf (pc (sp 32 s) 0)) (sp 32 s), 0) else (a0, 4)
/-- likewise, as the document has it -/
def ok (k : Int) (l : List (List UInt8)) : Bool :=
  if k = 1 then isN (pc l 1) && isN (pc l 2) && isN (pc l 3) && isL (pc l 4) && isB (pc l 5) else isN (pc l 1) && isN (pc l 2)
def vparse (s : List UInt8) : A8 × Int :=
  if kindOf (pc (sp 32 s) 0) = 0 then (a0, 6) else
  if (sp 32 s).length < wide (kindOf (pc (sp 32 s) 0)) then (a0, 2) else
  if (sp 32 s).length > wide (kindOf (pc (sp 32 s) 0)) then (a0, 4) else
  if ok (kindOf (pc (sp 32 s) 0)) (sp 32 s) then (rdA (kindOf (pc (sp 32 s) 0)) (sp 32 s), 0) else (a0, 4)
theorem kind_range (p : List UInt8) (h : kindOf p ≠ 0) : 1 ≤ kindOf p ∧ kindOf p ≤ 8 ∧ wd (kindOf p) = p := by
  unfold kindOf at h ⊢
  by_cases hm : p ∈ wds
  · rw [if_pos hm] at h ⊢
    have hl : wds.idxOf p < wds.length := List.idxOf_lt_length_iff.2 hm
    have h8 : wds.length = 8 := rfl
    refine ⟨by omega, by omega, ?_⟩
    unfold wd
    rw [show ((wds.idxOf p : Int) + 1 - 1).toNat = wds.idxOf p by omega, List.getD_eq_getElem?_getD, List.getElem?_eq_getElem hl, Option.getD_some]
    exact List.getElem_idxOf hl
  · rw [if_neg hm] at h; exact absurd rfl h
theorem kind_wd (k : Int) (h1 : 1 ≤ k) (h2 : k ≤ 8) : kindOf (wd k) = k ∧ (32 : UInt8) ∉ wd k := by
  have h : (List.range 8).all (fun n => decide (kindOf (wd ((n : Int) + 1)) = (n : Int) + 1) && decide ((32 : UInt8) ∉ wd ((n : Int) + 1))) = true := by decide +kernel
  have := List.all_eq_true.1 h (k - 1).toNat (List.mem_range.2 (by omega))
  simp only [Bool.and_eq_true] at this
  rw [show (((k - 1).toNat : Int) + 1) = k by omega] at this
  exact ⟨of_decide_eq_true this.1, of_decide_eq_true this.2⟩
theorem pr_ask (x : A8) (h : x.k = 1) : pr x = Lib.join [wd 1, Lib.itoa x.id, Lib.itoa x.op, Lib.itoa x.old, lst x.us, dig x.tx] [32] := by
  unfold pr
  rw [if_neg (by omega), if_pos h]
  simp only [join_cons2, Lib.join_one, List.append_assoc]
theorem pr_other (x : A8) (h1 : 1 ≤ x.k) (h8 : x.k ≤ 8) (h : x.k ≠ 1) : pr x = Lib.join [wd x.k, Lib.itoa x.a, Lib.itoa x.b] [32] := by
  unfold pr
  rw [if_neg (by omega), if_neg h]
  simp only [join_cons2, Lib.join_one, List.append_assoc]
def Fine (x : A8) : Prop := ∀ y ∈ x.tx, 0 ≤ y ∧ y ≤ 255
theorem no32 (n : Int) : (32 : UInt8) ∉ Lib.itoa n := itoa_no n 32 (.inl rfl)
theorem ask_iff (x : A8) (h : x.k = 1) (hf : Fine x) (s : List UInt8) : pr x = s ↔ [wd 1, Lib.itoa x.id, Lib.itoa x.op, Lib.itoa x.old, lst x.us, dig x.tx] = sp 32 s := by
  rw [pr_ask x h, join_iff 32 _ s (by simp) (fun p hp => by
    simp only [List.mem_cons, List.not_mem_nil, or_false] at hp
    rcases hp with rfl | rfl | rfl | rfl | rfl | rfl
    · exact (kind_wd 1 (by omega) (by omega)).2
    · exact no32 _
    · exact no32 _
    · exact no32 _
    · exact lst_no _ 32 rfl
    · exact dig_no _ hf)]
theorem other_iff (x : A8) (h1 : 1 ≤ x.k) (h8 : x.k ≤ 8) (h : x.k ≠ 1) (s : List UInt8) : pr x = s ↔ [wd x.k, Lib.itoa x.a, Lib.itoa x.b] = sp 32 s := by
  rw [pr_other x h1 h8 h, join_iff 32 _ s (by simp) (fun p hp => by
    simp only [List.mem_cons, List.not_mem_nil, or_false] at hp
    rcases hp with rfl | rfl | rfl
    · exact (kind_wd x.k h1 h8).2
    · exact no32 _
    · exact no32 _)]
theorem list6 {α : Type} (l : List α) (d : α) (h : l.length = 6) : l = [l.getD 0 d, l.getD 1 d, l.getD 2 d, l.getD 3 d, l.getD 4 d, l.getD 5 d] := by
  match l, h with
  | [a, b, c, e, f, g], _ => rfl
theorem list3 {α : Type} (l : List α) (d : α) (h : l.length = 3) : l = [l.getD 0 d, l.getD 1 d, l.getD 2 d] := by
  match l, h with
  | [a, b, c], _ => rfl
/-- Both readers answer alike. -/
theorem parse_eq (s : List UInt8) : parse s = vparse s := by
  unfold parse vparse
  by_cases hk : kindOf (pc (sp 32 s) 0) = 0
  · rw [if_pos hk, if_pos hk]
  · rw [if_neg hk, if_neg hk]
    obtain ⟨k1, k8, kw⟩ := kind_range _ hk
    by_cases hs : (sp 32 s).length < wide (kindOf (pc (sp 32 s) 0))
    · rw [if_pos hs, if_pos hs]
    · rw [if_neg hs, if_neg hs]
      generalize hkk : kindOf (pc (sp 32 s) 0) = k at *
      have key : pr (rdA k (sp 32 s)) = s ↔ (sp 32 s).length = wide k ∧ ok k (sp 32 s) = true := by
        by_cases e : k = 1
        · subst e
          have hx : rdA 1 (sp 32 s) = ⟨1, 0, 0, an (pc (sp 32 s) 1), an (pc (sp 32 s) 2), an (pc (sp 32 s) 3), usOf (pc (sp 32 s) 4), un (pc (sp 32 s) 5)⟩ := rfl
          rw [ask_iff _ (by rw [hx]) (by rw [hx]; exact fun y hy => un_bytes _ y hy) s, hx]
          show _ ↔ (sp 32 s).length = 6 ∧ (isN (pc (sp 32 s) 1) && isN (pc (sp 32 s) 2) && isN (pc (sp 32 s) 3) && isL (pc (sp 32 s) 4) && isB (pc (sp 32 s) 5)) = true
          simp only [Bool.and_eq_true]
          rw [← lst_usOf, ← dig_un]
          constructor
          · intro e
            have hl : (sp 32 s).length = 6 := by rw [← e]; rfl
            refine ⟨hl, ⟨⟨⟨⟨?_, ?_⟩, ?_⟩, ?_⟩, ?_⟩⟩
            · have : pc (sp 32 s) 1 = Lib.itoa (an (pc (sp 32 s) 1)) := by
                conv => lhs; rw [← e]
                rfl
              exact beq_iff_eq.2 this.symm
            · have : pc (sp 32 s) 2 = Lib.itoa (an (pc (sp 32 s) 2)) := by
                conv => lhs; rw [← e]
                rfl
              exact beq_iff_eq.2 this.symm
            · have : pc (sp 32 s) 3 = Lib.itoa (an (pc (sp 32 s) 3)) := by
                conv => lhs; rw [← e]
                rfl
              exact beq_iff_eq.2 this.symm
            · have : pc (sp 32 s) 4 = lst (usOf (pc (sp 32 s) 4)) := by
                conv => lhs; rw [← e]
                rfl
              exact this.symm
            · have : pc (sp 32 s) 5 = dig (un (pc (sp 32 s) 5)) := by
                conv => lhs; rw [← e]
                rfl
              exact this.symm
          · rintro ⟨hl, ⟨⟨⟨h1, h2⟩, h3⟩, h4⟩, h5⟩
            rw [beq_iff_eq.1 h1, beq_iff_eq.1 h2, beq_iff_eq.1 h3, h4, h5, kw]
            exact (list6 (sp 32 s) [] hl).symm
        · have hx : rdA k (sp 32 s) = ⟨k, an (pc (sp 32 s) 1), an (pc (sp 32 s) 2), 0, 0, 0, [], []⟩ := by unfold rdA; rw [if_neg e]
          have hw : wide k = 3 := by unfold wide; rw [if_neg e]
          have ho : ok k (sp 32 s) = (isN (pc (sp 32 s) 1) && isN (pc (sp 32 s) 2)) := by unfold ok; rw [if_neg e]
          rw [hx, other_iff _ k1 k8 e s, hw, ho]
          simp only [Bool.and_eq_true]
          constructor
          · intro e
            have hl : (sp 32 s).length = 3 := by rw [← e]; rfl
            refine ⟨hl, ?_, ?_⟩
            · have : pc (sp 32 s) 1 = Lib.itoa (an (pc (sp 32 s) 1)) := by
                conv => lhs; rw [← e]
                rfl
              exact beq_iff_eq.2 this.symm
            · have : pc (sp 32 s) 2 = Lib.itoa (an (pc (sp 32 s) 2)) := by
                conv => lhs; rw [← e]
                rfl
              exact beq_iff_eq.2 this.symm
          · rintro ⟨hl, h1, h2⟩
            rw [beq_iff_eq.1 h1, beq_iff_eq.1 h2, kw]
            exact (list3 (sp 32 s) [] hl).symm
      by_cases hl : (sp 32 s).length > wide k
      · rw [if_pos hl, if_neg (fun h => by have := (key.1 h).1; omega)]
      · rw [if_neg hl]
        by_cases ho : ok k (sp 32 s) = true
        · rw [if_pos (key.2 ⟨by omega, ho⟩), if_pos ho]
        · rw [if_neg (fun h => ho (key.1 h).2), if_neg ho]
/-- What is read without an error is printed just so. -/
theorem parse_pr (s : List UInt8) (h : (parse s).2 = 0) : pr (parse s).1 = s := by
  unfold parse at h ⊢
  by_cases hk : kindOf (pc (sp 32 s) 0) = 0
  · rw [if_pos hk] at h; exact absurd h (by decide)
  · rw [if_neg hk] at h ⊢
    by_cases hs : (sp 32 s).length < wide (kindOf (pc (sp 32 s) 0))
    · rw [if_pos hs] at h; exact absurd h (by decide)
    · rw [if_neg hs] at h ⊢
      by_cases hp : pr (rdA (kindOf (pc (sp 32 s) 0)) (sp 32 s)) = s
      · rw [if_pos hp]; exact hp
      · rw [if_neg hp] at h; exact absurd h (by decide)
def i64 (n : Int) : Prop := -9223372036854775808 ≤ n ∧ n ≤ 9223372036854775807
/-- An act is printed, and read as it. -/
theorem parse_of_pr (x : A8) (h1 : 1 ≤ x.k) (h8 : x.k ≤ 8) (hf : Fine x) (ha : i64 x.a) (hb : i64 x.b) (hi : i64 x.id) (ho : i64 x.op) (hl : i64 x.old) (hu : ∀ y ∈ x.us, i64 y)
    (hz : if x.k = 1 then x.a = 0 ∧ x.b = 0 else x.id = 0 ∧ x.op = 0 ∧ x.old = 0 ∧ x.us = [] ∧ x.tx = []) : parse (pr x) = (x, 0) := by
  by_cases e : x.k = 1
  · rw [if_pos e] at hz
    have hs := (ask_iff x e hf (pr x)).1 rfl
    have h0 : pc (sp 32 (pr x)) 0 = wd 1 := by rw [← hs]; rfl
    have hk := (kind_wd 1 (by omega) (by omega)).1
    have hr : rdA 1 (sp 32 (pr x)) = x := by
      rw [← hs]
      show (⟨1, 0, 0, an (Lib.itoa x.id), an (Lib.itoa x.op), an (Lib.itoa x.old), usOf (lst x.us), un (dig x.tx)⟩ : A8) = x
      rw [an_itoa _ hi.1 hi.2, an_itoa _ ho.1 ho.2, an_itoa _ hl.1 hl.2, usOf_lst _ hu, un_dig _ hf]
      obtain ⟨k, a, b, id, op, old, us, tx⟩ := x
      simp only at e hz ⊢
      rw [e, hz.1, hz.2]
    have hlen : (sp 32 (pr x)).length = 6 := by rw [← hs]; rfl
    unfold parse
    rw [h0, hk, if_neg (by decide), if_neg (by rw [hlen]; decide), hr, if_pos rfl]
  · rw [if_neg e] at hz
    have hs := (other_iff x h1 h8 e (pr x)).1 rfl
    have h0 : pc (sp 32 (pr x)) 0 = wd x.k := by rw [← hs]; rfl
    have hk := (kind_wd x.k h1 h8).1
    have hr : rdA x.k (sp 32 (pr x)) = x := by
      rw [← hs]
      unfold rdA
      rw [if_neg e]
      show (⟨x.k, an (Lib.itoa x.a), an (Lib.itoa x.b), 0, 0, 0, [], []⟩ : A8) = x
      rw [an_itoa _ ha.1 ha.2, an_itoa _ hb.1 hb.2]
      obtain ⟨k, a, b, id, op, old, us, tx⟩ := x
      simp only at hz ⊢
      obtain ⟨rfl, rfl, rfl, rfl, rfl⟩ := hz
      rfl
    have hlen : (sp 32 (pr x)).length = 3 := by rw [← hs]; rfl
    unfold parse
    rw [h0, hk, if_neg (by omega), if_neg (by rw [hlen]; unfold wide; rw [if_neg e]; decide), hr, if_pos rfl]
end Go.Proofs.YtohpimfanplloaaGreatDoor.PureS2
