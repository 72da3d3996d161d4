/- The document's own numbers and pieces, as the plain lists have them. -/
import Derived.Test.YtleljfmhefobeaaDoorPureSD
import Derived.Test.YtleljfmhefobeaaDoorGLx7
import Derived.Test.YtleljfmhefobeaaDoorGLx8
import Derived.Test.YtleljfmhefobeaaDoorGLx10
set_option linter.unusedVariables false
set_option linter.unusedSimpArgs false
namespace Go.Proofs.YtleljfmhefobeaaDoor.PureS5
open Go Go.RowKit Go.Proofs.YtleljfmhefobeaaDoorW.PrintWords Go.Proofs.YtleljfmhefobeaaDoorW.PrintLast Go.Proofs.YtleljfmhefobeaaDoorW.PrintMore Go.Proofs.YtleljfmhefobeaaDoor.GL Go.Proofs.YtleljfmhefobeaaDoor.PureS1 Go.Proofs.YtleljfmhefobeaaDoor.PureS2 Go.Proofs.YtleljfmhefobeaaDoor.PureS3 Go.Proofs.YtleljfmhefobeaaDoor.PureSD

theorem parse_ge : ∀ (l : List UInt8) (acc u : Nat), Lib.parseUint10 acc l = .ok u → acc ≤ u
  | [], acc, u, h => by
    simp only [Lib.parseUint10] at h
    injection h with h
    omega
  | c :: r, acc, u, h => by
    simp only [Lib.parseUint10] at h
    split at h
    · split at h
      · cases h
      · split at h
        · cases h
        · have := parse_ge r _ u h
          omega
    · cases h
/-- what the loop answers at its end -/
def fin (x0 : ByteArray) (neg : Bool) (u : Nat) : Int × Bool :=
  if neg then (-(u : Int), Lib.itoa (-(u : Int)) == L x0) else if u = 9223372036854775808 then (0, false) else ((u : Int), Lib.itoa (u : Int) == L x0)
theorem num_loop (x0 : ByteArray) (neg : Bool) (d : ByteArray) (hd : d.size ≤ 19) : ∀ (n i k acc : Nat), d.size - i = n → i ≤ d.size → n + 23 ≤ k → acc ≤ 9223372036854775808 →
    ∃ v b, vokref_Num.l0 k x0 neg d (-(acc : Int)) (i : Int) = some (v, b) ∧ (b = true → i64 v ∧ L x0 = Lib.itoa v) ∧
      (∀ u, Lib.parseUint10 acc ((L d).drop i) = .ok u → u ≤ 9223372036854775808 → (v, b) = fin x0 neg u) := by
  intro n
  induction n with
  | zero =>
    intro i k acc hn hi hk ha
    obtain ⟨k, rfl⟩ : ∃ j, k = j + 1 := ⟨k - 1, by omega⟩
    obtain rfl : i = d.size := by omega
    have hdrop : (L d).drop d.size = [] := by rw [size_L]; exact List.drop_length
    rw [vokref_Num.l0, if_neg (by omega)]
    have hp : ∀ u, Lib.parseUint10 acc ((L d).drop d.size) = .ok u → u = acc := fun u h => by
      rw [hdrop] at h
      simp only [Lib.parseUint10] at h
      injection h with h
      exact h.symm
    have hbeq : ∀ v, i64 v → ((B (Lib.itoa v)).toList == x0.toList) = (Lib.itoa v == L x0) := fun v _ => by rw [toL, toL]
    by_cases hneg : neg = true
    · have hv : i64 (-(acc : Int)) := ⟨by omega, by omega⟩
      rw [if_pos hneg, dec_eq k _ (by omega) hv]
      refine ⟨_, _, rfl, fun hb => ⟨hv, ?_⟩, fun u hu _ => ?_⟩
      · rw [hbeq _ hv, beq_iff_eq] at hb
        exact hb.symm
      · rw [hp u hu, hbeq _ hv]
        unfold fin
        rw [if_pos hneg]
    · rw [if_neg hneg]
      by_cases hm : acc = 9223372036854775808
      · rw [if_pos (by omega)]
        refine ⟨_, _, rfl, fun hb => (by cases hb), fun u hu _ => ?_⟩
        rw [hp u hu]
        unfold fin
        rw [if_neg hneg, if_pos hm]
      · have hv : i64 (acc : Int) := ⟨by omega, by omega⟩
        have e : wrap64 (-(-(acc : Int))) = (acc : Int) := by unfold wrap64; omega
        rw [if_neg (by omega), e, dec_eq k _ (by omega) hv]
        refine ⟨_, _, rfl, fun hb => ⟨hv, ?_⟩, fun u hu _ => ?_⟩
        · rw [hbeq _ hv, beq_iff_eq] at hb
          exact hb.symm
        · rw [hp u hu, hbeq _ hv]
          unfold fin
          rw [if_neg hneg, if_neg hm]
  | succ n ih =>
    intro i k acc hn hi hk ha
    obtain ⟨k, rfl⟩ : ∃ j, k = j + 1 := ⟨k - 1, by omega⟩
    have hlt : i < d.size := by omega
    have hc := UInt8.toNat_lt ((L d).getD i 0)
    rw [vokref_Num.l0, if_pos (by omega), if_pos (by omega), bt_L d i hlt, drop_L d i hlt]
    generalize (L d).getD i 0 = c at hc ⊢
    have e0 : wrap64 (wrap64 (c.toNat : Int) - 48) = (c.toNat : Int) - 48 := by unfold wrap64; omega
    rw [e0]
    by_cases h0 : c.toNat < 48
    · rw [if_pos (by omega)]
      refine ⟨_, _, rfl, fun hb => (by cases hb), fun u hu _ => ?_⟩
      simp only [Lib.parseUint10] at hu
      rw [if_neg (by omega)] at hu
      cases hu
    rw [if_neg (by omega)]
    by_cases h9 : 57 < c.toNat
    · rw [if_pos (by omega)]
      refine ⟨_, _, rfl, fun hb => (by cases hb), fun u hu _ => ?_⟩
      simp only [Lib.parseUint10] at hu
      rw [if_neg (by omega)] at hu
      cases hu
    rw [if_neg (by omega)]
    obtain ⟨X, hX, hX9⟩ : ∃ X : Nat, c.toNat = X + 48 ∧ X ≤ 9 := ⟨c.toNat - 48, by omega, by omega⟩
    have e1 : (c.toNat : Int) - 48 = (X : Int) := by omega
    have e2 : wrap64 (Int.tdiv (wrap64 (-9223372036854775808 + (X : Int))) 10) = -(((9223372036854775808 - X) / 10 : Nat) : Int) := by
      have : wrap64 (-9223372036854775808 + (X : Int)) = -((9223372036854775808 - X : Nat) : Int) := by unfold wrap64; omega
      rw [this, Int.neg_tdiv, Int.tdiv_eq_ediv_of_nonneg (by omega)]
      unfold wrap64; omega
    have e3 : c.toNat - 48 = X := by omega
    rw [e1, e2]
    by_cases ho : (9223372036854775808 - X) / 10 < acc
    · rw [if_pos (by omega)]
      refine ⟨_, _, rfl, fun hb => (by cases hb), fun u hu hul => ?_⟩
      simp only [Lib.parseUint10] at hu
      rw [if_pos (by omega), e3] at hu
      split at hu
      · cases hu
      · split at hu
        · cases hu
        · have := parse_ge _ _ u hu
          omega
    rw [if_neg (by omega)]
    have e4 : wrap64 (wrap64 (10 * -(acc : Int)) - (X : Int)) = -((acc * 10 + X : Nat) : Int) := by unfold wrap64; omega
    rw [e4, w1 i (by omega)]
    obtain ⟨v, b, hv, h1, h2⟩ := ih (i + 1) k (acc * 10 + X) (by omega) (by omega) (by omega) (by omega)
    refine ⟨v, b, hv, h1, fun u hu hul => h2 u ?_ hul⟩
    simp only [Lib.parseUint10] at hu
    rw [if_pos (by omega), e3, if_neg (by omega), if_neg (by omega)] at hu
    exact hu
theorem ext_L (s : ByteArray) (a b : Nat) : L (s.extract a b) = ((L s).drop a).take (b - a) := by
  show (s.extract a b).data.toList = _
  rw [ByteArray.data_extract, Array.toList_extract]
theorem itoa_neg {n : Int} (h : n < 0) : Lib.itoa n = 45 :: Lib.decDigits n.natAbs := by
  unfold Lib.itoa
  rw [if_pos h]
theorem itoa_pos {n : Int} (h : ¬ n < 0) : Lib.itoa n = Lib.decDigits n.toNat := by
  unfold Lib.itoa
  rw [if_neg h]
theorem dd_len (u : Nat) (h : u ≤ 9223372036854775808) : 1 ≤ (Lib.decDigits u).length ∧ (Lib.decDigits u).length ≤ 19 := by
  rw [Lib.decDigits_length]
  exact ⟨Lib.nDigits_pos u, nd_le u (by omega)⟩
/-- The document's Num says of a text what the plain lists say. -/
theorem num_eq (k : Nat) (p : ByteArray) (hk : 60 ≤ k) : ∃ v b, vokref_Num.f k p = some (v, b) ∧ b = isN (L p) ∧ (b = true → v = an (L p)) := by
  -- from what the loop, and the ways to it, answer
  have main : ∀ (neg : Bool) (d : ByteArray) (k : Nat), 57 ≤ k → (∀ n : Int, i64 n → L p = Lib.itoa n → neg = decide (n < 0) ∧ L d = Lib.decDigits n.natAbs) →
      ∃ v b, vokref_Num.j1 k p neg d = some (v, b) ∧ b = isN (L p) ∧ (b = true → v = an (L p)) := by
    intro neg d k hk hn
    obtain ⟨k, rfl⟩ : ∃ j, k = j + 2 := ⟨k - 2, by omega⟩
    have hno : d.size < 1 ∨ 19 < d.size → isN (L p) = false := fun h => by
      cases hb : isN (L p) with
      | false => rfl
      | true =>
        obtain ⟨n, h0, h1, e⟩ := (isN_iff _).1 hb
        obtain ⟨_, hd⟩ := hn n ⟨h0, h1⟩ e
        have := dd_len n.natAbs (by omega)
        rw [← hd, ← size_L] at this
        omega
    rw [vokref_Num.j1]
    by_cases s1 : d.size < 1
    · rw [if_pos (by omega), vokref_Num.j2, if_pos rfl]
      exact ⟨_, _, rfl, (hno (.inl s1)).symm, fun h => by cases h⟩
    rw [if_neg (by omega), vokref_Num.j2]
    by_cases s2 : 19 < d.size
    · rw [if_pos (decide_eq_true (by omega))]
      exact ⟨_, _, rfl, (hno (.inr s2)).symm, fun h => by cases h⟩
    rw [if_neg (by simp; omega)]
    obtain ⟨v, b, hv, h1, h2⟩ := num_loop p neg d (by omega) d.size 0 k 0 (by omega) (by omega) (by omega) (by omega)
    refine ⟨v, b, by simpa using hv, ?_, fun hb => ?_⟩
    · cases hb : isN (L p) with
      | true =>
        obtain ⟨n, g0, g1, e⟩ := (isN_iff _).1 hb
        obtain ⟨hneg, hd⟩ := hn n ⟨g0, g1⟩ e
        have := h2 n.natAbs (by rw [List.drop_zero, hd]; exact parse_dec _ (by omega)) (by omega)
        unfold fin at this
        rw [hneg] at this
        by_cases c : n < 0
        · rw [if_pos (by simpa using c)] at this
          have e2 : -(n.natAbs : Int) = n := by omega
          rw [e2, ← e] at this
          simp at this
          exact this.2
        · rw [if_neg (by simpa using c), if_neg (by omega)] at this
          have e2 : (n.natAbs : Int) = n := by omega
          rw [e2, ← e] at this
          simp at this
          exact this.2
      | false =>
        cases b with
        | false => rfl
        | true =>
          obtain ⟨g, e⟩ := h1 rfl
          rw [e, isN_itoa g.1 g.2] at hb
          cases hb
    · obtain ⟨g, e⟩ := h1 hb
      rw [e, an_itoa v g.1 g.2]
  obtain ⟨k, rfl⟩ : ∃ j, k = j + 1 := ⟨k - 1, by omega⟩
  have hcase : ∀ n : Int, L p = Lib.itoa n → (n < 0 ∧ (L p).getD 0 0 = 45 ∧ (L p).drop 1 = Lib.decDigits n.natAbs) ∨ (¬ n < 0 ∧ (L p).getD 0 0 ≠ 45 ∧ L p = Lib.decDigits n.natAbs) := fun n e => by
    by_cases c : n < 0
    · left
      rw [e, itoa_neg c]
      exact ⟨c, rfl, rfl⟩
    · right
      rw [itoa_pos c] at e
      have e2 : n.toNat = n.natAbs := by omega
      rw [e2] at e
      refine ⟨c, ?_, e⟩
      rw [e]
      cases hd : Lib.decDigits n.natAbs with
      | nil => exact absurd hd (decDigits_ne _)
      | cons b r =>
        have hb := decDigits_mem n.natAbs b (hd ▸ List.mem_cons_self)
        intro h
        have : b = 45 := h
        rw [this] at hb
        have h45 : (45 : UInt8).toNat = 45 := rfl
        omega
  unfold vokref_Num.f
  by_cases z : 0 < p.size
  · rw [if_pos (by omega), if_pos (by omega), vokref_Num.j0]
    have hb0 : bt p 0 = (((L p).getD 0 0).toNat : Int) := bt_L p 0 z
    rw [hb0]
    by_cases m : (L p).getD 0 0 = 45
    · have e : (((((L p).getD 0 0).toNat : Int)) == 45) = true := by rw [m]; rfl
      rw [e, if_pos rfl, if_pos (by omega)]
      refine main true _ k (by omega) fun n hi hp => ?_
      rcases hcase n hp with ⟨c, _, h⟩ | ⟨_, h, _⟩
      · refine ⟨(decide_eq_true c).symm, ?_⟩
        rw [ext_L, ← h, List.take_of_length_le]
        rw [List.length_drop, ← size_L]
        omega
      · exact absurd m h
    · have e : (((((L p).getD 0 0).toNat : Int)) == 45) = false := by
        rw [beq_eq_false_iff_ne]
        intro h
        exact m (UInt8.toNat_inj.1 (by show _ = 45; omega))
      rw [e, if_neg (by simp)]
      refine main false _ k (by omega) fun n hi hp => ?_
      rcases hcase n hp with ⟨_, h, _⟩ | ⟨c, _, h⟩
      · exact absurd h m
      · exact ⟨(decide_eq_false c).symm, h⟩
  · rw [if_neg (by omega), vokref_Num.j0, if_neg (by simp)]
    refine main false _ k (by omega) fun n hi hp => ?_
    rcases hcase n hp with ⟨_, h, _⟩ | ⟨c, _, h⟩
    · have : L p = [] := List.length_eq_zero_iff.1 (by rw [← size_L]; omega)
      rw [this] at h
      cases h
    · exact ⟨(decide_eq_false c).symm, h⟩

/-! ### pieces -/
theorem take_succ (l : List UInt8) (a i : Nat) (h : a ≤ i) (hi : i < l.length) : (l.drop a).take (i + 1 - a) = (l.drop a).take (i - a) ++ [l.getD i 0] := by
  have e : i + 1 - a = i - a + 1 := by omega
  rw [e, List.take_succ_eq_append_getElem (by rw [List.length_drop]; omega), List.getElem_drop]
  congr 2
  rw [List.getD_eq_getElem?_getD]
  have : a + (i - a) = i := by omega
  simp [this, hi]
theorem strs_app (a b : List ByteArray) : strs (a ++ b) = strs a ++ strs b := List.map_append ..
theorem split_loop (s : ByteArray) (c : UInt8) (hs : s.size < 4294967281) : ∀ (n i k from_ : Nat) (out : List ByteArray) (p : List UInt8) (r : List (List UInt8)), s.size - i = n → i ≤ s.size → n + 2 ≤ k → from_ ≤ i → out.length ≤ from_ →
    sp c ((L s).drop i) = p :: r →
    ∃ ps, vokref_Split.l0 k s (c.toNat : Int) out (from_ : Int) (i : Int) = some ps ∧ strs ps = strs out ++ ((((L s).drop from_).take (i - from_) ++ p) :: r) := by
  intro n
  induction n with
  | zero =>
    intro i k fr out p r hn hi hk hf ho hp
    obtain ⟨k, rfl⟩ : ∃ j, k = j + 2 := ⟨k - 2, by omega⟩
    obtain rfl : i = s.size := by omega
    have hdrop : (L s).drop s.size = [] := by rw [size_L]; exact List.drop_length
    rw [hdrop] at hp
    have hp' : ([[]] : List (List UInt8)) = p :: r := hp
    injection hp' with h1 h2
    subst h1 h2
    rw [vokref_Split.l0, if_pos (by omega), if_pos rfl, if_pos (by omega), if_pos (by omega), if_pos (by omega), w1 s.size (by omega), vokref_Split.l0, if_neg (by omega)]
    refine ⟨_, rfl, ?_⟩
    rw [strs_app, Int.toNat_natCast, Int.toNat_natCast]
    show strs out ++ [L (s.extract fr s.size)] = _
    rw [ext_L, List.append_nil]
  | succ n ih =>
    intro i k fr out p r hn hi hk hf ho hp
    obtain ⟨k, rfl⟩ : ∃ j, k = j + 1 := ⟨k - 1, by omega⟩
    have hlt : i < s.size := by omega
    have hlt' : i < (L s).length := by rw [← size_L]; exact hlt
    rw [vokref_Split.l0, if_pos (by omega), if_neg (by omega), if_pos (by omega), if_pos (by omega), bt_L s i hlt]
    rw [drop_L s i hlt] at hp
    by_cases e : (L s).getD i 0 = c
    · rw [e, sp_eq] at hp
      injection hp with h1 h2
      obtain ⟨q, t, hq⟩ := sp_cons c ((L s).drop (i + 1))
      rw [if_pos (by rw [e]), if_pos (by omega), if_pos (by omega), if_pos (by omega), w1 i (by omega), Int.toNat_natCast, Int.toNat_natCast]
      obtain ⟨ps, h3, h4⟩ := ih (i + 1) k (i + 1) (out ++ [s.extract fr i]) q t (by omega) (by omega) (by omega) (Nat.le_refl _) (by rw [List.length_append]; simp only [List.length_singleton]; omega) hq
      refine ⟨ps, h3, ?_⟩
      rw [h4, strs_app, ← h1, ← h2, hq, Nat.sub_self, List.take_zero, List.nil_append, List.append_nil, List.append_assoc]
      show strs out ++ (L (s.extract fr i) :: q :: t) = _
      rw [ext_L]
    · obtain ⟨q, t, hq⟩ := sp_cons c ((L s).drop (i + 1))
      rw [sp_other e hq] at hp
      injection hp with h1 h2
      rw [if_neg (fun h => e (UInt8.toNat_inj.1 (by omega))), w1 i (by omega)]
      obtain ⟨ps, h3, h4⟩ := ih (i + 1) k fr out q t (by omega) (by omega) (by omega) (by omega) ho hq
      refine ⟨ps, h3, ?_⟩
      rw [h4, ← h1, ← h2, take_succ _ _ _ hf hlt', List.append_assoc]
      rfl
theorem vsplit_eq (k : Nat) (s : ByteArray) (c : UInt8) (hs : s.size < 4294967281) (hk : s.size + 2 ≤ k) : ∃ ps, vokref_Split.f k s (c.toNat : Int) = some ps ∧ strs ps = sp c (L s) := by
  obtain ⟨p, r, hp⟩ := sp_cons c (L s)
  obtain ⟨ps, h1, h2⟩ := split_loop s c hs s.size 0 k 0 [] p r (by omega) (by omega) hk (Nat.le_refl _) (Nat.le_refl _) hp
  exact ⟨ps, h1, by rw [h2, hp]; rfl⟩

/-! ### lists -/
theorem vlist_loop (q : List ByteArray) (hq : q.length ≤ 10000000) : ∀ (n i k : Nat) (acc : List Int), q.length - i = n → i ≤ q.length → n + 61 ≤ k → acc.length = i →
    ∃ v b, vokref25_list.l0 k q acc (i : Int) = some (v, b) ∧ b = ((strs q).drop i).all isN ∧ (b = true → v = acc ++ ((strs q).drop i).map an) := by
  intro n
  induction n with
  | zero =>
    intro i k acc hn hi hk ha
    obtain ⟨k, rfl⟩ : ∃ j, k = j + 1 := ⟨k - 1, by omega⟩
    obtain rfl : i = q.length := by omega
    rw [vokref25_list.l0, if_neg (by omega), ← strs_len, List.drop_length]
    exact ⟨_, _, rfl, rfl, fun _ => by simp⟩
  | succ n ih =>
    intro i k acc hn hi hk ha
    obtain ⟨k, rfl⟩ : ∃ j, k = j + 1 := ⟨k - 1, by omega⟩
    have hlt : i < q.length := by omega
    have hlt2 : i < (strs q).length := by rw [strs_len]; exact hlt
    obtain ⟨v, b, hv, hb, hvb⟩ := num_eq k (rdOf ByteArray.empty q (i : Int)) (by omega)
    have e1 : L (rdOf ByteArray.empty q (i : Int)) = (strs q)[i] := by
      rw [rd_pc]
      unfold pc
      rw [Int.toNat_natCast, List.getD_eq_getElem?_getD, List.getElem?_eq_getElem hlt2, Option.getD_some]
    rw [e1] at hb hvb
    rw [vokref25_list.l0, if_pos (by omega), if_pos (by omega), hv]
    simp only [Option.bind_some]
    rw [List.drop_eq_getElem_cons hlt2, List.all_cons, List.map_cons]
    cases b with
    | false =>
      rw [if_neg (by simp)]
      exact ⟨_, _, rfl, by rw [← hb]; rfl, fun h => by cases h⟩
    | true =>
      rw [if_pos rfl, if_pos (by omega), w1 i (by omega)]
      obtain ⟨v', b', hv', hb', hvb'⟩ := ih (i + 1) k (acc ++ [v]) (by omega) (by omega) (by omega) (by rw [List.length_append, ha]; rfl)
      refine ⟨v', b', hv', by rw [hb', ← hb]; rfl, fun h => ?_⟩
      rw [hvb' h, hvb rfl, List.append_assoc]
      rfl
theorem vlist_eq (k : Nat) (s : ByteArray) (hs : s.size ≤ 1000000) (hk : s.size + 70 ≤ k) : ∃ v b, vokref25_list.f k s = some (v, b) ∧ b = isL (L s) ∧ (b = true → v = usOf (L s)) := by
  unfold vokref25_list.f isL usOf
  rw [toL]
  by_cases e : L s = [45]
  · rw [if_pos e, if_pos e, e]
    exact ⟨_, _, rfl, rfl, fun _ => rfl⟩
  · rw [if_neg e, if_neg e]
    obtain ⟨ps, h1, h2⟩ := vsplit_eq k s 44 (by omega) (by omega)
    have h1' : vokref_Split.f k s 44 = some ps := h1
    have hl : ps.length ≤ s.size + 1 := by
      rw [← strs_len, h2, size_L]
      exact sp_len 44 (L s)
    rw [h1']
    simp only [Option.bind_some]
    obtain ⟨v, b, hv, hb, hvb⟩ := vlist_loop ps (by omega) ps.length 0 k [] (by omega) (by omega) (by omega) rfl
    refine ⟨v, b, hv, ?_, fun h => ?_⟩
    · rw [hb, List.drop_zero, h2]
      have : (L s == [45]) = false := beq_eq_false_iff_ne.2 e
      rw [this, Bool.false_or]
    · rw [hvb h, List.drop_zero, h2, List.nil_append]

/-! ### bytes in two digits -/
theorem vdigit_eq (k : Nat) (c : UInt8) (hk : 1 ≤ k) : vokref25_digit.f k (c.toNat : Int) = some (hv c) := by
  obtain ⟨k, rfl⟩ : ∃ j, k = j + 1 := ⟨k - 1, by omega⟩
  have hc := UInt8.toNat_lt c
  unfold vokref25_digit.f
  rw [hv_class]
  by_cases h0 : 48 ≤ c.toNat
  · rw [if_pos (by omega), vokref25_digit.j0]
    by_cases h1 : c.toNat ≤ 57
    · rw [if_pos (decide_eq_true (by omega)), if_pos ⟨h0, h1⟩]
      congr 1; omega
    · rw [if_neg (by simp; omega), if_neg (show ¬ (48 ≤ c.toNat ∧ c.toNat ≤ 57) by omega)]
      by_cases h2 : 97 ≤ c.toNat
      · rw [if_pos (show (c.toNat : Int) ≥ 97 by omega)]
        by_cases h3 : c.toNat ≤ 102
        · rw [if_pos (show (c.toNat : Int) ≤ 102 by omega), if_pos ⟨h2, h3⟩]
          congr 1; omega
        · rw [if_neg (show ¬ (c.toNat : Int) ≤ 102 by omega), if_neg (show ¬ (97 ≤ c.toNat ∧ c.toNat ≤ 102) by omega)]
      · rw [if_neg (show ¬ (c.toNat : Int) ≥ 97 by omega), if_neg (show ¬ (97 ≤ c.toNat ∧ c.toNat ≤ 102) by omega)]
  · rw [if_neg (by omega), vokref25_digit.j0, if_neg (by simp), if_neg (show ¬ (c.toNat : Int) ≥ 97 by omega), if_neg (show ¬ (48 ≤ c.toNat ∧ c.toNat ≤ 57) by omega), if_neg (show ¬ (97 ≤ c.toNat ∧ c.toNat ≤ 102) by omega)]
theorem vunhex_loop (s : ByteArray) (hl : s.size ≤ 1000000) (he : s.size % 2 = 0) : ∀ (d i k : Nat) (acc : List Int), s.size - i = 2 * d → i ≤ s.size → i % 2 = 0 → acc.length ≤ i → d + 2 ≤ k →
    ∃ v b, vokref25_unhex.l0 k s acc (i : Int) = some (v, b) ∧ b = allH ((L s).drop i) ∧ (b = true → v = acc ++ un ((L s).drop i)) := by
  intro d
  induction d with
  | zero =>
    intro i k acc hd hi h2 ha hk
    obtain ⟨k, rfl⟩ : ∃ j, k = j + 1 := ⟨k - 1, by omega⟩
    obtain rfl : i = s.size := by omega
    have hdrop : (L s).drop s.size = [] := by rw [size_L]; exact List.drop_length
    rw [vokref25_unhex.l0, if_neg (by omega), hdrop]
    exact ⟨_, _, rfl, rfl, fun _ => by simp [un]⟩
  | succ d ih =>
    intro i k acc hd hi h2 ha hk
    obtain ⟨k, rfl⟩ : ∃ j, k = j + 1 := ⟨k - 1, by omega⟩
    have hlt : i < s.size := by omega
    have hlt2 : i + 1 < s.size := by omega
    rw [vokref25_unhex.l0, if_pos (by omega), if_pos (by omega), bt_L s i hlt, vdigit_eq k _ (by omega), w1 i (by omega)]
    simp only [Option.bind_some]
    rw [if_pos (by omega), if_pos (by omega), bt_L s (i + 1) hlt2, vdigit_eq k _ (by omega), drop_L s i hlt, drop_L s (i + 1) hlt2]
    simp only [Option.bind_some]
    generalize (L s).getD i 0 = a
    generalize (L s).getD (i + 1) 0 = b
    have fa := hv_facts a
    have fb := hv_facts b
    by_cases ca : hv a < 0
    · rw [if_pos ca]
      refine ⟨_, _, rfl, ?_, fun h => by cases h⟩
      unfold allH isH
      rw [List.all_cons, decide_eq_false (by omega)]
      rfl
    rw [if_neg ca]
    by_cases cb : hv b < 0
    · rw [if_pos cb]
      refine ⟨_, _, rfl, ?_, fun h => by cases h⟩
      unfold allH isH
      rw [List.all_cons, List.all_cons, decide_eq_false (p := 0 ≤ hv b) (by omega), Bool.false_and, Bool.and_false]
    rw [if_neg cb, if_pos (by omega), w2 i (by omega)]
    have e : (wrap64 ((wrap64 (16 * hv a)) + hv b)) % 256 = 16 * ud a + ud b := by
      rw [(fa.2.2.1 (by omega)).2, (fb.2.2.1 (by omega)).2]
      unfold wrap64; omega
    rw [e]
    obtain ⟨v, bb, hv', hb, hvb⟩ := ih (i + 2) k (acc ++ [16 * ud a + ud b]) (by omega) (by omega) (by omega) (by rw [List.length_append]; simp only [List.length_singleton]; omega) (by omega)
    refine ⟨v, bb, hv', ?_, fun h => ?_⟩
    · rw [hb]
      unfold allH isH
      rw [List.all_cons, List.all_cons, decide_eq_true (p := 0 ≤ hv a) (by omega), decide_eq_true (p := 0 ≤ hv b) (by omega), Bool.true_and, Bool.true_and]
    · rw [hvb h, un, List.append_assoc]
      rfl
theorem vunhex_eq (k : Nat) (s : ByteArray) (hl : s.size ≤ 1000000) (hk : s.size + 4 ≤ k) : ∃ v b, vokref25_unhex.f k s = some (v, b) ∧ b = isB (L s) ∧ (b = true → v = un (L s)) := by
  obtain ⟨k, rfl⟩ : ∃ j, k = j + 1 := ⟨k - 1, by omega⟩
  unfold vokref25_unhex.f isB
  rw [toL]
  by_cases e : L s = [45]
  · rw [if_pos e, e]
    exact ⟨_, _, rfl, rfl, fun _ => rfl⟩
  have e' : (L s == [45]) = false := beq_eq_false_iff_ne.2 e
  rw [if_neg e, e', Bool.false_or]
  by_cases z : s.size = 0
  · have : L s = [] := List.length_eq_zero_iff.1 (by rw [← size_L]; exact z)
    rw [if_pos (by omega), vokref25_unhex.j0, if_pos rfl, this]
    exact ⟨_, _, rfl, rfl, fun h => by cases h⟩
  have hne : (L s).isEmpty = false := by
    cases hh : L s with
    | nil => rw [size_L, hh] at z; exact absurd rfl z
    | cons _ _ => rfl
  rw [if_neg (by omega), vokref25_unhex.j0, hne, ← size_L]
  by_cases o : s.size % 2 = 0
  · have e1 : ((s.size : Int) % 2 != 0) = false := by
      have : (s.size : Int) % 2 = 0 := by omega
      rw [this]; rfl
    rw [e1, if_neg (by simp)]
    obtain ⟨v, b, h1, h2, h3⟩ := vunhex_loop s hl o (s.size / 2) 0 k [] (by omega) (by omega) rfl (Nat.le_refl _) (by omega)
    refine ⟨v, b, h1, ?_, fun h => h3 h⟩
    rw [h2, o]
    rfl
  · have e1 : ((s.size : Int) % 2 != 0) = true := by
      have : (s.size : Int) % 2 = 1 := by omega
      rw [this]; rfl
    rw [e1, if_pos rfl]
    refine ⟨_, _, rfl, ?_, fun h => by cases h⟩
    have : (s.size % 2 == 0) = false := beq_eq_false_iff_ne.2 o
    rw [this]
    rfl
end Go.Proofs.YtleljfmhefobeaaDoor.PureS5
