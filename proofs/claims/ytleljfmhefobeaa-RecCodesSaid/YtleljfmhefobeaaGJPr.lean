/- What rec's May, encode and Encode compute, in plain lists and numbers. -/
import Derived.Test.YtleljfmhefobeaaGJPa
import Derived.Test.YtleljfmhefobeaaGJx4
set_option linter.unusedVariables false
namespace Go.Proofs.Ytleljfmhefobeaa.GJPr
open Go.RowKit Go.Proofs.YtleljfmhefobeaaW.PrintWords Go.Proofs.YtleljfmhefobeaaW.PrintLast Go.Proofs.YtleljfmhefobeaaW.PrintMore Go.Proofs.Ytleljfmhefobeaa.GJ Go.Proofs.Ytleljfmhefobeaa.GJPa

/-- a record, as the print has it: kind, tx, id, op, old -/
structure M where
  (a0 a1 a2 a3 a4 : Int) (y : Bool) (us ns tx : List Int)
def big (k : Int) : Prop := k = 2 ∨ k = 5
structure May (m : M) : Prop where
  kind : 1 ≤ m.a0 ∧ m.a0 ≤ 6
  num1 : m.a0 = 1 → 0 ≤ m.a1 ∧ m.a1 ≤ 1048576
  num : m.a0 ≠ 1 → 1 ≤ m.a1 ∧ m.a1 ≤ 1099511627776
  op1 : big m.a0 → (m.a3 = 1 ∧ m.a4 = 0) ∨ ((m.a3 = 2 ∨ m.a3 = 3) ∧ 1 ≤ m.a4 ∧ m.a4 ≤ 1099511627776)
  op0 : ¬ big m.a0 → m.a3 = 0 ∧ m.a4 = 0
  id : 0 ≤ m.a2 ∧ m.a2 ≤ 1099511627776
  id5 : m.a2 ≠ 0 → m.a0 = 5
  yes : m.y = true → m.a0 = 4
  lists : big m.a0 → rises m.us 64 ∧ rises m.ns 16 ∧ (m.tx.length : Int) ≤ 4096
  none : ¬ big m.a0 → m.us = [] ∧ m.ns = [] ∧ m.tx = []
open Classical in
noncomputable def mayB (m : M) : Bool := decide (May m)
theorem mayB_iff (m : M) : mayB m = true ↔ May m := by simp [mayB]
theorem mayB_no {m : M} (h : ¬ May m) : mayB m = false := by simp [mayB, h]
theorem mayB_of {m : M} {b : Bool} (h : b = true ↔ May m) : some b = some (mayB m) := by
  congr 1
  rw [Bool.eq_iff_iff, h, mayB_iff]
instance (k : Int) : Decidable (big k) := by unfold big; infer_instance

theorem tells_eq (k : Int) : rec_tells.f k = some (decide (big k)) := by
  unfold rec_tells.f big
  by_cases h : k = 2
  · rw [if_pos h]; simp [h]
  · rw [if_neg h]; congr 1; rw [Bool.eq_iff_iff]; simp [h]
def txP (m : M) : Prop := (m.a0 = 1 → 0 ≤ m.a1 ∧ m.a1 ≤ 1048576) ∧ (m.a0 ≠ 1 → 1 ≤ m.a1 ∧ m.a1 ≤ 1099511627776)
def opP (m : M) : Prop := (big m.a0 → (m.a3 = 1 ∧ m.a4 = 0) ∨ ((m.a3 = 2 ∨ m.a3 = 3) ∧ 1 ≤ m.a4 ∧ m.a4 ≤ 1099511627776)) ∧ (¬ big m.a0 → m.a3 = 0 ∧ m.a4 = 0)
theorem tx_eq (m : M) : ∃ b : Bool, rec_mayTx.f m.a0 m.a1 m.a2 m.a3 m.a4 m.y m.us m.ns m.tx = some b ∧ (b = true ↔ txP m) := by
  unfold rec_mayTx.f txP
  by_cases h : m.a0 = 1
  · rw [if_pos h]
    by_cases h1 : m.a1 ≥ 0
    · rw [if_pos h1]; exact ⟨_, rfl, by simp [h]; omega⟩
    · rw [if_neg h1]; exact ⟨_, rfl, by simp [h]; omega⟩
  · rw [if_neg h]
    by_cases h1 : m.a1 ≥ 1
    · rw [if_pos h1]; exact ⟨_, rfl, by simp [h]; omega⟩
    · rw [if_neg h1]; exact ⟨_, rfl, by simp [h]; omega⟩
theorem op_eq (m : M) : ∃ b : Bool, rec_mayOp.f m.a0 m.a1 m.a2 m.a3 m.a4 m.y m.us m.ns m.tx = some b ∧ (b = true ↔ opP m) := by
  unfold rec_mayOp.f opP
  rw [tells_eq, Option.bind_some]
  by_cases h : big m.a0
  · rw [if_pos (by simpa using h)]
    by_cases h1 : m.a3 = 1
    · rw [if_pos h1]; exact ⟨_, rfl, by simp [h, h1]⟩
    · rw [if_neg h1]
      by_cases h2 : m.a3 = 2
      · rw [if_pos h2]
        by_cases h4 : m.a4 ≥ 1
        · rw [if_pos h4]; exact ⟨_, rfl, by simp [h, h2]; omega⟩
        · rw [if_neg h4]; exact ⟨_, rfl, by simp [h, h2]; omega⟩
      · rw [if_neg h2]
        by_cases h3 : m.a3 = 3
        · rw [if_pos h3]
          by_cases h4 : m.a4 ≥ 1
          · rw [if_pos h4]; exact ⟨_, rfl, by simp [h, h3]; omega⟩
          · rw [if_neg h4]; exact ⟨_, rfl, by simp [h, h3]; omega⟩
        · rw [if_neg h3]; exact ⟨_, rfl, by simp [h, h1, h2, h3]⟩
  · rw [if_neg (by simpa using h)]
    by_cases h0 : m.a3 = 0
    · rw [if_pos h0]; exact ⟨_, rfl, by simp [h, h0]⟩
    · rw [if_neg h0]; exact ⟨_, rfl, by simp [h, h0]⟩
def listP (m : M) : Prop := (big m.a0 → rises m.us 64 ∧ rises m.ns 16 ∧ (m.tx.length : Int) ≤ 4096) ∧ (¬ big m.a0 → m.us = [] ∧ m.ns = [] ∧ m.tx = [])
theorem may_of (m : M) (h1 : 1 ≤ m.a0 ∧ m.a0 ≤ 6) (h2 : txP m) (h3 : opP m) (h4 : 0 ≤ m.a2 ∧ m.a2 ≤ 1099511627776) (h5 : m.a2 ≠ 0 → m.a0 = 5) (h6 : m.y = true → m.a0 = 4) (h7 : listP m) : May m :=
  ⟨h1, h2.1, h2.2, h3.1, h3.2, h4, h5, h6, h7.1, h7.2⟩
theorem j1_true (k : Nat) (m : M) : rec_May.j1 (k + 1) true m.a0 m.a1 m.a2 m.a3 m.a4 m.y m.us m.ns m.tx = some false := by
  rw [rec_May.j1, if_pos rfl]
theorem j1_false (k : Nat) (m : M) (hu : m.us.length < k) (hn : m.ns.length < k) (hk : k ≤ 1099511627776) (ht : m.tx.length ≤ 1099511627776) :
    ∃ b : Bool, rec_May.j1 (k + 1) false m.a0 m.a1 m.a2 m.a3 m.a4 m.y m.us m.ns m.tx = some b ∧ (b = true ↔ listP m) := by
  rw [rec_May.j1, if_neg (by decide), tells_eq, Option.bind_some]
  unfold listP
  by_cases h : big m.a0
  · rw [if_pos (by simpa using h), rises_eq _ _ _ (by omega) hu, Option.bind_some]
    by_cases h1 : rises m.us 64
    · rw [if_pos ((risesB_iff _ _).2 h1), rises_eq _ _ _ (by omega) hn, Option.bind_some]
      by_cases h2 : rises m.ns 16
      · rw [if_pos ((risesB_iff _ _).2 h2)]; exact ⟨_, rfl, by simp [h, h1, h2]⟩
      · rw [if_neg (by rw [risesB_iff]; exact h2)]; exact ⟨_, rfl, by simp [h, h2]⟩
    · rw [if_neg (by rw [risesB_iff]; exact h1)]; exact ⟨_, rfl, by simp [h, h1]⟩
  · rw [if_neg (by simpa using h), w64 (x := (m.us.length : Int) + m.ns.length) (by omega) (by omega), w64 (by omega) (by omega)]
    refine ⟨_, rfl, ?_⟩
    rw [beq_iff_eq]
    simp only [h, false_imp_iff, true_and, not_false_eq_true, true_imp_iff, ← List.length_eq_zero_iff]
    omega
theorem j0_true (k : Nat) (m : M) : rec_May.j0 (k + 1) true m.a0 m.a1 m.a2 m.a3 m.a4 m.y m.us m.ns m.tx = some false := by
  rw [rec_May.j0, if_pos rfl]
theorem may_eq (k : Nat) (m : M) (hu : m.us.length < k) (hn : m.ns.length < k) (hk : k ≤ 1099511627776) (ht : m.tx.length ≤ 1099511627776) :
    rec_May.f (k + 2) m.a0 m.a1 m.a2 m.a3 m.a4 m.y m.us m.ns m.tx = some (mayB m) := by
  have no : ¬ May m → some false = some (mayB m) := fun h => by rw [mayB_no h]
  unfold rec_May.f
  by_cases h0 : m.a0 < 1
  · rw [if_pos h0, j0_true]
    exact no fun h => by have := h.kind; omega
  rw [if_neg h0]
  by_cases h8 : m.a0 > 6
  · rw [if_pos h8, j0_true]
    exact no fun h => by have := h.kind; omega
  rw [if_neg h8]
  obtain ⟨b1, e1, i1⟩ := tx_eq m
  rw [e1, Option.bind_some]
  by_cases g1 : txP m
  · rw [if_pos (i1.2 g1)]
    obtain ⟨b2, e2, i2⟩ := op_eq m
    rw [e2, Option.bind_some]
    by_cases g2 : opP m
    · rw [i2.2 g2]
      show rec_May.j0 (k + 2) false m.a0 m.a1 m.a2 m.a3 m.a4 m.y m.us m.ns m.tx = _
      obtain ⟨b3, e3, i3⟩ := j1_false k m hu hn hk ht
      rw [rec_May.j0, if_neg (by decide)]
      by_cases g3 : m.a2 < 0
      · rw [if_pos g3, j1_true]; exact no fun h => by have := h.id; omega
      rw [if_neg g3]
      by_cases g4 : m.a2 > 1099511627776
      · rw [if_pos g4, j1_true]; exact no fun h => by have := h.id; omega
      rw [if_neg g4]
      have fin : (m.a2 ≠ 0 → m.a0 = 5) → (if m.y = true then rec_May.j1 (k + 1) (m.a0 != 4) m.a0 m.a1 m.a2 m.a3 m.a4 m.y m.us m.ns m.tx else rec_May.j1 (k + 1) false m.a0 m.a1 m.a2 m.a3 m.a4 m.y m.us m.ns m.tx) = some (mayB m) := by
        intro g5
        by_cases g6 : m.y = true
        · rw [if_pos g6]
          by_cases g7 : m.a0 = 4
          · rw [show (m.a0 != 4) = false by simp [g7], e3]
            exact mayB_of (i3.trans ⟨fun h => may_of m (by omega) g1 g2 (by omega) g5 (fun _ => g7) h, fun h => ⟨h.lists, h.none⟩⟩)
          · rw [show (m.a0 != 4) = true by simp [g7], j1_true]
            exact no fun h => g7 (h.yes g6)
        · rw [if_neg g6, e3]
          exact mayB_of (i3.trans ⟨fun h => may_of m (by omega) g1 g2 (by omega) g5 (fun h => absurd h g6) h, fun h => ⟨h.lists, h.none⟩⟩)
      by_cases g5 : m.a2 = 0
      · rw [if_pos g5]; exact fin fun h => absurd g5 h
      · rw [if_neg g5]
        by_cases g6 : m.a0 = 5
        · rw [if_pos g6]; exact fin fun _ => g6
        · rw [if_neg g6, j1_true]; exact no fun h => g6 (h.id5 g5)
    · rw [show b2 = false by rw [← Bool.not_eq_true]; exact fun h => g2 (i2.1 h)]
      show rec_May.j0 (k + 2) true m.a0 m.a1 m.a2 m.a3 m.a4 m.y m.us m.ns m.tx = _
      rw [j0_true]
      exact no fun h => g2 ⟨h.op1, h.op0⟩
  · rw [if_neg (fun h => g1 (i1.1 h)), j0_true]
    exact no fun h => g1 ⟨h.num1, h.num⟩

def tail (us ns tx : List Int) : List Int := ((us.length : Int) % 256) :: lows us ++ (((ns.length : Int) % 256) :: lows ns ++ (beR 2 (tx.length : Int) ++ tx))
def body (m : M) : List Int := [m.a0 % 256] ++ (beR 6 m.a1 ++ (beR 6 m.a2 ++ (beR 6 m.a4 ++ ([m.a3 % 256, flag m.y] ++ tail m.us m.ns m.tx))))
theorem encode_l0 (m : M) (ys : List Int) (hy : ys.length ≤ 1000) (hu : m.us.length ≤ 1099511627776) (hn : m.ns.length ≤ 1099511627776) (ht : m.tx.length ≤ 1099511627776) : ∀ d i k (b : List Int), ys.length - i = d → i ≤ ys.length → d + 10 + m.us.length + m.ns.length < k → b.length + 6 * d ≤ 100000 →
    rec_encode.l0 k b ys (ys.length : Int) (i : Int) m.a0 m.a1 m.a2 m.a3 m.a4 m.y m.us m.ns m.tx = some (b ++ ((ys.drop i).flatMap (beR 6) ++ ([m.a3 % 256, flag m.y] ++ tail m.us m.ns m.tx))) := by
  intro d
  induction d with
  | zero =>
    intro i k b hd hi hk hb
    obtain ⟨k, rfl⟩ : ∃ m, k = m + 1 := ⟨k - 1, by omega⟩
    rw [rec_encode.l0, if_neg (by omega), flag_eq, Option.bind_some, Option.bind_some, if_pos (by simp; omega), putlist_eq _ _ _ (by omega) (by simp; omega)]
    rw [Option.bind_some, putlist_eq _ _ _ (by omega) (by simp [lows_length]; omega)]
    rw [Option.bind_some, show (2 : Int) = ((2 : Nat) : Int) from rfl, put_eq _ _ 2 _ (by omega) (by omega) (by simp [lows_length]; omega)]
    rw [Option.bind_some, if_pos (by simp [beR_length, lows_length]; omega), List.drop_eq_nil_of_le (by omega)]
    simp [tail]
  | succ d ih =>
    intro i k b hd hi hk hb
    obtain ⟨k, rfl⟩ : ∃ m, k = m + 1 := ⟨k - 1, by omega⟩
    have hlt : i < ys.length := by omega
    rw [rec_encode.l0, if_pos (by omega), if_pos (by omega), if_pos (by omega), show (6 : Int) = ((6 : Nat) : Int) from rfl, put_eq _ _ 6 _ (by omega) (by omega) (by omega)]
    rw [Option.bind_some, w64 (by omega) (by omega), show (i : Int) + 1 = ((i + 1 : Nat) : Int) by omega, ih (i + 1) k _ (by omega) (by omega) (by omega) (by simp [beR_length]; omega), drop_rd hlt]
    simp
theorem encode_eq (k : Nat) (m : M) (hu : m.us.length ≤ 1000) (hn : m.ns.length ≤ 1000) (ht : m.tx.length ≤ 1099511627776) (hk : 17 + m.us.length + m.ns.length ≤ k) :
    rec_encode.f k m.a0 m.a1 m.a2 m.a3 m.a4 m.y m.us m.ns m.tx = some (body m) := by
  unfold rec_encode.f
  rw [Option.bind_some]
  have := encode_l0 m [m.a1, m.a2, m.a4] (by simp) (by omega) (by omega) ht 3 0 k [m.a0 % 256] (by simp) (by omega) (by omega) (by simp)
  rw [show ((0 : Nat) : Int) = 0 from rfl] at this
  rw [this]
  simp [body]
theorem body_length (m : M) : (body m).length = 25 + m.us.length + m.ns.length + m.tx.length := by
  simp [body, tail, beR_length, lows_length]
  omega
theorem May.short {m : M} (h : May m) : m.us.length ≤ 64 ∧ m.ns.length ≤ 16 ∧ m.tx.length ≤ 4096 := by
  by_cases g : big m.a0
  · have := h.lists g
    have h1 := this.1.2; have h2 := this.2.1.2; have h3 := this.2.2
    omega
  · obtain ⟨h1, h2, h3⟩ := h.none g
    simp [h1, h2, h3]
theorem Encode_yes (k : Nat) (m : M) (h : May m) (hk : 100 ≤ k) (hk2 : k ≤ 1099511627776) :
    rec_Encode.f k m.a0 m.a1 m.a2 m.a3 m.a4 m.y m.us m.ns m.tx = some (body m, 0) := by
  obtain ⟨h1, h2, h3⟩ := h.short
  unfold rec_Encode.f
  have := may_eq (k - 2) m (by omega) (by omega) (by omega) (by omega)
  rw [show k - 2 + 2 = k by omega] at this
  rw [this, (mayB_iff m).2 h]
  simp only [Option.bind_some, if_true]
  rw [encode_eq k m (by omega) (by omega) (by omega) (by omega)]
  rfl
theorem Encode_no (k : Nat) (m : M) (h : ¬ May m) (hu : m.us.length + 2 < k) (hn : m.ns.length + 2 < k) (hk2 : k ≤ 1099511627776) (ht : m.tx.length ≤ 1099511627776) :
    rec_Encode.f k m.a0 m.a1 m.a2 m.a3 m.a4 m.y m.us m.ns m.tx = some ([], 1) := by
  unfold rec_Encode.f
  have := may_eq (k - 2) m (by omega) (by omega) (by omega) ht
  rw [show k - 2 + 2 = k by omega] at this
  rw [this, mayB_no h]
  rfl
theorem may_eq' (k : Nat) (m : M) (hu : m.us.length + 2 < k) (hn : m.ns.length + 2 < k) (hk : k ≤ 1099511627776) (ht : m.tx.length ≤ 1099511627776) :
    rec_May.f k m.a0 m.a1 m.a2 m.a3 m.a4 m.y m.us m.ns m.tx = some (mayB m) := by
  have := may_eq (k - 2) m (by omega) (by omega) (by omega) ht
  rwa [show k - 2 + 2 = k by omega] at this
theorem first_eq (k : Nat) (hk : 100 ≤ k) (hk2 : k ≤ 1099511627776) : voklaw16_first.f k = some true := by
  have hm : May ⟨1, 1, 0, 0, 0, false, [], [], []⟩ :=
    may_of _ (by decide) ⟨by decide, by decide⟩ ⟨by decide, by decide⟩ (by decide) (by decide) (by decide) ⟨fun h => absurd h (by decide), fun _ => ⟨rfl, rfl, rfl⟩⟩
  have := Encode_yes k _ hm hk hk2
  unfold voklaw16_first.f
  rw [this]
  decide
theorem few_eq (m : M) : voklaw16_Few.f m.a0 m.a1 m.a2 m.a3 m.a4 m.y m.us m.ns m.tx = some (decide (m.us.length ≤ 300 ∧ m.ns.length ≤ 300 ∧ m.tx.length ≤ 20000)) := by
  unfold voklaw16_Few.f
  by_cases h1 : m.us.length ≤ 300
  · rw [if_pos (by omega)]
    by_cases h2 : m.ns.length ≤ 300
    · rw [if_pos (by omega)]
      congr 1
      simp [h1, h2]
      omega
    · rw [if_neg (by omega)]; simp [h2]
  · rw [if_neg (by omega)]; simp [h1]
end Go.Proofs.Ytleljfmhefobeaa.GJPr
