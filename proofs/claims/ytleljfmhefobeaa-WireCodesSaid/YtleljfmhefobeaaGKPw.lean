/- What wire's May, encode and Encode compute, in plain lists and numbers. -/
import Derived.Test.YtleljfmhefobeaaGKPa
import Derived.Test.YtleljfmhefobeaaGKx5
import Derived.Test.YtleljfmhefobeaaGKx6
set_option linter.unusedVariables false
namespace Go.Proofs.Ytleljfmhefobeaa.GKPw
open Go.RowKit Go.Proofs.YtleljfmhefobeaaW.PrintWords Go.Proofs.YtleljfmhefobeaaW.PrintLast Go.Proofs.YtleljfmhefobeaaW.PrintMore Go.Proofs.Ytleljfmhefobeaa.GK Go.Proofs.Ytleljfmhefobeaa.GKPa

/-- a message, as the print has it -/
structure M where
  (a0 a1 a2 a3 a4 a5 a6 a7 a8 : Int) (y : Bool) (lo hi : Int) (us ns tx : List Int)

def within (n h : Int) : Prop := 0 ≤ n ∧ n ≤ h
instance (n h : Int) : Decidable (within n h) := by unfold within; infer_instance
theorem within_eq (n h : Int) : wire_within.f n h = some (decide (within n h)) := by
  unfold wire_within.f within
  by_cases h0 : n ≥ 0
  · rw [if_pos h0]; simp [h0]
  · rw [if_neg h0]; simp [show ¬ 0 ≤ n from h0]
structure May (m : M) : Prop where
  kind : 1 ≤ m.a0 ∧ m.a0 ≤ 8
  frm : within m.a1 15
  dst : within m.a2 15
  tx : within m.a3 1099511627776
  id : within m.a4 1099511627776
  op : within m.a5 3
  old : within m.a6 1099511627776
  code : within m.a7 255
  owner : within m.a8 1099511627776
  lo : within m.lo 140737488355328
  hi : within m.hi 140737488355328
  us : rises m.us 64
  ns : rises m.ns 16
  text : (m.tx.length : Int) ≤ 4096
open Classical in
noncomputable def mayB (m : M) : Bool := decide (May m)
theorem mayB_iff (m : M) : mayB m = true ↔ May m := by simp [mayB]
theorem mayB_no {m : M} (h : ¬ May m) : mayB m = false := by simp [mayB, h]

theorem j1_true (k : Nat) (m : M) : wire_May.j1 (k + 1) true m.a0 m.a1 m.a2 m.a3 m.a4 m.a5 m.a6 m.a7 m.a8 m.y m.lo m.hi m.us m.ns m.tx = some false := by
  simp only [wire_May.j1]; rw [if_pos trivial]
theorem j1_false (k : Nat) (m : M) (hu : m.us.length < k) (hn : m.ns.length < k) (hk : k ≤ 1099511627776) :
    wire_May.j1 (k + 1) false m.a0 m.a1 m.a2 m.a3 m.a4 m.a5 m.a6 m.a7 m.a8 m.y m.lo m.hi m.us m.ns m.tx = some (risesB m.us 64 && risesB m.ns 16 && decide ((m.tx.length : Int) ≤ 4096)) := by
  simp only [wire_May.j1]
  rw [if_neg (by decide), rises_eq _ _ _ (by omega) hu]
  simp only [Option.bind_some]
  cases risesB m.us 64
  · simp
  · rw [if_pos rfl, rises_eq _ _ _ (by omega) hn]
    simp only [Option.bind_some]
    cases risesB m.ns 16 <;> simp
theorem j0_true (k : Nat) (m : M) : wire_May.j0 (k + 1) true m.a0 m.a1 m.a2 m.a3 m.a4 m.a5 m.a6 m.a7 m.a8 m.y m.lo m.hi m.us m.ns m.tx = some false := by
  simp only [wire_May.j0]; rw [if_pos trivial]
theorem j0_false (k : Nat) (m : M) (hu : m.us.length < k) (hn : m.ns.length < k) (hk : k ≤ 1099511627776) :
    wire_May.j0 (k + 2) false m.a0 m.a1 m.a2 m.a3 m.a4 m.a5 m.a6 m.a7 m.a8 m.y m.lo m.hi m.us m.ns m.tx =
      some (decide (within m.a3 1099511627776 ∧ within m.a4 1099511627776 ∧ within m.a6 1099511627776 ∧ within m.a8 1099511627776 ∧ within m.lo 140737488355328 ∧ within m.hi 140737488355328) && (risesB m.us 64 && risesB m.ns 16 && decide ((m.tx.length : Int) ≤ 4096))) := by
  simp only [wire_May.j0, within_eq, Option.bind_some, j1_true]
  rw [if_neg (by decide)]
  by_cases h3 : within m.a3 1099511627776 <;> by_cases h4 : within m.a4 1099511627776 <;> by_cases h6 : within m.a6 1099511627776 <;> by_cases h8 : within m.a8 1099511627776 <;>
    by_cases hlo : within m.lo 140737488355328 <;> by_cases hhi : within m.hi 140737488355328 <;> simp only [h3, h4, h6, h8, hlo, hhi, decide_true, decide_false, if_true, Bool.false_eq_true, if_false, Bool.not_true, Bool.not_false, j1_true, j1_false k m hu hn hk, and_true, and_false, Bool.true_and, Bool.false_and, decide_false]
theorem may_eq (k : Nat) (m : M) (hu : m.us.length < k) (hn : m.ns.length < k) (hk : k ≤ 1099511627776) :
    wire_May.f (k + 2) m.a0 m.a1 m.a2 m.a3 m.a4 m.a5 m.a6 m.a7 m.a8 m.y m.lo m.hi m.us m.ns m.tx = some (mayB m) := by
  have key : ∀ b : Bool, (b = true ↔ May m) → some b = some (mayB m) := by
    intro b hb
    congr 1
    rw [Bool.eq_iff_iff, hb, mayB_iff]
  unfold wire_May.f
  by_cases h0 : m.a0 < 1
  · rw [if_pos h0, j0_true]
    exact key _ ⟨(fun h => by cases h), fun h => by have := h.kind; omega⟩
  rw [if_neg h0]
  by_cases h8 : m.a0 > 8
  · rw [if_pos h8, j0_true]
    exact key _ ⟨(fun h => by cases h), fun h => by have := h.kind; omega⟩
  rw [if_neg h8]
  simp only [within_eq, Option.bind_some, j0_true]
  by_cases h1 : within m.a1 15
  · rw [if_pos (by simpa using h1)]
    by_cases h2 : within m.a2 15
    · rw [if_pos (by simpa using h2)]
      by_cases h5 : within m.a5 3
      · rw [if_pos (by simpa using h5)]
        by_cases h7 : within m.a7 255
        · simp only [h7, decide_true, Bool.not_true, j0_false k m hu hn hk]
          refine key _ ?_
          simp only [Bool.and_eq_true, decide_eq_true_eq, risesB_iff]
          constructor
          · rintro ⟨⟨b1, b2, b3, b4, b5, b6⟩, ⟨b7, b8⟩, b9⟩
            exact ⟨⟨by omega, by omega⟩, h1, h2, b1, b2, h5, b3, h7, b4, b5, b6, b7, b8, b9⟩
          · intro h
            exact ⟨⟨h.tx, h.id, h.old, h.owner, h.lo, h.hi⟩, ⟨h.us, h.ns⟩, h.text⟩
        · simp only [h7, decide_false, Bool.not_false, j0_true]
          exact key _ ⟨(fun h => by cases h), fun h => absurd h.code h7⟩
      · rw [if_neg (by simpa using h5)]
        exact key _ ⟨(fun h => by cases h), fun h => absurd h.op h5⟩
    · rw [if_neg (by simpa using h2)]
      exact key _ ⟨(fun h => by cases h), fun h => absurd h.dst h2⟩
  · rw [if_neg (by simpa using h1)]
    exact key _ ⟨(fun h => by cases h), fun h => absurd h.frm h1⟩

/-- the bytes behind the numbers -/
def tail (us ns tx : List Int) : List Int := ((us.length : Int) % 256) :: lows us ++ (((ns.length : Int) % 256) :: lows ns ++ (beR 2 (tx.length : Int) ++ tx))
def body (m : M) : List Int := [m.a0 % 256, m.a1 % 256, m.a2 % 256, m.a5 % 256, m.a7 % 256, flag m.y] ++ (beR 6 m.a3 ++ (beR 6 m.a4 ++ (beR 6 m.a6 ++ (beR 6 m.a8 ++ (beR 6 m.lo ++ (beR 6 m.hi ++ tail m.us m.ns m.tx))))))
theorem encode_l0 (m : M) (ys : List Int) (hy : ys.length ≤ 1000) (hu : m.us.length ≤ 1099511627776) (hn : m.ns.length ≤ 1099511627776) (ht : m.tx.length ≤ 1099511627776) : ∀ d i k (b : List Int), ys.length - i = d → i ≤ ys.length → d + 10 + m.us.length + m.ns.length < k → b.length + 6 * d ≤ 100000 →
    wire_encode.l0 k b ys (ys.length : Int) (i : Int) m.a0 m.a1 m.a2 m.a3 m.a4 m.a5 m.a6 m.a7 m.a8 m.y m.lo m.hi m.us m.ns m.tx = some (b ++ ((ys.drop i).flatMap (beR 6) ++ tail m.us m.ns m.tx)) := by
  intro d
  induction d with
  | zero =>
    intro i k b hd hi hk hb
    obtain ⟨k, rfl⟩ : ∃ m, k = m + 1 := ⟨k - 1, by omega⟩
    rw [wire_encode.l0, if_neg (by omega), putlist_eq _ _ _ (by omega) (by omega)]
    rw [Option.bind_some, putlist_eq _ _ _ (by omega) (by simp [lows_length]; omega)]
    rw [Option.bind_some, show (2 : Int) = ((2 : Nat) : Int) from rfl, put_eq _ _ 2 _ (by omega) (by omega) (by simp [lows_length]; omega)]
    rw [Option.bind_some, if_pos (by simp [beR_length, lows_length]; omega), List.drop_eq_nil_of_le (by omega)]
    simp [tail]
  | succ d ih =>
    intro i k b hd hi hk hb
    obtain ⟨k, rfl⟩ : ∃ m, k = m + 1 := ⟨k - 1, by omega⟩
    have hlt : i < ys.length := by omega
    rw [wire_encode.l0, if_pos (by omega), if_pos (by omega), if_pos (by omega), show (6 : Int) = ((6 : Nat) : Int) from rfl, put_eq _ _ 6 _ (by omega) (by omega) (by omega)]
    rw [Option.bind_some, w64 (by omega) (by omega), show (i : Int) + 1 = ((i + 1 : Nat) : Int) by omega, ih (i + 1) k _ (by omega) (by omega) (by omega) (by simp [beR_length]; omega), drop_rd hlt]
    simp
theorem encode_eq (k : Nat) (m : M) (hu : m.us.length ≤ 1000) (hn : m.ns.length ≤ 1000) (ht : m.tx.length ≤ 1099511627776) (hk : 17 + m.us.length + m.ns.length ≤ k) :
    wire_encode.f k m.a0 m.a1 m.a2 m.a3 m.a4 m.a5 m.a6 m.a7 m.a8 m.y m.lo m.hi m.us m.ns m.tx = some (body m) := by
  unfold wire_encode.f
  rw [flag_eq, Option.bind_some, Option.bind_some]
  have := encode_l0 m [m.a3, m.a4, m.a6, m.a8, m.lo, m.hi] (by simp) (by omega) (by omega) ht 6 0 k [m.a0 % 256, m.a1 % 256, m.a2 % 256, m.a5 % 256, m.a7 % 256, flag m.y] (by simp) (by omega) (by omega) (by simp)
  rw [show ((0 : Nat) : Int) = 0 from rfl] at this
  rw [this]
  simp [body]
theorem body_length (m : M) : (body m).length = 46 + m.us.length + m.ns.length + m.tx.length := by
  simp [body, tail, beR_length, lows_length]
  omega
theorem Encode_yes (k : Nat) (m : M) (h : May m) (hk : 100 ≤ k) (hk2 : k ≤ 1099511627776) :
    wire_Encode.f k m.a0 m.a1 m.a2 m.a3 m.a4 m.a5 m.a6 m.a7 m.a8 m.y m.lo m.hi m.us m.ns m.tx = some (body m, 0) := by
  have h1 := h.us.2; have h2 := h.ns.2; have h3 := h.text
  unfold wire_Encode.f
  have := may_eq (k - 2) m (by omega) (by omega) (by omega)
  rw [show k - 2 + 2 = k by omega] at this
  rw [this, (mayB_iff m).2 h]
  simp only [Option.bind_some, if_true]
  rw [encode_eq k m (by omega) (by omega) (by omega) (by omega)]
  rfl
theorem Encode_no (k : Nat) (m : M) (h : ¬ May m) (hu : m.us.length + 2 < k) (hn : m.ns.length + 2 < k) (hk2 : k ≤ 1099511627776) :
    wire_Encode.f k m.a0 m.a1 m.a2 m.a3 m.a4 m.a5 m.a6 m.a7 m.a8 m.y m.lo m.hi m.us m.ns m.tx = some ([], 1) := by
  unfold wire_Encode.f
  have := may_eq (k - 2) m (by omega) (by omega) (by omega)
  rw [show k - 2 + 2 = k by omega] at this
  rw [this, mayB_no h]
  rfl
theorem first_eq (k : Nat) (hk : 100 ≤ k) (hk2 : k ≤ 1099511627776) : voklaw19_first.f k = some true := by
  have hm : May ⟨5, 1, 0, 17, 0, 0, 0, 0, 0, false, 0, 0, [], [], []⟩ :=
    ⟨by decide, by decide, by decide, by decide, by decide, by decide, by decide, by decide, by decide, by decide, by decide, ⟨fun j _ h => by simp at h, by decide⟩, ⟨fun j _ h => by simp at h, by decide⟩, by decide⟩
  have := Encode_yes k _ hm hk hk2
  unfold voklaw19_first.f
  rw [this]
  decide
end Go.Proofs.Ytleljfmhefobeaa.GKPw
