/- The reference's Rec: May, body, Encode, Same answer as the program's do. -/
import Derived.Test.YtleljfmhefobeaaGJRa
import Derived.Test.YtleljfmhefobeaaGJPr
import Derived.Test.YtleljfmhefobeaaGJx8
import Derived.Test.YtleljfmhefobeaaGJx9
set_option linter.unusedVariables false
namespace Go.Proofs.Ytleljfmhefobeaa.GJRr
open Go.RowKit Go.Proofs.YtleljfmhefobeaaW.PrintWords Go.Proofs.YtleljfmhefobeaaW.PrintLast Go.Proofs.YtleljfmhefobeaaW.PrintMore Go.Proofs.Ytleljfmhefobeaa.GJ Go.Proofs.Ytleljfmhefobeaa.GJPa Go.Proofs.Ytleljfmhefobeaa.GJPe Go.Proofs.Ytleljfmhefobeaa.GJPr Go.Proofs.Ytleljfmhefobeaa.GJRa

theorem bad {P : Prop} (h : ¬ P) : ∃ b : Bool, some false = some b ∧ (b = true ↔ P) := ⟨false, rfl, (fun g => by cases g), fun g => absurd g h⟩
theorem of_iff {P Q : Prop} {x : Option Bool} (h : ∃ b : Bool, x = some b ∧ (b = true ↔ P)) (i : P ↔ Q) : ∃ b : Bool, x = some b ∧ (b = true ↔ Q) := by
  obtain ⟨b, e, j⟩ := h
  exact ⟨b, e, j.trans i⟩
theorem r7_true (k : Nat) (m : M) : vokref10_Rec_May.j7 (k + 1) true m.a0 m.a1 m.a2 m.a3 m.a4 m.y m.us m.ns m.tx = some false := by rw [vokref10_Rec_May.j7, if_pos rfl]
theorem r7_false (k : Nat) (m : M) (hu : 2 * m.us.length + 1 < k) (hn : 2 * m.ns.length + 1 < k) (hk : k ≤ 1099511627776) :
    ∃ b : Bool, vokref10_Rec_May.j7 (k + 1) false m.a0 m.a1 m.a2 m.a3 m.a4 m.y m.us m.ns m.tx = some b ∧ (b = true ↔ rises m.us 64 ∧ rises m.ns 16 ∧ (m.tx.length : Int) ≤ 4096) := by
  rw [vokref10_Rec_May.j7, if_neg (by decide), vlist_eq m.us 63 64 (by omega) k (by omega) hu, Option.bind_some]
  by_cases h1 : rises m.us 64
  · rw [if_pos ((risesB_iff _ _).2 h1), vlist_eq m.ns 15 16 (by omega) k (by omega) hn, Option.bind_some]
    by_cases h2 : rises m.ns 16
    · rw [if_pos ((risesB_iff _ _).2 h2)]; exact ⟨_, rfl, by simp [h1, h2]⟩
    · rw [if_neg (by rw [risesB_iff]; exact h2)]; exact bad fun h => h2 h.2.1
  · rw [if_neg (by rw [risesB_iff]; exact h1)]; exact bad fun h => h1 h.1
theorem rises_nil (b : Int) (h : 0 ≤ b) : rises [] b := ⟨fun j h1 h2 => by simp at h2, by simpa using h⟩
theorem r6_true (k : Nat) (x : Bool) (m : M) : vokref10_Rec_May.j6 (k + 1) x true m.a0 m.a1 m.a2 m.a3 m.a4 m.y m.us m.ns m.tx = some false := by rw [vokref10_Rec_May.j6, if_pos rfl]
theorem r6_false (k : Nat) (m : M) (hu : 2 * m.us.length + 1 < k) (hn : 2 * m.ns.length + 1 < k) (hk : k ≤ 1099511627776) (ht : m.tx.length ≤ 1099511627776) :
    ∃ b : Bool, vokref10_Rec_May.j6 (k + 2) (decide (big m.a0)) false m.a0 m.a1 m.a2 m.a3 m.a4 m.y m.us m.ns m.tx = some b ∧ (b = true ↔ listP m) := by
  rw [vokref10_Rec_May.j6, if_neg (by decide)]
  unfold listP
  by_cases h : big m.a0
  · rw [if_pos (by simpa using h)]
    exact of_iff (r7_false k m hu hn hk) (by simp [h])
  · rw [if_neg (by simpa using h), w64 (x := (m.us.length : Int) + m.ns.length) (by omega) (by omega), w64 (by omega) (by omega)]
    by_cases h0 : (m.us.length : Int) + m.ns.length + m.tx.length > 0
    · rw [decide_eq_true h0, r7_true]
      exact bad fun g => by
        obtain ⟨g1, g2, g3⟩ := g.2 h
        rw [g1, g2, g3] at h0
        simp at h0
    · rw [decide_eq_false h0]
      have e1 : m.us = [] := List.length_eq_zero_iff.1 (by omega)
      have e2 : m.ns = [] := List.length_eq_zero_iff.1 (by omega)
      have e3 : m.tx = [] := List.length_eq_zero_iff.1 (by omega)
      refine of_iff (r7_false k m hu hn hk) ?_
      rw [e1, e2, e3]
      exact ⟨fun _ => ⟨fun g => absurd g h, fun _ => ⟨rfl, rfl, rfl⟩⟩, fun _ => ⟨rises_nil _ (by decide), rises_nil _ (by decide), by simp⟩⟩
theorem r5_true (k : Nat) (x : Bool) (m : M) : vokref10_Rec_May.j5 (k + 1) x true m.a0 m.a1 m.a2 m.a3 m.a4 m.y m.us m.ns m.tx = some false := by rw [vokref10_Rec_May.j5, if_pos rfl]
theorem r5_false (k : Nat) (m : M) (hu : 2 * m.us.length + 1 < k) (hn : 2 * m.ns.length + 1 < k) (hk : k ≤ 1099511627776) (ht : m.tx.length ≤ 1099511627776) :
    ∃ b : Bool, vokref10_Rec_May.j5 (k + 3) (decide (big m.a0)) false m.a0 m.a1 m.a2 m.a3 m.a4 m.y m.us m.ns m.tx = some b ∧ (b = true ↔ (m.y = true → m.a0 = 4) ∧ listP m) := by
  rw [vokref10_Rec_May.j5, if_neg (by decide)]
  by_cases hy : m.y = true
  · rw [if_pos hy]
    by_cases h4 : m.a0 = 4
    · rw [show (m.a0 != 4) = false by simp [h4]]
      exact of_iff (r6_false k m hu hn hk ht) (by simp [h4])
    · rw [show (m.a0 != 4) = true by simp [h4], r6_true]
      exact bad fun h => h4 (h.1 hy)
  · rw [if_neg hy]
    exact of_iff (r6_false k m hu hn hk ht) (by simp [hy])
def oldP (m : M) : Prop := 0 ≤ m.a4 ∧ m.a4 ≤ 1099511627776 ∧ (m.a4 ≠ 0 ↔ (big m.a0 ∧ m.a3 ≠ 1))
theorem r4_true (k : Nat) (x : Bool) (m : M) : vokref10_Rec_May.j4 (k + 1) x true m.a0 m.a1 m.a2 m.a3 m.a4 m.y m.us m.ns m.tx = some false := by rw [vokref10_Rec_May.j4, if_pos rfl]
theorem r4_false (k : Nat) (m : M) (hu : 2 * m.us.length + 1 < k) (hn : 2 * m.ns.length + 1 < k) (hk : k ≤ 1099511627776) (ht : m.tx.length ≤ 1099511627776) :
    ∃ b : Bool, vokref10_Rec_May.j4 (k + 4) (decide (big m.a0)) false m.a0 m.a1 m.a2 m.a3 m.a4 m.y m.us m.ns m.tx = some b ∧ (b = true ↔ oldP m ∧ (m.y = true → m.a0 = 4) ∧ listP m) := by
  rw [vokref10_Rec_May.j4, if_neg (by decide)]
  by_cases h1 : m.a4 < 0
  · rw [if_pos h1, r5_true]; exact bad fun h => by have := h.1.1; omega
  rw [if_neg h1]
  by_cases h2 : m.a4 > 1099511627776
  · rw [if_pos h2, r5_true]; exact bad fun h => by have := h.1.2.1; omega
  rw [if_neg h2]
  have fin : ∀ b : Bool, (b = false ↔ (m.a4 ≠ 0 ↔ (big m.a0 ∧ m.a3 ≠ 1))) → ∃ c : Bool, vokref10_Rec_May.j5 (k + 3) (decide (big m.a0)) b m.a0 m.a1 m.a2 m.a3 m.a4 m.y m.us m.ns m.tx = some c ∧ (c = true ↔ oldP m ∧ (m.y = true → m.a0 = 4) ∧ listP m) := by
    intro b hb
    cases b with
    | true => rw [r5_true]; exact bad fun h => by have := hb.2 h.1.2.2; cases this
    | false => exact of_iff (r5_false k m hu hn hk ht) ⟨fun h => ⟨⟨by omega, by omega, hb.1 rfl⟩, h⟩, fun h => h.2⟩
  by_cases h : big m.a0
  · rw [if_pos (by simpa using h)]
    refine fin _ ?_
    by_cases g1 : m.a4 = 0 <;> by_cases g2 : m.a3 = 1 <;> simp [g1, g2, h] <;> rw [bne_iff_ne.2 g1, bne_iff_ne.2 g2]
  · rw [if_neg (by simpa using h)]
    refine fin _ ?_
    by_cases g1 : m.a4 = 0 <;> simp [g1, h]
def oprP (m : M) : Prop := (big m.a0 → 1 ≤ m.a3 ∧ m.a3 ≤ 3) ∧ (¬ big m.a0 → m.a3 = 0)
theorem r3_true (k : Nat) (x : Bool) (m : M) : vokref10_Rec_May.j3 (k + 1) x true m.a0 m.a1 m.a2 m.a3 m.a4 m.y m.us m.ns m.tx = some false := by rw [vokref10_Rec_May.j3, if_pos rfl]
theorem r3_false (k : Nat) (m : M) (hu : 2 * m.us.length + 1 < k) (hn : 2 * m.ns.length + 1 < k) (hk : k ≤ 1099511627776) (ht : m.tx.length ≤ 1099511627776) :
    ∃ b : Bool, vokref10_Rec_May.j3 (k + 5) (decide (big m.a0)) false m.a0 m.a1 m.a2 m.a3 m.a4 m.y m.us m.ns m.tx = some b ∧ (b = true ↔ oprP m ∧ oldP m ∧ (m.y = true → m.a0 = 4) ∧ listP m) := by
  rw [vokref10_Rec_May.j3, if_neg (by decide)]
  by_cases h : big m.a0
  · rw [if_pos (by simpa using h)]
    by_cases h1 : m.a3 < 1
    · rw [if_pos h1, r4_true]; exact bad fun g => by have := g.1.1 h; omega
    rw [if_neg h1]
    by_cases h2 : m.a3 > 3
    · rw [if_pos h2, r4_true]; exact bad fun g => by have := g.1.1 h; omega
    rw [if_neg h2]
    exact of_iff (r4_false k m hu hn hk ht) ⟨fun g => ⟨⟨fun _ => by omega, fun q => absurd h q⟩, g⟩, fun g => g.2⟩
  · rw [if_neg (by simpa using h)]
    by_cases h0 : m.a3 = 0
    · rw [show (m.a3 != 0) = false by simp [h0]]
      exact of_iff (r4_false k m hu hn hk ht) ⟨fun g => ⟨⟨fun q => absurd q h, fun _ => h0⟩, g⟩, fun g => g.2⟩
    · rw [show (m.a3 != 0) = true by simp [h0], r4_true]
      exact bad fun g => h0 (g.1.2 h)
def idP (m : M) : Prop := (0 ≤ m.a2 ∧ m.a2 ≤ 1099511627776) ∧ (m.a2 ≠ 0 → m.a0 = 5)
theorem r2_true (k : Nat) (x : Bool) (m : M) : vokref10_Rec_May.j2 (k + 1) x true m.a0 m.a1 m.a2 m.a3 m.a4 m.y m.us m.ns m.tx = some false := by rw [vokref10_Rec_May.j2, if_pos rfl]
theorem r2_false (k : Nat) (m : M) (hu : 2 * m.us.length + 1 < k) (hn : 2 * m.ns.length + 1 < k) (hk : k ≤ 1099511627776) (ht : m.tx.length ≤ 1099511627776) :
    ∃ b : Bool, vokref10_Rec_May.j2 (k + 6) (decide (big m.a0)) false m.a0 m.a1 m.a2 m.a3 m.a4 m.y m.us m.ns m.tx = some b ∧ (b = true ↔ idP m ∧ oprP m ∧ oldP m ∧ (m.y = true → m.a0 = 4) ∧ listP m) := by
  rw [vokref10_Rec_May.j2, if_neg (by decide)]
  by_cases h1 : m.a2 < 0
  · rw [if_pos h1, r3_true]; exact bad fun h => by have := h.1.1; omega
  rw [if_neg h1]
  by_cases h2 : m.a2 > 1099511627776
  · rw [if_pos h2, r3_true]; exact bad fun h => by have := h.1.1; omega
  rw [if_neg h2]
  by_cases h0 : m.a2 = 0
  · rw [if_pos h0]
    exact of_iff (r3_false k m hu hn hk ht) ⟨fun g => ⟨⟨by omega, fun q => absurd h0 q⟩, g⟩, fun g => g.2⟩
  · rw [if_neg h0]
    by_cases h5 : m.a0 = 5
    · rw [show (m.a0 != 5) = false by simp [h5]]
      exact of_iff (r3_false k m hu hn hk ht) ⟨fun g => ⟨⟨by omega, fun _ => h5⟩, g⟩, fun g => g.2⟩
    · rw [show (m.a0 != 5) = true by simp [h5], r3_true]
      exact bad fun g => h5 (g.1.2 h0)
theorem may_parts (m : M) : ((1 ≤ m.a0 ∧ m.a0 ≤ 6) ∧ txP m ∧ idP m ∧ oprP m ∧ oldP m ∧ (m.y = true → m.a0 = 4) ∧ listP m) ↔ May m := by
  constructor
  · rintro ⟨h1, h2, h3, h4, h5, h6, h7⟩
    refine may_of m h1 h2 ⟨fun h => ?_, fun h => ?_⟩ h3.1 h3.2 h6 h7
    · have a := h4.1 h; obtain ⟨b1, b2, b3⟩ := h5
      by_cases g : m.a3 = 1
      · exact .inl ⟨g, Classical.byContradiction fun q => (b3.1 q).2 g⟩
      · have := b3.2 ⟨h, g⟩; exact .inr ⟨by omega, by omega, by omega⟩
    · have a := h4.2 h; obtain ⟨b1, b2, b3⟩ := h5
      exact ⟨a, Classical.byContradiction fun q => h (b3.1 q).1⟩
  · intro h
    refine ⟨h.kind, ⟨h.num1, h.num⟩, ⟨h.id, h.id5⟩, ⟨fun g => ?_, fun g => (h.op0 g).1⟩, ?_, h.yes, ⟨h.lists, h.none⟩⟩
    · rcases h.op1 g with ⟨a, _⟩ | ⟨a, _⟩ <;> omega
    · by_cases g : big m.a0
      · rcases h.op1 g with ⟨a, b⟩ | ⟨a, b, c⟩
        · exact ⟨by omega, by omega, fun q => absurd b q, fun q => absurd a q.2⟩
        · exact ⟨by omega, by omega, fun q => ⟨g, by omega⟩, fun q => by omega⟩
      · obtain ⟨a, b⟩ := h.op0 g
        exact ⟨by omega, by omega, fun q => absurd b q, fun q => absurd q.1 g⟩
theorem r1 (k : Nat) (m : M) (lo hi : Int) (hlo : txP m ↔ lo ≤ m.a1 ∧ m.a1 ≤ hi) (hu : 2 * m.us.length + 1 < k) (hn : 2 * m.ns.length + 1 < k) (hk : k ≤ 1099511627776) (ht : m.tx.length ≤ 1099511627776) :
    vokref10_Rec_May.j1 (k + 7) (decide (big m.a0)) lo hi m.a0 m.a1 m.a2 m.a3 m.a4 m.y m.us m.ns m.tx = some (mayB m) := by
  have no : ¬ May m → some false = some (mayB m) := fun h => by rw [mayB_no h]
  rw [vokref10_Rec_May.j1]
  by_cases h1 : m.a0 < 1
  · rw [if_pos h1, r2_true]; exact no fun h => by have := h.kind; omega
  rw [if_neg h1]
  by_cases h2 : m.a0 > 6
  · rw [if_pos h2, r2_true]; exact no fun h => by have := h.kind; omega
  rw [if_neg h2]
  by_cases h3 : m.a1 < lo
  · rw [if_pos h3, r2_true]; exact no fun h => by have := hlo.1 ⟨h.num1, h.num⟩; omega
  rw [if_neg h3]
  by_cases h4 : m.a1 > hi
  · rw [decide_eq_true h4, r2_true]; exact no fun h => by have := hlo.1 ⟨h.num1, h.num⟩; omega
  rw [decide_eq_false h4]
  obtain ⟨b, e, i⟩ := r2_false k m hu hn hk ht
  rw [e]
  exact mayB_of (i.trans (Iff.trans ⟨fun h => ⟨by omega, hlo.2 (by omega), h⟩, fun h => h.2.2⟩ (may_parts m)))
theorem vmay_eq (k : Nat) (m : M) (hu : 2 * m.us.length + 1 < k) (hn : 2 * m.ns.length + 1 < k) (hk : k ≤ 1099511627776) (ht : m.tx.length ≤ 1099511627776) :
    vokref10_Rec_May.f (k + 8) m.a0 m.a1 m.a2 m.a3 m.a4 m.y m.us m.ns m.tx = some (mayB m) := by
  have go : vokref10_Rec_May.j0 (k + 8) (decide (big m.a0)) m.a0 m.a1 m.a2 m.a3 m.a4 m.y m.us m.ns m.tx = some (mayB m) := by
    rw [vokref10_Rec_May.j0]
    by_cases h : m.a0 = 1
    · rw [if_pos h]; exact r1 k m 0 1048576 (by unfold txP; simp [h]) hu hn hk ht
    · rw [if_neg h]; exact r1 k m 1 1099511627776 (by unfold txP; simp [h]) hu hn hk ht
  unfold vokref10_Rec_May.f
  by_cases h : m.a0 = 2
  · rw [if_pos h, show true = decide (big m.a0) from (decide_eq_true (.inl h)).symm]; exact go
  · rw [if_neg h, show (m.a0 == 5) = decide (big m.a0) by rw [Bool.eq_iff_iff]; simp [big, h]]; exact go
theorem vflag_eq (b : Bool) : vokref10_flag.f b = some (flag b) := by cases b <;> rfl
theorem vbody_eq (k : Nat) (m : M) (hu : m.us.length < 1000) (hn : m.ns.length < 1000) (ht : m.tx.length ≤ 1099511627776) (hk : 1000 ≤ k) :
    vokref10_Rec_body.f k m.a0 m.a1 m.a2 m.a3 m.a4 m.y m.us m.ns m.tx = some (body m) := by
  have b6 : ∀ v, vokref10_Be.f k 6 v = some (beR 6 v) := fun v => vbe_eq k 6 v (by omega) (by omega)
  have b2 : ∀ v, vokref10_Be.f k 2 v = some (beR 2 v) := fun v => vbe_eq k 2 v (by omega) (by omega)
  unfold vokref10_Rec_body.f
  simp only [b6, b2, Option.bind_some, vflag_eq, vshort_eq k m.us (by omega) (by omega), vshort_eq k m.ns (by omega) (by omega)]
  rw [if_pos (by simp [beR_length]), if_pos (by simp [beR_length]), if_pos (by simp [beR_length]), if_pos (by simp [beR_length]), if_pos (by simp [beR_length, lows_length]; omega), if_pos (by simp [beR_length, lows_length]; omega), if_pos (by simp [beR_length, lows_length]; omega), if_pos (by simp [beR_length, lows_length]; omega)]
  simp [body, tail]
theorem vmay_eq' (k : Nat) (m : M) (hu : m.us.length ≤ 300) (hn : m.ns.length ≤ 300) (ht : m.tx.length ≤ 1099511627776) (hk : 1000 ≤ k) (hk2 : k ≤ 1099511627776) :
    vokref10_Rec_May.f k m.a0 m.a1 m.a2 m.a3 m.a4 m.y m.us m.ns m.tx = some (mayB m) := by
  have := vmay_eq (k - 8) m (by omega) (by omega) (by omega) ht
  rwa [show k - 8 + 8 = k by omega] at this
theorem vEncode_eq (k : Nat) (m : M) (hu : m.us.length ≤ 300) (hn : m.ns.length ≤ 300) (ht : m.tx.length ≤ 1099511627776) (hk : 1000 ≤ k) (hk2 : k ≤ 1099511627776) :
    vokref10_Rec_Encode.f k m.a0 m.a1 m.a2 m.a3 m.a4 m.y m.us m.ns m.tx = some (if mayB m = true then (body m, 0) else ([], 1)) := by
  unfold vokref10_Rec_Encode.f
  rw [vmay_eq' k m hu hn ht hk hk2, vbody_eq k m (by omega) (by omega) ht hk]
  cases mayB m <;> rfl
theorem vSame_eq (k : Nat) (r q : M) (hu : r.us.length ≤ 1099511627776) (hn : r.ns.length ≤ 1099511627776) (hk : r.us.length < k) (hk2 : r.ns.length < k) (hb : bytesL r.tx) (hb2 : bytesL q.tx) :
    ∃ b : Bool, vokref10_Rec_Same.f k r.a0 r.a1 r.a2 r.a3 r.a4 r.y r.us r.ns r.tx q.a0 q.a1 q.a2 q.a3 q.a4 q.y q.us q.ns q.tx = some b ∧ (b = true ↔ r = q) := by
  obtain ⟨r0, r1, r2, r3, r4, ry, ru, rn, rt⟩ := r
  obtain ⟨q0, q1, q2, q3, q4, qy, qu, qn, qt⟩ := q
  simp only at hu hn hk hk2 hb hb2
  simp only [vokref10_Rec_Same.f, vints_eq k ru qu hu hk, vints_eq k rn qn hn hk2, vbytes_eq rt qt hb hb2, Option.bind_some, M.mk.injEq]
  by_cases h0 : r0 = q0
  · by_cases h1 : r1 = q1
    · by_cases h2 : r2 = q2
      · by_cases h3 : r3 = q3
        · by_cases h4 : r4 = q4
          · by_cases hy : ry = qy
            · by_cases h6 : ru = qu
              · by_cases h7 : rn = qn
                · refine ⟨decide (rt = qt), by simp [h0, h1, h2, h3, h4, hy, h6, h7], by simp [h0, h1, h2, h3, h4, hy, h6, h7]⟩
                · exact ⟨false, by simp [h0, h1, h2, h3, h4, hy, h6, h7], by simp [h7]⟩
              · exact ⟨false, by simp [h0, h1, h2, h3, h4, hy, h6], by simp [h6]⟩
            · exact ⟨false, by simp [h0, h1, h2, h3, h4, hy], by simp [hy]⟩
          · exact ⟨false, by simp [h0, h1, h2, h3, h4], by simp [h4]⟩
        · exact ⟨false, by simp [h0, h1, h2, h3], by simp [h3]⟩
      · exact ⟨false, by simp [h0, h1, h2], by simp [h2]⟩
    · exact ⟨false, by simp [h0, h1], by simp [h1]⟩
  · exact ⟨false, by simp [h0], by simp [h0]⟩
end Go.Proofs.Ytleljfmhefobeaa.GJRr
