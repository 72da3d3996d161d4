/- RecKinds, of plain lists: the pure side. -/
import Derived.Test.YtleljfmhefobeaaGAPr
import Derived.Test.YtleljfmhefobeaaGAx9
set_option linter.unusedVariables false
namespace Go.Proofs.Ytleljfmhefobeaa.PureRecKinds
open Go.RowKit Go.Proofs.YtleljfmhefobeaaW.PrintWords Go.Proofs.YtleljfmhefobeaaW.PrintLast Go.Proofs.YtleljfmhefobeaaW.PrintMore Go.Proofs.Ytleljfmhefobeaa.GA Go.Proofs.Ytleljfmhefobeaa.GAPa Go.Proofs.Ytleljfmhefobeaa.GAPr

/-- What the law says of a changed record q: 'wrong' tells just whether it may be. -/
theorem ends (k : Nat) (hk : 400 ≤ k) (hk2 : k ≤ 1099511627776) (q : M) (w : Bool) (hu : q.us.length ≤ 300) (hn : q.ns.length ≤ 300) (ht : q.tx.length ≤ 20000) (hw : May q ↔ w = false) :
    ((rec_Encode.f k q.a0 q.a1 q.a2 q.a3 q.a4 q.y q.us q.ns q.tx).bind fun b => ((voklaw16_first.f k).bind fun t => (if t = true then ((rec_May.f k q.a0 q.a1 q.a2 q.a3 q.a4 q.y q.us q.ns q.tx).bind fun t2 => (if (t2 == (!w)) = true then (some ((b.2 == 0) == (!w))) else (some false))) else (some false)))) = some true := by
  by_cases hq : May q
  · rw [Encode_yes k q hq (by omega) hk2, first_eq k (by omega) hk2, may_eq' k q (by omega) (by omega) hk2 (by omega), (mayB_iff q).2 hq, hw.1 hq]
    rfl
  · have hw' : w = true := by
      cases w
      · exact absurd (hw.2 rfl) hq
      · rfl
    rw [Encode_no k q hq (by omega) (by omega) hk2 (by omega), first_eq k (by omega) hk2, may_eq' k q (by omega) (by omega) hk2 (by omega), mayB_no hq, hw']
    rfl
theorem RecKinds (a0_0 a0_1 a0_2 a0_3 a0_4 : Int) (a0_5 : Bool) (l0_6 l0_7 l0_8 : List Int) (a1 : Int) {o0 o1 o2 o3 o4 o5 o6 o7 o8 o9 : Prop}
    (_ : o0) (_ : o1) (_ : o2) (_ : o3) (_ : o4) (_ : o5) (_ : o6) (_ : o7) (_ : o8) (_ : o9) :
    ∃ k, voklaw16_RecKinds.f k a0_0 a0_1 a0_2 a0_3 a0_4 a0_5 l0_6 l0_7 l0_8 a1 = some true := by
  refine ⟨1000, ?_⟩
  unfold voklaw16_RecKinds.f
  have hf := first_eq 1000 (by omega) (by omega)
  have hf9 := first_eq 999 (by omega) (by omega)
  have hfe := few_eq ⟨a0_0, a0_1, a0_2, a0_3, a0_4, a0_5, l0_6, l0_7, l0_8⟩
  simp only at hfe
  have j0t : voklaw16_RecKinds.j0 1000 a1 true a0_0 a0_1 a0_2 a0_3 a0_4 a0_5 l0_6 l0_7 l0_8 = some true := by
    rw [show (1000 : Nat) = 999 + 1 from rfl, voklaw16_RecKinds.j0, if_pos rfl, hf9]
    rfl
  rw [hf, Option.bind_some, if_pos rfl, hfe, Option.bind_some]
  by_cases hfew : l0_6.length ≤ 300 ∧ l0_7.length ≤ 300 ∧ l0_8.length ≤ 20000
  · rw [if_pos (by simpa using hfew)]
    obtain ⟨hu, hn, ht⟩ := hfew
    have hmq := may_eq' 1000 ⟨a0_0, a0_1, a0_2, a0_3, a0_4, a0_5, l0_6, l0_7, l0_8⟩ (by simp; omega) (by simp; omega) (by omega) (by simp; omega)
    simp only at hmq
    rw [hmq, Option.bind_some]
    by_cases hm : May ⟨a0_0, a0_1, a0_2, a0_3, a0_4, a0_5, l0_6, l0_7, l0_8⟩
    · rw [(mayB_iff _).2 hm]
      have hs := hm.short
      have k0 := hm.kind; have k1 := hm.num1; have k2 := hm.num; have k3 := hm.op1; have k4 := hm.op0; have k5 := hm.id; have k6 := hm.id5; have k7 := hm.yes; have k8 := hm.lists; have k9 := hm.none
      simp only [ne_eq] at hs k0 k1 k2 k3 k4 k5 k6 k7 k8 k9
      have J1 : ∀ bg : Bool, (bg = true ↔ big a0_0) → voklaw16_RecKinds.j1 999 a1 bg a0_0 a0_1 a0_2 a0_3 a0_4 a0_5 l0_6 l0_7 l0_8 a0_0 a0_1 a0_2 a0_3 a0_4 a0_5 l0_6 l0_7 l0_8 = some true := by
        intro bg hbg
        rw [show (999 : Nat) = 998 + 1 from rfl, voklaw16_RecKinds.j1]
        by_cases c0 : a1 = 0
        · rw [if_pos c0]
          refine ends 998 (by omega) (by omega) ⟨a0_0, a0_1, 5, a0_3, a0_4, a0_5, l0_6, l0_7, l0_8⟩ (a0_0 != 5) hu hn ht ?_
          rw [bne_eq_false_iff_eq]
          constructor
          · intro h; exact h.id5 (by simp)
          · intro h
            exact ⟨hm.kind, hm.num1, hm.num, hm.op1, hm.op0, by simp, fun _ => h, hm.yes, hm.lists, hm.none⟩
        rw [if_neg c0]
        by_cases c1 : a1 = 1
        · rw [if_pos c1]
          refine ends 998 (by omega) (by omega) ⟨a0_0, a0_1, a0_2, 4, a0_4, a0_5, l0_6, l0_7, l0_8⟩ true hu hn ht ⟨fun h => ?_, fun h => by cases h⟩
          exfalso
          by_cases g : big a0_0
          · have := h.op1 g; simp at this
          · have := h.op0 g; simp at this
        rw [if_neg c1]
        by_cases c2 : a1 = 2
        · rw [if_pos c2]
          by_cases g : big a0_0
          · rw [if_pos (hbg.2 g)]
            refine ends 998 (by omega) (by omega) ⟨a0_0, a0_1, a0_2, a0_3, 7, a0_5, l0_6, l0_7, l0_8⟩ (a0_3 == 1) hu hn ht ?_
            constructor
            · intro h
              rcases h.op1 g with ⟨_, h2⟩ | ⟨h2, _⟩
              · simp at h2
              · simp only at h2; rw [beq_eq_false_iff_ne]; omega
            · intro h
              rw [beq_eq_false_iff_ne] at h
              refine ⟨hm.kind, hm.num1, hm.num, fun _ => .inr ⟨?_, by simp⟩, fun g' => absurd g g', hm.id, hm.id5, hm.yes, hm.lists, hm.none⟩
              rcases k3 g with ⟨h2, _⟩ | ⟨h2, _⟩
              · exact absurd h2 h
              · exact h2
          · rw [if_neg (fun h => g (hbg.1 h))]
            refine ends 998 (by omega) (by omega) ⟨a0_0, a0_1, a0_2, a0_3, 7, a0_5, l0_6, l0_7, l0_8⟩ true hu hn ht ⟨fun h => ?_, fun h => by cases h⟩
            exfalso
            have := h.op0 g; simp at this
        rw [if_neg c2]
        by_cases c3 : a1 = 3
        · rw [if_pos c3]
          refine ends 998 (by omega) (by omega) ⟨a0_0, a0_1, a0_2, a0_3, a0_4, true, l0_6, l0_7, l0_8⟩ (a0_0 != 4) hu hn ht ?_
          rw [bne_eq_false_iff_eq]
          exact ⟨fun h => h.yes rfl, fun h => ⟨hm.kind, hm.num1, hm.num, hm.op1, hm.op0, hm.id, hm.id5, fun _ => h, hm.lists, hm.none⟩⟩
        rw [if_neg c3]
        by_cases c4 : a1 = 4
        · rw [if_pos c4, Option.bind_some]
          refine ends 998 (by omega) (by omega) ⟨a0_0, a0_1, a0_2, a0_3, a0_4, a0_5, [3], l0_7, l0_8⟩ (!bg) (by simp) hn ht ?_
          rw [Bool.not_eq_false', hbg]
          constructor
          · intro h
            by_cases g : big a0_0
            · exact g
            · have := (h.none g).1; simp at this
          · intro g
            have hl := hm.lists g
            refine ⟨hm.kind, hm.num1, hm.num, hm.op1, hm.op0, hm.id, hm.id5, hm.yes, fun _ => ⟨⟨fun j _ hj => ?_, by simp⟩, hl.2⟩, fun g' => absurd g g'⟩
            have : j = 0 := by simp at hj; omega
            subst this
            exact ⟨by show (0 : Int) ≤ rd [3] 0; decide, by show rd [3] 0 < (64 : Int); decide, fun h => absurd h (by omega)⟩
        rw [if_neg c4]
        by_cases c5 : a1 = 5
        · rw [if_pos c5, Option.bind_some]
          refine ends 998 (by omega) (by omega) ⟨a0_0, a0_1, a0_2, a0_3, a0_4, a0_5, l0_6, l0_7, [9]⟩ (!bg) hu hn (by simp) ?_
          rw [Bool.not_eq_false', hbg]
          constructor
          · intro h
            by_cases g : big a0_0
            · exact g
            · have := (h.none g).2.2; simp at this
          · intro g
            have hl := hm.lists g
            exact ⟨hm.kind, hm.num1, hm.num, hm.op1, hm.op0, hm.id, hm.id5, hm.yes, fun _ => ⟨hl.1, hl.2.1, by simp⟩, fun g' => absurd g g'⟩
        rw [if_neg c5]
        refine ends 998 (by omega) (by omega) ⟨7, a0_1, a0_2, a0_3, a0_4, a0_5, l0_6, l0_7, l0_8⟩ true hu hn ht ⟨fun h => ?_, fun h => by cases h⟩
        exfalso
        have := h.kind; simp at this
      rw [show (!true) = false from rfl, show (1000 : Nat) = 999 + 1 from rfl, voklaw16_RecKinds.j0, if_neg (by decide)]
      by_cases g2 : a0_0 = 2
      · rw [if_pos g2]
        exact J1 true ⟨fun _ => .inl g2, fun _ => rfl⟩
      · rw [if_neg g2]
        exact J1 _ ⟨fun h => .inr (by simpa using h), fun h => by rcases h with h | h; exact absurd h g2; simpa using h⟩
    · rw [mayB_no hm]
      exact j0t
  · rw [if_neg (by simpa using hfew)]
    exact j0t
end Go.Proofs.Ytleljfmhefobeaa.PureRecKinds
