/- RecSizes, of plain lists: the pure side. -/
import Derived.Test.YtleljfmhefobeaaGAPr
import Derived.Test.YtleljfmhefobeaaGAx10
set_option linter.unusedVariables false
namespace Go.Proofs.Ytleljfmhefobeaa.PureRecSizes
open Go.RowKit Go.Proofs.YtleljfmhefobeaaW.PrintWords Go.Proofs.YtleljfmhefobeaaW.PrintLast Go.Proofs.YtleljfmhefobeaaW.PrintMore Go.Proofs.Ytleljfmhefobeaa.GA Go.Proofs.Ytleljfmhefobeaa.GAPa Go.Proofs.Ytleljfmhefobeaa.GAPr

theorem wrap62 (n : Int) (h0 : 0 ≤ n) (h1 : n < 2 ^ 62) : IntKind.i64.wrap n = n := by rw [IntKind.wrap_i64]; omega
theorem and255 (x : Int) (h0 : 0 ≤ x) (h1 : x < 2 ^ 62) : Go.bits .and .i64 x 255 = x % 256 := bits_mask .i64 62 (by decide) wrap62 8 (by decide) x h0 h1
theorem RecSizes (a0_0 a0_1 a0_2 a0_3 a0_4 : Int) (a0_5 : Bool) (l0_6 l0_7 l0_8 : List Int) {o0 o1 o2 o3 o4 o5 o6 o7 o8 : Prop}
    (_ : o0) (_ : o1) (_ : o2) (_ : o3) (_ : o4) (_ : o5) (_ : o6) (_ : o7) (_ : o8) :
    ∃ k, voklaw16_RecSizes.f k a0_0 a0_1 a0_2 a0_3 a0_4 a0_5 l0_6 l0_7 l0_8 = some true := by
  refine ⟨1000, ?_⟩
  unfold voklaw16_RecSizes.f
  have hf := first_eq 1000 (by omega) (by omega)
  have hfe := few_eq ⟨a0_0, a0_1, a0_2, a0_3, a0_4, a0_5, l0_6, l0_7, l0_8⟩
  simp only at hfe
  rw [hf, Option.bind_some, if_pos rfl, hfe, Option.bind_some]
  by_cases hfew : l0_6.length ≤ 300 ∧ l0_7.length ≤ 300 ∧ l0_8.length ≤ 20000
  · rw [if_pos (by simpa using hfew)]
    obtain ⟨hu, hn, ht⟩ := hfew
    by_cases hm : May ⟨a0_0, a0_1, a0_2, a0_3, a0_4, a0_5, l0_6, l0_7, l0_8⟩
    · have he := Encode_yes 1000 _ hm (by omega) (by omega)
      have hl := body_length ⟨a0_0, a0_1, a0_2, a0_3, a0_4, a0_5, l0_6, l0_7, l0_8⟩
      have k0 := hm.kind; have k1 := hm.num; have k2 := hm.num1
      simp only at he hl k0 k1 k2
      rw [he]
      have r0 : rd (body ⟨a0_0, a0_1, a0_2, a0_3, a0_4, a0_5, l0_6, l0_7, l0_8⟩) 0 = a0_0 % 256 := rfl
      have r6 : rd (body ⟨a0_0, a0_1, a0_2, a0_3, a0_4, a0_5, l0_6, l0_7, l0_8⟩) 6 = (a0_1 / 2 ^ (8 * 0)) % 256 := rfl
      have htx : 0 ≤ a0_1 ∧ a0_1 ≤ 1099511627776 := by
        by_cases g : a0_0 = 1
        · have := k2 g; omega
        · have := k1 g; omega
      rw [Option.bind_some, if_pos rfl, Option.bind_some, if_pos rfl]
      simp only [hl, r0, r6]
      rw [w64 (x := 25 + (l0_6.length : Int)) (by omega) (by omega), w64 (x := 25 + (l0_6.length : Int) + l0_7.length) (by omega) (by omega), w64 (x := 25 + (l0_6.length : Int) + l0_7.length + l0_8.length) (by omega) (by omega)]
      rw [if_pos (by omega), if_pos (by omega), w64 (x := a0_0 % 256) (by omega) (by omega), if_pos (by omega), if_pos (by omega), and255 _ (by omega) (by omega), w64 (by omega) (by omega)]
      simp
    · have he := Encode_no 1000 _ hm (by simp; omega) (by simp; omega) (by omega) (by simp; omega)
      simp only at he
      rw [he, Option.bind_some, if_neg (by decide)]
      simp
  · rw [if_neg (by simpa using hfew)]
    rfl
end Go.Proofs.Ytleljfmhefobeaa.PureRecSizes
