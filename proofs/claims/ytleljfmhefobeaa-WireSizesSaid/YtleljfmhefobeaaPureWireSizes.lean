/- WireSizes, of plain lists: the pure side. -/
import Derived.Test.YtleljfmhefobeaaGAPw
import Derived.Test.YtleljfmhefobeaaGAx5
set_option linter.unusedVariables false
namespace Go.Proofs.Ytleljfmhefobeaa.PureWireSizes
open Go.RowKit Go.Proofs.YtleljfmhefobeaaW.PrintWords Go.Proofs.YtleljfmhefobeaaW.PrintLast Go.Proofs.YtleljfmhefobeaaW.PrintMore Go.Proofs.Ytleljfmhefobeaa.GA Go.Proofs.Ytleljfmhefobeaa.GAPa Go.Proofs.Ytleljfmhefobeaa.GAPw

theorem wrap62 (n : Int) (h0 : 0 ≤ n) (h1 : n < 2 ^ 62) : IntKind.i64.wrap n = n := by rw [IntKind.wrap_i64]; omega
theorem and255 (x : Int) (h0 : 0 ≤ x) (h1 : x < 2 ^ 62) : Go.bits .and .i64 x 255 = x % 256 := bits_mask .i64 62 (by decide) wrap62 8 (by decide) x h0 h1
theorem few_eq (a0 a1 a2 a3 a4 a5 a6 a7 a8 : Int) (y : Bool) (lo hi : Int) (us ns tx : List Int) : voklaw19_Few.f a0 a1 a2 a3 a4 a5 a6 a7 a8 y lo hi us ns tx = some (decide (us.length ≤ 300 ∧ ns.length ≤ 300 ∧ tx.length ≤ 20000)) := by
  unfold voklaw19_Few.f
  by_cases h1 : us.length ≤ 300
  · rw [if_pos (by omega)]
    by_cases h2 : ns.length ≤ 300
    · rw [if_pos (by omega)]
      congr 1
      simp [h1, h2]
      omega
    · rw [if_neg (by omega)]; simp [h2]
  · rw [if_neg (by omega)]; simp [h1]
theorem WireSizes (a0_0 a0_1 a0_2 a0_3 a0_4 a0_5 a0_6 a0_7 a0_8 : Int) (a0_9 : Bool) (a0_10 a0_11 : Int) (l0_12 l0_13 l0_14 : List Int) {o0 o1 o2 o3 o4 o5 o6 o7 o8 o9 o10 o11 o12 o13 o14 : Prop}
    (_ : o0) (_ : o1) (_ : o2) (_ : o3) (_ : o4) (_ : o5) (_ : o6) (_ : o7) (_ : o8) (_ : o9) (_ : o10) (_ : o11) (_ : o12) (_ : o13) (_ : o14) :
    ∃ k, voklaw19_WireSizes.f k a0_0 a0_1 a0_2 a0_3 a0_4 a0_5 a0_6 a0_7 a0_8 a0_9 a0_10 a0_11 l0_12 l0_13 l0_14 = some true := by
  refine ⟨1000, ?_⟩
  unfold voklaw19_WireSizes.f
  have hf := first_eq 1000 (by omega) (by omega)
  rw [hf, Option.bind_some, if_pos rfl, few_eq, Option.bind_some]
  by_cases hfew : l0_12.length ≤ 300 ∧ l0_13.length ≤ 300 ∧ l0_14.length ≤ 20000
  · rw [if_pos (by simpa using hfew)]
    obtain ⟨hu, hn, ht⟩ := hfew
    by_cases hm : May ⟨a0_0, a0_1, a0_2, a0_3, a0_4, a0_5, a0_6, a0_7, a0_8, a0_9, a0_10, a0_11, l0_12, l0_13, l0_14⟩
    · have he := Encode_yes 1000 _ hm (by omega) (by omega)
      have hl := body_length ⟨a0_0, a0_1, a0_2, a0_3, a0_4, a0_5, a0_6, a0_7, a0_8, a0_9, a0_10, a0_11, l0_12, l0_13, l0_14⟩
      have k0 := hm.kind; have k1 := hm.frm; have k2 := hm.dst; have k3 := hm.tx
      unfold within at k1 k2 k3
      simp only at he hl k0 k1 k2 k3
      rw [he]
      have r0 : rd (body ⟨a0_0, a0_1, a0_2, a0_3, a0_4, a0_5, a0_6, a0_7, a0_8, a0_9, a0_10, a0_11, l0_12, l0_13, l0_14⟩) 0 = a0_0 % 256 := rfl
      have r1 : rd (body ⟨a0_0, a0_1, a0_2, a0_3, a0_4, a0_5, a0_6, a0_7, a0_8, a0_9, a0_10, a0_11, l0_12, l0_13, l0_14⟩) 1 = a0_1 % 256 := rfl
      have r2 : rd (body ⟨a0_0, a0_1, a0_2, a0_3, a0_4, a0_5, a0_6, a0_7, a0_8, a0_9, a0_10, a0_11, l0_12, l0_13, l0_14⟩) 2 = a0_2 % 256 := rfl
      have r11 : rd (body ⟨a0_0, a0_1, a0_2, a0_3, a0_4, a0_5, a0_6, a0_7, a0_8, a0_9, a0_10, a0_11, l0_12, l0_13, l0_14⟩) 11 = (a0_3 / 2 ^ (8 * 0)) % 256 := rfl
      rw [Option.bind_some, if_pos rfl, Option.bind_some, if_pos rfl]
      simp only [hl, r0, r1, r2, r11]
      rw [w64 (x := 46 + (l0_12.length : Int)) (by omega) (by omega), w64 (x := 46 + (l0_12.length : Int) + l0_13.length) (by omega) (by omega), w64 (x := 46 + (l0_12.length : Int) + l0_13.length + l0_14.length) (by omega) (by omega)]
      rw [if_pos (by omega), if_pos (by omega), w64 (x := a0_0 % 256) (by omega) (by omega), if_pos (by omega), if_pos (by omega), w64 (x := a0_1 % 256) (by omega) (by omega), if_pos (by omega), if_pos (by omega),
        w64 (x := a0_2 % 256) (by omega) (by omega), if_pos (by omega), if_pos (by omega), and255 _ (by omega) (by omega), w64 (by omega) (by omega)]
      simp
    · have he := Encode_no 1000 _ hm (by simp; omega) (by simp; omega) (by omega)
      simp only at he
      rw [he, Option.bind_some, if_neg (by decide)]
      simp
  · rw [if_neg (by simpa using hfew)]
    rfl
end Go.Proofs.Ytleljfmhefobeaa.PureWireSizes
