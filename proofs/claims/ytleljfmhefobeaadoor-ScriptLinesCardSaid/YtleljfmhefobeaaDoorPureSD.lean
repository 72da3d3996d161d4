/- The printed functions of package script, and of the document's reader, as the plain lists have them. -/
import Derived.Test.YtleljfmhefobeaaDoorPureS3
import Derived.Test.YtleljfmhefobeaaDoorGLx6
set_option linter.unusedVariables false
set_option linter.unusedSimpArgs false
namespace Go.Proofs.YtleljfmhefobeaaDoor.PureSD
open Go Go.RowKit Go.Proofs.YtleljfmhefobeaaDoor.PureS3 Go.Proofs.YtleljfmhefobeaaDoorW.PrintWords Go.Proofs.YtleljfmhefobeaaDoorW.PrintLast Go.Proofs.YtleljfmhefobeaaDoorW.PrintMore Go.Proofs.YtleljfmhefobeaaDoor.GL Go.Proofs.YtleljfmhefobeaaDoor.PureS1 Go.Proofs.YtleljfmhefobeaaDoor.PureS2

theorem dec_pos : ∀ (k u : Nat), Lib.nDigits u ≤ k → u < 9223372036854775808 → vokref_Dec.f k (u : Int) = some (B (Lib.decDigits u))
  | 0, u, h, _ => by have := Lib.nDigits_pos u; omega
  | k + 1, u, h, hu => by
    unfold vokref_Dec.f
    rw [if_neg (by omega)]
    by_cases c : u < 10
    · rw [if_pos (by omega), Lib.decDigits, dif_pos c]
      have e : (wrap64 (48 + (u : Int))) % 256 = ((48 + u : Nat) : Int) := by unfold wrap64; omega
      rw [e]
      rfl
    · rw [if_neg (by omega)]
      have e0 : wrap64 (Int.tdiv (u : Int) 10) = ((u / 10 : Nat) : Int) := by
        rw [Int.tdiv_eq_ediv_of_nonneg (by omega)]
        unfold wrap64; omega
      have e1 : (wrap64 (48 + Int.tmod (u : Int) 10)) % 256 = ((48 + u % 10 : Nat) : Int) := by
        rw [Int.tmod_eq_emod_of_nonneg (by omega)]
        unfold wrap64; omega
      have ih := dec_pos k (u / 10) (by rw [Lib.nDigits_big c] at h; omega) (by omega)
      have hl : (B (Lib.decDigits (u / 10))).size ≤ 30 := by
        rw [size_B, Lib.decDigits_length]
        have : 10 ^ (Lib.nDigits (u / 10) - 1) ≤ u / 10 ∨ Lib.nDigits (u / 10) = 1 := by
          by_cases h1 : Lib.nDigits (u / 10) = 1
          · exact .inr h1
          · left
            exact nd_low _ h1
        rcases this with h2 | h2
        · by_cases h3 : Lib.nDigits (u / 10) ≤ 30
          · exact h3
          · have : 10 ^ 30 ≤ 10 ^ (Lib.nDigits (u / 10) - 1) := Nat.pow_le_pow_right (by omega) (by omega)
            have h30 : (10 : Nat) ^ 30 = 1000000000000000000000000000000 := by decide
            omega
        · omega
      rw [e0, ih, e1]
      simp only [Option.bind_some]
      have hs : strOfNums [((48 + u % 10 : Nat) : Int)] = B [UInt8.ofNat (48 + u % 10)] := rfl
      rw [hs, if_pos (by rw [size_B [_]]; simp only [List.length_singleton]; omega), B_app]
      rw [Lib.decDigits.eq_def u, dif_neg c]
theorem dec_eq (k : Nat) (n : Int) (hk : 21 ≤ k) (h : i64 n) : vokref_Dec.f k n = some (B (Lib.itoa n)) := by
  obtain ⟨h0, h1⟩ := h
  unfold Lib.itoa
  by_cases c : n < 0
  · rw [if_pos c]
    obtain ⟨m, rfl⟩ : ∃ m : Nat, n = -(m : Int) := ⟨n.natAbs, by omega⟩
    obtain ⟨k, rfl⟩ : ∃ j, k = j + 1 := ⟨k - 1, by omega⟩
    have e0 : wrap64 (Int.tdiv (-(m : Int)) 10) = -((m / 10 : Nat) : Int) := by
      rw [Int.neg_tdiv, Int.tdiv_eq_ediv_of_nonneg (by omega)]
      unfold wrap64; omega
    have e1 : (wrap64 (48 - Int.tmod (-(m : Int)) 10)) % 256 = ((48 + m % 10 : Nat) : Int) := by
      rw [Int.neg_tmod, Int.tmod_eq_emod_of_nonneg (by omega)]
      unfold wrap64; omega
    have hs : strOfNums [((48 + m % 10 : Nat) : Int)] = B [UInt8.ofNat (48 + m % 10)] := rfl
    have hm : (⟨#[45]⟩ : ByteArray) = B [45] := rfl
    unfold vokref_Dec.f
    rw [if_pos c, e0, e1]
    simp only [Option.bind_some]
    rw [hs, hm]
    have hab : (-(m : Int)).natAbs = m := by omega
    rw [hab]
    by_cases c2 : m < 10
    · rw [if_pos (by omega), if_pos (by rw [size_B]; simp), B_app]
      rw [Lib.decDigits, dif_pos c2, Nat.mod_eq_of_lt c2]
      rfl
    · have e2 : wrap64 (-(-((m / 10 : Nat) : Int))) = ((m / 10 : Nat) : Int) := by unfold wrap64; omega
      have hn := nd_le (m / 10) (by omega)
      have hl : (Lib.decDigits (m / 10)).length ≤ 19 := by rw [Lib.decDigits_length]; exact hn
      rw [if_neg (by omega), e2, dec_pos k (m / 10) (by omega) (by omega)]
      simp only [Option.bind_some]
      rw [if_pos (by rw [size_B]; omega), B_app, if_pos (by rw [size_B, size_B]; simp only [List.length_append, List.length_singleton]; omega), B_app]
      rw [Lib.decDigits.eq_def m, dif_neg c2]
      rfl
  · rw [if_neg c]
    obtain ⟨m, rfl⟩ : ∃ m : Nat, n = (m : Int) := ⟨n.toNat, by omega⟩
    have := nd_le m (by omega)
    exact dec_pos k m (by omega) (by omega)
end Go.Proofs.YtleljfmhefobeaaDoor.PureSD
