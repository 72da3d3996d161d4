/- The document's printer, as the plain lists have it. -/
import Derived.Test.YtleljfmhefobeaaDoorPureSD
import Derived.Test.YtleljfmhefobeaaDoorPureS4
import Derived.Test.YtleljfmhefobeaaDoorGLx10
import Derived.Test.YtleljfmhefobeaaDoorGLx11
set_option linter.unusedVariables false
set_option linter.unusedSimpArgs false
namespace Go.Proofs.YtleljfmhefobeaaDoor.PureS6
open Go Go.RowKit Go.Proofs.YtleljfmhefobeaaDoorW.PrintWords Go.Proofs.YtleljfmhefobeaaDoorW.PrintLast Go.Proofs.YtleljfmhefobeaaDoorW.PrintMore Go.Proofs.YtleljfmhefobeaaDoor.GL Go.Proofs.YtleljfmhefobeaaDoor.PureS1 Go.Proofs.YtleljfmhefobeaaDoor.PureS2 Go.Proofs.YtleljfmhefobeaaDoor.PureS3 Go.Proofs.YtleljfmhefobeaaDoor.PureSD Go.Proofs.YtleljfmhefobeaaDoor.PureS4

theorem join_snoc (ps : List (List UInt8)) (y sep : List UInt8) (h : ps ≠ []) : Lib.join (ps ++ [y]) sep = Lib.join ps sep ++ sep ++ y := by
  cases ps with
  | nil => exact absurd rfl h
  | cons x r =>
    rw [List.cons_append, Lib.join_cons, Lib.join_cons]
    unfold Lib.joinTail
    simp
theorem commas_loop (us : List Int) (hus : us.length ≤ 100000) (hu : ∀ y ∈ us, i64 y) : ∀ (d i k : Nat), us.length - i = d → i ≤ us.length → d + 22 ≤ k →
    vokref25_commas.l0 k us (B (Lib.join ((us.take i).map Lib.itoa) [44])) (i : Int) = some (B (Lib.join (us.map Lib.itoa) [44])) := by
  intro d
  induction d with
  | zero =>
    intro i k hd hi hk
    obtain ⟨k, rfl⟩ : ∃ j, k = j + 1 := ⟨k - 1, by omega⟩
    obtain rfl : i = us.length := by omega
    rw [vokref25_commas.l0, if_neg (by omega), List.take_length]
  | succ d ih =>
    intro i k hd hi hk
    obtain ⟨k, rfl⟩ : ∃ j, k = j + 1 := ⟨k - 1, by omega⟩
    have hlt : i < us.length := by omega
    have hx := hu _ (List.getElem_mem hlt)
    have hl := join_len [44] rfl 20 ((us.take i).map Lib.itoa) (fun p hp => by
      obtain ⟨x, hx, rfl⟩ := List.mem_map.1 hp
      exact itoa_len x (hu x (List.mem_of_mem_take hx)))
    rw [List.length_map, List.length_take] at hl
    have hi20 := itoa_len _ hx
    have e : (us.take (i + 1)).map Lib.itoa = (us.take i).map Lib.itoa ++ [Lib.itoa us[i]] := by
      rw [List.take_succ_eq_append_getElem hlt, List.map_append]; rfl
    have hb : (⟨#[44]⟩ : ByteArray) = B [44] := rfl
    rw [vokref25_commas.l0, if_pos (by omega)]
    by_cases z : i = 0
    · subst z
      rw [if_neg (by omega), if_pos (by omega), rd_int hlt, dec_eq k _ (by omega) hx]
      simp only [Option.bind_some]
      rw [if_pos (by rw [size_B, size_B]; omega), w1 0 (by omega), B_app]
      have := ih 1 k (by omega) (by omega) (by omega)
      rw [e] at this
      simpa [Lib.join_nil, Lib.join_one] using this
    · have hne : (us.take i).map Lib.itoa ≠ [] := by
        intro h
        have := congrArg List.length h
        rw [List.length_map, List.length_take] at this
        simp only [List.length_nil] at this
        omega
      rw [if_pos (by omega), if_pos (by rw [size_B]; omega), if_pos (by omega), rd_int hlt, dec_eq k _ (by omega) hx]
      simp only [Option.bind_some]
      rw [hb, B_app, if_pos (by rw [size_B, size_B, List.length_append]; simp only [List.length_singleton]; omega), w1 i (by omega), B_app, ← join_snoc _ _ _ hne, ← e]
      exact ih (i + 1) k (by omega) (by omega) (by omega)
theorem commas_eq (k : Nat) (us : List Int) (hus : us.length ≤ 100000) (hu : ∀ y ∈ us, i64 y) (hk : us.length + 22 ≤ k) : vokref25_commas.f k us = some (B (lst us)) := by
  unfold vokref25_commas.f lst
  by_cases e : us = []
  · rw [if_pos (by rw [e]; rfl), if_pos e]
  · have : 0 < us.length := List.length_pos_iff.2 e
    rw [if_neg (by omega), if_neg e]
    exact commas_loop us hus hu us.length 0 k (by omega) (by omega) hk
theorem hex_loop (b : List Int) (hb : ∀ x ∈ b, 0 ≤ x ∧ x ≤ 255) (hl : b.length ≤ 1000000) : ∀ (d i k : Nat) (acc : List Int), b.length - i = d → i ≤ b.length → acc.length = 2 * i → d < k →
    vokref25_hex.l0 k b (⟨#[48, 49, 50, 51, 52, 53, 54, 55, 56, 57, 97, 98, 99, 100, 101, 102]⟩ : ByteArray) acc (i : Int) = some (B (acc.map c2b ++ two (b.drop i))) := by
  intro d
  induction d with
  | zero =>
    intro i k acc hd hi ha hk
    obtain ⟨k, rfl⟩ : ∃ j, k = j + 1 := ⟨k - 1, by omega⟩
    obtain rfl : i = b.length := by omega
    rw [vokref25_hex.l0, if_neg (by omega), List.drop_length, son]
    simp [two]
  | succ d ih =>
    intro i k acc hd hi ha hk
    obtain ⟨k, rfl⟩ : ∃ j, k = j + 1 := ⟨k - 1, by omega⟩
    have hlt : i < b.length := by omega
    have hx := hb _ (List.getElem_mem hlt)
    have hs : ((⟨#[48, 49, 50, 51, 52, 53, 54, 55, 56, 57, 97, 98, 99, 100, 101, 102]⟩ : ByteArray).size : Int) = 16 := rfl
    rw [vokref25_hex.l0, if_pos (by omega), if_pos (by omega), rd_int hlt, and15 _ hx.1 hx.2, hs, if_pos (by omega), if_pos (by omega), if_pos (by omega), if_pos (by omega)]
    simp only [Option.bind_some]
    rw [if_pos (by simp only [List.length_cons, List.length_nil]; omega), w1 i (by omega), ih (i + 1) k _ (by omega) (by omega) (by rw [List.length_append]; simp only [List.length_cons, List.length_nil]; omega) (by omega)]
    rw [List.drop_eq_getElem_cons hlt, two_cons, List.map_append]
    simp only [List.map_cons, List.map_nil]
    rw [bt_hex _ (by omega) (by omega), bt_hex _ (by omega) (by omega)]
    simp
theorem hex_eq (k : Nat) (b : List Int) (hb : ∀ x ∈ b, 0 ≤ x ∧ x ≤ 255) (hl : b.length ≤ 1000000) (hk : b.length < k) : vokref25_hex.f k b = some (B (dig b)) := by
  unfold vokref25_hex.f dig
  by_cases e : b = []
  · rw [if_pos (by rw [e]; rfl), if_pos e]
  · have : 0 < b.length := List.length_pos_iff.2 e
    rw [if_neg (by omega), if_neg e]
    exact hex_loop b hb hl b.length 0 k [] (by omega) (by omega) rfl hk
theorem vwords_wd : ∃ t, vokref25_words.f = some t ∧ t.length = 9 ∧ (∀ k : Int, 1 ≤ k → k ≤ 8 → rdOf ByteArray.empty t k = B (wd k)) ∧ strs t = [] :: wds := by
  refine ⟨_, rfl, rfl, fun k h1 h8 => ?_, rfl⟩
  apply L_inj
  rw [rd_pc]
  have e : k.toNat = (k - 1).toNat + 1 := by omega
  rw [e]
  rfl
theorem vprint_eq (k : Nat) (x : A8) (h : Ok x) (hk : 2000001 < k) : vokref25_Print.f k x.k x.a x.b x.id x.op x.old x.us x.tx = some (B (pr x)) := by
  obtain ⟨j, rfl⟩ : ∃ j, k = j + 1 := ⟨k - 1, by omega⟩
  have hb : vokref25_Print.f (j + 1) x.k x.a x.b x.id x.op x.old x.us x.tx = vokref25_Print.j0 (j + 1) (decide (x.k < 1 ∨ 8 < x.k)) x.k x.a x.b x.id x.op x.old x.us x.tx := by
    unfold vokref25_Print.f
    by_cases c : x.k < 1
    · rw [if_pos c, decide_eq_true (.inl c)]
    · rw [if_neg c]
      congr 1
      simp [c]
  rw [hb, vokref25_Print.j0]
  by_cases c : x.k < 1 ∨ 8 < x.k
  · unfold pr
    rw [if_pos (decide_eq_true c), if_pos c]
  · obtain ⟨t, ht, htl, hw, _⟩ := vwords_wd
    have w7 := wd_len x.k
    have hs : (⟨#[32]⟩ : ByteArray) = B [32] := rfl
    rw [if_neg (by rw [decide_eq_false c]; decide), ht, Option.bind_some, if_pos (by omega), if_pos (by rw [htl]; omega), hw x.k (by omega) (by omega), hs, B_app, if_pos (by rw [size_B]; omega)]
    by_cases e : x.k = 1
    · have hd := dig_len x.tx
      have hl := lst_len x.us h.us
      have hul := h.ul
      have htl := h.tl
      have i1 := itoa_len _ h.id
      have i2 := itoa_len _ h.op
      have i3 := itoa_len _ h.old
      rw [if_pos e, dec_eq j _ (by omega) h.id, Option.bind_some, B_app, B_app]
      rw [if_pos (by rw [size_B, size_B]; simp only [List.length_append, List.length_singleton]; omega), if_pos (by rw [size_B]; simp only [List.length_append, List.length_singleton]; omega)]
      rw [dec_eq j _ (by omega) h.op, Option.bind_some, B_app, B_app]
      rw [if_pos (by rw [size_B, size_B]; simp only [List.length_append, List.length_singleton]; omega), if_pos (by rw [size_B]; simp only [List.length_append, List.length_singleton]; omega)]
      rw [dec_eq j _ (by omega) h.old, Option.bind_some, B_app, B_app]
      rw [if_pos (by rw [size_B, size_B]; simp only [List.length_append, List.length_singleton]; omega), if_pos (by rw [size_B]; simp only [List.length_append, List.length_singleton]; omega)]
      rw [commas_eq j _ (by omega) h.us (by omega), Option.bind_some, B_app, B_app]
      rw [if_pos (by rw [size_B, size_B]; simp only [List.length_append, List.length_singleton]; omega), if_pos (by rw [size_B]; simp only [List.length_append, List.length_singleton]; omega)]
      rw [hex_eq j _ h.tx (by omega) (by omega), Option.bind_some, B_app]
      rw [if_pos (by rw [size_B, size_B]; simp only [List.length_append, List.length_singleton]; omega), pr_ask x e]
      congr 2
      rw [join_cons2, join_cons2, join_cons2, join_cons2, join_cons2, Lib.join_one, e]
      simp
    · have i1 := itoa_len _ h.a
      have i2 := itoa_len _ h.b
      rw [if_neg e, dec_eq j _ (by omega) h.a, Option.bind_some, B_app, B_app]
      rw [if_pos (by rw [size_B, size_B]; simp only [List.length_append, List.length_singleton]; omega), if_pos (by rw [size_B]; simp only [List.length_append, List.length_singleton]; omega)]
      rw [dec_eq j _ (by omega) h.b, Option.bind_some, B_app]
      rw [if_pos (by rw [size_B, size_B]; simp only [List.length_append, List.length_singleton]; omega), pr_other x (by omega) (by omega) e]
      congr 2
      rw [join_cons2, join_cons2, Lib.join_one]
      simp
end Go.Proofs.YtleljfmhefobeaaDoor.PureS6
