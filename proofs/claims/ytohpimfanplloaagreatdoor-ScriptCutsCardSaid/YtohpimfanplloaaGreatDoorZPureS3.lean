/- The printed functions of package script, and of the document's reader, as the plain lists have them. -/
import Derived.Test.YtohpimfanplloaaGreatDoorZPureS2
import Derived.Test.YtohpimfanplloaaGreatDoorZGCx6
import Derived.Test.YtohpimfanplloaaGreatDoorZGCx7
import Derived.Test.YtohpimfanplloaaGreatDoorZGCx8
import Derived.Test.YtohpimfanplloaaGreatDoorZGCx9
set_option linter.unusedVariables false
set_option linter.unusedSimpArgs false
namespace Go.Proofs.YtohpimfanplloaaGreatDoor.PureS3
open Go Go.RowKit Go.Proofs.YtohpimfanplloaaGreatDoorW.PrintWords Go.Proofs.YtohpimfanplloaaGreatDoorW.PrintLast Go.Proofs.YtohpimfanplloaaGreatDoorW.PrintMore Go.Proofs.YtohpimfanplloaaGreatDoor.GC Go.Proofs.YtohpimfanplloaaGreatDoor.PureS1 Go.Proofs.YtohpimfanplloaaGreatDoor.PureS2

abbrev L (s : ByteArray) : List UInt8 := s.data.toList
abbrev B (l : List UInt8) : ByteArray := ⟨l.toArray⟩
theorem L_B (l : List UInt8) : L (B l) = l := rfl
theorem B_L (s : ByteArray) : B (L s) = s := by
  obtain ⟨⟨l⟩⟩ := s; rfl
theorem B_app (a b : List UInt8) : B a ++ B b = B (a ++ b) := by
  apply ByteArray.ext
  rw [ByteArray.data_append]
  simp
theorem size_B (l : List UInt8) : (B l).size = l.length := by
  show l.toArray.size = _
  simp
theorem size_L (s : ByteArray) : s.size = (L s).length := (Array.length_toList (xs := s.data)).symm
theorem L_inj {a b : ByteArray} (h : L a = L b) : a = b := by
  rw [← B_L a, ← B_L b, h]
theorem toL (s : ByteArray) : s.toList = L s := Lib.toList_data s
theorem rd_pc (ps : List ByteArray) (i : Int) : L (rdOf ByteArray.empty ps i) = pc (strs ps) i.toNat := by
  unfold rdOf pc strs
  rw [List.getD_eq_getElem?_getD, List.getD_eq_getElem?_getD, List.getElem?_map]
  cases ps[i.toNat]? <;> rfl
theorem strs_len (ps : List ByteArray) : (strs ps).length = ps.length := List.length_map ..
theorem bt_L (s : ByteArray) (i : Nat) (h : i < s.size) : bt s (i : Int) = (((L s).getD i 0).toNat : Int) := by
  unfold bt
  rw [dif_pos (by rw [Int.toNat_natCast]; exact h), List.getD_eq_getElem?_getD, List.getElem?_eq_getElem (by rw [← size_L]; exact h), Option.getD_some]
  simp only [Int.toNat_natCast]
  rfl
theorem drop_L (s : ByteArray) (i : Nat) (h : i < s.size) : (L s).drop i = (L s).getD i 0 :: (L s).drop (i + 1) := by
  rw [size_L] at h
  rw [List.drop_eq_getElem_cons h, List.getD_eq_getElem?_getD, List.getElem?_eq_getElem h, Option.getD_some]
theorem rd_int {us : List Int} {i : Nat} (h : i < us.length) : rd us (i : Int) = us[i] := by
  unfold rd
  rw [Int.toNat_natCast, List.getD_eq_getElem?_getD, List.getElem?_eq_getElem h, Option.getD_some]
theorem w1 (n : Nat) (h : n < 1000000000000) : wrap64 ((n : Int) + 1) = ((n + 1 : Nat) : Int) := by unfold wrap64; omega
theorem w2 (n : Nat) (h : n < 1000000000000) : wrap64 ((n : Int) + 2) = ((n + 2 : Nat) : Int) := by unfold wrap64; omega

/-! ### decimal digits -/
theorem nd_low (u : Nat) (h : Lib.nDigits u ≠ 1) : 10 ^ (Lib.nDigits u - 1) ≤ u := by
  induction u using Nat.strongRecOn with
  | _ u ih =>
    by_cases c : u < 10
    · exact absurd (Lib.nDigits_small c) h
    · rw [Lib.nDigits_big c, Nat.add_sub_cancel]
      by_cases h1 : Lib.nDigits (u / 10) = 1
      · rw [h1]; omega
      · have := ih (u / 10) (by omega) h1
        have hp := Lib.nDigits_pos (u / 10)
        have e : 10 ^ Lib.nDigits (u / 10) = 10 ^ (Lib.nDigits (u / 10) - 1) * 10 := by
          rw [← Nat.pow_succ]; congr 1; omega
        rw [e]
        omega
theorem nd_le (u : Nat) (h : u < 10000000000000000000) : Lib.nDigits u ≤ 19 := by
  by_cases c : Lib.nDigits u ≤ 19
  · exact c
  · have := nd_low u (show Lib.nDigits u ≠ 1 by omega)
    have h2 : 10 ^ 19 ≤ 10 ^ (Lib.nDigits u - 1) := Nat.pow_le_pow_right (by omega) (by omega)
    have h19 : (10 : Nat) ^ 19 = 10000000000000000000 := by decide
    rw [h19] at h2
    exact absurd (Nat.lt_of_lt_of_le h (Nat.le_trans h2 this)) (Nat.lt_irrefl _)
theorem itoa_len (n : Int) (h : i64 n) : (Lib.itoa n).length ≤ 20 := by
  obtain ⟨h0, h1⟩ := h
  unfold Lib.itoa
  split
  · rw [List.length_cons, Lib.decDigits_length]
    have := nd_le n.natAbs (by omega)
    omega
  · rw [Lib.decDigits_length]
    have := nd_le n.toNat (by omega)
    omega
theorem itoa_eq (n : Int) (h : i64 n) : strconv_Itoa.f n = some (B (Lib.itoa n)) := by
  unfold strconv_Itoa.f
  exact if_pos h

/-! ### joined -/
theorem join_len (c : List UInt8) (hc : c.length = 1) (m : Nat) : ∀ ps : List (List UInt8), (∀ p ∈ ps, p.length ≤ m) → (Lib.join ps c).length ≤ ps.length * (m + 1)
  | [], _ => by simp [Lib.join_nil]
  | [x], h => by
    rw [Lib.join_one]
    have := h x (List.mem_cons_self)
    simp only [List.length_cons, List.length_nil]; omega
  | x :: y :: r, h => by
    have ih := join_len c hc m (y :: r) (fun p hp => h p (List.mem_cons_of_mem _ hp))
    have hx := h x (List.mem_cons_self)
    rw [join_cons2, List.length_append, List.length_append, hc]
    simp only [List.length_cons] at ih ⊢
    rw [Nat.add_mul (r.length + 1) 1]
    omega
theorem strs_map (xs : List (List UInt8)) : strs (xs.map B) = xs := by
  unfold strs
  rw [List.map_map]
  exact List.map_id'' (fun _ => rfl) xs
theorem lst_len (us : List Int) (h : ∀ y ∈ us, i64 y) : (lst us).length ≤ 21 * us.length + 1 := by
  unfold lst
  split
  · simp
  · have := join_len [44] rfl 20 (us.map Lib.itoa) (fun p hp => by
      obtain ⟨x, hx, rfl⟩ := List.mem_map.1 hp
      exact itoa_len x (h x hx))
    rw [List.length_map] at this
    omega
theorem list_loop (sep : List UInt8) (hsep : sep.length = 1) (us : List Int) (hus : us.length ≤ 100000) (hu : ∀ y ∈ us, i64 y) : ∀ (d i k : Nat), us.length - i = d → i ≤ us.length → d < k →
    script_list.l0 k (B sep) ((us.take i).map (fun n => B (Lib.itoa n))) us (us.length : Int) (i : Int) = some (B (Lib.join (us.map Lib.itoa) sep)) := by
  intro d
  induction d with
  | zero =>
    intro i k hd hi hk
    obtain ⟨k, rfl⟩ : ∃ j, k = j + 1 := ⟨k - 1, by omega⟩
    obtain rfl : i = us.length := by omega
    rw [script_list.l0, if_neg (by omega), List.take_length]
    unfold strings_Join.f
    have e : strs (us.map (fun n => B (Lib.itoa n))) = us.map Lib.itoa := by
      unfold strs; rw [List.map_map]; rfl
    have hl := join_len sep hsep 20 (us.map Lib.itoa) (fun p hp => by
      obtain ⟨x, hx, rfl⟩ := List.mem_map.1 hp
      exact itoa_len x (hu x hx))
    rw [List.length_map] at hl
    rw [e, if_pos ⟨by show (Lib.join _ sep).length ≤ _; omega, by rw [List.length_map]; omega⟩]
    rfl
  | succ d ih =>
    intro i k hd hi hk
    obtain ⟨k, rfl⟩ : ∃ j, k = j + 1 := ⟨k - 1, by omega⟩
    have hlt : i < us.length := by omega
    rw [script_list.l0, if_pos (by omega), if_pos (by omega), if_pos (by omega), rd_int hlt, itoa_eq _ (hu _ (List.getElem_mem hlt))]
    simp only [Option.bind_some]
    rw [if_pos (by rw [List.length_map, List.length_take]; omega), w1 i (by omega)]
    have e : (us.take i).map (fun n => B (Lib.itoa n)) ++ [B (Lib.itoa us[i])] = (us.take (i + 1)).map (fun n => B (Lib.itoa n)) := by
      rw [List.take_succ_eq_append_getElem hlt, List.map_append]; rfl
    rw [e]
    exact ih (i + 1) k (by omega) (by omega) (by omega)
theorem list_eq (k : Nat) (us : List Int) (sep none : List UInt8) (hsep : sep.length = 1) (hus : us.length ≤ 100000) (hu : ∀ y ∈ us, i64 y) (hk : us.length < k) :
    script_list.f k us (B sep) (B none) = some (if us = [] then B none else B (Lib.join (us.map Lib.itoa) sep)) := by
  unfold script_list.f
  by_cases e : us = []
  · rw [if_pos (by rw [e]; rfl), if_pos e]
  · have : 0 < us.length := List.length_pos_iff.2 e
    rw [if_neg (by omega), if_neg e]
    have := list_loop sep hsep us hus hu us.length 0 k (by omega) (by omega) hk
    rw [List.take_zero] at this
    exact this

/-! ### bytes in two digits -/
def c2b (n : Int) : UInt8 := UInt8.ofNat n.toNat
theorem son (xs : List Int) : strOfNums xs = B (xs.map c2b) := rfl
theorem bt_hex (x : Int) (h0 : 0 ≤ x) (h1 : x < 16) : c2b (bt (⟨#[48, 49, 50, 51, 52, 53, 54, 55, 56, 57, 97, 98, 99, 100, 101, 102]⟩ : ByteArray) x) = H x := by
  have h : (List.range 16).all (fun n => decide (c2b (bt (⟨#[48, 49, 50, 51, 52, 53, 54, 55, 56, 57, 97, 98, 99, 100, 101, 102]⟩ : ByteArray) (n : Int)) = H (n : Int))) = true := by decide +kernel
  have := of_decide_eq_true (List.all_eq_true.1 h x.toNat (List.mem_range.2 (by omega)))
  rwa [Int.toNat_of_nonneg h0] at this
theorem and15 (x : Int) (h0 : 0 ≤ x) (h1 : x ≤ 255) : Go.bits .and .u8 x 15 = x % 16 := by
  have h : (List.range 256).all (fun n => decide (Go.bits .and .u8 (n : Int) 15 = (n : Int) % 16)) = true := by decide +kernel
  have := of_decide_eq_true (List.all_eq_true.1 h x.toNat (List.mem_range.2 (by omega)))
  rwa [Int.toNat_of_nonneg h0] at this
theorem or16 (a b : Int) (ha : 0 ≤ a ∧ a ≤ 15) (hb : 0 ≤ b ∧ b ≤ 15) : Go.bits .or .i64 (a * 16) b = 16 * a + b := by
  have h : (List.range 16).all (fun n => (List.range 16).all (fun m => decide (Go.bits .or .i64 ((n : Int) * 16) (m : Int) = 16 * (n : Int) + (m : Int)))) = true := by decide +kernel
  have := of_decide_eq_true (List.all_eq_true.1 (List.all_eq_true.1 h a.toNat (List.mem_range.2 (by omega))) b.toNat (List.mem_range.2 (by omega)))
  rwa [Int.toNat_of_nonneg ha.1, Int.toNat_of_nonneg hb.1] at this
theorem digits_loop (b : List Int) (hb : ∀ x ∈ b, 0 ≤ x ∧ x ≤ 255) (hl : b.length ≤ 1000000) : ∀ (d i k : Nat) (acc : List Int), b.length - i = d → i ≤ b.length → acc.length = 2 * i → d < k →
    script_digits.l0 k acc b (b.length : Int) (i : Int) = some (B (acc.map c2b ++ two (b.drop i))) := by
  intro d
  induction d with
  | zero =>
    intro i k acc hd hi ha hk
    obtain ⟨k, rfl⟩ : ∃ j, k = j + 1 := ⟨k - 1, by omega⟩
    obtain rfl : i = b.length := by omega
    rw [script_digits.l0, if_neg (by omega), List.drop_length, son]
    simp [two]
  | succ d ih =>
    intro i k acc hd hi ha hk
    obtain ⟨k, rfl⟩ : ∃ j, k = j + 1 := ⟨k - 1, by omega⟩
    have hlt : i < b.length := by omega
    have hx := hb _ (List.getElem_mem hlt)
    rw [script_digits.l0, if_pos (by omega), if_pos (by omega), if_pos (by omega), rd_int hlt, and15 _ hx.1 hx.2, if_pos (by omega), if_pos (by omega), if_pos (by omega), if_pos (by omega)]
    simp only [Option.bind_some]
    rw [if_pos (by simp only [List.length_cons, List.length_nil]; omega), w1 i (by omega), ih (i + 1) k _ (by omega) (by omega) (by rw [List.length_append]; simp only [List.length_cons, List.length_nil]; omega) (by omega)]
    rw [List.drop_eq_getElem_cons hlt, two_cons, List.map_append]
    simp only [List.map_cons, List.map_nil]
    rw [bt_hex _ (by omega) (by omega), bt_hex _ (by omega) (by omega)]
    simp
theorem digits_eq (k : Nat) (b : List Int) (hb : ∀ x ∈ b, 0 ≤ x ∧ x ≤ 255) (hl : b.length ≤ 1000000) (hk : b.length < k) : script_digits.f k b = some (B (dig b)) := by
  unfold script_digits.f dig
  by_cases e : b = []
  · rw [if_pos (by rw [e]; rfl), if_pos e]
  · have : 0 < b.length := List.length_pos_iff.2 e
    rw [if_neg (by omega), if_neg e]
    exact digits_loop b hb hl b.length 0 k [] (by omega) (by omega) rfl hk
theorem index_hex (c : UInt8) : strings_IndexByte.f (⟨#[48, 49, 50, 51, 52, 53, 54, 55, 56, 57, 97, 98, 99, 100, 101, 102]⟩ : ByteArray) (c.toNat : Int) = some (hv c) := by
  unfold strings_IndexByte.f
  rw [show ((c.toNat : Int)).toNat.toUInt8 = c by simp]
  rfl
theorem mx0 (c : UInt8) : mx (hv c) 0 = ud c := by
  have := hv_facts c
  unfold mx ud hv
  unfold hv at this
  by_cases h : Lib.indexByte hx c < 0
  · rw [if_pos h]; first | done | omega | (split <;> omega)
  · rw [if_neg h]; first | done | omega | (split <;> omega)
theorem or_step (a b : UInt8) : (Go.bits .or .i64 (wrap64 ((mx (hv a) 0) * 16)) (mx (hv b) 0)) % 256 = 16 * ud a + ud b := by
  have f1 := hv_facts a
  have f2 := hv_facts b
  rw [mx0, mx0, show wrap64 (ud a * 16) = ud a * 16 by unfold wrap64; omega, or16 _ _ ⟨f1.2.2.2.1, f1.2.2.2.2⟩ ⟨f2.2.2.2.1, f2.2.2.2.2⟩]
  omega
theorem un_drop (l : List UInt8) (i : Nat) (h : i + 1 < l.length) : un (l.drop i) = (16 * ud (l.getD i 0) + ud (l.getD (i + 1) 0)) :: un (l.drop (i + 2)) := by
  have e1 : l.getD i 0 = l[i] := by rw [List.getD_eq_getElem?_getD, List.getElem?_eq_getElem (by omega), Option.getD_some]
  have e2 : l.getD (i + 1) 0 = l[i + 1] := by rw [List.getD_eq_getElem?_getD, List.getElem?_eq_getElem h, Option.getD_some]
  rw [e1, e2, List.drop_eq_getElem_cons (show i < l.length by omega), List.drop_eq_getElem_cons h, un]
theorem un_short (l : List UInt8) (i : Nat) (h : ¬ i + 1 < l.length) : un (l.drop i) = [] := by
  have hl : (l.drop i).length ≤ 1 := by rw [List.length_drop]; omega
  cases hd : l.drop i with
  | nil => rfl
  | cons x r =>
    rw [hd] at hl
    cases r with
    | nil => rfl
    | cons y r => simp only [List.length_cons] at hl; omega
theorem undigits_step (k : Nat) (s : ByteArray) (acc : List Int) (i : Nat) (hi : i + 1 < s.size) (hs : s.size ≤ 1000000) (ha : acc.length ≤ i) :
    script_undigits.l0 (k + 1) s acc (i : Int) = script_undigits.l0 k s (acc ++ [16 * ud ((L s).getD i 0) + ud ((L s).getD (i + 1) 0)]) ((i + 2 : Nat) : Int) := by
  rw [script_undigits.l0, w1 i (by omega), if_pos (by omega), if_pos (by omega), if_pos (by omega), bt_L s i (by omega), index_hex, Option.bind_some, if_pos (by omega), bt_L s (i + 1) hi, index_hex, Option.bind_some, if_pos (by omega), or_step, w2 i (by omega)]
theorem undigits_end (k : Nat) (s : ByteArray) (acc : List Int) (i : Nat) (hi : ¬ i + 1 < s.size) (hs : i ≤ 1000000) : script_undigits.l0 (k + 1) s acc (i : Int) = some acc := by
  rw [script_undigits.l0, w1 i (by omega), if_neg (by omega)]
theorem undigits_loop (s : ByteArray) (hl : s.size ≤ 1000000) (d : Nat) : ∀ (i k : Nat) (acc : List Int), s.size - i ≤ d → acc.length ≤ i → i ≤ s.size → d < k →
    script_undigits.l0 k s acc (i : Int) = some (acc ++ un ((L s).drop i)) := by
  induction d using Nat.strongRecOn with
  | _ d ih =>
    intro i k acc hd ha hi hk
    obtain ⟨k, rfl⟩ : ∃ j, k = j + 1 := ⟨k - 1, by omega⟩
    by_cases c : i + 1 < s.size
    · rw [undigits_step k s acc i c hl ha, ih (d - 2) (by omega) (i + 2) k _ (by omega) (by rw [List.length_append]; simp only [List.length_singleton]; omega) (by omega) (by omega),
        un_drop (L s) i (by rw [← size_L]; exact c), List.append_assoc, List.singleton_append]
    · rw [undigits_end k s acc i c (by omega), un_short (L s) i (by rw [← size_L]; exact c), List.append_nil]
theorem undigits_eq (k : Nat) (s : ByteArray) (hl : s.size ≤ 1000000) (hk : s.size < k) : script_undigits.f k s = some (un (L s)) := by
  unfold script_undigits.f
  exact undigits_loop s hl s.size 0 k [] (by omega) (by simp) (by omega) hk

/-! ### cut -/
theorem split_eq (s : ByteArray) (c : UInt8) (hs : s.size < 4294967281) : ∃ ps, strings_Split.f s (⟨#[c]⟩ : ByteArray) = some ps ∧ strs ps = sp c (L s) := by
  refine ⟨_, if_pos ⟨hs, Nat.le_refl _⟩, ?_⟩
  have := Lib.splitB_data (⟨#[c]⟩ : ByteArray) 0 (Lib.countB s (⟨#[c]⟩ : ByteArray)) s
  unfold strs
  rw [this]
  exact splitK_sp c (L s)
theorem sp_len (c : UInt8) : ∀ l, (sp c l).length ≤ l.length + 1
  | [] => by simp [sp]
  | b :: l => by
    have ih := sp_len c l
    obtain ⟨p, r, hs⟩ := sp_cons c l
    by_cases h : b = c
    · subst h; rw [sp_eq]; simp only [List.length_cons]; omega
    · rw [sp_other h hs]; rw [hs] at ih; simp only [List.length_cons] at ih ⊢; omega
theorem sp_piece (c : UInt8) : ∀ l p, p ∈ sp c l → p.length ≤ l.length
  | [], p, h => by simp [sp] at h; subst h; simp
  | b :: l, p, h => by
    have ih := sp_piece c l
    obtain ⟨q, r, hs⟩ := sp_cons c l
    by_cases hb : b = c
    · subst hb
      rw [sp_eq] at h
      rcases List.mem_cons.1 h with rfl | h
      · simp
      · have := ih p h
        simp only [List.length_cons]; omega
    · rw [sp_other hb hs] at h
      rw [hs] at ih
      rcases List.mem_cons.1 h with rfl | h
      · have := ih q (List.mem_cons_self)
        simp only [List.length_cons]; omega
      · have := ih p (List.mem_cons_of_mem _ h)
        simp only [List.length_cons]; omega
theorem pc_len (l : List UInt8) (c : UInt8) (i : Nat) : (pc (sp c l) i).length ≤ l.length := by
  unfold pc
  rw [List.getD_eq_getElem?_getD]
  cases h : (sp c l)[i]? with
  | none => simp
  | some p => exact sp_piece c l p (List.mem_of_getElem? h)

/-! ### script -/
theorem number_eq (p : ByteArray) (h : p.size ≤ 281474976710656) : script_number.f p = some (an (L p)) := by
  unfold script_number.f
  rw [if_pos h]
  rfl
theorem read_loop (q : List ByteArray) (hq : q.length ≤ 100001) (hp : ∀ p ∈ q, p.size ≤ 1000000) (a b c d e f : Int) (tx : List Int) : ∀ (n i k : Nat), q.length - i = n → i ≤ q.length → n < k →
    script_read.l0 k q (q.length : Int) (i : Int) a b c d e f (((strs q).take i).map an) tx = some (a, b, c, d, e, f, (strs q).map an, tx) := by
  intro n
  induction n with
  | zero =>
    intro i k hd hi hk
    obtain ⟨k, rfl⟩ : ∃ j, k = j + 1 := ⟨k - 1, by omega⟩
    obtain rfl : i = q.length := by omega
    rw [script_read.l0, if_neg (by omega), ← strs_len, List.take_length]
  | succ n ih =>
    intro i k hd hi hk
    obtain ⟨k, rfl⟩ : ∃ j, k = j + 1 := ⟨k - 1, by omega⟩
    have hlt : i < q.length := by omega
    have hlt2 : i < (strs q).length := by rw [strs_len]; exact hlt
    have hsz : (rdOf ByteArray.empty q (i : Int)).size ≤ 1000000 := by
      unfold rdOf
      rw [Int.toNat_natCast, List.getD_eq_getElem?_getD, List.getElem?_eq_getElem hlt, Option.getD_some]
      exact hp _ (List.getElem_mem hlt)
    rw [script_read.l0, if_pos (by omega), if_pos (by omega), if_pos (by omega), number_eq _ (by omega), rd_pc]
    simp only [Option.bind_some]
    rw [if_pos (by rw [List.length_map, List.length_take]; omega), w1 i (by omega)]
    have e1 : pc (strs q) (i : Int).toNat = (strs q)[i] := by
      unfold pc
      rw [Int.toNat_natCast, List.getD_eq_getElem?_getD, List.getElem?_eq_getElem hlt2, Option.getD_some]
    have e2 : ((strs q).take i).map an ++ [an (pc (strs q) (i : Int).toNat)] = ((strs q).take (i + 1)).map an := by
      rw [e1, List.take_succ_eq_append_getElem hlt2, List.map_append]; rfl
    rw [e2]
    exact ih (i + 1) k (by omega) (by omega) (by omega)
theorem size_rd (ps : List ByteArray) (i : Int) (n : Nat) (h : (pc (strs ps) i.toNat).length ≤ n) : (rdOf ByteArray.empty ps i).size ≤ n := by
  rw [size_L, rd_pc]; exact h
def tup (x : A8) : Int × Int × Int × Int × Int × Int × List Int × List Int := (x.k, x.a, x.b, x.id, x.op, x.old, x.us, x.tx)
theorem read_eq (k : Nat) (kd : Int) (ps : List ByteArray) (hps : wide kd ≤ ps.length) (hsz : ∀ i, (pc (strs ps) i).length ≤ 100000) (hk : 200000 < k) :
    script_read.f k kd ps = some (tup (rdA kd (strs ps))) := by
  unfold script_read.f rdA tup
  unfold wide at hps
  by_cases e : kd = 1
  · rw [if_pos e] at hps
    have s1 := size_rd ps 1 100000 (hsz _)
    have s2 := size_rd ps 2 100000 (hsz _)
    have s3 := size_rd ps 3 100000 (hsz _)
    have s4 := size_rd ps 4 100000 (hsz _)
    have s5 := size_rd ps 5 100000 (hsz _)
    rw [if_pos e, if_pos (by omega), number_eq _ (by omega)]
    simp only [Option.bind_some]
    rw [if_pos (by omega), number_eq _ (by omega)]
    simp only [Option.bind_some]
    rw [if_pos (by omega), number_eq _ (by omega)]
    simp only [Option.bind_some]
    rw [if_pos (by omega), undigits_eq k _ (by omega) (by omega)]
    simp only [Option.bind_some]
    rw [if_pos (by omega), if_pos e, toL, rd_pc, rd_pc, rd_pc, rd_pc, rd_pc]
    simp only [Int.reduceToNat]
    unfold usOf
    by_cases c : pc (strs ps) 4 = [45]
    · rw [if_pos c, if_pos c, e]
    · rw [if_neg c, if_neg c]
      obtain ⟨q, hq, hqs⟩ := split_eq (rdOf ByteArray.empty ps 4) 44 (by omega)
      rw [hq]
      simp only [Option.bind_some]
      have hql : q.length ≤ 100001 := by
        rw [← strs_len, hqs]
        have := sp_len 44 (L (rdOf ByteArray.empty ps 4))
        rw [← size_L] at this
        omega
      have hqp : ∀ p ∈ q, p.size ≤ 1000000 := fun p hp => by
        have := sp_piece 44 (L (rdOf ByteArray.empty ps 4)) (L p) (by rw [← hqs]; exact List.mem_map.2 ⟨p, hp, rfl⟩)
        rw [← size_L, ← size_L] at this
        omega
      have := read_loop q hql hqp kd 0 0 (an (pc (strs ps) 1)) (an (pc (strs ps) 2)) (an (pc (strs ps) 3)) (un (pc (strs ps) 5)) q.length 0 k (by omega) (by omega) (by omega)
      rw [List.take_zero] at this
      rw [rd_pc] at hqs
      rw [hqs] at this
      exact e ▸ this
  · rw [if_neg e] at hps
    have s1 := size_rd ps 1 100000 (hsz _)
    have s2 := size_rd ps 2 100000 (hsz _)
    rw [if_neg e, if_pos (by omega), number_eq _ (by omega)]
    simp only [Option.bind_some]
    rw [if_pos (by omega), number_eq _ (by omega)]
    simp only [Option.bind_some]
    rw [if_neg e, rd_pc, rd_pc]
    rfl
end Go.Proofs.YtohpimfanplloaaGreatDoor.PureS3
