/- What the printed leaf functions of rec and vokref compute, in plain lists and numbers. GK: the print's namespace; GKPa: this text's own name. -/
import Derived.Test.YtleljfmhefobeaaGKx2
import Derived.Test.YtleljfmhefobeaaGKx4
set_option linter.unusedVariables false
namespace Go.Proofs.Ytleljfmhefobeaa.GKPa
open Go.RowKit Go.Proofs.YtleljfmhefobeaaW.PrintWords Go.Proofs.YtleljfmhefobeaaW.PrintLast Go.Proofs.YtleljfmhefobeaaW.PrintMore Go.Proofs.Ytleljfmhefobeaa.GK

theorem w64 {x : Int} (h : -9223372036854775808 ≤ x) (h2 : x ≤ 9223372036854775807) : wrap64 x = x := by unfold wrap64; omega
theorem rd_get {l : List Int} {i : Nat} (h : i < l.length) : rd l (i : Int) = l[i] := by
  simp [rd, List.getD_eq_getElem?_getD, List.getElem?_eq_getElem h]
theorem drop_rd {l : List Int} {i : Nat} (h : i < l.length) : l.drop i = rd l (i : Int) :: l.drop (i + 1) := by
  rw [rd_get h, List.drop_eq_getElem_cons h]

/-- from index i on: within the bound, above what stands before it -/
def upB (l : List Int) (b : Int) (i : Nat) : Prop := ∀ j, i ≤ j → j < l.length → 0 ≤ rd l j ∧ rd l j < b ∧ (0 < j → rd l ((j - 1 : Nat) : Int) < rd l j)
def rises (l : List Int) (b : Int) : Prop := upB l b 0 ∧ (l.length : Int) ≤ b
theorem upB_end (l : List Int) (b : Int) (i : Nat) (h : l.length ≤ i) : upB l b i := fun j h1 h2 => by omega
theorem upB_step {l : List Int} {b : Int} {i : Nat} (h0 : 0 ≤ rd l i) (h1 : rd l i < b) (h2 : 0 < i → rd l ((i - 1 : Nat) : Int) < rd l i) : upB l b (i + 1) ↔ upB l b i := by
  constructor
  · intro h j hj hl
    by_cases e : j = i
    · subst e; exact ⟨h0, h1, h2⟩
    · exact h j (by omega) hl
  · intro h j hj hl
    exact h j (by omega) hl

theorem rises_l0 (l : List Int) (b : Int) (hl : l.length ≤ 1099511627776) : ∀ d i k : Nat, l.length - i = d → i ≤ l.length → d < k →
    ∃ r : Bool, rec_Rises.l0 k l b l (l.length : Int) (i : Int) = some r ∧ (r = true ↔ (upB l b i ∧ (l.length : Int) ≤ b)) := by
  intro d
  induction d with
  | zero =>
    intro i k hd hi hk
    obtain ⟨k, rfl⟩ : ∃ m, k = m + 1 := ⟨k - 1, by omega⟩
    refine ⟨_, by simp only [rec_Rises.l0]; rw [if_neg (by omega)], ?_⟩
    have := upB_end l b i (by omega)
    simp [this]
  | succ d ih =>
    intro i k hd hi hk
    obtain ⟨k, rfl⟩ : ∃ m, k = m + 1 := ⟨k - 1, by omega⟩
    have hlt : i < l.length := by omega
    by_cases h1 : rd l i < 0
    · refine ⟨false, by simp only [rec_Rises.l0]; rw [if_pos (by omega), if_pos (by omega), if_pos (by omega), if_pos h1], ?_⟩
      constructor
      · intro h; cases h
      · intro h; have := (h.1 i (Nat.le_refl _) hlt).1; omega
    · by_cases h2 : rd l i ≥ b
      · refine ⟨false, by simp only [rec_Rises.l0]; rw [if_pos (by omega), if_pos (by omega), if_pos (by omega), if_neg h1, if_pos h2], ?_⟩
        constructor
        · intro h; cases h
        · intro h; have := (h.1 i (Nat.le_refl _) hlt).2.1; omega
      · have hw : wrap64 ((i : Int) + 1) = ((i + 1 : Nat) : Int) := by rw [w64 (by omega) (by omega)]; omega
        by_cases h3 : 0 < i
        · have hw1 : wrap64 ((i : Int) - 1) = ((i - 1 : Nat) : Int) := by rw [w64 (by omega) (by omega)]; omega
          by_cases h4 : rd l i ≤ rd l ((i - 1 : Nat) : Int)
          · refine ⟨false, by simp only [rec_Rises.l0]; rw [if_pos (by omega), if_pos (by omega), if_pos (by omega), if_neg h1, if_neg h2, if_pos (by omega), hw1, if_pos (by omega), if_pos (by omega), if_pos h4], ?_⟩
            constructor
            · intro h; cases h
            · intro h; have := (h.1 i (Nat.le_refl _) hlt).2.2 h3; omega
          · obtain ⟨r, hr, hiff⟩ := ih (i + 1) k (by omega) (by omega) (by omega)
            refine ⟨r, by simp only [rec_Rises.l0]; rw [if_pos (by omega), if_pos (by omega), if_pos (by omega), if_neg h1, if_neg h2, if_pos (by omega), hw1, if_pos (by omega), if_pos (by omega), if_neg h4, hw]; exact hr, ?_⟩
            rw [hiff, upB_step (by omega) (by omega) (fun _ => by omega)]
        · obtain ⟨r, hr, hiff⟩ := ih (i + 1) k (by omega) (by omega) (by omega)
          refine ⟨r, by simp only [rec_Rises.l0]; rw [if_pos (by omega), if_pos (by omega), if_pos (by omega), if_neg h1, if_neg h2, if_neg (by omega), hw]; exact hr, ?_⟩
          rw [hiff, upB_step (by omega) (by omega) (fun h => absurd h h3)]
open Classical in
noncomputable def risesB (l : List Int) (b : Int) : Bool := decide (rises l b)
theorem risesB_iff (l : List Int) (b : Int) : risesB l b = true ↔ rises l b := by simp [risesB]
theorem rises_eq (l : List Int) (b : Int) (k : Nat) (hl : l.length ≤ 1099511627776) (hk : l.length < k) : rec_Rises.f k l b = some (risesB l b) := by
  obtain ⟨r, hr, hiff⟩ := rises_l0 l b hl l.length 0 k (by omega) (by omega) (by omega)
  have : r = risesB l b := by rw [Bool.eq_iff_iff, hiff, risesB_iff]; rfl
  subst this
  exact hr

/-- n bytes of a number, the greatest first -/
def beR : Nat → Int → List Int
  | 0, _ => []
  | n + 1, v => (v / 2 ^ (8 * n)) % 256 :: beR n v
theorem beR_length : ∀ n v, (beR n v).length = n
  | 0, _ => rfl
  | n + 1, v => by simp [beR, beR_length n v]
theorem shr_at (v : Int) (n : Nat) (hn : n ≤ 8) : shr .i64 v (8 * (n : Int)) = v / 2 ^ (8 * n) := by
  unfold shr
  have : min (8 * (n : Int)).toNat (IntKind.bits .i64) = 8 * n := by
    have : IntKind.bits .i64 = 64 := rfl
    rw [this]; omega
  rw [this]
theorem put_l0 (v : Int) : ∀ n k (l : List Int), n < k → n ≤ 8 → l.length + n < 140737488355328 → rec_Put.l0 k l v ((n : Int) - 1) = some (l ++ beR n v) := by
  intro n
  induction n with
  | zero =>
    intro k l hk _ _
    obtain ⟨k, rfl⟩ : ∃ m, k = m + 1 := ⟨k - 1, by omega⟩
    simp only [rec_Put.l0]
    rw [if_neg (by omega)]
    simp [beR]
  | succ n ih =>
    intro k l hk hn hl
    obtain ⟨k, rfl⟩ : ∃ m, k = m + 1 := ⟨k - 1, by omega⟩
    have e : ((n + 1 : Nat) : Int) - 1 = (n : Int) := by omega
    rw [e]
    simp only [rec_Put.l0]
    rw [if_pos (by omega), w64 (x := 8 * (n : Int)) (by omega) (by omega), if_pos (by omega), if_pos (by omega), w64 (by omega) (by omega), shr_at v n (by omega), ih k _ (by omega) (by omega) (by simp; omega)]
    simp [beR]
theorem put_eq (k : Nat) (l : List Int) (n : Nat) (v : Int) (hk : n < k) (hn : n ≤ 8) (hl : l.length + n < 140737488355328) : rec_Put.f k l (n : Int) v = some (l ++ beR n v) := by
  unfold rec_Put.f
  rw [w64 (by omega) (by omega)]
  exact put_l0 v n k l hk hn hl

def lows (l : List Int) : List Int := l.map (· % 256)
theorem lows_length (l : List Int) : (lows l).length = l.length := by simp [lows]
theorem putlist_l0 (us : List Int) : ∀ d i k (l : List Int), us.length - i = d → i ≤ us.length → d < k → l.length + d < 140737488355328 → us.length < 140737488355328 →
    rec_PutList.l0 k l us (us.length : Int) (i : Int) = some (l ++ lows (us.drop i)) := by
  intro d
  induction d with
  | zero =>
    intro i k l hd hi hk hl hu
    obtain ⟨k, rfl⟩ : ∃ m, k = m + 1 := ⟨k - 1, by omega⟩
    simp only [rec_PutList.l0]
    rw [if_neg (by omega), List.drop_eq_nil_of_le (by omega)]
    simp [lows]
  | succ d ih =>
    intro i k l hd hi hk hl hu
    obtain ⟨k, rfl⟩ : ∃ m, k = m + 1 := ⟨k - 1, by omega⟩
    have hlt : i < us.length := by omega
    simp only [rec_PutList.l0]
    rw [if_pos (by omega), if_pos (by omega), if_pos (by omega), if_pos (by omega), w64 (by omega) (by omega), show (i : Int) + 1 = ((i + 1 : Nat) : Int) by omega,
      ih (i + 1) k _ (by omega) (by omega) (by omega) (by simp; omega) hu, drop_rd hlt]
    simp [lows]
theorem putlist_eq (k : Nat) (l us : List Int) (hk : us.length < k) (hl : l.length + us.length + 1 < 140737488355328) : rec_PutList.f k l us = some (l ++ ((us.length : Int) % 256) :: lows us) := by
  unfold rec_PutList.f
  rw [if_pos (by omega)]
  have := putlist_l0 us us.length 0 k (l ++ [(us.length : Int) % 256]) (by omega) (by omega) hk (by simp; omega) (by omega)
  rw [show ((0 : Nat) : Int) = 0 from rfl] at this
  rw [this]
  simp
def flag (b : Bool) : Int := if b = true then 1 else 0
theorem flag_eq (b : Bool) : rec_Flag.f b = some (flag b) := by cases b <;> rfl
theorem flag_range (b : Bool) : 0 ≤ flag b ∧ flag b ≤ 1 := by cases b <;> decide

/-- bytes -/
def bytesL (l : List Int) : Prop := ∀ x ∈ l, 0 ≤ x ∧ x < 256
theorem strs_eq : ∀ {l m : List Int}, bytesL l → bytesL m → (((strOfNums l).toList == (strOfNums m).toList) = true ↔ l = m) := by
  intro l m hl hm
  have key : ∀ {l m : List Int}, bytesL l → bytesL m → (l.map (fun n => UInt8.ofNat n.toNat) = m.map (fun n => UInt8.ofNat n.toNat)) → l = m := by
    intro l
    induction l with
    | nil => intro m _ _ h; cases m <;> simp_all
    | cons x l ih =>
      intro m hl hm h
      cases m with
      | nil => simp at h
      | cons y m =>
        simp only [List.map_cons, List.cons.injEq] at h
        have hx := hl x (by simp)
        have hy := hm y (by simp)
        have h1 : x = y := by
          have := congrArg UInt8.toNat h.1
          simp only [UInt8.toNat_ofNat'] at this
          omega
        rw [h1, ih (fun z hz => hl z (by simp [hz])) (fun z hz => hm z (by simp [hz])) h.2]
  constructor
  · intro h
    rw [beq_iff_eq] at h
    have h2 : strOfNums l = strOfNums m := by
      have e : ∀ b : ByteArray, b.toList = b.data.toList := fun b => ByteArray.toList_eq b
      rw [e, e] at h
      exact ByteArray.ext (Array.toList_inj.1 h)
    have h3 := congrArg (fun b : ByteArray => b.data.toList) h2
    simp only [strOfNums_data] at h3
    exact key hl hm h3
  · rintro rfl
    simp
end Go.Proofs.Ytleljfmhefobeaa.GKPa
