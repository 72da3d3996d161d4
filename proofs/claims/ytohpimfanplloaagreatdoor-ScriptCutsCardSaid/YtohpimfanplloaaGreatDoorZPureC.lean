/- script.Acts as a plain list. -/
import Derived.Test.YtohpimfanplloaaGreatDoorZGCx5
set_option linter.unusedVariables false
set_option linter.unusedSimpArgs false
namespace Go.Proofs.YtohpimfanplloaaGreatDoor.PureC
open Go Go.RowKit Go.Proofs.YtohpimfanplloaaGreatDoorW.PrintWords Go.Proofs.YtohpimfanplloaaGreatDoorW.PrintLast Go.Proofs.YtohpimfanplloaaGreatDoorW.PrintMore Go.Proofs.YtohpimfanplloaaGreatDoor.GC
def LineOk (s : ByteArray) : Prop := 1 ≤ s.size ∧ s.size ≤ 50 ∧ (∀ x ∈ bytesOf s, 32 ≤ x ∧ x ≤ 126) ∧ rd (bytesOf s) 0 ≠ 32
theorem app_bytes (a b : ByteArray) : bytesOf (a ++ b) = bytesOf a ++ bytesOf b := by
  unfold bytesOf
  simp [ByteArray.data_append]
theorem bt_ok {s : ByteArray} (h : ∀ x ∈ bytesOf s, 32 ≤ x ∧ x ≤ 126) (i : Nat) (hi : i < s.size) : 32 ≤ bt s (i : Int) ∧ bt s (i : Int) ≤ 126 := by
  rw [← rd_bytesOf]
  unfold rd
  have hl : i < (bytesOf s).length := by rw [bytesOf_length]; exact hi
  rw [Int.toNat_natCast, List.getD_eq_getElem?_getD, List.getElem?_eq_getElem hl]
  exact h _ (List.getElem_mem hl)
theorem wS (i : Nat) (h : i < 1000000000) : wrap64 ((i : Int) + 1) = ((i + 1 : Nat) : Int) := by unfold wrap64; omega
theorem may_l0 {s : ByteArray} (h : LineOk s) : ∀ (d i k : Nat), s.size - i = d → i ≤ s.size → d < k → fold_may.l0 k s (s.size : Int) (i : Int) = some true := by
  obtain ⟨h1, h50, hb, h0⟩ := h
  intro d
  induction d with
  | zero =>
    intro i k hd hi hk
    obtain ⟨k, rfl⟩ : ∃ m, k = m + 1 := ⟨k - 1, by omega⟩
    have hne : ¬ s.toList = [] := fun e => by
      have : s.toList.length = 0 := by rw [e]; rfl
      rw [Lib.toList_data, Array.length_toList] at this
      have : s.size = 0 := this
      omega
    rw [fold_may.l0, if_neg (by omega), if_neg hne, if_pos (by omega)]
    have : bt s 0 ≠ 32 := by rw [← rd_bytesOf]; exact h0
    simp [this]
  | succ d ih =>
    intro i k hd hi hk
    obtain ⟨k, rfl⟩ : ∃ m, k = m + 1 := ⟨k - 1, by omega⟩
    have b := bt_ok hb i (by omega)
    have hp : fold_plain.f (bt s (i : Int)) = some true := by
      unfold fold_plain.f
      rw [if_pos b.1]
      simp [b.2]
    rw [fold_may.l0, if_pos (by omega), if_pos (by omega), if_pos (by omega), hp]
    simp only [Option.bind_some, if_true]
    rw [wS i (by omega)]
    exact ih (i + 1) k (by omega) (by omega) (by omega)
theorem may_ok {s : ByteArray} (h : LineOk s) (k : Nat) (hk : 51 ≤ k) : fold_may.f k s = some true := by
  have := may_l0 h s.size 0 k (by omega) (by omega) (by have := h.2.1; omega)
  exact this
def joined (ls : List ByteArray) : List Int := ls.flatMap fun s => bytesOf s ++ [13, 10]
theorem rd_line {ls : List ByteArray} {i : Nat} (h : i < ls.length) : rdOf ByteArray.empty ls (i : Int) = ls[i] := by
  unfold rdOf
  rw [Int.toNat_natCast, List.getD_eq_getElem?_getD, List.getElem?_eq_getElem h, Option.getD_some]
theorem joined_len {ls : List ByteArray} (h : ∀ s ∈ ls, LineOk s) : (joined ls).length ≤ 52 * ls.length := by
  induction ls with
  | nil => simp [joined]
  | cons s r ih =>
    have h1 := h s (by simp)
    have h2 := ih (fun x hx => h x (by simp [hx]))
    unfold joined at h2 ⊢
    rw [List.flatMap_cons, List.length_append, List.length_append, bytesOf_length]
    have := h1.2.1
    simp only [List.length_cons, List.length_nil]
    omega
theorem join_l1 {ls : List ByteArray} (h : ∀ s ∈ ls, LineOk s) (hn : ls.length ≤ 10) : ∀ (d i k : Nat) (acc : List Int), ls.length - i = d → i ≤ ls.length → 2 * d < k → acc = joined (ls.take i) → fold_Join.l1 k acc ls (ls.length : Int) (i : Int) = some (joined ls, 0) := by
  intro d
  induction d with
  | zero =>
    intro i k acc hd hi hk ha
    obtain ⟨k, rfl⟩ : ∃ m, k = m + 1 := ⟨k - 1, by omega⟩
    rw [fold_Join.l1, if_neg (by omega), ha, List.take_of_length_le (by omega)]
  | succ d ih =>
    intro i k acc hd hi hk ha
    obtain ⟨k, rfl⟩ : ∃ m, k = m + 1 + 1 := ⟨k - 2, by omega⟩
    have hlt : i < ls.length := by omega
    have hL := h _ (List.getElem_mem hlt)
    have h50 := hL.2.1
    have hacc : acc.length ≤ 520 := by
      rw [ha]
      have := joined_len (ls := ls.take i) (fun s hs => h s (List.mem_of_mem_take hs))
      rw [List.length_take] at this
      omega
    have hnew : joined (ls.take (i + 1)) = acc ++ (bytesOf ls[i] ++ [13, 10]) := by
      rw [ha, List.take_succ_eq_append_getElem hlt]
      unfold joined
      rw [List.flatMap_append]
      congr 1
      simp
    have hbl := bytesOf_length ls[i]
    rw [fold_Join.l1, if_pos (by omega), if_pos (by omega), if_pos (by omega), rd_line hlt, fold_Join.l2, if_neg (by omega), if_pos (by omega)]
    simp only [Option.bind_some]
    rw [if_pos (by simp only [List.length_append, List.length_cons, List.length_nil]; omega), if_neg (by simp only [List.length_append, List.length_cons, List.length_nil]; omega), wS i (by omega)]
    exact ih (i + 1) k _ (by omega) (by omega) (by omega) (by rw [hnew, List.append_assoc])
theorem join_l0 {ls : List ByteArray} (h : ∀ s ∈ ls, LineOk s) (hn : ls.length ≤ 4) : ∀ (d i k : Nat), ls.length - i = d → i ≤ ls.length → 52 + d ≤ k → fold_Join.l0 k ls ls (ls.length : Int) (i : Int) = some (joined ls, 0) := by
  intro d
  induction d with
  | zero =>
    intro i k hd hi hk
    obtain ⟨k, rfl⟩ : ∃ m, k = m + 1 := ⟨k - 1, by omega⟩
    rw [fold_Join.l0, if_neg (by omega)]
    exact join_l1 h (by omega) ls.length 0 k [] (by omega) (by omega) (by omega) (by simp [joined])
  | succ d ih =>
    intro i k hd hi hk
    obtain ⟨k, rfl⟩ : ∃ m, k = m + 1 := ⟨k - 1, by omega⟩
    have hlt : i < ls.length := by omega
    rw [fold_Join.l0, if_pos (by omega), if_pos (by omega), if_pos (by omega), rd_line hlt, may_ok (h _ (List.getElem_mem hlt)) k (by omega)]
    simp only [Option.bind_some, if_true]
    rw [wS i (by omega)]
    exact ih (i + 1) k (by omega) (by omega) (by omega)
theorem join_ok {ls : List ByteArray} (h : ∀ s ∈ ls, LineOk s) (hn : ls.length ≤ 4) : fold_Join.f 60 ls = some (joined ls, 0) := join_l0 h hn ls.length 0 60 (by omega) (by omega) (by omega)
def goodT (t : ByteArray) : Bool := t.size == 15 && (bytesOf t).all fun x => decide (32 ≤ x) && decide (x ≤ 126)
theorem stamp_all : (List.range 8).all (fun d => (List.range 8).all fun h => match stamp_Text.f 60 (1767225600 + (4 + (d : Int)) * 86400 + (8 + (h : Int)) * 3600) with | some t => goodT t.1 | none => false) = true := by decide +kernel
theorem stamp_tot (d h : Nat) (hd : d < 8) (hh : h < 8) : ∃ t q, stamp_Text.f 60 (1767225600 + (4 + (d : Int)) * 86400 + (8 + (h : Int)) * 3600) = some (t, q) ∧ t.size = 15 ∧ ∀ x ∈ bytesOf t, 32 ≤ x ∧ x ≤ 126 := by
  have hp := List.all_eq_true.1 (List.all_eq_true.1 stamp_all d (List.mem_range.2 hd)) h (List.mem_range.2 hh)
  cases e : stamp_Text.f 60 (1767225600 + (4 + (d : Int)) * 86400 + (8 + (h : Int)) * 3600) with
  | none => rw [e] at hp; cases hp
  | some t =>
    rw [e] at hp
    simp only [goodT, Bool.and_eq_true, beq_iff_eq, List.all_eq_true, decide_eq_true_eq] at hp
    exact ⟨t.1, t.2, rfl, hp.1, hp.2⟩
theorem byte_dg (n : Int) (h : 0 ≤ n ∧ n ≤ 9) : bytesOf ⟨#[dg n]⟩ = [48 + n] := by
  rcases (by omega : n = 0 ∨ n = 1 ∨ n = 2 ∨ n = 3 ∨ n = 4 ∨ n = 5 ∨ n = 6 ∨ n = 7 ∨ n = 8 ∨ n = 9) with rfl | rfl | rfl | rfl | rfl | rfl | rfl | rfl | rfl | rfl <;> decide
theorem line0 (z : Int) (hz : 0 ≤ z ∧ z ≤ 9) (t : ByteArray) (ht : t.size = 15) (hb : ∀ x ∈ bytesOf t, 32 ≤ x ∧ x ≤ 126) : LineOk (F0 ++ ⟨#[dg z]⟩ ++ ⟨#[58]⟩ ++ t) := by
  have e : bytesOf (F0 ++ ⟨#[dg z]⟩ ++ ⟨#[58]⟩ ++ t) = [68, 84, 83, 84, 65, 82, 84, 59, 84, 90, 73, 68, 61] ++ ([48 + z] ++ ([58] ++ bytesOf t)) := by
    rw [app_bytes, app_bytes, app_bytes, byte_dg z hz, List.append_assoc, List.append_assoc]
    rfl
  have hs : (F0 ++ ⟨#[dg z]⟩ ++ ⟨#[58]⟩ ++ t).size = 30 := by
    rw [← bytesOf_length, e]
    simp only [List.length_append, List.length_cons, List.length_nil, bytesOf_length]
    omega
  refine ⟨by omega, by omega, ?_, by rw [e]; exact (show (68 : Int) ≠ 32 by decide)⟩
  rw [e]
  intro x hx
  rcases List.mem_append.1 hx with hx | hx
  · have : ([68, 84, 83, 84, 65, 82, 84, 59, 84, 90, 73, 68, 61] : List Int).all (fun x => decide (32 ≤ x) && decide (x ≤ 126)) = true := by decide
    simpa using List.all_eq_true.1 this x hx
  · rcases List.mem_append.1 hx with hx | hx
    · have := List.mem_singleton.1 hx; omega
    · rcases List.mem_append.1 hx with hx | hx
      · have := List.mem_singleton.1 hx; omega
      · exact hb x hx
theorem line1 (c : UInt8) (h : c = 49 ∨ c = 50 ∨ c = 51) : LineOk (F1 ++ durTxt c) := by
  rcases h with rfl | rfl | rfl <;> exact ⟨by decide, by decide, by decide, by decide⟩
theorem line2 (f n : Int) (hf : f = 3 ∨ f = 4) (hn : n = 1 ∨ n = 2 ∨ n = 3 ∨ n = 4) : LineOk (F2 ++ ruleT f n) := by
  rcases hf with rfl | rfl <;> rcases hn with rfl | rfl | rfl | rfl <;> exact ⟨by decide, by decide, by decide, by decide⟩
/-- The bytes of script.Text's answer. -/
theorem text_is (x y z : Int) (hx : 0 ≤ x) (hy : 0 ≤ y) (hz : 0 ≤ z) : ∃ (t : ByteArray) (q : Int) (c : UInt8), stamp_Text.f 60 (1767225600 + (4 + y % 8) * 86400 + (8 + z % 8) * 3600) = some (t, q) ∧ stamp_DurText.f ((1 + x % 3) * 3600) = some (durTxt c, 0) ∧ (c = UInt8.ofNat (49 + (x % 3).toNat)) ∧
    textOf x y z = some (joined (mlines (x % 2) t (durTxt c) (decide (127 < x)) (4 - y % 2) (1 + z % 4))) := by
  obtain ⟨b, hb⟩ := Int.eq_ofNat_of_zero_le (show 0 ≤ y % 8 by omega)
  obtain ⟨d, hd⟩ := Int.eq_ofNat_of_zero_le (show 0 ≤ z % 8 by omega)
  obtain ⟨t, q, ht, h15, hby⟩ := stamp_tot b d (by omega) (by omega)
  rw [← hb, ← hd] at ht
  obtain ⟨c, hc, hcc, hdur⟩ : ∃ c : UInt8, (c = 49 ∨ c = 50 ∨ c = 51) ∧ c = UInt8.ofNat (49 + (x % 3).toNat) ∧ stamp_DurText.f ((1 + x % 3) * 3600) = some (durTxt c, 0) := by
    rcases (by omega : x % 3 = 0 ∨ x % 3 = 1 ∨ x % 3 = 2) with e | e | e
    · exact ⟨49, .inl rfl, by rw [e]; rfl, by rw [e]; rfl⟩
    · exact ⟨50, .inr (.inl rfl), by rw [e]; rfl, by rw [e]; rfl⟩
    · exact ⟨51, .inr (.inr rfl), by rw [e]; rfl, by rw [e]; rfl⟩
  refine ⟨t, q, c, ht, hdur, hcc, ?_⟩
  have hds : (durTxt c).size = 4 := rfl
  have hn : NoLists [] [] [] [] [] [] [] [] [] [] [] := ⟨rfl, rfl, rfl, rfl, rfl, rfl, rfl, rfl, rfl, rfl, rfl⟩
  unfold textOf
  by_cases hr : 127 < x
  · rw [if_pos hr, decide_eq_true hr]
    unfold meet_Print.f
    rw [if_pos ⟨⟨by omega, by omega, by omega, .inl ⟨rfl, by omega, rfl, by omega, rfl, rfl, rfl⟩⟩, hn⟩, ht]
    simp only [Option.bind_some]
    rw [hdur]
    simp only [Option.bind_some]
    rw [if_pos ⟨by omega, by omega, by first | trivial | rfl⟩]
    have : ∀ s ∈ mlines (x % 2) t (durTxt c) true (4 - y % 2) (1 + z % 4), LineOk s := by
      intro s hs
      unfold mlines at hs
      rw [if_pos rfl] at hs
      simp only [List.mem_cons, List.not_mem_nil, or_false] at hs
      rcases hs with rfl | rfl | rfl
      · exact line0 _ (by omega) t h15 hby
      · exact line1 c hc
      · exact line2 _ _ (by omega) (by omega)
    rw [join_ok this (by unfold mlines; rw [if_pos rfl]; exact Nat.le_of_ble_eq_true rfl)]
    rfl
  · rw [if_neg hr, decide_eq_false hr]
    unfold meet_Print.f
    rw [if_pos ⟨⟨by omega, by omega, by omega, .inr ⟨rfl, rfl, rfl, rfl, rfl, rfl, rfl⟩⟩, hn⟩, ht]
    simp only [Option.bind_some]
    rw [hdur]
    simp only [Option.bind_some]
    rw [if_pos ⟨by omega, by omega, by first | trivial | rfl⟩]
    have : ∀ s ∈ mlines (x % 2) t (durTxt c) false 0 0, LineOk s := by
      intro s hs
      unfold mlines at hs
      rw [if_neg (by decide)] at hs
      simp only [List.mem_cons, List.not_mem_nil, or_false] at hs
      rcases hs with rfl | rfl
      · exact line0 _ (by omega) t h15 hby
      · exact line1 c hc
    rw [join_ok this (by unfold mlines; rw [if_neg (by decide)]; exact Nat.le_of_ble_eq_true rfl)]
    rfl
theorem text_tot (x y z : Int) (hx : 0 ≤ x) (hy : 0 ≤ y) (hz : 0 ≤ z) : ∃ t, textOf x y z = some t := by
  obtain ⟨_, _, _, _, _, _, h⟩ := text_is x y z hx hy hz
  exact ⟨_, h⟩
theorem some_all : (List.range 256).all (fun y => match script_some.f 60 (y : Nat) with | some l => decide (l.length ≤ 4) | none => false) = true := by decide +kernel
theorem some_tot (y : Int) (h0 : 0 ≤ y) (h1 : y ≤ 255) : ∃ l, script_some.f 60 y = some l ∧ l.length ≤ 4 := by
  obtain ⟨a, rfl⟩ := Int.eq_ofNat_of_zero_le h0
  have h := List.all_eq_true.1 some_all a (List.mem_range.2 (by omega))
  cases e : script_some.f 60 (a : Int) with
  | none => rw [e] at h; cases h
  | some l => rw [e] at h; exact ⟨l, rfl, of_decide_eq_true h⟩
theorem leo_add {α : Type} {f : Nat → Option α} (hm : ∀ k, LeO (f k) (f (k + 1))) {k : Nat} {r : α} (h : f k = some r) : ∀ n, f (k + n) = some r
  | 0 => h
  | n + 1 => hm _ _ (leo_add hm h n)
theorem some_k (k : Nat) (hk : 60 ≤ k) {y : Int} {l : List Int} (h : script_some.f 60 y = some l) : script_some.f k y = some l := by
  obtain ⟨n, rfl⟩ := Nat.exists_eq_add_of_le hk
  exact leo_add (f := fun k => script_some.f k y) (fun k => script_some.mono y k) h n
abbrev A9 : Type := Int × Int × Int × Int × Int × Int × List Int × List Int
def toS (t : A9) : S38 := ⟨t.1, t.2.1, t.2.2.1, ⟨t.2.2.2.1, t.2.2.2.2.1, t.2.2.2.2.2.1, t.2.2.2.2.2.2.1, t.2.2.2.2.2.2.2⟩⟩
structure Fine (a : S38) : Prop where
  lo : 1 ≤ a.f0
  hi : a.f0 ≤ 7
  us : a.f3.f3.length ≤ 4
theorem act_j (n x y z k13 : Int) (b : Bool) (hn : 1 ≤ n) (hx : 0 ≤ x) (hy : 0 ≤ y ∧ y ≤ 255) (hz : 0 ≤ z) : ∃ t, (∀ k, 61 ≤ k → script_act.j0 k n x y z k13 b = some t) ∧ Fine (toS t) := by
  obtain ⟨l, hl, hl4⟩ := some_tot y hy.1 hy.2
  obtain ⟨t, ht⟩ := text_tot (x % 256) (y % 256) (z % 256) (by omega) (by omega) (by omega)
  have hn0 : ¬ n = 0 := by omega
  have hk : ∀ {R : Nat → Option A9} {v : A9}, (∀ k, 60 ≤ k → R (k + 1) = some v) → ∀ k, 61 ≤ k → R k = some v := fun h k hk => by
    obtain ⟨m, rfl⟩ : ∃ m, k = m + 1 := ⟨k - 1, by omega⟩
    exact h m (by omega)
  by_cases c1 : b = true
  · refine ⟨_, hk (v := (1, 0, 0, wrap64 (1 + Int.tmod x 12), 1, 0, l, t)) fun k h => ?_, ⟨show (1:Int) ≤ 1 by decide, show (1:Int) ≤ 7 by decide, hl4⟩⟩
    rw [script_act.j0, if_pos c1, some_k k h hl]
    show (script_Text.f k x y z).bind _ = _
    unfold script_Text.f
    rw [ht]
    rfl
  · by_cases c2 : k13 = 6
    · by_cases c3 : wrap64 (2 + Int.tmod z 2) = 3
      · refine ⟨_, hk (v := (1, 0, 0, wrap64 (13 + (Int.tmod x 12)), wrap64 (2 + (Int.tmod z 2)), wrap64 ((wrap64 (65536 + (wrap64 (16 * (Int.tmod z 4))))) + (Int.tmod x n)), l, t)) fun k h => ?_, ⟨show (1:Int) ≤ 1 by decide, show (1:Int) ≤ 7 by decide, hl4⟩⟩
        rw [script_act.j0, if_neg c1, if_pos c2, some_k k h hl]
        show (if n = 0 then _ else _) = _
        rw [if_neg hn0, if_pos c3]
        unfold script_Text.f
        rw [ht]
        rfl
      · refine ⟨_, hk (v := (1, 0, 0, wrap64 (13 + (Int.tmod x 12)), wrap64 (2 + (Int.tmod z 2)), wrap64 ((wrap64 (65536 + (wrap64 (16 * (Int.tmod z 4))))) + (Int.tmod x n)), l, [])) fun k h => ?_, ⟨show (1:Int) ≤ 1 by decide, show (1:Int) ≤ 7 by decide, hl4⟩⟩
        rw [script_act.j0, if_neg c1, if_pos c2, some_k k h hl]
        show (if n = 0 then _ else _) = _
        rw [if_neg hn0, if_neg c3]
    · by_cases c3 : k13 = 7
      · by_cases c4 : Int.tmod y 2 = 1
        · exact ⟨_, hk (v := (4, Int.tmod x 8, 0, 0, 0, 0, [], [])) fun k h => (by rw [script_act.j0, if_neg c1, if_neg c2, if_pos c3, if_pos c4]), ⟨show (1:Int) ≤ 4 by decide, show (4:Int) ≤ 7 by decide, show 0 ≤ 4 by decide⟩⟩
        · exact ⟨_, hk (v := (3, Int.tmod x 8, 0, 0, 0, 0, [], [])) fun k h => (by rw [script_act.j0, if_neg c1, if_neg c2, if_pos c3, if_neg c4]), ⟨show (1:Int) ≤ 3 by decide, show (3:Int) ≤ 7 by decide, show 0 ≤ 4 by decide⟩⟩
      · by_cases c4 : k13 = 8
        · exact ⟨_, hk (v := (6, Int.tmod x n, y, 0, 0, 0, [], [])) fun k h => (by rw [script_act.j0, if_neg c1, if_neg c2, if_neg c3, if_pos c4, if_neg hn0]), ⟨show (1:Int) ≤ 6 by decide, show (6:Int) ≤ 7 by decide, show 0 ≤ 4 by decide⟩⟩
        · by_cases c5 : k13 = 9
          · exact ⟨_, hk (v := (7, Int.tmod x n, 0, 0, 0, 0, [], [])) fun k h => (by rw [script_act.j0, if_neg c1, if_neg c2, if_neg c3, if_neg c4, if_pos c5, if_neg hn0]), ⟨show (1:Int) ≤ 7 by decide, show (7:Int) ≤ 7 by decide, show 0 ≤ 4 by decide⟩⟩
          · exact ⟨_, hk (v := (2, Int.tmod x 8, 0, 0, 0, 0, [], [])) fun k h => (by rw [script_act.j0, if_neg c1, if_neg c2, if_neg c3, if_neg c4, if_neg c5]), ⟨show (1:Int) ≤ 2 by decide, show (2:Int) ≤ 7 by decide, show 0 ≤ 4 by decide⟩⟩
theorem act_tot (n k x y z : Int) (hn : 1 ≤ n) (hx : 0 ≤ x) (hy : 0 ≤ y ∧ y ≤ 255) (hz : 0 ≤ z) : ∃ t, (∀ q, 61 ≤ q → script_act.f q n k x y z = some t) ∧ Fine (toS t) := by
  by_cases c1 : Int.tmod k 10 = 3
  · exact ⟨(5, Int.tmod x n, 0, 0, 0, 0, [], []), fun q h => (by rw [script_act.f, if_pos c1, if_neg (by omega)]), ⟨show (1:Int) ≤ 5 by decide, show (5:Int) ≤ 7 by decide, show 0 ≤ 4 by decide⟩⟩
  · by_cases c2 : Int.tmod k 10 = 4
    · obtain ⟨t, h1, h2⟩ := act_j n x y z (Int.tmod k 10) (Int.tmod k 10 == 4) hn hx hy hz
      exact ⟨t, fun q h => (by rw [script_act.f, if_neg c1, if_pos c2]; exact h1 q h), h2⟩
    · obtain ⟨t, h1, h2⟩ := act_j n x y z (Int.tmod k 10) (Int.tmod k 10 == 5) hn hx hy hz
      exact ⟨t, fun q h => (by rw [script_act.f, if_neg c1, if_neg c2]; exact h1 q h), h2⟩
/-- The j-th act of bytes. -/
noncomputable def actAt (n : Int) (b : List Int) (j : Nat) : S38 := toS ((script_act.f 61 n (rd b (4 * j : Nat)) (rd b (4 * j + 1 : Nat)) (rd b (4 * j + 2 : Nat)) (rd b (4 * j + 3 : Nat))).getD (0, 0, 0, 0, 0, 0, [], []))
def By (b : List Int) : Prop := ∀ x ∈ b, 0 ≤ x ∧ x ≤ 255
theorem rd_by {b : List Int} (h : By b) (i : Nat) (hi : i < b.length) : 0 ≤ rd b (i : Nat) ∧ rd b (i : Nat) ≤ 255 := by
  unfold rd
  rw [Int.toNat_natCast, List.getD_eq_getElem?_getD, List.getElem?_eq_getElem hi]
  exact h _ (List.getElem_mem hi)
theorem act_at {n : Int} {b : List Int} {j : Nat} (hn : 1 ≤ n) (hb : By b) (hj : 4 * j + 3 < b.length) : Fine (actAt n b j) ∧ ∃ t, (∀ q, 61 ≤ q → script_act.f q n (rd b (4 * j : Nat)) (rd b (4 * j + 1 : Nat)) (rd b (4 * j + 2 : Nat)) (rd b (4 * j + 3 : Nat)) = some t) ∧ toS t = actAt n b j := by
  have b1 := rd_by hb (4 * j + 1) (by omega)
  have b2 := rd_by hb (4 * j + 2) (by omega)
  have b3 := rd_by hb (4 * j + 3) (by omega)
  obtain ⟨t, h1, h2⟩ := act_tot n (rd b (4 * j : Nat)) (rd b (4 * j + 1 : Nat)) (rd b (4 * j + 2 : Nat)) (rd b (4 * j + 3 : Nat)) hn b1.1 b2 b3.1
  have e : toS t = actAt n b j := by unfold actAt; rw [h1 61 (Nat.le_refl _)]; rfl
  exact ⟨e ▸ h2, t, h1, e⟩
noncomputable def actsOf (n : Int) (b : List Int) (m : Nat) : List S38 := (List.range m).map (actAt n b)
theorem wr (x : Nat) (h : x < 1000000000) (c : Int) (h0 : 0 ≤ c) (h1 : c ≤ 100) : wrap64 ((x : Int) + c) = (x : Int) + c := by unfold wrap64; omega
theorem wr0 (x : Int) (h0 : 0 ≤ x) (h1 : x ≤ 255) : wrap64 x = x := by unfold wrap64; omega
theorem l0_is (n : Int) (b : List Int) (hn : 1 ≤ n) (hb : By b) (hl : b.length ≤ 6000) : ∀ (d j k : Nat), min (b.length / 4) 1000 - j = d → j ≤ min (b.length / 4) 1000 → 62 + d ≤ k →
    script_Acts.l0 k b n (actsOf n b j) ((4 * j : Nat) : Int) = some (actsOf n b (min (b.length / 4) 1000)) := by
  intro d
  induction d with
  | zero =>
    intro j k hd hj hk
    obtain ⟨k, rfl⟩ : ∃ m, k = m + 1 := ⟨k - 1, by omega⟩
    have hje : j = min (b.length / 4) 1000 := by omega
    have hlen : (actsOf n b j).length = j := by simp [actsOf]
    rw [script_Acts.l0, wr (4 * j) (by omega) 3 (by omega) (by omega), ← hje]
    by_cases c : ((4 * j : Nat) : Int) + 3 < (b.length : Int)
    · rw [if_pos c, if_neg (by rw [hlen]; omega)]
    · rw [if_neg c]
  | succ d ih =>
    intro j k hd hj hk
    obtain ⟨k, rfl⟩ : ∃ m, k = m + 1 := ⟨k - 1, by omega⟩
    have hlen : (actsOf n b j).length = j := by simp [actsOf]
    have hlt : 4 * j + 3 < b.length := by omega
    obtain ⟨hF, t, ht, et⟩ := act_at hn hb hlt
    have b0 := rd_by hb (4 * j) (by omega)
    have b1 := rd_by hb (4 * j + 1) (by omega)
    have b2 := rd_by hb (4 * j + 2) (by omega)
    have b3 := rd_by hb (4 * j + 3) (by omega)
    rw [script_Acts.l0, wr (4 * j) (by omega) 3 (by omega) (by omega), wr (4 * j) (by omega) 1 (by omega) (by omega), wr (4 * j) (by omega) 2 (by omega) (by omega), wr (4 * j) (by omega) 4 (by omega) (by omega)]
    rw [if_pos (by omega), if_pos (by rw [hlen]; omega), if_pos (by omega), if_pos (by omega), if_pos (by omega), if_pos (by omega), if_pos (by omega), if_pos (by omega), if_pos (by omega)]
    rw [show ((4 * j : Nat) : Int) + 1 = ((4 * j + 1 : Nat) : Int) by omega, show ((4 * j : Nat) : Int) + 2 = ((4 * j + 2 : Nat) : Int) by omega, show ((4 * j : Nat) : Int) + 3 = ((4 * j + 3 : Nat) : Int) by omega]
    rw [wr0 _ b0.1 b0.2, wr0 _ b1.1 b1.2, wr0 _ b2.1 b2.2, wr0 _ b3.1 b3.2, ht k (by omega)]
    show (if (actsOf n b j).length < 1466015503701 then _ else none) = _
    rw [if_pos (by rw [hlen]; omega)]
    have e : (actsOf n b j) ++ [(⟨t.1, t.2.1, t.2.2.1, (⟨t.2.2.2.1, t.2.2.2.2.1, t.2.2.2.2.2.1, t.2.2.2.2.2.2.1, t.2.2.2.2.2.2.2⟩ : S36)⟩ : S38)] = actsOf n b (j + 1) := by
      have : (⟨t.1, t.2.1, t.2.2.1, (⟨t.2.2.2.1, t.2.2.2.2.1, t.2.2.2.2.2.1, t.2.2.2.2.2.2.1, t.2.2.2.2.2.2.2⟩ : S36)⟩ : S38) = actAt n b j := et
      rw [this]
      unfold actsOf
      rw [List.range_succ, List.map_append]
      rfl
    rw [e, show ((4 * j : Nat) : Int) + 4 = ((4 * (j + 1) : Nat) : Int) by omega]
    exact ih (j + 1) k (by omega) (by omega) (by omega)
def nodesOf (n : Int) : Int := if n < 1 then 1 else n
theorem nodes_pos (n : Int) : 1 ≤ nodesOf n := by unfold nodesOf; split <;> omega
theorem acts_f (a0 a1 : Int) (z : List S68) (a3 a4 a5 a6 a7 a8 a9 a10 : Int) (b : List Int) (hb : By b) (hl : b.length ≤ 6000) : script_Acts.f 3000 a0 a1 z a3 a4 a5 a6 a7 a8 a9 a10 b = some (actsOf (nodesOf a0) b (min (b.length / 4) 1000)) := by
  have h := l0_is (nodesOf a0) b (nodes_pos a0) hb hl (min (b.length / 4) 1000) 0 3000 (by omega) (by omega) (by omega)
  unfold script_Acts.f mx
  exact h
theorem rd_take (b : List Int) (a i : Nat) (h : i < a) : rd (b.take a) (i : Nat) = rd b (i : Nat) := by
  unfold rd
  rw [Int.toNat_natCast, List.getD_eq_getElem?_getD, List.getD_eq_getElem?_getD, List.getElem?_take_of_lt h]
theorem actAt_take (n : Int) (b : List Int) (a j : Nat) (h : 4 * j + 3 < a) : actAt n (b.take a) j = actAt n b j := by
  unfold actAt
  rw [rd_take b a (4 * j) (by omega), rd_take b a (4 * j + 1) (by omega), rd_take b a (4 * j + 2) (by omega), rd_take b a (4 * j + 3) (by omega)]
theorem acts_take (n : Int) (b : List Int) (a : Nat) (ha : a ≤ b.length) : actsOf n (b.take a) (min ((b.take a).length / 4) 1000) = actsOf n b (min (a / 4) 1000) := by
  unfold actsOf
  rw [List.length_take, show min a b.length = a by omega]
  refine List.map_congr_left fun j hj => actAt_take n b a j ?_
  have := List.mem_range.1 hj
  omega
end Go.Proofs.YtohpimfanplloaaGreatDoor.PureC
