/- A calendar's Remove, Free, Settle. -/
import Derived.Test.YtohpimfanplloaaGreatZCalD
import Derived.Test.YtohpimfanplloaaGreatZV
import Derived.WalkKit
import Derived.WalkSpells
import Derived.Lib.Hide
import Derived.Maps.AppendAt
import Derived.Deep.RegionHeld3
set_option linter.unusedVariables false
set_option linter.unusedSimpArgs false
namespace Go.Proofs.YtohpimfanplloaaGreat.CalE
open Go.RowKit Go.Proofs.YtohpimfanplloaaGreatW.PrintWords Go.Proofs.YtohpimfanplloaaGreatW.PrintLast Go.Proofs.YtohpimfanplloaaGreatW.PrintMore Go.Proofs.YtohpimfanplloaaGreat.PureI1 Go.Proofs.YtohpimfanplloaaGreat.PureI2 Go.Proofs.YtohpimfanplloaaGreat.IvA Go.Proofs.YtohpimfanplloaaGreat.IvB Go.Proofs.YtohpimfanplloaaGreat.IvC Go.Proofs.YtohpimfanplloaaGreat.IvD Go.Proofs.YtohpimfanplloaaGreat.IvE Go.Proofs.YtohpimfanplloaaGreat.IvG Go.Proofs.YtohpimfanplloaaGreat.IvH Go.Proofs.YtohpimfanplloaaGreat.CalA Go.Proofs.YtohpimfanplloaaGreat.CalB Go.Proofs.YtohpimfanplloaaGreat.CalC Go.Proofs.YtohpimfanplloaaGreat.CalD

/-- The first k users' pairs turned. -/
def upto (f : Pr → Pr) (us : Us) (k : Nat) : Us := (us.take k).map (Option.map f) ++ us.drop k
theorem upto_zero (f : Pr → Pr) (us : Us) : upto f us 0 = us := by simp [upto]
theorem upto_all (f : Pr → Pr) (us : Us) : upto f us us.length = us.map (Option.map f) := by simp [upto]
theorem upto_len (f : Pr → Pr) (us : Us) (k : Nat) : (upto f us k).length = us.length := by simp [upto]; omega
theorem upto_get (f : Pr → Pr) (us : Us) (k : Nat) (h : k < us.length) : (upto f us k)[k]? = some us[k] := by
  unfold upto
  rw [List.getElem?_append_right (by simp; omega)]
  simp [Nat.min_eq_left (Nat.le_of_lt h), h]
theorem upto_succ (f : Pr → Pr) (us : Us) (k : Nat) (h : k < us.length) : upto f us (k + 1) = (upto f us k).set k (us[k].map f) := by
  apply List.ext_getElem?
  intro i
  unfold upto
  by_cases hi : i = k
  · subst hi
    rw [List.getElem?_set_self (by simp; omega), List.getElem?_append_left (by simp; omega), List.getElem?_map, List.getElem?_take, if_pos (by omega), List.getElem?_eq_getElem h]
    rfl
  · rw [List.getElem?_set_ne (fun e => hi e.symm)]
    by_cases h1 : i < k
    · rw [List.getElem?_append_left (by simp; omega), List.getElem?_append_left (by simp; omega), List.getElem?_map, List.getElem?_map, List.getElem?_take, List.getElem?_take, if_pos (by omega), if_pos h1]
    · rw [List.getElem?_append_right (by simp; omega), List.getElem?_append_right (by simp; omega), List.getElem?_drop, List.getElem?_drop]
      simp only [List.length_map, List.length_take, Nat.min_eq_left (Nat.le_of_lt h), Nat.min_eq_left (Nat.succ_le_of_lt h)]
      congr 1
      omega
theorem upto_none (f : Pr → Pr) (us : Us) (k : Nat) (h : k < us.length) (hn : us[k] = none) : upto f us (k + 1) = upto f us k := by
  rw [upto_succ f us k h, hn]
  apply List.ext_getElem?
  intro i
  by_cases hi : k = i
  · subst hi
    rw [List.getElem?_set_self (by rw [upto_len]; exact h), upto_get f us k h, hn]
    rfl
  · rw [List.getElem?_set_ne hi]
theorem upto_some (f : Pr → Pr) (us : Us) (k : Nat) (h : k < us.length) {p : Pr} (hn : us[k] = some p) : upto f us (k + 1) = (upto f us k).set k (some (f p)) := by
  rw [upto_succ f us k h, hn]
  rfl
theorem left_small {W w' : World} {own : Nat → Nat} {c ub : Nat} {cells : List Value} {us : Us} (h : LeftC W own c ub cells us w') : us.length ≤ 64 := by
  obtain ⟨o, h1, _⟩ := h
  exact h1.small
def remS (tx : Int) (p : Pr) : Pr := (remove p.1 tx, p.2)
def remR (tx : Int) (p : Pr) : Pr := (p.1, remove p.2 tx)
set_option maxHeartbeats 1000000 in
set_option maxRecDepth 100000 in
theorem remcal_any (own : Nat → Nat) (c ub : Nat) (cells : List Value) (us : Us) (N : Nat) (tx : Int) (W : World) (hC : CalIn W own c ub cells us) (hN : Small us N) (hm : N ≤ 1099511627776) :
    Calls Tryz.prog 19 #[.pointer (some ⟨c, 0, none⟩), .int .i64 tx] W fun e w' => e = .returned (.tuple #[]) ∧ LeftC W own c ub cells (removeC us tx) w' := by
  obtain ⟨x0, x1, x2, x3, x4, x5, hb⟩ := hC.blk
  have c6 : W.cell? ⟨c, 6, none⟩ = some (.slice (some ⟨ub, 0, none⟩) us.length us.length) := blk_cell hb 6
  have hs := hC.small
  have HL0 : Hid (LeftC W own c ub cells (upto (remS tx) us 0) W) := Lib.hid (by rw [upto_zero]; exact LeftC.refl hC)
  have HN := Lib.hid hN
  clear hb hC hN
  go_enter Tryz.func19, Tryz.ntmps19
  go_wp2
  clear c6
  go_loopw [11] (fun i wr => ∃ k : Nat, i = .int .i64 k ∧ k ≤ us.length ∧ Hid (LeftC W own c ub cells (upto (remS tx) us k) wr)) (fun i _ => us.length - (intOf i).toNat)
  case atStart => exact ⟨0, by go_num, Nat.zero_le _, HL0⟩
  case round =>
    clear HL0
    obtain ⟨k, rfl, hk, HA⟩ := hrel
    by_cases hlt : k < us.length
    · obtain ⟨o1, hCr, ho1, hK1⟩ := HA.out
      have hcell := arr_cell hCr.arr k (by rw [hCr.len, upto_len]; exact hlt)
      have he := hCr.each k us[k] (upto_get (remS tx) us k hlt)
      cases hp : us[k] with
      | none =>
        rw [hp] at he
        have hq : cells.getD k undef = .pointer none := he
        rw [hq] at hcell
        have HS : Hid (upto (remS tx) us (k + 1) = upto (remS tx) us k) := Lib.hid (upto_none _ us k hlt hp)
        clear he hp hq hCr ho1 hK1
        go_wp2
        go_roundw
        case measure => simp [intOf]; omega
        case rel => exact ⟨k + 1, by go_num, by omega, by rw [HS.out]; exact HA⟩
      | some p =>
        rw [hp] at he
        obtain ⟨sb, s, r, k1, k2, k3, k4, k5⟩ := he
        rw [k1] at hcell
        have hNp := HN.out p (by rw [← hp]; exact List.getElem_mem hlt)
        have c0 : wr.cell? ⟨sb, 0, none⟩ = some (.pointer (some ⟨s, 0, none⟩)) := blk_cell k2 0
        have HR := Lib.hid (remove_any _ s p.1 tx wr k4 (by omega))
        have HPut := Lib.hid (fun w1 L h3 hk => put_s hCr (by rw [upto_get (remS tx) us k hlt, hp]) k1 k2 k3 k5 (L := L) (W1 := w1) h3 hk)
        have HS : Hid (upto (remS tx) us (k + 1) = (upto (remS tx) us k).set k (some (remS tx p))) := Lib.hid (upto_some _ us k hlt hp)
        have HO1 := Lib.hid ho1
        have HK1 := Lib.hid hK1
        clear hp k1 k2 k3 k4 k5 hCr ho1 hK1
        go_wp2_with fail
        refine HR.out.mono ?_
        rintro e w4 ⟨⟨q, rfl⟩, hs4, hk4⟩
        have HL4 := Lib.hid (LeftC.then_ HO1.out HK1.out (HPut.out w4 _ hs4 hk4))
        clear hs4 hk4
        go_wp2
        go_roundw
        case measure => simp [intOf]; omega
        case rel => exact ⟨k + 1, by go_num, by omega, by rw [HS.out]; exact HL4⟩
    · obtain rfl : k = us.length := by omega
      have HF : Hid (LeftC W own c ub cells (removeC us tx) wr) := Lib.hid (by have := HA.out; rwa [upto_all] at this)
      go_wp2
      go_end0
      exact ⟨rfl, HF.out⟩
set_option maxHeartbeats 1000000 in
set_option maxRecDepth 100000 in
theorem free_any (own : Nat → Nat) (c ub : Nat) (cells : List Value) (us : Us) (N : Nat) (tx : Int) (W : World) (hC : CalIn W own c ub cells us) (hN : Small us N) (hm : N ≤ 1099511627776) :
    Calls Tryz.prog 28 #[.pointer (some ⟨c, 0, none⟩), .int .i64 tx] W fun e w' => e = .returned (.tuple #[]) ∧ LeftC W own c ub cells (free us tx) w' := by
  obtain ⟨x0, x1, x2, x3, x4, x5, hb⟩ := hC.blk
  have c6 : W.cell? ⟨c, 6, none⟩ = some (.slice (some ⟨ub, 0, none⟩) us.length us.length) := blk_cell hb 6
  have hs := hC.small
  have HL0 : Hid (LeftC W own c ub cells (upto (remR tx) us 0) W) := Lib.hid (by rw [upto_zero]; exact LeftC.refl hC)
  have HN := Lib.hid hN
  clear hb hC hN
  go_enter Tryz.func28, Tryz.ntmps28
  go_wp2
  clear c6
  go_loopw [11] (fun i wr => ∃ k : Nat, i = .int .i64 k ∧ k ≤ us.length ∧ Hid (LeftC W own c ub cells (upto (remR tx) us k) wr)) (fun i _ => us.length - (intOf i).toNat)
  case atStart => exact ⟨0, by go_num, Nat.zero_le _, HL0⟩
  case round =>
    clear HL0
    obtain ⟨k, rfl, hk, HA⟩ := hrel
    by_cases hlt : k < us.length
    · obtain ⟨o1, hCr, ho1, hK1⟩ := HA.out
      have hcell := arr_cell hCr.arr k (by rw [hCr.len, upto_len]; exact hlt)
      have he := hCr.each k us[k] (upto_get (remR tx) us k hlt)
      cases hp : us[k] with
      | none =>
        rw [hp] at he
        have hq : cells.getD k undef = .pointer none := he
        rw [hq] at hcell
        have HS : Hid (upto (remR tx) us (k + 1) = upto (remR tx) us k) := Lib.hid (upto_none _ us k hlt hp)
        clear he hp hq hCr ho1 hK1
        go_wp2
        go_roundw
        case measure => simp [intOf]; omega
        case rel => exact ⟨k + 1, by go_num, by omega, by rw [HS.out]; exact HA⟩
      | some p =>
        rw [hp] at he
        obtain ⟨sb, s, r, k1, k2, k3, k4, k5⟩ := he
        rw [k1] at hcell
        have hNp := HN.out p (by rw [← hp]; exact List.getElem_mem hlt)
        have c0 : wr.cell? ⟨sb, 1, none⟩ = some (.pointer (some ⟨r, 0, none⟩)) := blk_cell k2 1
        have HR := Lib.hid (remove_any _ r p.2 tx wr k5 (by omega))
        have HPut := Lib.hid (fun w1 L h3 hk => put_r hCr (by rw [upto_get (remR tx) us k hlt, hp]) k1 k2 k3 k4 (L := L) (W1 := w1) h3 hk)
        have HS : Hid (upto (remR tx) us (k + 1) = (upto (remR tx) us k).set k (some (remR tx p))) := Lib.hid (upto_some _ us k hlt hp)
        have HO1 := Lib.hid ho1
        have HK1 := Lib.hid hK1
        clear hp k1 k2 k3 k4 k5 hCr ho1 hK1
        go_wp2_with fail
        refine HR.out.mono ?_
        rintro e w4 ⟨⟨q, rfl⟩, hs4, hk4⟩
        have HL4 := Lib.hid (LeftC.then_ HO1.out HK1.out (HPut.out w4 _ hs4 hk4))
        clear hs4 hk4
        go_wp2
        go_roundw
        case measure => simp [intOf]; omega
        case rel => exact ⟨k + 1, by go_num, by omega, by rw [HS.out]; exact HL4⟩
    · obtain rfl : k = us.length := by omega
      have HF : Hid (LeftC W own c ub cells (free us tx) wr) := Lib.hid (by have := HA.out; rwa [upto_all] at this)
      go_wp2
      go_end0
      exact ⟨rfl, HF.out⟩
end Go.Proofs.YtohpimfanplloaaGreat.CalE
