/- A calendar's has and Check. -/
import Derived.Test.YtohpimfanplloaaGreatZCalB
import Derived.Test.YtohpimfanplloaaGreatZV
import Derived.WalkKit
import Derived.WalkSpells
import Derived.Lib.Hide
import Derived.Deep.QuietTactic
import Derived.BigQuiet
set_option linter.unusedVariables false
set_option linter.unusedSimpArgs false
namespace Go.Proofs.YtohpimfanplloaaGreat.CalC
open Go.RowKit Go.Proofs.YtohpimfanplloaaGreatW.PrintWords Go.Proofs.YtohpimfanplloaaGreatW.PrintLast Go.Proofs.YtohpimfanplloaaGreatW.PrintMore Go.Proofs.YtohpimfanplloaaGreat.PureI1 Go.Proofs.YtohpimfanplloaaGreat.PureI2 Go.Proofs.YtohpimfanplloaaGreat.IvA Go.Proofs.YtohpimfanplloaaGreat.IvB Go.Proofs.YtohpimfanplloaaGreat.IvC Go.Proofs.YtohpimfanplloaaGreat.IvD Go.Proofs.YtohpimfanplloaaGreat.IvE Go.Proofs.YtohpimfanplloaaGreat.IvG Go.Proofs.YtohpimfanplloaaGreat.IvH Go.Proofs.YtohpimfanplloaaGreat.CalA Go.Proofs.YtohpimfanplloaaGreat.CalB

def HasAt (W : World) (us : Us) (tx : Int) (k : Nat) (wr : World) : Prop := (us.take k).any (hasP tx) = false ∧ Below W.heap.size W wr
theorem any_snoc (us : Us) (tx : Int) (k : Nat) (h : k < us.length) (ha : (us.take k).any (hasP tx) = false) : (us.take (k + 1)).any (hasP tx) = hasP tx us[k] := by
  rw [List.take_succ_eq_append_getElem h, List.any_append, ha]
  simp
theorem any_true (us : Us) (tx : Int) (k : Nat) (h : k < us.length) (hp : hasP tx us[k] = true) : hasC us tx = true := by
  unfold hasC
  rw [List.any_eq_true]
  exact ⟨us[k], List.getElem_mem h, hp⟩
set_option maxHeartbeats 1000000 in
set_option maxRecDepth 100000 in
theorem has_cal (own : Nat → Nat) (c ub : Nat) (cells : List Value) (us : Us) (N : Nat) (tx : Int) (W : World) (hC : CalIn W own c ub cells us) (hN : Small us N) (hm : N ≤ 1099511627776) :
    Calls Tryz.prog 44 #[.pointer (some ⟨c, 0, none⟩), .int .i64 tx] W fun e w' => e = .returned (.bool (hasC us tx)) ∧ Below W.heap.size W w' := by
  obtain ⟨x0, x1, x2, x3, x4, x5, hb⟩ := hC.blk
  have c6 : W.cell? ⟨c, 6, none⟩ = some (.slice (some ⟨ub, 0, none⟩) us.length us.length) := blk_cell hb 6
  have hs := hC.small
  have HC := Lib.hid hC
  have HN := Lib.hid hN
  clear hb hC hN
  go_enter Tryz.func44, Tryz.ntmps44
  go_wp2
  clear c6
  go_loopw [12] (fun i wr => ∃ k : Nat, i = .int .i64 k ∧ k ≤ us.length ∧ Hid (HasAt W us tx k wr)) (fun i _ => us.length - (intOf i).toNat)
  case atStart => exact ⟨0, by go_num, Nat.zero_le _, Lib.hid ⟨rfl, Below.refl _ _⟩⟩
  case round =>
    obtain ⟨k, rfl, hk, HA⟩ := hrel
    by_cases hlt : k < us.length
    · have hCr := HC.out.below HA.out.2
      have hcell := arr_cell hCr.arr k (by rw [hCr.len]; exact hlt)
      have he := hCr.each k us[k] (List.getElem?_eq_getElem hlt)
      have hsn := any_snoc us tx k hlt HA.out.1
      have hat := any_true us tx k hlt
      cases hp : us[k] with
      | none =>
        rw [hp] at he hsn
        have hq : cells.getD k undef = .pointer none := he
        rw [hq] at hcell
        have HSn : Hid ((us.take (k + 1)).any (hasP tx) = false) := hsn
        clear he hsn hat hp hq hCr
        go_wp2
        go_roundw
        case measure => simp [intOf]; omega
        case rel => exact ⟨k + 1, by go_num, by omega, Lib.hid ⟨HSn.out, HA.out.2⟩⟩
      | some p =>
        rw [hp] at he hsn hat
        obtain ⟨sb, s, r, k1, k2, k3, k4, k5⟩ := he
        rw [k1] at hcell
        have hNp := HN.out p (by rw [← hp]; exact List.getElem_mem hlt)
        have c0 : wr.cell? ⟨sb, 0, none⟩ = some (.pointer (some ⟨s, 0, none⟩)) := blk_cell k2 0
        have c1 : wr.cell? ⟨sb, 1, none⟩ = some (.pointer (some ⟨r, 0, none⟩)) := blk_cell k2 1
        have hsb := blk_lt k2
        have H1 := Lib.hid (has_any _ s p.1 tx wr k4 (by omega))
        have H2 := Lib.hid (fun w1 (hb1 : Below wr.heap.size wr w1) => has_any _ r p.2 tx w1 (k5.below hb1) (by omega))
        have HSn := Lib.hid hsn
        have HAt := Lib.hid hat
        clear hsn hat hp k1 k2 k3 k4 k5 hCr
        cases h1 : has p.1 tx with
        | true =>
          rw [h1] at H1
          have HT : Hid (hasC us tx = true) := HAt.out (by simp [hasP, h1])
          clear h1
          go_wp2_with fail
          refine H1.out.mono ?_
          rintro e w1 ⟨rfl, hb1⟩
          have HB := Lib.hid (HA.out.2.trans (hb1.mono HA.out.2.size))
          clear hb1
          go_wp2
          go_ret
          exact ⟨by rw [HT.out]; rfl, HB.out⟩
        | false =>
          rw [h1] at H1
          cases h2 : has p.2 tx with
          | true =>
            rw [h2] at H2
            have HT : Hid (hasC us tx = true) := HAt.out (by simp [hasP, h1, h2])
            clear h1 h2
            go_wp2_with fail
            refine H1.out.mono ?_
            rintro e w1 ⟨rfl, hb1⟩
            have HB := Lib.hid (HA.out.2.trans (hb1.mono HA.out.2.size))
            have H3 := Lib.hid (H2.out w1 hb1)
            replace c0 := (hb1.cell (p := ⟨sb, 0, none⟩) hsb).trans c0
            replace c1 := (hb1.cell (p := ⟨sb, 1, none⟩) hsb).trans c1
            clear hb1
            go_wp2_with fail
            refine H3.out.mono ?_
            rintro e w2 ⟨rfl, hb2⟩
            have HB2 := Lib.hid (HB.out.trans (hb2.mono HB.out.size))
            clear hb2
            go_wp2
            go_ret
            exact ⟨by rw [HT.out]; rfl, HB2.out⟩
          | false =>
            rw [h2] at H2
            have HS2 : Hid ((us.take (k + 1)).any (hasP tx) = false) := Lib.hid (by rw [HSn.out]; simp [hasP, h1, h2])
            clear h1 h2
            go_wp2_with fail
            refine H1.out.mono ?_
            rintro e w1 ⟨rfl, hb1⟩
            have HB := Lib.hid (HA.out.2.trans (hb1.mono HA.out.2.size))
            have H3 := Lib.hid (H2.out w1 hb1)
            replace c0 := (hb1.cell (p := ⟨sb, 0, none⟩) hsb).trans c0
            replace c1 := (hb1.cell (p := ⟨sb, 1, none⟩) hsb).trans c1
            clear hb1
            go_wp2_with fail
            refine H3.out.mono ?_
            rintro e w2 ⟨rfl, hb2⟩
            have HB2 := Lib.hid (HB.out.trans (hb2.mono HB.out.size))
            clear hb2
            go_wp2
            go_roundw
            case measure => simp [intOf]; omega
            case rel => exact ⟨k + 1, by go_num, by omega, Lib.hid ⟨HS2.out, HB2.out⟩⟩
    · obtain rfl : k = us.length := by omega
      have HF : Hid (hasC us tx = false) := by have := HA.out.1; rwa [List.take_length] at this
      go_wp2
      go_ret
      exact ⟨by rw [HF.out]; rfl, HA.out.2⟩

def resC : Option (Tg × Int) → Value
  | some (t, u) => .tuple #[tgV t, .int .i64 u, .bool true]
  | none => .tuple #[tgV ((0, 0), 0), .int .i64 0, .bool false]
def CheckAt (W w0 : World) (us : Us) (n : List Sp) (but : Int) (xs : List Int) (k : Nat) (wr : World) : Prop :=
  checkL us n but (xs.take k) = none ∧ wr.heap[W.heap.size]? = some (.cells #[.int .i64 0, .int .i64 0, .int .i64 0] 46 (0, 0)) ∧ Below w0.heap.size w0 wr
theorem checkL_app (us : Us) (n : List Sp) (but : Int) (ys : List Int) : ∀ (xs : List Int), checkL us n but (xs ++ ys) = match checkL us n but xs with | some r => some r | none => checkL us n but ys := by
  intro xs
  induction xs with
  | nil => rfl
  | cons x xs ih =>
    cases hx : ofU us x with
    | none => simp only [List.cons_append, checkL, hx, ih]
    | some p =>
      cases hc : clash2 p n but with
      | none => simp only [List.cons_append, checkL, hx, hc, ih]
      | some t => simp only [List.cons_append, checkL, hx, hc]
theorem checkL_snoc (us : Us) (n : List Sp) (but : Int) (u : Int) (xs : List Int) (h : checkL us n but xs = none) : checkL us n but (xs ++ [u]) = checkL us n but [u] := by
  rw [checkL_app, h]
theorem checkL_some (us : Us) (n : List Sp) (but : Int) (xs : List Int) (k : Nat) (r : Tg × Int) (h : checkL us n but (xs.take k) = some r) : checkL us n but xs = some r := by
  conv => lhs; rw [← List.take_append_drop k xs]
  rw [checkL_app, h]
theorem checkL_take (us : Us) (n : List Sp) (but : Int) (xs : List Int) (k : Nat) (hk : k < xs.length) (h : checkL us n but (xs.take k) = none) : checkL us n but (xs.take (k + 1)) = checkL us n but [xs.getD k 0] := by
  rw [take_snoc' xs k hk 0]
  exact checkL_snoc us n but _ _ h

theorem checkL_one (us : Us) (n : List Sp) (but u : Int) : checkL us n but [u] = match ofU us u with | none => none | some p => match clash2 p n but with | some t => some (t, u) | none => none := by
  cases hx : ofU us u with
  | none => simp only [checkL, hx]
  | some p =>
    cases hc : clash2 p n but with
    | none => simp only [checkL, hx, hc]
    | some t => simp only [checkL, hx, hc]
set_option maxHeartbeats 2000000 in
set_option maxRecDepth 100000 in
theorem check_any (own : Nat → Nat) (c ub : Nat) (cells : List Value) (us : Us) (N : Nat) (A : Option Addr) (ca : Nat) (users : List Int) (A2 : Option Addr) (c2 : Nat) (l : List Sp) (but : Int) (W : World)
    (hC : CalIn W own c ub cells us) (hN : Small us N) (hm : N ≤ 1099511627776) (hu : Kd.C (Kd.int .i64) W A users.length users) (hca : users.length ≤ ca) (hum : users.length ≤ 1099511627776)
    (hl : Kd.C kSp W A2 l.length l) (hc2 : l.length ≤ c2) (hlm : l.length ≤ 1099511627776) :
    Calls Tryz.prog 18 #[.pointer (some ⟨c, 0, none⟩), .slice A users.length ca, .slice A2 l.length c2, .int .i64 but] W fun e w' => e = .returned (resC (check us users l but)) ∧ Below W.heap.size W w' := by
  have HC := Lib.hid hC
  have HN := Lib.hid hN
  have HU := Lib.hid hu
  have HL := Lib.hid hl
  clear hC hN hu hl
  go_enter Tryz.func18, Tryz.ntmps18
  go_wp2_with fail
  refine (cloneN_any A ca users _ (Kd.C_below HU.out ((Below.refl _ _).alloc (Nat.le_refl _) _)) hca hum).mono ?_
  rintro e w1 ⟨v, rfl, hrow, hb⟩
  have B6 : w1.heap[W.heap.size]? = some (.cells #[.int .i64 0, .int .i64 0, .int .i64 0] 46 (0, 0)) := (hb.block _ (by simp)).trans (newAt W _ _ rfl)
  have HB1 := Lib.hid (((Below.refl W.heap.size W).alloc (Nat.le_refl _) (.cells #[.int .i64 0, .int .i64 0, .int .i64 0] 46)).trans (hb.mono (by simp)))
  have HR1 := Lib.hid hrow
  have HB6 := Lib.hid B6
  clear B6 hb hrow
  go_wp2_with fail
  refine (sortN_any _ v users w1 HR1.out hum).mono ?_
  rintro e w2 ⟨rfl, hrow, hgr⟩
  have hsl : (sortI users).length = users.length := (List.mergeSort_perm _ _).length_eq
  obtain ⟨A1, c1, rfl, hc1, hC1⟩ := rowN_reads hrow (by omega)
  have B6 : w2.heap[W.heap.size]? = some (.cells #[.int .i64 0, .int .i64 0, .int .i64 0] 46 (0, 0)) := (hgr.block _ (blk_lt HB6.out) (fun he => absurd (HR1.out.lt _ he.symm).1 (by simp))).trans HB6.out
  have HB2 := Lib.hid (HB1.out.grown hgr HB1.out.size (fun k hk => by have := (HR1.out.lt k hk).1; simp at this; omega))
  have HC1 := Lib.hid hC1
  have HB62 := Lib.hid B6
  have HCh : Hid (check us users l but = checkL us (norm l) but (sortI users)) := rfl
  clear B6 hrow hgr hC1 HB6 HR1 HB1
  generalize sortI users = xs at *
  go_wp2_with fail
  go_loopw [25] (fun i wr => ∃ k : Nat, i = .int .i64 k ∧ k ≤ xs.length ∧ Hid (CheckAt W w2 us (norm l) but xs k wr)) (fun i _ => xs.length - (intOf i).toNat)
  case atStart => exact ⟨0, by go_num, Nat.zero_le _, Lib.hid ⟨rfl, HB62.out, Below.refl _ _⟩⟩
  case round =>
    obtain ⟨k, rfl, hk, HA⟩ := hrel
    have HBW := Lib.hid (HB2.out.trans (HA.out.2.2.mono HB2.out.size))
    by_cases hlt : k < xs.length
    · obtain ⟨ad, rfl, hx⟩ := Kd.at_int (Kd.C_below HC1.out HA.out.2.2) (k : Int) (by omega) (by omega)
      rw [Int.toNat_natCast] at hx
      have hst := checkL_take us (norm l) but xs k hlt HA.out.1
      rw [checkL_one] at hst
      have hrd : Go.Proofs.YtohpimfanplloaaGreatW.PrintWords.rd xs k = xs.getD k 0 := rfl
      rw [hrd] at hx
      clear hrd
      generalize xs.getD k 0 = u at hx hst
      have HSt := Lib.hid hst
      have hCr := HC.out.below HBW.out
      have HO := Lib.hid (of_u own c ub cells us u wr hCr)
      clear hst
      have r0 : wr.heap[W.heap.size]? = some (.cells #[.int .i64 0, .int .i64 0, .int .i64 0] 46 (0, 0)) := HA.out.2.1
      have hw0 := blk_lt r0
      rcases uptr_cases hCr u with ⟨h1, h2⟩ | ⟨p, n, h0, hn, hp, h1, h2⟩
      · rw [h2] at HO
        have HS2 : Hid (checkL us (norm l) but (xs.take (k + 1)) = none) := Lib.hid (by rw [HSt.out, h1])
        clear h1 h2 hCr r0
        go_wp2_with fail
        refine HO.out.mono ?_
        rintro e w3 ⟨rfl, rfl⟩
        go_wp2
        go_roundw
        case measure => simp [intOf]; omega
        case rel => exact ⟨k + 1, by go_num, by omega, Lib.hid ⟨HS2.out, HA.out.2.1, HA.out.2.2⟩⟩
      · obtain ⟨sb, s, r, k1, k2, k3, k4, k5⟩ := hCr.each n (some p) hp
        rw [h2, k1] at HO
        have hNp := HN.out p (List.mem_of_getElem? hp)
        have d0 : wr.cell? ⟨sb, 0, none⟩ = some (.pointer (some ⟨s, 0, none⟩)) := blk_cell k2 0
        have hsb := blk_lt k2
        have K2 := Lib.hid k2
        have H1 := Lib.hid (clash_any _ s p.1 A2 c2 l but wr k4 (by omega) (Kd.C_below HL.out HBW.out) hc2 hlm)
        have H2 := Lib.hid (fun w1 (hb1 : Below wr.heap.size wr w1) => clash_any _ r p.2 A2 c2 l 0 w1 (k5.below hb1) (by omega) (Kd.C_below HL.out (HBW.out.trans (hb1.mono HBW.out.size))) hc2 hlm)
        have HS1 : Hid (checkL us (norm l) but (xs.take (k + 1)) = match clash2 p (norm l) but with | some t => some (t, u) | none => none) := Lib.hid (by rw [HSt.out, h1])
        clear h1 h2 hCr h0 hp k1 k2 k3 k4 k5 HSt
        cases hq1 : clash p.1 (norm l) but with
        | some t =>
          rw [hq1] at H1
          have HS2 : Hid (check us users l but = some (t, u)) := Lib.hid (by rw [HCh.out]; exact checkL_some us (norm l) but xs (k + 1) (t, u) (by rw [HS1.out]; simp [clash2, hq1]))
          clear hq1
          go_wp2_with fail
          refine HO.out.mono ?_
          rintro e w3 ⟨rfl, rfl⟩
          go_wp2_with fail
          refine H1.out.mono ?_
          rintro e w4 ⟨rfl, hb4⟩
          simp only [resT, tgV]
          have R4 : w4.heap[W.heap.size]? = some (.cells #[.int .i64 0, .int .i64 0, .int .i64 0] 46 (0, 0)) := blk_below r0 hb4
          have HB4 := Lib.hid (HBW.out.trans (hb4.mono HBW.out.size))
          have HR4 := Lib.hid R4
          have q0 : w4.cell? ⟨W.heap.size, 0, none⟩ = some (.int .i64 0) := blk_cell R4 0
          have q1 : w4.cell? ⟨W.heap.size, 1, none⟩ = some (.int .i64 0) := blk_cell R4 1
          have q2 : w4.cell? ⟨W.heap.size, 2, none⟩ = some (.int .i64 0) := blk_cell R4 2
          have f0 := blk_frozen R4 0
          have f1 := blk_frozen R4 1
          have f2 := blk_frozen R4 2
          have hw4 := blk_lt R4
          have hn4 : W.heap.size ≠ w4.heap.size := by omega
          clear R4 hb4 r0
          go_wp2
          exact bodyPost_ret (results_ctt rfl _ _ W.heap.size 46 #[.int .i64 t.1.1, .int .i64 t.1.2, .int .i64 t.2] (0, 0) _ rfl (by exact blk_alloc (blk3 HR4.out _ _ _) _) Tryz.underlying46 rfl size_tg) rfl ⟨by rw [HS2.out]; rfl, (((HB4.out.setCell (Nat.le_refl _) _).setCell (Nat.le_refl _) _).setCell (Nat.le_refl _) _).alloc (by simp [World.setCell]; omega) _⟩
        | none =>
          rw [hq1] at H1
          cases hq2 : clash p.2 (norm l) 0 with
          | some t =>
            rw [hq2] at H2
            have HS2 : Hid (check us users l but = some (t, u)) := Lib.hid (by rw [HCh.out]; exact checkL_some us (norm l) but xs (k + 1) (t, u) (by rw [HS1.out]; simp [clash2, hq1, hq2]))
            clear hq1 hq2
            go_wp2_with fail
            refine HO.out.mono ?_
            rintro e w3 ⟨rfl, rfl⟩
            go_wp2_with fail
            refine H1.out.mono ?_
            rintro e w4 ⟨rfl, hb4⟩
            simp only [resT, tgV]
            have R4 : w4.heap[W.heap.size]? = some (.cells #[.int .i64 0, .int .i64 0, .int .i64 0] 46 (0, 0)) := blk_below r0 hb4
            have HB4 := Lib.hid (HBW.out.trans (hb4.mono HBW.out.size))
            have HR4 := Lib.hid R4
            have K4 := Lib.hid (blk_below K2.out hb4)
            have d1 : w4.cell? ⟨sb, 1, none⟩ = some (.pointer (some ⟨r, 0, none⟩)) := blk_cell K4.out 1
            have hsb4 := blk_lt K4.out
            have hns4 : w4.heap.size ≠ sb := by omega
            have hns5 : sb ≠ w4.heap.size := by omega
            have hw4 := blk_lt R4
            have H3 := Lib.hid (H2.out (w4.alloc (.cells #[.int .i64 0, .int .i64 0, .int .i64 0] 46)) (below_alloc hb4 _))
            clear R4 hb4 r0
            go_wp2_with fail
            refine H3.out.mono ?_
            rintro e w5 ⟨rfl, hb5⟩
            simp only [resT, tgV]
            have R5 : w5.heap[W.heap.size]? = some (.cells #[.int .i64 0, .int .i64 0, .int .i64 0] 46 (0, 0)) := blk_below (blk_alloc HR4.out _) hb5
            have HB5 := Lib.hid ((HB4.out.alloc HB4.out.size (.cells #[.int .i64 0, .int .i64 0, .int .i64 0] 46)).trans (hb5.mono (by simp; have := HB4.out.size; omega)))
            have HR5 := Lib.hid R5
            have q0 : w5.cell? ⟨W.heap.size, 0, none⟩ = some (.int .i64 0) := blk_cell R5 0
            have q1 : w5.cell? ⟨W.heap.size, 1, none⟩ = some (.int .i64 0) := blk_cell R5 1
            have q2 : w5.cell? ⟨W.heap.size, 2, none⟩ = some (.int .i64 0) := blk_cell R5 2
            have f0 := blk_frozen R5 0
            have f1 := blk_frozen R5 1
            have f2 := blk_frozen R5 2
            have hw5 := blk_lt R5
            have hn5 : W.heap.size ≠ w5.heap.size := by omega
            clear R5 hb5
            go_wp2
            exact bodyPost_ret (results_ctt rfl _ _ W.heap.size 46 #[.int .i64 t.1.1, .int .i64 t.1.2, .int .i64 t.2] (0, 0) _ rfl (by exact blk_alloc (blk3 HR5.out _ _ _) _) Tryz.underlying46 rfl size_tg) rfl ⟨by rw [HS2.out]; rfl, (((HB5.out.setCell (Nat.le_refl _) _).setCell (Nat.le_refl _) _).setCell (Nat.le_refl _) _).alloc (by simp [World.setCell]; omega) _⟩
          | none =>
            rw [hq2] at H2
            have HS2 : Hid (checkL us (norm l) but (xs.take (k + 1)) = none) := Lib.hid (by rw [HS1.out]; simp [clash2, hq1, hq2])
            clear hq1 hq2
            go_wp2_with fail
            refine HO.out.mono ?_
            rintro e w3 ⟨rfl, rfl⟩
            go_wp2_with fail
            refine H1.out.mono ?_
            rintro e w4 ⟨rfl, hb4⟩
            simp only [resT, tgV]
            have HB4 := Lib.hid hb4
            have K4 := Lib.hid (blk_below K2.out hb4)
            have d1 : w4.cell? ⟨sb, 1, none⟩ = some (.pointer (some ⟨r, 0, none⟩)) := blk_cell K4.out 1
            have hsb4 := blk_lt K4.out
            have hns4 : w4.heap.size ≠ sb := by omega
            have hns5 : sb ≠ w4.heap.size := by omega
            have H3 := Lib.hid (H2.out (w4.alloc (.cells #[.int .i64 0, .int .i64 0, .int .i64 0] 46)) (below_alloc hb4 _))
            clear hb4
            go_wp2_with fail
            refine H3.out.mono ?_
            rintro e w5 ⟨rfl, hb5⟩
            simp only [resT, tgV]
            have HB5 := Lib.hid (below_alloc ((below_alloc HB4.out (.cells #[.int .i64 0, .int .i64 0, .int .i64 0] 46)).trans (hb5.mono (by simp; have := HB4.out.size; omega))) (.cells #[.int .i64 0, .int .i64 0, .int .i64 0] 46))
            clear hb5
            go_wp2
            go_roundw
            case measure => simp [intOf]; omega
            case rel => exact ⟨k + 1, by go_num, by omega, Lib.hid ⟨HS2.out, blk_below r0 HB5.out, HA.out.2.2.trans (HB5.out.mono HA.out.2.2.size)⟩⟩
    · obtain rfl : k = xs.length := by omega
      have HS2 : Hid (check us users l but = none) := Lib.hid (by rw [HCh.out]; have := HA.out.1; rwa [List.take_length] at this)
      have R4 := HA.out.2.1
      have q0 : wr.cell? ⟨W.heap.size, 0, none⟩ = some (.int .i64 0) := blk_cell R4 0
      have q1 : wr.cell? ⟨W.heap.size, 1, none⟩ = some (.int .i64 0) := blk_cell R4 1
      have q2 : wr.cell? ⟨W.heap.size, 2, none⟩ = some (.int .i64 0) := blk_cell R4 2
      have f0 := blk_frozen R4 0
      have f1 := blk_frozen R4 1
      have f2 := blk_frozen R4 2
      clear R4
      go_wp2
      exact bodyPost_ret (results_ctt rfl _ _ W.heap.size 46 #[.int .i64 0, .int .i64 0, .int .i64 0] (0, 0) _ rfl (by exact blk3 HA.out.2.1 _ _ _) Tryz.underlying46 rfl size_tg) rfl ⟨by rw [HS2.out]; rfl, ((HBW.out.setCell (Nat.le_refl _) _).setCell (Nat.le_refl _) _).setCell (Nat.le_refl _) _⟩
end Go.Proofs.YtohpimfanplloaaGreat.CalC
