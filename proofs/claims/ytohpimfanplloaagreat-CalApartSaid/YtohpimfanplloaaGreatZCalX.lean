/- CalApart's walk: reserved, freed, settled. -/
import Derived.Test.YtohpimfanplloaaGreatZCalW
import Derived.Test.YtohpimfanplloaaGreatZCalV
import Derived.Test.YtohpimfanplloaaGreatZCalP
import Derived.Test.YtohpimfanplloaaGreatZPureL
import Derived.Says
import Derived.Outline
import Derived.WalkKit
import Derived.WalkSpells
import Derived.Lib.Hide
import Derived.Deep.QuietTactic
import Derived.Deep.RegionHeld3
import Derived.BigQuiet
set_option linter.unusedVariables false
set_option linter.unusedSimpArgs false
namespace Go.Proofs.YtohpimfanplloaaGreat.CalX
open Go.RowKit Go.Proofs.YtohpimfanplloaaGreatW.PrintWords Go.Proofs.YtohpimfanplloaaGreatW.PrintLast Go.Proofs.YtohpimfanplloaaGreatW.PrintMore Go.Proofs.YtohpimfanplloaaGreat.GI Go.Proofs.YtohpimfanplloaaGreat.PureI1 Go.Proofs.YtohpimfanplloaaGreat.PureI2 Go.Proofs.YtohpimfanplloaaGreat.PureL Go.Proofs.YtohpimfanplloaaGreat.IvA Go.Proofs.YtohpimfanplloaaGreat.IvB Go.Proofs.YtohpimfanplloaaGreat.IvC Go.Proofs.YtohpimfanplloaaGreat.IvG Go.Proofs.YtohpimfanplloaaGreat.CalA Go.Proofs.YtohpimfanplloaaGreat.CalB Go.Proofs.YtohpimfanplloaaGreat.CalC Go.Proofs.YtohpimfanplloaaGreat.CalD Go.Proofs.YtohpimfanplloaaGreat.CalE Go.Proofs.YtohpimfanplloaaGreat.CalF Go.Proofs.YtohpimfanplloaaGreat.CalG Go.Proofs.YtohpimfanplloaaGreat.CalH Go.Proofs.YtohpimfanplloaaGreat.CalI Go.Proofs.YtohpimfanplloaaGreat.CalJ Go.Proofs.YtohpimfanplloaaGreat.CalK Go.Proofs.YtohpimfanplloaaGreat.CalM Go.Proofs.YtohpimfanplloaaGreat.CalP Go.Proofs.YtohpimfanplloaaGreat.CalQ Go.Proofs.YtohpimfanplloaaGreat.CalO Go.Proofs.YtohpimfanplloaaGreat.CalU Go.Proofs.YtohpimfanplloaaGreat.CalV Go.Proofs.YtohpimfanplloaaGreat.CalW
theorem home_in {n m i : Int} (hn : 1 ≤ n) (h0 : 0 ≤ i) (h1 : i < m) : 0 ≤ homeF n m i ∧ homeF n m i < n := by
  unfold homeF
  rw [if_neg (by omega), if_neg (by omega), if_neg (by omega)]
  exact ⟨Int.emod_nonneg _ (by omega), Int.emod_lt_of_pos _ (by omega)⟩
theorem of_all (n node u : Int) (m : Nat) (hm : m ≤ 64) : ofU (newAll n node m) u = if 0 ≤ u ∧ u < m ∧ homeF n m u = node then some ([], []) else none := by
  unfold ofU newAll
  by_cases h0 : u < 0
  · rw [if_pos h0, if_neg (by omega)]
  · rw [if_neg h0]
    by_cases h1 : u.toNat < m
    · rw [newK_get _ _ _ _ _ _ h1, if_pos h1]
      have hu : ((u.toNat : Nat) : Int) = u := by omega
      show newP n m node u.toNat = _
      unfold newP
      rw [hu]
      by_cases h2 : homeF n m u = node
      · rw [if_pos h2, if_pos ⟨by omega, by omega, h2⟩]
      · rw [if_neg h2, if_neg (fun h => h2 h.2.2)]
    · have hl : (newK n m node m m).length = m := newK_len _ _ _ _ _
      rw [List.getElem?_eq_none (by omega), if_neg (by omega)]
      rfl
theorem small_all (n node : Int) (m : Nat) : Small (newAll n node m) 0 := fun p hp => by
  obtain ⟨i, hi⟩ := List.getElem?_of_mem hp
  have hl : i < m := by have := (List.getElem?_eq_some_iff.1 hi).1; rwa [show (newAll n node m).length = m from newK_len _ _ _ _ _] at this
  rw [show (newAll n node m)[i]? = _ from newK_get _ _ _ _ _ _ hl, if_pos hl] at hi
  unfold newP at hi
  split at hi
  · simp at hi; subst hi; simp
  · simp at hi
/-- Behind k calls. -/
def RunAt (w0 : World) (cb ub : Nat) (cells : List Value) (s : List Bool) (k : Nat) (wr : World) : Prop := ∃ us, CF w0 us cb ub cells wr ∧ Small us (k * 1000000) ∧ sh us = s
theorem mono_run {us : Us} {k : Nat} (h : Small us (k * 1000000)) : Small us ((k + 1) * 1000000) := Small_mono h (by omega)
def last (us : Us) (tx : Int) (users : List Int) (spans : List Sp) : Us := PureI2.settle (reserve us tx users spans 0) tx
theorem own_final {us : Us} {tx : Int} {users : List Int} {spans : List Sp} {n node : Int} {M k : Nat} (h : mayRes us tx users spans 0 = true) (hsh : sh us = sh (newAll n node M)) (hM : M ≤ 64) (hk : k < M) :
    decide (tx ∈ ownS (last us tx users spans) k) = (decide ((k : Int) ∈ users) && ((homeF n M k == node) && decide (0 < (norm spans).length))) ∧ decide (tx ∈ ownR (last us tx users spans) k) = false := by
  have h1 := sh_ofU hsh (k : Int)
  have h2 : sh (last us tx users spans) = sh us := by unfold last; rw [sh_settle, sh_reserve]
  rw [of_all n node k M hM] at h1
  have h3 := sh_ofU h2 (k : Int)
  cases hp : ofU us (k : Int) with
  | none =>
    rw [hp] at h1 h3
    have h4 : ofU (last us tx users spans) (k : Int) = none := by cases hq : ofU (last us tx users spans) (k : Int) with | none => rfl | some _ => rw [hq] at h3; cases h3
    have h5 : (homeF n M k == node) = false := by
      cases hb : (homeF n M k == node) with
      | false => rfl
      | true => rw [if_pos ⟨by omega, by omega, by simpa using hb⟩] at h1; cases h1
    unfold ownS ownR
    rw [h4, h5]
    simp
  | some p =>
    rw [hp] at h1
    have h5 : (homeF n M k == node) = true := by
      by_cases hb : homeF n M k = node
      · simp [hb]
      · rw [if_neg (fun h => hb h.2.2)] at h1; cases h1
    obtain ⟨q, h6, h7, h8⟩ := settled_at h hp
    have h9 : ofU (last us tx users spans) (k : Int) = some q := h6
    unfold ownS ownR
    rw [h9, h5]
    refine ⟨?_, ?_⟩
    · rw [Bool.true_and, ← h8]
      cases hh : has q.1 tx with
      | true => exact decide_eq_true ((mem_owners _ _).2 hh)
      | false => exact decide_eq_false (fun hm => by rw [(mem_owners _ _).1 hm] at hh; cases hh)
    · exact decide_eq_false (fun hm => by rw [(mem_owners _ _).1 hm] at h7; cases h7)
set_option maxHeartbeats 8000000 in
set_option maxRecDepth 100000 in
theorem walk (n m lo hi node : Int) (A : Option Addr) (c : Nat) (l : List S75) (AO : Option Addr) (cO : Nat) (ops : List S61) (tx : Int) (AU : Option Addr) (cU : Nat) (users : List Int) (AS : Option Addr) (cS : Nat) (spans : List Sp) (w : World)
    (hr : Kd.C k75 w A l.length l) (hc : l.length ≤ c) (hrO : Kd.C k61 w AO ops.length ops) (hcO : ops.length ≤ cO) (hrU : Kd.C (Kd.int .i64) w AU users.length users) (hcU : users.length ≤ cU) (hrS : Kd.C kSp w AS spans.length spans) (hcS : spans.length ≤ cS) :
    Calls Tryz.prog 7 #[.agg #[.int .i64 n, .int .i64 m, .slice A l.length c, .int .i64 lo, .int .i64 hi], .int .i64 node, .slice AO ops.length cO, .int .i64 tx, .slice AU users.length cU, .slice AS spans.length cS] w (fun e w' => e = .returned (.bool true) ∧ Below w.heap.size w w') := by
  have HR := Lib.hid hr
  have HRO := Lib.hid hrO
  have HRU := Lib.hid hrU
  have HRS := Lib.hid hrS
  clear hr hrO hrU hrS
  obtain ⟨few, hfew, hz⟩ := few_tot l
  obtain ⟨kf, fewO, hfo, hzo⟩ := few_any ops
  have HFew := Lib.hid hfew
  have HFo := Lib.hid hfo
  clear hfew hfo
  go_enter Tryz.func7, Tryz.ntmps7
  go_wp2_with fail
  refine (first_any _).mono ?_
  rintro e w1 ⟨rfl, hb⟩
  have HBx := Lib.hid ((hb.block _ (by simp)).trans (newAt w (.cells #[.int .i64 n, .int .i64 m, .slice A l.length c, .int .i64 lo, .int .i64 hi] 24) _ rfl))
  have HB := Lib.hid (((Below.refl w.heap.size w).alloc (Nat.le_refl _) (.cells #[.int .i64 n, .int .i64 m, .slice A l.length c, .int .i64 lo, .int .i64 hi] 24)).trans (hb.mono (by simp)))
  clear hb
  have c0 : w1.cell? ⟨w.heap.size, 0, none⟩ = some (.int .i64 n) := blk_cell HBx.out 0
  have c1 : w1.cell? ⟨w.heap.size, 1, none⟩ = some (.int .i64 m) := blk_cell HBx.out 1
  have c2 : w1.cell? ⟨w.heap.size, 2, none⟩ = some (.slice A l.length c) := blk_cell HBx.out 2
  have c3 : w1.cell? ⟨w.heap.size, 3, none⟩ = some (.int .i64 lo) := blk_cell HBx.out 3
  have c4 : w1.cell? ⟨w.heap.size, 4, none⟩ = some (.int .i64 hi) := blk_cell HBx.out 4
  go_wp2_with fail
  refine (voklaw9_FewZones.calls 62 A c l few _ (Kd.C_below HR.out HB.out) hc HFew.out).mono ?_
  rintro e w2 ⟨rfl, hb2⟩
  have HB2 := Lib.hid (HB.out.trans (hb2.mono HB.out.size))
  have HBx2 := Lib.hid (blk_below HBx.out hb2)
  have d0 : w2.cell? ⟨w.heap.size, 0, none⟩ = some (.int .i64 n) := blk_cell HBx2.out 0
  have d1 : w2.cell? ⟨w.heap.size, 1, none⟩ = some (.int .i64 m) := blk_cell HBx2.out 1
  have d2 : w2.cell? ⟨w.heap.size, 2, none⟩ = some (.slice A l.length c) := blk_cell HBx2.out 2
  have d3 : w2.cell? ⟨w.heap.size, 3, none⟩ = some (.int .i64 lo) := blk_cell HBx2.out 3
  have d4 : w2.cell? ⟨w.heap.size, 4, none⟩ = some (.int .i64 hi) := blk_cell HBx2.out 4
  clear c0 c1 c2 c3 c4 hb2 HB HBx
  cases few with
  | false =>
    clear hz hzo
    go_wp2_with fail
    refine (first_any _).mono ?_
    rintro e w3 ⟨rfl, hb⟩
    have HBZ := Lib.hid (HB2.out.trans (hb.mono HB2.out.size))
    clear hb
    go_wp2
    go_ret
    exact ⟨rfl, HBZ.out⟩
  | true =>
    obtain ⟨hl30, hz⟩ := hz rfl
    have HZ := Lib.hid hz
    clear hz
    go_wp2_with fail
    refine (voklaw17_few.calls kf AO cO ops fewO _ (Kd.C_below HRO.out HB2.out) hcO HFo.out).mono ?_
    rintro e w3 ⟨rfl, hb3⟩
    have HB3 := Lib.hid (HB2.out.trans (hb3.mono HB2.out.size))
    have HBx3 := Lib.hid (blk_below HBx2.out hb3)
    have c0 : w3.cell? ⟨w.heap.size, 0, none⟩ = some (.int .i64 n) := blk_cell HBx3.out 0
    have c1 : w3.cell? ⟨w.heap.size, 1, none⟩ = some (.int .i64 m) := blk_cell HBx3.out 1
    have c2 : w3.cell? ⟨w.heap.size, 2, none⟩ = some (.slice A l.length c) := blk_cell HBx3.out 2
    have c3 : w3.cell? ⟨w.heap.size, 3, none⟩ = some (.int .i64 lo) := blk_cell HBx3.out 3
    have c4 : w3.cell? ⟨w.heap.size, 4, none⟩ = some (.int .i64 hi) := blk_cell HBx3.out 4
    clear d0 d1 d2 d3 d4 hb3 HB2 HBx2
    cases fewO with
    | false =>
      clear hzo
      go_wp2_with fail
      refine (first_any _).mono ?_
      rintro e w4 ⟨rfl, hb⟩
      have HBZ := Lib.hid (HB3.out.trans (hb.mono HB3.out.size))
      clear hb
      go_wp2
      go_ret
      exact ⟨rfl, HBZ.out⟩
    | true =>
      have HFO := Lib.hid (hzo rfl)
      have hops : ops.length ≤ 100 := HFO.out.1
      clear hzo
      by_cases hU : users.length ≤ 100
      · have hU2 : decide ((100 : Int) < (users.length : Int)) = false := decide_eq_false (by omega)
        by_cases hS : spans.length ≤ 100
        · have hS2 : decide ((100 : Int) < (spans.length : Int)) = false := decide_eq_false (by omega)
          obtain ⟨mb, hmb⟩ := may_tot n m l lo hi hl30 (fun z hm => (HZ.out z hm).1)
          have HM := Lib.hid hmb
          clear hmb
          by_cases hgo : mb = true ∧ 0 ≤ node ∧ node < n
          · obtain ⟨rfl, hn0, hn1⟩ := hgo
            obtain ⟨b1, b2, b3, b4, b5, b6⟩ := may_bounds HM.out
            obtain ⟨M, rfl⟩ : ∃ M : Nat, m = M := ⟨m.toNat, by omega⟩
            have HN := Lib.hid (new_yes _ n M A c l lo hi node w3 (Kd.C_below HR.out HB3.out) hc (by omega) (fun z hm => ⟨by have := (HZ.out z hm).1; omega, by have := (HZ.out z hm).2; omega⟩) HM.out hn0 hn1)
            go_wp2_with fail
            refine HN.out.mono ?_
            rintro e w4 ⟨own, cb, ub, cells, rfl, hC, hown, hb4⟩
            have HRun : Hid (RunAt w3 cb ub cells (sh (newAll n node M)) 0 w4) := Lib.hid ⟨_, ⟨own, hC, hown, hb4⟩, by simpa using small_all n node M, rfl⟩
            have HRO3 := Lib.hid (Kd.C_below HRO.out HB3.out)
            have HRU3 := Lib.hid (Kd.C_below HRU.out HB3.out)
            have HRS3 := Lib.hid (Kd.C_below HRS.out HB3.out)
            have hmn : M ≤ 64 := by omega
            clear hC hown hb4 HN c0 c1 c2 c3 c4 b4 b5 b6 HRO HRU HRS
            go_wp2_with fail
            go_loopw [15] (fun i wr => ∃ k : Nat, i = .int .i64 k ∧ k ≤ ops.length ∧ Hid (RunAt w3 cb ub cells (sh (newAll n node M)) k wr)) (fun i _ => ops.length - (intOf i).toNat)
            case atStart => exact ⟨0, rfl, Nat.zero_le _, HRun⟩
            case round =>
              clear HRun
              obtain ⟨k, rfl, hk, HA⟩ := hrel
              obtain ⟨us, hCF, hSm, hsh⟩ := HA.out
              have HCF := Lib.hid hCF
              have HSm := Lib.hid hSm
              have HSh := Lib.hid hsh
              have HBr := Lib.hid (CF.base hCF)
              clear hCF hSm hsh HA
              by_cases hlt : k < ops.length
              · obtain ⟨ad, A3, c3, A4, c4, rfl, p0, p1, p2, p3, p4, l3, g3, l4, g4⟩ := at_T61 HRO3.out (k : Int) (by omega) (by omega)
                rw [Int.toNat_natCast] at p0 p1 p2 p3 p4
                have hfw := HFO.out.2 (rd_T61 ops k) (by unfold rd_T61; rw [Int.toNat_natCast, List.getD_eq_getElem?_getD, List.getElem?_eq_getElem hlt]; exact List.getElem_mem hlt)
                obtain ⟨hf3, hf4⟩ := hfw
                generalize rd_T61 ops k = x at *
                have hlt0 := World.block_lt_of_cell? w3 _ p0
                have q0 : wr.cell? (ad.add (k * 5)) = some (.int .i64 x.f0) := (HBr.out.cell (p := (ad.add (k * 5))) hlt0).trans p0
                have q1 : wr.cell? ⟨(ad.add (k * 5)).block, (ad.add (k * 5)).off + 1, none⟩ = some (.int .i64 x.f1) := (HBr.out.cell (p := ⟨(ad.add (k * 5)).block, (ad.add (k * 5)).off + 1, none⟩) hlt0).trans p1
                have q3 : wr.cell? ⟨(ad.add (k * 5)).block, (ad.add (k * 5)).off + 3, none⟩ = some (.slice A3 x.f3.length c3) := (HBr.out.cell (p := ⟨(ad.add (k * 5)).block, (ad.add (k * 5)).off + 3, none⟩) hlt0).trans p3
                have q4 : wr.cell? ⟨(ad.add (k * 5)).block, (ad.add (k * 5)).off + 4, none⟩ = some (.slice A4 x.f4.length c4) := (HBr.out.cell (p := ⟨(ad.add (k * 5)).block, (ad.add (k * 5)).off + 4, none⟩) hlt0).trans p4
                have HP1 := Lib.hid p1
                have HP3 := Lib.hid p3
                have HP4 := Lib.hid p4
                have HRes : Hid (Calls Tryz.prog 15 #[.pointer (some ⟨cb, 0, none⟩), .int .i64 x.f1, .slice A3 x.f3.length c3, .slice A4 x.f4.length c4, .int .i64 0] wr.drew fun e w' => (∃ b, e = .returned (.bool b)) ∧ CF w3 (reserve us x.f1 x.f3 (x.f4.map fun y => (y.f0, y.f1)) 0) cb ub cells w') := Lib.hid (by
                  have h9 := one_reserve w3 wr.drew us cb ub cells (k * 1000000) x.f1 A3 c3 x.f3 A4 c4 (x.f4.map fun y => (y.f0, y.f1)) 0 (HCF.out.below (below_drew (Below.refl _ _))) HSm.out (by omega) hf3 (by rw [List.length_map]; exact hf4) g3 l3 (by rw [List.length_map]; exact C_fr42 g4) (by rw [List.length_map]; exact l4)
                  rw [List.length_map] at h9
                  exact h9.mono fun e w' ⟨he, hc⟩ => ⟨⟨_, he⟩, hc⟩)
                have hmul : x.f3.length * x.f4.length ≤ 1000 * 1000 := Nat.mul_le_mul hf3 hf4
                have HSR : Hid (Small (reserve us x.f1 x.f3 (x.f4.map fun y => (y.f0, y.f1)) 0) ((k + 1) * 1000000)) := Lib.hid (Small_mono (Small_reserve HSm.out _ _ _ _) (by rw [List.length_map]; omega))
                clear p0 p1 p2 p3 p4 g3 g4 hmul
                by_cases h0 : x.f0 = 0
                · have d0 : (x.f0 == 0) = true := by simp [h0]
                  clear h0
                  go_wp2_with fail
                  go_region_held3 (fun w' => w'.cell? ⟨(ad.add (k * 5)).block, (ad.add (k * 5)).off + 1, none⟩ = some (.int .i64 x.f1) ∧ w'.cell? ⟨(ad.add (k * 5)).block, (ad.add (k * 5)).off + 3, none⟩ = some (.slice A3 x.f3.length c3) ∧ w'.cell? ⟨(ad.add (k * 5)).block, (ad.add (k * 5)).off + 4, none⟩ = some (.slice A4 x.f4.length c4))
                    (((try dsimp only); (repeat' apply And.intro) <;> first | (with_reducible assumption) | go_keep))
                    ((go_at_call 15; (with_reducible refine HRes.out.mono ?_); rintro e w5 ⟨⟨b9, rfl⟩, hCF5⟩; (have hb5 := CF.base hCF5); (have r1 := (hb5.cell (p := ⟨(ad.add (k * 5)).block, (ad.add (k * 5)).off + 1, none⟩) hlt0).trans HP1.out); (have r3 := (hb5.cell (p := ⟨(ad.add (k * 5)).block, (ad.add (k * 5)).off + 3, none⟩) hlt0).trans HP3.out); (have r4 := (hb5.cell (p := ⟨(ad.add (k * 5)).block, (ad.add (k * 5)).off + 4, none⟩) hlt0).trans HP4.out)))
                  all_goals
                    have HF : Hid (RunAt w3 cb ub cells (sh (newAll n node M)) (k + 1) w5) := Lib.hid ⟨_, hCF5, HSR.out, by rw [sh_reserve]; exact HSh.out⟩
                    clear hCF5 hb5
                    go_wp2_with fail
                    go_roundw
                    case measure => simp [intOf]; omega
                    case rel => exact ⟨k + 1, by go_num, by omega, HF⟩
                · have d0 : (x.f0 == 0) = false := by simp [h0]
                  by_cases h1 : x.f0 = 1
                  · have d1 : (x.f0 == 1) = true := by simp [h1]
                    clear h0 h1 HRes HSR
                    go_wp2_with fail
                    refine (settle_arg w3 wr us cb ub cells (k * 1000000) x.f1 HCF.out HSm.out (by omega)).mono ?_
                    rintro e w5 ⟨rfl, hCF5⟩
                    have HF : Hid (RunAt w3 cb ub cells (sh (newAll n node M)) (k + 1) w5) := Lib.hid ⟨_, hCF5, mono_run (Small_settle HSm.out _), by rw [sh_settle]; exact HSh.out⟩
                    clear hCF5
                    go_wp2_with fail
                    go_roundw
                    case measure => simp [intOf]; omega
                    case rel => exact ⟨k + 1, by go_num, by omega, HF⟩
                  · have d1 : (x.f0 == 1) = false := by simp [h1]
                    by_cases h2 : x.f0 = 2
                    · have d2 : (x.f0 == 2) = true := by simp [h2]
                      clear h0 h1 h2 HRes HSR
                      go_wp2_with fail
                      refine (free_arg w3 wr us cb ub cells (k * 1000000) x.f1 HCF.out HSm.out (by omega)).mono ?_
                      rintro e w5 ⟨rfl, hCF5⟩
                      have HF : Hid (RunAt w3 cb ub cells (sh (newAll n node M)) (k + 1) w5) := Lib.hid ⟨_, hCF5, mono_run (Small_free HSm.out _), by rw [sh_free]; exact HSh.out⟩
                      clear hCF5
                      go_wp2_with fail
                      go_roundw
                      case measure => simp [intOf]; omega
                      case rel => exact ⟨k + 1, by go_num, by omega, HF⟩
                    · have d2 : (x.f0 == 2) = false := by simp [h2]
                      by_cases h3 : x.f0 = 3
                      · have d3 : (x.f0 == 3) = true := by simp [h3]
                        clear h0 h1 h2 h3 HRes HSR
                        go_wp2_with fail
                        refine (rem_arg w3 wr us cb ub cells (k * 1000000) x.f1 HCF.out HSm.out (by omega)).mono ?_
                        rintro e w5 ⟨rfl, hCF5⟩
                        have HF : Hid (RunAt w3 cb ub cells (sh (newAll n node M)) (k + 1) w5) := Lib.hid ⟨_, hCF5, mono_run (Small_removeC HSm.out _), by rw [sh_remove]; exact HSh.out⟩
                        clear hCF5
                        go_wp2_with fail
                        go_roundw
                        case measure => simp [intOf]; omega
                        case rel => exact ⟨k + 1, by go_num, by omega, HF⟩
                      · have d3 : (x.f0 == 3) = false := by simp [h3]
                        have HF : Hid (RunAt w3 cb ub cells (sh (newAll n node M)) (k + 1) wr) := Lib.hid ⟨us, HCF.out, mono_run HSm.out, HSh.out⟩
                        clear h0 h1 h2 h3 HRes HSR
                        go_wp2_with fail
                        go_roundw
                        case measure => simp [intOf]; omega
                        case rel => exact ⟨k + 1, by go_num, by omega, HF⟩
              · obtain rfl : k = ops.length := by omega
                have hN9 : ops.length * 1000000 ≤ 100000000 := by omega
                generalize ops.length * 1000000 = N at hN9 HSm
                have HI := Lib.hid (CF.inv HCF.out)
                go_wp2_with fail
                refine (two_copy w3 wr us cb ub cells N HCF.out HSm.out (by omega)).mono ?_
                rintro e w5 ⟨⟨us2, dc, dub, dcells⟩, rfl, hdu, hT⟩
                have hdu' : us2 = us := hdu
                clear hdu
                subst us2
                have HT5 := Lib.hid hT
                clear hT HCF HBr
                go_wp2_with fail
                refine (check_arg w3 w5 us cb ub cells N AU AS cU cS users spans 0 HT5.out.cf HSm.out (by omega) (by omega) (by omega) (Kd.C_below HRU3.out HT5.out.base) hcU (Kd.C_below HRS3.out HT5.out.base) hcS).mono ?_
                rintro e w6 ⟨⟨t, u9, he⟩, hb6, _⟩
                have HT6 := Lib.hid (HT5.out.below hb6)
                clear hb6 HT5
                have hmul : users.length * spans.length ≤ 100 * 100 := Nat.mul_le_mul hU hS
                cases hok : mayRes us tx users spans 0 with
                | true =>
                  have HTook := Lib.hid (took hok)
                  have hck : (check us users spans 0).isSome = false := by
                    unfold mayRes at hok
                    simp only [Bool.and_eq_true] at hok
                    cases hc : check us users spans 0 with
                    | none => rfl
                    | some _ => rw [hc] at hok; simp at hok
                  rw [hck] at he
                  subst he
                  have HOk := Lib.hid hok
                  have dtx : decide (tx < 1) = false := decide_eq_false (by have := HTook.out.pos; omega)
                  clear hok hck
                  simp only [tgV]
                  go_wp2_with fail
                  refine (two_reserve w3 _ ⟨us, cb, ub, cells⟩ ⟨us, dc, dub, dcells⟩ N tx AU cU users AS cS spans 0 (HT6.out.below (below_alloc (Below.refl _ _) _)) HSm.out (by omega) (by omega) (by omega) HRU3.out hcU HRS3.out hcS).mono ?_
                  rintro e w7 ⟨he, hT7⟩
                  have he2 : e = .returned (.bool true) := by rw [he, show mayRes us tx users spans 0 = true from HOk.out]
                  clear he
                  subst he2
                  have HT7 := Lib.hid hT7
                  have HS7 : Hid (Small (reserve us tx users spans 0) (N + users.length * spans.length)) := Lib.hid (Small_reserve HSm.out _ _ _ _)
                  clear hT7 HT6
                  go_wp2_with fail
                  refine (two_free w3 w7 ⟨reserve us tx users spans 0, cb, ub, cells⟩ ⟨us, dc, dub, dcells⟩ (N + users.length * spans.length) tx HT7.out HS7.out (by omega)).mono ?_
                  rintro e w8 ⟨rfl, hT8⟩
                  have hT8' : Two w3 w8 ⟨us, cb, ub, cells⟩ ⟨us, dc, dub, dcells⟩ := by
                    have hT9 : Two w3 w8 ⟨PureI2.free (reserve us tx users spans 0) tx, cb, ub, cells⟩ ⟨us, dc, dub, dcells⟩ := hT8
                    rw [freed HI.out HOk.out] at hT9
                    exact hT9
                  have HT8 := Lib.hid hT8'
                  clear hT8 hT8' HT7
                  go_wp2_with fail
                  go_loopw [21] (fun i wr => ∃ k : Nat, i = .int .i64 k ∧ k ≤ M ∧ Hid (Two w3 wr ⟨us, cb, ub, cells⟩ ⟨us, dc, dub, dcells⟩)) (fun i _ => M - (intOf i).toNat)
                  case atStart => exact ⟨0, rfl, Nat.zero_le _, HT8⟩
                  case round =>
                    clear HT8
                    obtain ⟨k, rfl, hk, HA⟩ := hrel
                    have hbx := blk_below HBx3.out HA.out.base
                    have c1 : wr.cell? ⟨w.heap.size, 1, none⟩ = some (.int .i64 (M : Nat)) := blk_cell hbx 1
                    clear hbx
                    by_cases hlt : k < M
                    · have hLb := busyL_le HSm.out (k : Int) 0 100
                      have hRb := ownR_le HSm.out (k : Int)
                      have HB1 := Lib.hid (fun W (h : Two w3 W ⟨us, cb, ub, cells⟩ ⟨us, dc, dub, dcells⟩) => busy_sl w3 W us cb ub cells N (k : Int) 0 100 h.cf HSm.out (by omega))
                      have HB2 := Lib.hid (fun W (h : Two w3 W ⟨us, cb, ub, cells⟩ ⟨us, dc, dub, dcells⟩) => busy_sl w3 W us dc dub dcells N (k : Int) 0 100 h.swap.cf HSm.out (by omega))
                      have HO1 := Lib.hid (fun W (h : Two w3 W ⟨us, cb, ub, cells⟩ ⟨us, dc, dub, dcells⟩) => own_sl w3 W us cb ub cells N (k : Int) h.cf HSm.out (by omega))
                      have HO2 := Lib.hid (fun W (h : Two w3 W ⟨us, cb, ub, cells⟩ ⟨us, dc, dub, dcells⟩) => own_sl w3 W us dc dub dcells N (k : Int) h.swap.cf HSm.out (by omega))
                      generalize busyL us (k : Int) 0 100 = L at *
                      generalize ownS us (k : Int) = S at *
                      generalize ownR us (k : Int) = R at *
                      go_wp2_with fail
                      refine (HB1.out _ HA.out).mono ?_
                      rintro e wa ⟨Aa, ca, ea, rfl, hca, hCa, hba⟩
                      have HTa := Lib.hid (HA.out.below hba)
                      have HCa := Lib.hid hCa
                      clear hba hCa HB1 c1
                      go_wp2_with fail
                      refine (HB2.out _ HTa.out).mono ?_
                      rintro e wb ⟨Ab, cb9, eb, rfl, hcb, hCb, hbb⟩
                      have HTb := Lib.hid (HTa.out.below hbb)
                      have HCa2 := Lib.hid (Kd.C_below HCa.out hbb)
                      have HCb := Lib.hid hCb
                      clear hbb hCb HB2 HCa HTa
                      go_wp2_with fail
                      refine (HO1.out _ HTb.out).mono ?_
                      rintro e wc ⟨A5, c5, A6, c6, rfl, hc5, hc6, hC5, hC6, hbc⟩
                      have HTc := Lib.hid (HTb.out.below hbc)
                      have HCa3 := Lib.hid (Kd.C_below HCa2.out hbc)
                      have HCb3 := Lib.hid (Kd.C_below HCb.out hbc)
                      have HC6 := Lib.hid hC6
                      clear hbc hC5 hC6 HO1 HCa2 HCb HTb hc5
                      go_wp2_with fail
                      refine (HO2.out _ HTc.out).mono ?_
                      rintro e wd ⟨A7, c7, A8, c8, rfl, hc7, hc8, hC7, hC8, hbd⟩
                      have HTd := Lib.hid (HTc.out.below hbd)
                      have HSp := Lib.hid (spans_eqq L Aa Ab ca cb9 wd (Kd.C_below HCa3.out hbd) hca (Kd.C_below HCb3.out hbd) hcb (by omega))
                      have HC68 := Lib.hid (Kd.C_below HC6.out hbd)
                      have HC8 := Lib.hid hC8
                      clear hbd hC7 hC8 HO2 HCa3 HCb3 HTc hc7 HC6
                      go_wp2_with fail
                      refine HSp.out.mono ?_
                      rintro e we ⟨rfl, hbe⟩
                      have HTe := Lib.hid (HTd.out.below hbe)
                      have HIn := Lib.hid (ints_eqq R A6 A8 c6 c8 we (Kd.C_below HC68.out hbe) hc6 (Kd.C_below HC8.out hbe) hc8 (by omega))
                      clear hbe HC68 HC8 HTd HSp
                      go_wp2_with fail
                      refine HIn.out.mono ?_
                      rintro e wf ⟨rfl, hbf⟩
                      have HTf := Lib.hid (HTe.out.below hbf)
                      clear hbf HTe HIn
                      go_wp2_with fail
                      go_roundw
                      case measure => simp [intOf]; omega
                      case rel => exact ⟨k + 1, by go_num, by omega, HTf⟩
                    · obtain rfl : M = k := by omega
                      go_wp2_with fail
                      refine (two_reserve w3 wr ⟨us, dc, dub, dcells⟩ ⟨us, cb, ub, cells⟩ N tx AU cU users AS cS spans 0 HA.out.swap HSm.out (by omega) (by omega) (by omega) HRU3.out hcU HRS3.out hcS).mono ?_
                      rintro e wa ⟨he, hTa⟩
                      have he2 : e = .returned (.bool true) := by rw [he, show mayRes us tx users spans 0 = true from HOk.out]
                      clear he
                      subst he2
                      have HTa := Lib.hid hTa
                      clear hTa HA c1
                      go_wp2_with fail
                      refine (two_settle w3 wa ⟨reserve us tx users spans 0, dc, dub, dcells⟩ ⟨us, cb, ub, cells⟩ (N + users.length * spans.length) tx HTa.out HS7.out (by omega)).mono ?_
                      rintro e wb ⟨rfl, hTb⟩
                      have hCb : CF w3 (last us tx users spans) dc dub dcells wb := hTb.cf
                      have HCb := Lib.hid hCb
                      have HSl : Hid (Small (last us tx users spans) (N + users.length * spans.length)) := Lib.hid (Small_settle HS7.out tx)
                      have HFin := Lib.hid (fun k (hk : k < M) => own_final (n := n) (node := node) (M := M) (k := k) HOk.out HSh.out hmn hk)
                      have HNm := Lib.hid (refnorm_any AS cS spans wb (Kd.C_below HRS3.out hTb.base) hcS (by omega))
                      generalize last us tx users spans = us9 at *
                      clear hTb hCb HTa
                      go_wp2_with fail
                      refine HNm.out.mono ?_
                      rintro e wc ⟨vn, rfl, hrow, hbc⟩
                      have hnl := norm_len spans
                      obtain ⟨An, cn, rfl, _, _⟩ := row_readsS hrow (by omega)
                      have HCc := Lib.hid (HCb.out.below hbc)
                      clear hrow hbc HCb HNm
                      generalize (norm spans).length = nl at *
                      go_wp2_with fail
                      go_loopw [31] (fun i wr => ∃ k : Nat, i = .int .i64 k ∧ k ≤ M ∧ Hid (CF w3 us9 dc dub dcells wr)) (fun i _ => M - (intOf i).toNat)
                      case atStart => exact ⟨0, rfl, Nat.zero_le _, HCc⟩
                      case round =>
                        clear HCc
                        obtain ⟨k, rfl, hk, HA⟩ := hrel
                        have hbx := blk_below HBx3.out (CF.base HA.out)
                        have c0 : wr.cell? ⟨w.heap.size, 0, none⟩ = some (.int .i64 n) := blk_cell hbx 0
                        have c1 : wr.cell? ⟨w.heap.size, 1, none⟩ = some (.int .i64 (M : Nat)) := blk_cell hbx 1
                        have c2 : wr.cell? ⟨w.heap.size, 2, none⟩ = some (.slice A l.length c) := blk_cell hbx 2
                        have c3 : wr.cell? ⟨w.heap.size, 3, none⟩ = some (.int .i64 lo) := blk_cell hbx 3
                        have c4 : wr.cell? ⟨w.heap.size, 4, none⟩ = some (.int .i64 hi) := blk_cell hbx 4
                        clear hbx
                        by_cases hlt : k < M
                        · obtain ⟨hs5, hr5⟩ := HFin.out k hlt
                          have hSb := ownS_le HSl.out (k : Int)
                          have hRb := ownR_le HSl.out (k : Int)
                          have HO := Lib.hid (own_sl w3 wr us9 dc dub dcells _ (k : Int) HA.out HSl.out (by omega))
                          generalize ownS us9 (k : Int) = S9 at *
                          generalize ownR us9 (k : Int) = R9 at *
                          have HR5 := Lib.hid hr5
                          go_wp2_with fail
                          refine HO.out.mono ?_
                          rintro e wa ⟨A5, c5, A6, c6, rfl, hc5, hc6, hC5, hC6, hba⟩
                          have HAa := Lib.hid (HA.out.below hba)
                          have HC5 := Lib.hid hC5
                          have HC6 := Lib.hid hC6
                          have HHa := Lib.hid (has_q users (k : Int) AU cU wa (Kd.C_below HRU3.out (CF.base HAa.out)) hcU (by omega))
                          generalize decide ((k : Int) ∈ users) = m1 at *
                          have HS5 := Lib.hid hs5
                          clear hs5 hr5 hba hC5 hC6 HO c0 c1 c2 c3 c4
                          go_wp2_with fail
                          refine HHa.out.mono ?_
                          rintro e wb ⟨rfl, hbb⟩
                          have HAb := Lib.hid (HAa.out.below hbb)
                          have HAbB := hbb
                          have HBd := Lib.hid HAbB
                          clear hbb HHa
                          cases m1 with
                          | false =>
                            have HH1 := Lib.hid (has_q S9 tx A5 c5 wb (Kd.C_below HC5.out HBd.out) hc5 (by omega))
                            go_wp2_with fail
                            refine HH1.out.mono ?_
                            rintro e we ⟨he, hbe⟩
                            rw [show decide (tx ∈ S9) = false by rw [HS5.out]; rfl] at he
                            subst he
                            have HAe := Lib.hid (HAb.out.below hbe)
                            have HH2 := Lib.hid (has_q R9 tx A6 c6 we (Kd.C_below HC6.out (HBd.out.trans (hbe.mono HBd.out.size))) hc6 (by omega))
                            clear hbe HH1
                            go_wp2_with fail
                            refine HH2.out.mono ?_
                            rintro e wf ⟨he, hbf⟩
                            rw [HR5.out] at he
                            subst he
                            have HAf := Lib.hid (HAe.out.below hbf)
                            clear hbf HAe HH2
                            go_wp2_with fail
                            go_roundw
                            case measure => simp [intOf]; omega
                            case rel => exact ⟨k + 1, by go_num, by omega, HAf⟩
                          | true =>
                            have hbx := blk_below HBx3.out (CF.base HAb.out)
                            have c0 : wb.cell? ⟨w.heap.size, 0, none⟩ = some (.int .i64 n) := blk_cell hbx 0
                            have c1 : wb.cell? ⟨w.heap.size, 1, none⟩ = some (.int .i64 (M : Nat)) := blk_cell hbx 1
                            have c2 : wb.cell? ⟨w.heap.size, 2, none⟩ = some (.slice A l.length c) := blk_cell hbx 2
                            have c3 : wb.cell? ⟨w.heap.size, 3, none⟩ = some (.int .i64 lo) := blk_cell hbx 3
                            have c4 : wb.cell? ⟨w.heap.size, 4, none⟩ = some (.int .i64 hi) := blk_cell hbx 4
                            clear hbx HAbB
                            have HHo := Lib.hid (home_any n M (k : Int) A l.length c lo hi wb (by omega) (by omega))
                            go_wp2_with fail
                            refine HHo.out.mono ?_
                            rintro e wc ⟨rfl, hbc⟩
                            have HAc := Lib.hid (HAb.out.below hbc)
                            have HBe := Lib.hid (HBd.out.trans (hbc.mono HBd.out.size))
                            clear hbc HHo c0 c1 c2 c3 c4
                            cases hm2 : (homeF n M k == node) with
                            | false =>
                              rw [hm2] at HS5
                              have HH1 := Lib.hid (has_q S9 tx A5 c5 wc (Kd.C_below HC5.out HBe.out) hc5 (by omega))
                              go_wp2_with fail
                              refine HH1.out.mono ?_
                              rintro e we ⟨he, hbe⟩
                              rw [show decide (tx ∈ S9) = false by rw [HS5.out]; rfl] at he
                              subst he
                              have HAe := Lib.hid (HAc.out.below hbe)
                              have HH2 := Lib.hid (has_q R9 tx A6 c6 we (Kd.C_below HC6.out (HBe.out.trans (hbe.mono HBe.out.size))) hc6 (by omega))
                              clear hbe HH1
                              go_wp2_with fail
                              refine HH2.out.mono ?_
                              rintro e wf ⟨he, hbf⟩
                              rw [HR5.out] at he
                              subst he
                              have HAf := Lib.hid (HAe.out.below hbf)
                              clear hbf HAe HH2
                              go_wp2_with fail
                              go_roundw
                              case measure => simp [intOf]; omega
                              case rel => exact ⟨k + 1, by go_num, by omega, HAf⟩
                            | true =>
                              rw [hm2] at HS5
                              by_cases h0 : nl = 0
                              · have e1 : decide ((0 : Int) < (nl : Int)) = false := decide_eq_false (by omega)
                                have e2 : decide (0 < nl) = false := decide_eq_false (by omega)
                                rw [e2] at HS5
                                clear h0
                                have HH1 := Lib.hid (has_q S9 tx A5 c5 wc (Kd.C_below HC5.out HBe.out) hc5 (by omega))
                                go_wp2_with fail
                                refine HH1.out.mono ?_
                                rintro e we ⟨he, hbe⟩
                                rw [show decide (tx ∈ S9) = false by rw [HS5.out]; rfl] at he
                                subst he
                                have HAe := Lib.hid (HAc.out.below hbe)
                                have HH2 := Lib.hid (has_q R9 tx A6 c6 we (Kd.C_below HC6.out (HBe.out.trans (hbe.mono HBe.out.size))) hc6 (by omega))
                                clear hbe HH1
                                go_wp2_with fail
                                refine HH2.out.mono ?_
                                rintro e wf ⟨he, hbf⟩
                                rw [HR5.out] at he
                                subst he
                                have HAf := Lib.hid (HAe.out.below hbf)
                                clear hbf HAe HH2
                                go_wp2_with fail
                                go_roundw
                                case measure => simp [intOf]; omega
                                case rel => exact ⟨k + 1, by go_num, by omega, HAf⟩
                              · have e1 : decide ((0 : Int) < (nl : Int)) = true := decide_eq_true (by omega)
                                have e2 : decide (0 < nl) = true := decide_eq_true (by omega)
                                rw [e2] at HS5
                                clear h0
                                have HH1 := Lib.hid (has_q S9 tx A5 c5 wc (Kd.C_below HC5.out HBe.out) hc5 (by omega))
                                go_wp2_with fail
                                refine HH1.out.mono ?_
                                rintro e we ⟨he, hbe⟩
                                rw [show decide (tx ∈ S9) = true by rw [HS5.out]; rfl] at he
                                subst he
                                have HAe := Lib.hid (HAc.out.below hbe)
                                have HH2 := Lib.hid (has_q R9 tx A6 c6 we (Kd.C_below HC6.out (HBe.out.trans (hbe.mono HBe.out.size))) hc6 (by omega))
                                clear hbe HH1
                                go_wp2_with fail
                                refine HH2.out.mono ?_
                                rintro e wf ⟨he, hbf⟩
                                rw [HR5.out] at he
                                subst he
                                have HAf := Lib.hid (HAe.out.below hbf)
                                clear hbf HAe HH2
                                go_wp2_with fail
                                go_roundw
                                case measure => simp [intOf]; omega
                                case rel => exact ⟨k + 1, by go_num, by omega, HAf⟩
                        · obtain rfl : M = k := by omega
                          have HBe := Lib.hid (HB3.out.trans ((CF.base HA.out).mono HB3.out.size))
                          go_wp2_with fail
                          refine (first_any _).mono ?_
                          rintro e wz ⟨rfl, hbz⟩
                          have HBz := Lib.hid (HBe.out.trans (hbz.mono HBe.out.size))
                          clear hbz
                          go_wp2
                          go_ret
                          exact ⟨rfl, HBz.out⟩
                | false =>
                  generalize (check us users spans 0).isSome = ck at he
                  subst he
                  have HOk := Lib.hid hok
                  clear hok
                  simp only [tgV]
                  go_wp2_with fail
                  refine (two_reserve w3 _ ⟨us, cb, ub, cells⟩ ⟨us, dc, dub, dcells⟩ N tx AU cU users AS cS spans 0 (HT6.out.below (below_alloc (Below.refl _ _) _)) HSm.out (by omega) (by omega) (by omega) HRU3.out hcU HRS3.out hcS).mono ?_
                  rintro e w7 ⟨he, hT7⟩
                  have he2 : e = .returned (.bool false) := by rw [he, show mayRes us tx users spans 0 = false from HOk.out]
                  clear he
                  subst he2
                  have HT7 := Lib.hid hT7
                  have HS7 : Hid (Small (reserve us tx users spans 0) (N + users.length * spans.length)) := Lib.hid (Small_reserve HSm.out _ _ _ _)
                  clear hT7 HT6
                  go_wp2_with fail
                  refine (two_free w3 w7 ⟨reserve us tx users spans 0, cb, ub, cells⟩ ⟨us, dc, dub, dcells⟩ (N + users.length * spans.length) tx HT7.out HS7.out (by omega)).mono ?_
                  rintro e w8 ⟨rfl, hT8⟩
                  have HT8 := Lib.hid hT8
                  have dM : decide ((0 : Int) < (M : Int)) = true := decide_eq_true (by omega)
                  clear hT8 HT7
                  go_wp2_with fail
                  go_loopw [21] (fun i wr => i = .int .i64 0 ∧ Hid (wr = w8)) (fun i _ => 0)
                  case atStart => exact ⟨rfl, Lib.hid rfl⟩
                  case round =>
                    obtain ⟨rfl, HEq⟩ := hrel
                    have heq := HEq.out
                    clear HEq
                    subst heq
                    have hbx := blk_below HBx3.out HT8.out.base
                    have c1 : wr.cell? ⟨w.heap.size, 1, none⟩ = some (.int .i64 (M : Nat)) := blk_cell hbx 1
                    clear hbx
                    go_wp2_with fail
                    refine (two_settle w3 wr ⟨us, dc, dub, dcells⟩ _ N tx HT8.out.swap HSm.out (by omega)).mono ?_
                    rintro e wb ⟨rfl, hTb⟩
                    have HBb := Lib.hid hTb.base
                    have HNm := Lib.hid (refnorm_any AS cS spans wb (Kd.C_below HRS3.out hTb.base) hcS (by omega))
                    clear hTb HT8 c1
                    go_wp2_with fail
                    refine HNm.out.mono ?_
                    rintro e wc ⟨vn, rfl, hrow, hbc⟩
                    have hnl := norm_len spans
                    obtain ⟨An, cn, rfl, _, _⟩ := row_readsS hrow (by omega)
                    have HBc := Lib.hid (HBb.out.trans (hbc.mono HBb.out.size))
                    clear hrow hbc HBb HNm
                    go_wp2_with fail
                    go_loopw [31] (fun i wr => i = .int .i64 0 ∧ Hid (wr = wc)) (fun i _ => 0)
                    case atStart => exact ⟨rfl, Lib.hid rfl⟩
                    case round =>
                      obtain ⟨rfl, HEq⟩ := hrel
                      have heq := HEq.out
                      clear HEq
                      subst heq
                      have hbx := blk_below HBx3.out HBc.out
                      have c1 : wr.cell? ⟨w.heap.size, 1, none⟩ = some (.int .i64 (M : Nat)) := blk_cell hbx 1
                      clear hbx
                      have HBe := Lib.hid (HB3.out.trans (HBc.out.mono HB3.out.size))
                      go_wp2_with fail
                      refine (first_any _).mono ?_
                      rintro e wz ⟨rfl, hbz⟩
                      have HBz := Lib.hid (HBe.out.trans (hbz.mono HBe.out.size))
                      clear hbz
                      go_wp2
                      go_ret
                      exact ⟨rfl, HBz.out⟩
          · have HNo := Lib.hid (fun W (hb : Below w.heap.size w W) => new_no _ n m A c l lo hi node mb W (Kd.C_below HR.out hb) hc HM.out (by
              cases mb with
              | false => exact .inl rfl
              | true => right; simp at hgo; omega))
            clear hgo HM
            go_wp2_with fail
            refine (HNo.out _ HB3.out).mono ?_
            rintro e w4 ⟨rfl, hb4⟩
            have HB4 := Lib.hid (HB3.out.trans (hb4.mono HB3.out.size))
            clear hb4 c0 c1 c2 c3 c4 HBx3
            go_wp2_with fail
            refine (first_any _).mono ?_
            rintro e w5 ⟨rfl, hb⟩
            have HBZ := Lib.hid (HB4.out.trans (hb.mono HB4.out.size))
            clear hb
            go_wp2
            go_ret
            exact ⟨rfl, HBZ.out⟩
        · have hS2 : decide ((100 : Int) < (spans.length : Int)) = true := decide_eq_true (by omega)
          go_wp2_with fail
          refine (first_any _).mono ?_
          rintro e w4 ⟨rfl, hb⟩
          have HBZ := Lib.hid (HB3.out.trans (hb.mono HB3.out.size))
          clear hb
          go_wp2
          go_ret
          exact ⟨rfl, HBZ.out⟩
      · have hU2 : decide ((100 : Int) < (users.length : Int)) = true := decide_eq_true (by omega)
        go_wp2_with fail
        refine (first_any _).mono ?_
        rintro e w4 ⟨rfl, hb⟩
        have HBZ := Lib.hid (HB3.out.trans (hb.mono HB3.out.size))
        clear hb
        go_wp2
        go_ret
        exact ⟨rfl, HBZ.out⟩
end Go.Proofs.YtohpimfanplloaaGreat.CalX
