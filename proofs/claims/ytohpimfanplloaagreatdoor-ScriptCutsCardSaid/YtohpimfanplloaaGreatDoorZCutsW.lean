/- ScriptCuts: the walk. -/
import Derived.Test.YtohpimfanplloaaGreatDoorZPureC
import Derived.Test.YtohpimfanplloaaGreatDoorZFirstS
import Derived.Test.YtohpimfanplloaaGreatDoorZAuxS
import Derived.WalkKit
import Derived.WalkSpells
import Derived.Lib.Hide
import Derived.Deep.RegionHeld3
import Derived.Deep.Cut
set_option linter.unusedVariables false
set_option linter.unusedSimpArgs false
namespace Go.Proofs.YtohpimfanplloaaGreatDoor.CutsW
open Go Go.RowKit Go.Proofs.YtohpimfanplloaaGreatDoorW.PrintWords Go.Proofs.YtohpimfanplloaaGreatDoorW.PrintLast Go.Proofs.YtohpimfanplloaaGreatDoorW.PrintMore Go.Proofs.YtohpimfanplloaaGreatDoor.GC Go.Proofs.YtohpimfanplloaaGreatDoor.PureC Go.Proofs.YtohpimfanplloaaGreatDoor.FirstS Go.Proofs.YtohpimfanplloaaGreatDoor.AuxS
structure OB (w : World) (g : Nat) (vals : Array Value) (wc : World) : Prop where
  box : wc.heap[g]? = some (.cells vals 28)
  bel : Below w.heap.size w wc
theorem OB.next {w : World} {g : Nat} {vals : Array Value} {wc wd : World} (h : OB w g vals wc) (hb : Below wc.heap.size wc wd) : OB w g vals wd := ⟨blk_below h.box hb, h.bel.trans (hb.mono h.bel.size)⟩
theorem OB.drew {w : World} {g : Nat} {vals : Array Value} {wc : World} (h : OB w g vals wc) : OB w g vals wc.drew := h.next (below_drew (Below.refl _ _))
theorem OB.cg {w : World} {g : Nat} {vals : Array Value} {wc : World} (h : OB w g vals wc) (i : Nat) (v : Value) (hi : vals[i]? = some v) : wc.cell? ⟨g, i, none⟩ = some v := (blk_cell h.box i).trans hi
def ActsIs (L : List S38) (w : World) (e : Ending) (w' : World) : Prop := ∃ A c, e = .returned (.slice A L.length c) ∧ L.length ≤ c ∧ Kd.C k38 w' A L.length L ∧ Below w.heap.size w w'
theorem acts_any (n u : Int) (A2 : Option Addr) (c2 : Nat) (z : List S68) (lo hi v q r qq rm bg : Int) (A1 : Option Addr) (c1 : Nat) (b : List Int) (hb : By b) (hl : b.length ≤ 6000) (w : World) (hr2 : Kd.C k68 w A2 z.length z) (hc2 : z.length ≤ c2) (hr : Kd.C (Kd.int .u8) w A1 b.length b) (hc : b.length ≤ c1) (hG : Glob w) :
    Calls Tryz.prog 6 #[.agg #[.int .i64 n, .int .i64 u, .slice A2 z.length c2, .int .i64 lo, .int .i64 hi, .int .i64 v, .int .i64 q, .int .i64 r, .int .i64 qq, .int .i64 rm, .int .i64 bg], .slice A1 b.length c1] w (ActsIs (actsOf (nodesOf n) b (min (b.length / 4) 1000)) w) := by
  refine (script_Acts.calls 3000 n u A2 c2 z lo hi v q r qq rm bg A1 c1 b _ w hr2 hc2 hr hc hG (acts_f _ _ _ _ _ _ _ _ _ _ _ b hb hl)).mono ?_
  rintro e w' ⟨v0, rfl, hS, hB⟩
  obtain ⟨A, c, rfl, h1, h2⟩ := Kd.R_reads (Kd.S_R hS)
  exact ⟨A, c, rfl, h1, h2, hB⟩
theorem C_take {w : World} {A : Option Addr} {xs : List Int} (h : Kd.C (Kd.int .u8) w A xs.length xs) (a : Nat) (ha : a ≤ xs.length) : Kd.C (Kd.int .u8) w A a (xs.take a) := by
  obtain ⟨h1, h2, h3⟩ := h
  refine ⟨by rw [List.length_take]; omega, by omega, fun hp => ?_⟩
  obtain ⟨ad, e, hc⟩ := h3 (by omega)
  refine ⟨ad, e, fun j p hj => hc j p ?_⟩
  have hlt : j < a := by
    have := (List.getElem?_eq_some_iff.1 hj).1
    rw [List.length_take] at this
    omega
  rwa [List.getElem?_take_of_lt hlt] at hj
theorem acts_part (n u : Int) (A2 : Option Addr) (c2 : Nat) (z : List S68) (lo hi v q r qq rm bg : Int) (A1 : Option Addr) (c1 : Nat) (b : List Int) (a : Nat) (hb : By b) (hl : b.length ≤ 6000) (ha : a ≤ b.length) (w : World) (hr2 : Kd.C k68 w A2 z.length z) (hc2 : z.length ≤ c2) (hr : Kd.C (Kd.int .u8) w A1 b.length b) (hc : b.length ≤ c1) (hG : Glob w) :
    Calls Tryz.prog 6 #[.agg #[.int .i64 n, .int .i64 u, .slice A2 z.length c2, .int .i64 lo, .int .i64 hi, .int .i64 v, .int .i64 q, .int .i64 r, .int .i64 qq, .int .i64 rm, .int .i64 bg], .slice A1 a c1] w (ActsIs (actsOf (nodesOf n) b (min (a / 4) 1000)) w) := by
  have e : (b.take a).length = a := by rw [List.length_take]; omega
  have h := acts_any n u A2 c2 z lo hi v q r qq rm bg A1 c1 (b.take a) (fun x hx => hb x (List.mem_of_mem_take hx)) (by omega) w hr2 hc2 (by rw [e]; exact C_take hr a ha) (by omega) hG
  rw [acts_take _ b a ha, e] at h
  exact h
/-- The k-th act of a row, cell by cell. -/
structure ActAt (w : World) (ad : Addr) (Ul : Option Addr) (ul : Nat) (Tl : Option Addr) (tl : Nat) (k : Nat) (x : S38) : Prop where
  a0 : w.cell? (ad.add (k * 8)) = some (.int .i64 x.f0)
  a1 : w.cell? ⟨(ad.add (k * 8)).block, (ad.add (k * 8)).off + 1, none⟩ = some (.int .i64 x.f1)
  a2 : w.cell? ⟨(ad.add (k * 8)).block, (ad.add (k * 8)).off + 2, none⟩ = some (.int .i64 x.f2)
  a3 : w.cell? ⟨(ad.add (k * 8)).block, (ad.add (k * 8)).off + 3, none⟩ = some (.int .i64 x.f3.f0)
  a4 : w.cell? ⟨(ad.add (k * 8)).block, (ad.add (k * 8)).off + 4, none⟩ = some (.int .i64 x.f3.f1)
  a5 : w.cell? ⟨(ad.add (k * 8)).block, (ad.add (k * 8)).off + 5, none⟩ = some (.int .i64 x.f3.f2)
  a6 : w.cell? ⟨(ad.add (k * 8)).block, (ad.add (k * 8)).off + 6, none⟩ = some (.slice Ul x.f3.f3.length ul)
  a7 : w.cell? ⟨(ad.add (k * 8)).block, (ad.add (k * 8)).off + 7, none⟩ = some (.slice Tl x.f3.f4.length tl)
  u : (Kd.int .i64).C w Ul x.f3.f3.length x.f3.f3
  t : (Kd.int .u8).C w Tl x.f3.f4.length x.f3.f4
  lu : x.f3.f3.length ≤ ul
  lt : x.f3.f4.length ≤ tl
theorem act_cells {w : World} {A : Option Addr} {xs : List S38} (h : Kd.C k38 w A xs.length xs) (k : Nat) (hk : k < xs.length) : ∃ ad Ul ul Tl tl, A = some ad ∧ ActAt w ad Ul ul Tl tl k (rd_T38 xs (k : Int)) := by
  obtain ⟨ad, A6, c6, A7, c7, e, h0, h1, h2, h3, h4, h5, h6, h7, l6, g6, l7, g7⟩ := at_T38 h (k : Int) (by omega) (by omega)
  rw [Int.toNat_natCast] at h0 h1 h2 h3 h4 h5 h6 h7
  exact ⟨ad, A6, c6, A7, c7, e, h0, h1, h2, h3, h4, h5, h6, h7, g6, g7, l6, l7⟩
theorem ActAt.below {w w1 : World} {ad : Addr} {Ul : Option Addr} {ul : Nat} {Tl : Option Addr} {tl : Nat} {k : Nat} {x : S38} (h : ActAt w ad Ul ul Tl tl k x) (hb : Below w.heap.size w w1) : ActAt w1 ad Ul ul Tl tl k x :=
  ⟨cell_later hb h.a0, cell_later hb h.a1, cell_later hb h.a2, cell_later hb h.a3, cell_later hb h.a4, cell_later hb h.a5, cell_later hb h.a6, cell_later hb h.a7, Kd.C_below h.u hb, Kd.C_below h.t hb, h.lu, h.lt⟩
theorem rd_acts (n : Int) (b : List Int) (m k : Nat) (h : k < m) : rd_T38 (actsOf n b m) (k : Int) = actAt n b k := by
  unfold rd_T38 actsOf
  rw [Int.toNat_natCast, List.getD_eq_getElem?_getD, List.getElem?_map, List.getElem?_range h]
  rfl
theorem both_at (n : Int) (b : List Int) (a : Nat) (ha : a ≤ b.length) {LL MM : List S38} (hL : LL = actsOf (nodesOf n) b (min (b.length / 4) 1000)) (hM : MM = actsOf (nodesOf n) b (min (a / 4) 1000)) (hb : By b) (k : Nat) (hk : k < MM.length) : rd_T38 LL (k : Int) = rd_T38 MM (k : Int) ∧ Fine (rd_T38 MM (k : Int)) := by
  have lm : MM.length = min (a / 4) 1000 := by rw [hM]; simp [actsOf]
  have hk' : k < min (a / 4) 1000 := by omega
  rw [hL, hM, rd_acts _ _ _ _ (by omega), rd_acts _ _ _ _ hk']
  exact ⟨rfl, (act_at (nodes_pos n) hb (by omega)).1⟩
set_option maxRecDepth 100000 in
set_option maxHeartbeats 4000000 in
theorem walk (n u : Int) (A2 : Option Addr) (c2 : Nat) (z : List S68) (lo hi v q r qq rm bg : Int) (A1 : Option Addr) (c1 : Nat) (b : List Int) (at' : Int) (w : World) (hr2 : Kd.C k68 w A2 z.length z) (hc2 : z.length ≤ c2) (hr : Kd.C (Kd.int .u8) w A1 b.length b) (hc : b.length ≤ c1) (hG : Glob w) (hby : By b) :
    Calls Tryz.prog 3 #[.agg #[.int .i64 n, .int .i64 u, .slice A2 z.length c2, .int .i64 lo, .int .i64 hi, .int .i64 v, .int .i64 q, .int .i64 r, .int .i64 qq, .int .i64 rm, .int .i64 bg], .slice A1 b.length c1, .int .i64 at'] w fun e w' => e = .returned (.bool true) ∧ Below w.heap.size w w' := by
  have HG := Lib.hid hG
  have HR2 := Lib.hid hr2
  have HR := Lib.hid hr
  have HBy := Lib.hid hby
  clear hG hr2 hr hby
  have HB := Lib.hid (show OB w w.heap.size #[.int .i64 n, .int .i64 u, .slice A2 z.length c2, .int .i64 lo, .int .i64 hi, .int .i64 v, .int .i64 q, .int .i64 r, .int .i64 qq, .int .i64 rm, .int .i64 bg] (w.alloc (.cells #[.int .i64 n, .int .i64 u, .slice A2 z.length c2, .int .i64 lo, .int .i64 hi, .int .i64 v, .int .i64 q, .int .i64 r, .int .i64 qq, .int .i64 rm, .int .i64 bg] 28)) from ⟨blk_new w (.cells #[.int .i64 n, .int .i64 u, .slice A2 z.length c2, .int .i64 lo, .int .i64 hi, .int .i64 v, .int .i64 q, .int .i64 r, .int .i64 qq, .int .i64 rm, .int .i64 bg] 28), (Below.refl w.heap.size w).alloc (Nat.le_refl _) _⟩)
  go_enter Tryz.func3, Tryz.ntmps3
  obtain ⟨g, hg⟩ : ∃ g, g = w.heap.size := ⟨_, rfl⟩
  have Hg := Lib.hid hg
  rw [← hg] at HB
  clear hg
  go_upto_region 1 with (fail)
  rw [← Hg.out]
  generalize World.alloc w _ = W at HB ⊢
  go_wp2_with fail
  refine (first_any _ (HG.out.below HB.out.bel)).mono ?_
  rintro e w1 ⟨rfl, hb⟩
  have HB' := Lib.hid (HB.out.next hb)
  clear HB hb
  have HB := HB'
  clear HB'
  by_cases hgood : b.length ≤ 6000 ∧ 0 ≤ at' ∧ at' ≤ (b.length : Int)
  · obtain ⟨hl, h0, h1⟩ := hgood
    obtain ⟨a, rfl⟩ := Int.eq_ofNat_of_zero_le h0
    have d1 : decide ((6000 : Int) < (b.length : Int)) = false := decide_eq_false (by omega)
    have d2 : decide ((a : Int) < 0) = false := decide_eq_false (by omega)
    have d3 : decide ((b.length : Int) < (a : Int)) = false := decide_eq_false (by omega)
    have d4 : decide (b.length < a) = false := decide_eq_false (by omega)
    have ha : a ≤ b.length := by omega
    have hac : a ≤ c1 := by omega
    obtain ⟨LL, hLL⟩ : ∃ LL, LL = actsOf (nodesOf n) b (min (b.length / 4) 1000) := ⟨_, rfl⟩
    obtain ⟨MM, hMM⟩ : ∃ MM, MM = actsOf (nodesOf n) b (min (a / 4) 1000) := ⟨_, rfl⟩
    have HC1 := Lib.hid (fun W (hb : Below w.heap.size w W) => hLL ▸ acts_any n u A2 c2 z lo hi v q r qq rm bg A1 c1 b HBy.out hl W (Kd.C_below HR2.out hb) hc2 (Kd.C_below HR.out hb) hc (HG.out.below hb))
    have HC2 := Lib.hid (fun W (hb : Below w.heap.size w W) => acts_part n u A2 c2 z lo hi v q r qq rm bg A1 c1 b a HBy.out hl ha W (Kd.C_below HR2.out hb) hc2 (Kd.C_below HR.out hb) hc (HG.out.below hb))
    rw [← hMM] at HC2
    have HLL := Lib.hid hLL
    have HMM := Lib.hid hMM
    clear hLL hMM
    have i1 : (0 : Int) ≤ (a : Int) := by omega
    have i2 : (a : Int) ≤ (c1 : Int) := by omega
    go_wp2_with fail
    go_cut [7, 8] (fun v7 v8 wc => ∃ Al cl Am cm, v7 = .slice Al LL.length cl ∧ v8 = .slice Am MM.length cm ∧ Hid (Below w.heap.size w wc ∧ Kd.C k38 wc Al LL.length LL ∧ LL.length ≤ cl ∧ Kd.C k38 wc Am MM.length MM ∧ MM.length ≤ cm))
    case first =>
      have k0 := HB.out.cg 0 _ rfl
      have k1 := HB.out.cg 1 _ rfl
      have k2 := HB.out.cg 2 _ rfl
      have k3 := HB.out.cg 3 _ rfl
      have k4 := HB.out.cg 4 _ rfl
      have k5 := HB.out.cg 5 _ rfl
      have k6 := HB.out.cg 6 _ rfl
      have k7 := HB.out.cg 7 _ rfl
      have k8 := HB.out.cg 8 _ rfl
      have k9 := HB.out.cg 9 _ rfl
      have k10 := HB.out.cg 10 _ rfl
      go_region_held3 (fun w' => w'.cell? ⟨g, 0, none⟩ = some (.int .i64 n) ∧ w'.cell? ⟨g, 1, none⟩ = some (.int .i64 u) ∧ w'.cell? ⟨g, 2, none⟩ = some (.slice A2 z.length c2) ∧ w'.cell? ⟨g, 3, none⟩ = some (.int .i64 lo) ∧ w'.cell? ⟨g, 4, none⟩ = some (.int .i64 hi) ∧ w'.cell? ⟨g, 5, none⟩ = some (.int .i64 v) ∧ w'.cell? ⟨g, 6, none⟩ = some (.int .i64 q) ∧ w'.cell? ⟨g, 7, none⟩ = some (.int .i64 r) ∧ w'.cell? ⟨g, 8, none⟩ = some (.int .i64 qq) ∧ w'.cell? ⟨g, 9, none⟩ = some (.int .i64 rm) ∧ w'.cell? ⟨g, 10, none⟩ = some (.int .i64 bg)) (((try dsimp only); (repeat' apply And.intro) <;> first | (with_reducible assumption) | go_keep)) (first | (go_at_call 6; (with_reducible refine (HC1.out _ (by first | exact HB.out.bel | exact HB.out.drew.bel | exact HB.out.drew.drew.bel)).mono ?_); rintro e w5 ⟨Al, cl, rfl, hcl, hCl, hb5⟩; (have m5 := Lib.hid (OB.next (by first | exact HB.out | exact HB.out.drew | exact HB.out.drew.drew) hb5)); (have k50 := m5.out.cg 0 _ rfl); (have k51 := m5.out.cg 1 _ rfl); (have k52 := m5.out.cg 2 _ rfl); (have k53 := m5.out.cg 3 _ rfl); (have k54 := m5.out.cg 4 _ rfl); (have k55 := m5.out.cg 5 _ rfl); (have k56 := m5.out.cg 6 _ rfl); (have k57 := m5.out.cg 7 _ rfl); (have k58 := m5.out.cg 8 _ rfl); (have k59 := m5.out.cg 9 _ rfl); (have k510 := m5.out.cg 10 _ rfl)) | (go_at_call 6; (with_reducible refine (HC2.out _ (by first | exact m5.out.bel | exact m5.out.drew.bel | exact m5.out.drew.drew.bel)).mono ?_); rintro e w6 ⟨Am, cm, rfl, hcm, hCm, hb6⟩; (have m6 := Lib.hid (OB.next (by first | exact m5.out | exact m5.out.drew | exact m5.out.drew.drew) hb6)); (have k60 := m6.out.cg 0 _ rfl); (have k61 := m6.out.cg 1 _ rfl); (have k62 := m6.out.cg 2 _ rfl); (have k63 := m6.out.cg 3 _ rfl); (have k64 := m6.out.cg 4 _ rfl); (have k65 := m6.out.cg 5 _ rfl); (have k66 := m6.out.cg 6 _ rfl); (have k67 := m6.out.cg 7 _ rfl); (have k68 := m6.out.cg 8 _ rfl); (have k69 := m6.out.cg 9 _ rfl); (have k610 := m6.out.cg 10 _ rfl)))
      all_goals
        go_wp2_with fail
        go_meet
        exact ⟨Al, cl, Am, cm, rfl, rfl, Lib.hid ⟨m6.out.bel, Kd.C_below hCl (by first | exact hb6 | exact below_then (below_drew (Below.refl _ _)) (Nat.le_refl _) hb6), hcl, hCm, hcm⟩⟩
    case rest =>
      obtain ⟨Al, cl, Am, cm, rfl, rfl, HC⟩ := hcut
      clear HB HC1 HC2 i1 i2
      have lm : MM.length = min (a / 4) 1000 := by rw [HMM.out]; simp [actsOf]
      have ll : LL.length = min (b.length / 4) 1000 := by rw [HLL.out]; simp [actsOf]
      have hml : MM.length ≤ LL.length := by omega
      have hm1 : MM.length ≤ 1000 := by omega
      have HLm := Lib.hid lm
      have HLl := Lib.hid ll
      have e6 : (((MM.length : Nat) : Int) != min ((a : Int) / 4) 1000) = false := by
        simp only [bne_eq_false_iff_eq]
        omega
      have d7 : decide (LL.length < MM.length) = false := decide_eq_false (by omega)
      have d8 : decide ((LL.length : Int) < (MM.length : Int)) = false := decide_eq_false (by omega)
      clear lm ll d1 d2 d3 d4
      go_wp2_with fail
      clear e6 d7 d8
      go_loopw [9] (fun i wr => ∃ k : Nat, i = .int .i64 k ∧ k ≤ MM.length ∧ Hid (Below wc.heap.size wc wr)) (fun i _ => MM.length - (intOf i).toNat)
      case atStart => exact ⟨0, rfl, Nat.zero_le _, Lib.hid (Below.refl _ _)⟩
      case round =>
        obtain ⟨k, rfl, hk, HW⟩ := hrel
        by_cases hlt : k < MM.length
        · have hD := both_at n b a ha HLL.out HMM.out HBy.out k hlt
          have HCl := Lib.hid (act_cells (Kd.C_below HC.out.2.1 HW.out) k (by omega))
          have HCm := Lib.hid (act_cells (Kd.C_below HC.out.2.2.2.1 HW.out) k hlt)
          rw [hD.1] at HCl
          obtain ⟨hF, hx⟩ := hD
          generalize rd_T38 MM (k : Int) = x at *
          obtain ⟨f0, f1, f2, i0, i1, i2, us, tx⟩ := x
          clear hF
          have g1 : decide (f0 < 1) = false := decide_eq_false (by have := hx.lo; simp only at this; omega)
          have g2 : decide (7 < f0) = false := decide_eq_false (by have := hx.hi; simp only at this; omega)
          have hus : us.length ≤ 4 := hx.us
          clear hx
          obtain ⟨adl, Ul, ul, Tl, tl, rfl, hAl⟩ := HCl.out
          obtain ⟨adm, Um, um, Tm, tm, rfl, hAm⟩ := HCm.out
          have HAl := Lib.hid hAl
          have HAm := Lib.hid hAm
          clear hAl hAm HCl HCm
          have hS0 : wr.cell? (adl.add (k * 8)) = some (.int .i64 f0) ∧ wr.cell? ⟨(adl.add (k * 8)).block, (adl.add (k * 8)).off + 1, none⟩ = some (.int .i64 f1) ∧ wr.cell? ⟨(adl.add (k * 8)).block, (adl.add (k * 8)).off + 2, none⟩ = some (.int .i64 f2) ∧ wr.cell? ⟨(adl.add (k * 8)).block, (adl.add (k * 8)).off + 3, none⟩ = some (.int .i64 i0) ∧ wr.cell? ⟨(adl.add (k * 8)).block, (adl.add (k * 8)).off + 4, none⟩ = some (.int .i64 i1) ∧ wr.cell? ⟨(adl.add (k * 8)).block, (adl.add (k * 8)).off + 5, none⟩ = some (.int .i64 i2) ∧ wr.cell? ⟨(adl.add (k * 8)).block, (adl.add (k * 8)).off + 6, none⟩ = some (.slice Ul us.length ul) ∧ wr.cell? ⟨(adl.add (k * 8)).block, (adl.add (k * 8)).off + 7, none⟩ = some (.slice Tl tx.length tl) ∧ wr.cell? (adm.add (k * 8)) = some (.int .i64 f0) ∧ wr.cell? ⟨(adm.add (k * 8)).block, (adm.add (k * 8)).off + 1, none⟩ = some (.int .i64 f1) ∧ wr.cell? ⟨(adm.add (k * 8)).block, (adm.add (k * 8)).off + 2, none⟩ = some (.int .i64 f2) ∧ wr.cell? ⟨(adm.add (k * 8)).block, (adm.add (k * 8)).off + 3, none⟩ = some (.int .i64 i0) ∧ wr.cell? ⟨(adm.add (k * 8)).block, (adm.add (k * 8)).off + 4, none⟩ = some (.int .i64 i1) ∧ wr.cell? ⟨(adm.add (k * 8)).block, (adm.add (k * 8)).off + 5, none⟩ = some (.int .i64 i2) ∧ wr.cell? ⟨(adm.add (k * 8)).block, (adm.add (k * 8)).off + 6, none⟩ = some (.slice Um us.length um) ∧ wr.cell? ⟨(adm.add (k * 8)).block, (adm.add (k * 8)).off + 7, none⟩ = some (.slice Tm tx.length tm) := ⟨HAl.out.a0, HAl.out.a1, HAl.out.a2, HAl.out.a3, HAl.out.a4, HAl.out.a5, HAl.out.a6, HAl.out.a7, HAm.out.a0, HAm.out.a1, HAm.out.a2, HAm.out.a3, HAm.out.a4, HAm.out.a5, HAm.out.a6, HAm.out.a7⟩
          have HS := Lib.hid (same_self ⟨f0, f1, f2, i0, i1, i2, us, tx⟩ (show us.length ≤ 100000 by omega))
          have j1 : (0 : Int) ≤ (k : Int) := by omega
          have j2 : (k : Int) < (LL.length : Int) := by omega
          have j3 : (k : Int) < (MM.length : Int) := by omega
          have j4 : k < LL.length := by omega
          go_wp2_with fail
          go_region_held3 (fun w' => w'.cell? (adl.add (k * 8)) = some (.int .i64 f0) ∧ w'.cell? ⟨(adl.add (k * 8)).block, (adl.add (k * 8)).off + 1, none⟩ = some (.int .i64 f1) ∧ w'.cell? ⟨(adl.add (k * 8)).block, (adl.add (k * 8)).off + 2, none⟩ = some (.int .i64 f2) ∧ w'.cell? ⟨(adl.add (k * 8)).block, (adl.add (k * 8)).off + 3, none⟩ = some (.int .i64 i0) ∧ w'.cell? ⟨(adl.add (k * 8)).block, (adl.add (k * 8)).off + 4, none⟩ = some (.int .i64 i1) ∧ w'.cell? ⟨(adl.add (k * 8)).block, (adl.add (k * 8)).off + 5, none⟩ = some (.int .i64 i2) ∧ w'.cell? ⟨(adl.add (k * 8)).block, (adl.add (k * 8)).off + 6, none⟩ = some (.slice Ul us.length ul) ∧ w'.cell? ⟨(adl.add (k * 8)).block, (adl.add (k * 8)).off + 7, none⟩ = some (.slice Tl tx.length tl) ∧ w'.cell? (adm.add (k * 8)) = some (.int .i64 f0) ∧ w'.cell? ⟨(adm.add (k * 8)).block, (adm.add (k * 8)).off + 1, none⟩ = some (.int .i64 f1) ∧ w'.cell? ⟨(adm.add (k * 8)).block, (adm.add (k * 8)).off + 2, none⟩ = some (.int .i64 f2) ∧ w'.cell? ⟨(adm.add (k * 8)).block, (adm.add (k * 8)).off + 3, none⟩ = some (.int .i64 i0) ∧ w'.cell? ⟨(adm.add (k * 8)).block, (adm.add (k * 8)).off + 4, none⟩ = some (.int .i64 i1) ∧ w'.cell? ⟨(adm.add (k * 8)).block, (adm.add (k * 8)).off + 5, none⟩ = some (.int .i64 i2) ∧ w'.cell? ⟨(adm.add (k * 8)).block, (adm.add (k * 8)).off + 6, none⟩ = some (.slice Um us.length um) ∧ w'.cell? ⟨(adm.add (k * 8)).block, (adm.add (k * 8)).off + 7, none⟩ = some (.slice Tm tx.length tm)) (first | (with_reducible exact hS0) | (with_reducible exact hS1) | (with_reducible exact hS2) | ((try dsimp only); (repeat' apply And.intro) <;> first | (with_reducible assumption) | go_keep)) (first | (go_at_call 8; (with_reducible refine (plain_any f0 f1 f2 i0 i1 i2 Um Tm us.length um tx.length tm _).mono ?_); rintro e w5 ⟨rfl, hb5⟩; (have HW5 := Lib.hid (HW.out.trans ((show Below wr.heap.size wr w5 from (by first | exact hb5 | exact below_then (below_drew (Below.refl _ _)) (Nat.le_refl _) hb5)).mono HW.out.size))); (have HAl5 := Lib.hid (HAl.out.below (by first | exact hb5 | exact below_then (below_drew (Below.refl _ _)) (Nat.le_refl _) hb5))); (have HAm5 := Lib.hid (HAm.out.below (by first | exact hb5 | exact below_then (below_drew (Below.refl _ _)) (Nat.le_refl _) hb5))); (have hS1 : w5.cell? (adl.add (k * 8)) = some (.int .i64 f0) ∧ w5.cell? ⟨(adl.add (k * 8)).block, (adl.add (k * 8)).off + 1, none⟩ = some (.int .i64 f1) ∧ w5.cell? ⟨(adl.add (k * 8)).block, (adl.add (k * 8)).off + 2, none⟩ = some (.int .i64 f2) ∧ w5.cell? ⟨(adl.add (k * 8)).block, (adl.add (k * 8)).off + 3, none⟩ = some (.int .i64 i0) ∧ w5.cell? ⟨(adl.add (k * 8)).block, (adl.add (k * 8)).off + 4, none⟩ = some (.int .i64 i1) ∧ w5.cell? ⟨(adl.add (k * 8)).block, (adl.add (k * 8)).off + 5, none⟩ = some (.int .i64 i2) ∧ w5.cell? ⟨(adl.add (k * 8)).block, (adl.add (k * 8)).off + 6, none⟩ = some (.slice Ul us.length ul) ∧ w5.cell? ⟨(adl.add (k * 8)).block, (adl.add (k * 8)).off + 7, none⟩ = some (.slice Tl tx.length tl) ∧ w5.cell? (adm.add (k * 8)) = some (.int .i64 f0) ∧ w5.cell? ⟨(adm.add (k * 8)).block, (adm.add (k * 8)).off + 1, none⟩ = some (.int .i64 f1) ∧ w5.cell? ⟨(adm.add (k * 8)).block, (adm.add (k * 8)).off + 2, none⟩ = some (.int .i64 f2) ∧ w5.cell? ⟨(adm.add (k * 8)).block, (adm.add (k * 8)).off + 3, none⟩ = some (.int .i64 i0) ∧ w5.cell? ⟨(adm.add (k * 8)).block, (adm.add (k * 8)).off + 4, none⟩ = some (.int .i64 i1) ∧ w5.cell? ⟨(adm.add (k * 8)).block, (adm.add (k * 8)).off + 5, none⟩ = some (.int .i64 i2) ∧ w5.cell? ⟨(adm.add (k * 8)).block, (adm.add (k * 8)).off + 6, none⟩ = some (.slice Um us.length um) ∧ w5.cell? ⟨(adm.add (k * 8)).block, (adm.add (k * 8)).off + 7, none⟩ = some (.slice Tm tx.length tm) := ⟨HAl5.out.a0, HAl5.out.a1, HAl5.out.a2, HAl5.out.a3, HAl5.out.a4, HAl5.out.a5, HAl5.out.a6, HAl5.out.a7, HAm5.out.a0, HAm5.out.a1, HAm5.out.a2, HAm5.out.a3, HAm5.out.a4, HAm5.out.a5, HAm5.out.a6, HAm5.out.a7⟩)) | (go_at_call 7; (refine (voklaw26_same.calls 3000000 f0 f1 f2 i0 i1 i2 Ul ul us Tl tl tx f0 f1 f2 i0 i1 i2 Um um us Tm tm tx true _ (Kd.C_below HAl5.out.u (by first | exact Below.refl _ _ | exact below_drew (Below.refl _ _))) HAl5.out.lu (Kd.C_below HAl5.out.t (by first | exact Below.refl _ _ | exact below_drew (Below.refl _ _))) HAl5.out.lt (Kd.C_below HAm5.out.u (by first | exact Below.refl _ _ | exact below_drew (Below.refl _ _))) HAm5.out.lu (Kd.C_below HAm5.out.t (by first | exact Below.refl _ _ | exact below_drew (Below.refl _ _))) HAm5.out.lt HS.out).mono ?_); rintro e w6 ⟨rfl, hb6⟩; (have HW6 := Lib.hid (HW5.out.trans ((show Below w5.heap.size w5 w6 from (by first | exact hb6 | exact below_then (below_drew (Below.refl _ _)) (Nat.le_refl _) hb6)).mono HW5.out.size))); (have HAl6 := Lib.hid (HAl5.out.below (by first | exact hb6 | exact below_then (below_drew (Below.refl _ _)) (Nat.le_refl _) hb6))); (have HAm6 := Lib.hid (HAm5.out.below (by first | exact hb6 | exact below_then (below_drew (Below.refl _ _)) (Nat.le_refl _) hb6))); (have hS2 : w6.cell? (adl.add (k * 8)) = some (.int .i64 f0) ∧ w6.cell? ⟨(adl.add (k * 8)).block, (adl.add (k * 8)).off + 1, none⟩ = some (.int .i64 f1) ∧ w6.cell? ⟨(adl.add (k * 8)).block, (adl.add (k * 8)).off + 2, none⟩ = some (.int .i64 f2) ∧ w6.cell? ⟨(adl.add (k * 8)).block, (adl.add (k * 8)).off + 3, none⟩ = some (.int .i64 i0) ∧ w6.cell? ⟨(adl.add (k * 8)).block, (adl.add (k * 8)).off + 4, none⟩ = some (.int .i64 i1) ∧ w6.cell? ⟨(adl.add (k * 8)).block, (adl.add (k * 8)).off + 5, none⟩ = some (.int .i64 i2) ∧ w6.cell? ⟨(adl.add (k * 8)).block, (adl.add (k * 8)).off + 6, none⟩ = some (.slice Ul us.length ul) ∧ w6.cell? ⟨(adl.add (k * 8)).block, (adl.add (k * 8)).off + 7, none⟩ = some (.slice Tl tx.length tl) ∧ w6.cell? (adm.add (k * 8)) = some (.int .i64 f0) ∧ w6.cell? ⟨(adm.add (k * 8)).block, (adm.add (k * 8)).off + 1, none⟩ = some (.int .i64 f1) ∧ w6.cell? ⟨(adm.add (k * 8)).block, (adm.add (k * 8)).off + 2, none⟩ = some (.int .i64 f2) ∧ w6.cell? ⟨(adm.add (k * 8)).block, (adm.add (k * 8)).off + 3, none⟩ = some (.int .i64 i0) ∧ w6.cell? ⟨(adm.add (k * 8)).block, (adm.add (k * 8)).off + 4, none⟩ = some (.int .i64 i1) ∧ w6.cell? ⟨(adm.add (k * 8)).block, (adm.add (k * 8)).off + 5, none⟩ = some (.int .i64 i2) ∧ w6.cell? ⟨(adm.add (k * 8)).block, (adm.add (k * 8)).off + 6, none⟩ = some (.slice Um us.length um) ∧ w6.cell? ⟨(adm.add (k * 8)).block, (adm.add (k * 8)).off + 7, none⟩ = some (.slice Tm tx.length tm) := ⟨HAl6.out.a0, HAl6.out.a1, HAl6.out.a2, HAl6.out.a3, HAl6.out.a4, HAl6.out.a5, HAl6.out.a6, HAl6.out.a7, HAm6.out.a0, HAm6.out.a1, HAm6.out.a2, HAm6.out.a3, HAm6.out.a4, HAm6.out.a5, HAm6.out.a6, HAm6.out.a7⟩)))
          all_goals
            go_wp2_with fail
            go_roundw
            case rel => exact ⟨k + 1, by go_num, by omega, HW6⟩
            case measure => simp [intOf]; omega
        · have hke : k = MM.length := by omega
          subst hke
          go_wp2_with fail
          refine (first_any _ (HG.out.below (HC.out.1.trans (HW.out.mono HC.out.1.size)))).mono ?_
          rintro e w7 ⟨rfl, hb⟩
          have HE := Lib.hid ((HC.out.1.trans (HW.out.mono HC.out.1.size)).trans (hb.mono (HC.out.1.trans (HW.out.mono HC.out.1.size)).size))
          clear hb
          go_wp2
          go_ret
          exact ⟨rfl, HE.out⟩
  · have HX := Lib.hid hgood
    by_cases hl : b.length ≤ 6000
    · have d1 : decide ((6000 : Int) < (b.length : Int)) = false := decide_eq_false (by omega)
      by_cases h0 : 0 ≤ at'
      · have d2 : decide (at' < 0) = false := decide_eq_false (by omega)
        have d3 : decide ((b.length : Int) < at') = true := decide_eq_true (by omega)
        clear hgood hl h0
        go_wp2_with fail
        refine (first_any _ (HG.out.below HB.out.bel)).mono ?_
        rintro e w2 ⟨rfl, hb⟩
        have HE := Lib.hid (HB.out.next hb).bel
        clear hb
        go_wp2
        go_ret
        exact ⟨rfl, HE.out⟩
      · have d2 : decide (at' < 0) = true := decide_eq_true (by omega)
        clear hgood hl h0
        go_wp2_with fail
        refine (first_any _ (HG.out.below HB.out.bel)).mono ?_
        rintro e w2 ⟨rfl, hb⟩
        have HE := Lib.hid (HB.out.next hb).bel
        clear hb
        go_wp2
        go_ret
        exact ⟨rfl, HE.out⟩
    · have d1 : decide ((6000 : Int) < (b.length : Int)) = true := decide_eq_true (by omega)
      clear hgood hl
      go_wp2_with fail
      refine (first_any _ (HG.out.below HB.out.bel)).mono ?_
      rintro e w2 ⟨rfl, hb⟩
      have HE := Lib.hid (HB.out.next hb).bel
      clear hb
      go_wp2
      go_ret
      exact ⟨rfl, HE.out⟩
end Go.Proofs.YtohpimfanplloaaGreatDoor.CutsW
