/- WireOwn: the walk. -/
import Derived.Test.YtleljfmhefobeaaGWDRO
import Derived.Test.YtleljfmhefobeaaGWAux
import Derived.WalkKit
import Derived.WalkSpells
import Derived.Lib.Hide
set_option linter.unusedVariables false
set_option linter.unusedSimpArgs false
namespace Go.Proofs.Ytleljfmhefobeaa.WalkWireOwn
open Go.RowKit Go.Proofs.YtleljfmhefobeaaW.PrintWords Go.Proofs.YtleljfmhefobeaaW.PrintLast Go.Proofs.YtleljfmhefobeaaW.PrintMore Go.Proofs.Ytleljfmhefobeaa.GW Go.Proofs.Ytleljfmhefobeaa.GWPa Go.Proofs.Ytleljfmhefobeaa.GWPe Go.Proofs.Ytleljfmhefobeaa.GWPw Go.Proofs.Ytleljfmhefobeaa.GWB Go.Proofs.Ytleljfmhefobeaa.GWSrc Go.Proofs.Ytleljfmhefobeaa.GWDRO Go.Proofs.Ytleljfmhefobeaa.GWDecO Go.Proofs.Ytleljfmhefobeaa.GWAux

/-- An own row that is not empty: its block. -/
theorem R_form {α : Type} {d : Kd α} {e base : Nat} {w : World} {ok : Nat → Prop} {v : Value} {xs : List α} (h : d.R e w base ok v xs) (h0 : 0 < xs.length) :
    ∃ g c, v = .slice (some ⟨g, 0, none⟩) xs.length c ∧ base ≤ g ∧ g < w.heap.size ∧ ∃ cur, w.heap[g]? = some (.cells cur e (0, 0)) := by
  obtain ⟨inner, ho⟩ := Kd.R_own h
  obtain ⟨g, c, hv, _⟩ := ho.form h0
  have hb : v.ownBlock = some g := by rw [hv]; rfl
  exact ⟨g, c, hv, own_base ho g hb, own_lt ho g hb, own_typed ho g hb⟩
theorem R_cur {α : Type} {d : Kd α} {e base : Nat} {w : World} {ok : Nat → Prop} {g n c : Nat} {xs : List α} (h : d.R e w base ok (.slice (some ⟨g, 0, none⟩) n c) xs) : ∃ cur, w.heap[g]? = some (.cells cur e (0, 0)) := by
  obtain ⟨inner, ho⟩ := Kd.R_own h
  exact own_typed ho g rfl
/-- One cell of an own row written: all else stays. -/
theorem keep_set {V w : World} {g j : Nat} {v : Value} (h : KeepBut V w g none) : KeepBut V (w.setCell ⟨g, j, none⟩ v) g none := h.set_ j v
theorem R_other {d : Kd Int} {e g base : Nat} {w w1 : World} {v : Value} {xs : List Int} (h : d.R e w base (fun _ => True) v xs) (hk : KeepBut w w1 g none) {cur : Array Value} {t : Nat} (hg : w.heap[g]? = some (.cells cur t (0, 0))) (ht : e ≠ t) (hE : d.E = []) : d.R e w1 base (fun _ => True) v xs :=
  Kd.R_mono (Kd.R_keep (Kd.R_types h hg (fun q hq => by rw [hE] at hq; simp at hq; rw [hq]; exact ht)) hk (fun k hk => hk.2)) (fun _ _ => trivial)
theorem R_grew {d : Kd Int} {e base : Nat} {w w1 : World} {v : Value} {xs : List Int} {row : Option Nat} (h : d.R e w base (fun _ => True) v xs) (hg : w.grownBy w1 row) (hr : ∀ k, row = some k → k < base) : d.R e w1 base (fun _ => True) v xs :=
  Kd.R_mono (Kd.R_grown (Kd.R_bound h) hg (fun k hk e => by have := hr k e.symm; have := hk.2.1; omega)) (fun _ _ => trivial)
theorem blk_grew {w w1 : World} {g : Nat} {o : Obj} {row : Option Nat} (h : w.heap[g]? = some o) (hg : w.grownBy w1 row) (hne : some g ≠ row) : w1.heap[g]? = some o :=
  (hg.block g (Array.getElem?_eq_some_iff.1 h).1 hne).trans h
theorem R_apart {e base : Nat} {w w1 : World} {v : Value} {xs : List Int} {row : Option Nat} {k : IntKind} (h : (Kd.int k).R e w base (fun _ => True) v xs) (hg : w.grownBy w1 row) (hr : ∀ k, v.ownBlock = some k → some k ≠ row) : (Kd.int k).R e w1 base (fun _ => True) v xs := by
  obtain ⟨_, inner, ho, hp⟩ := h
  have h' : (Kd.int k).R e w base (fun k => v.ownBlock = some k) v xs := ⟨fun _ hk => hk, inner, ho, hp⟩
  exact Kd.R_mono (Kd.R_grown h' hg (fun k hk => hr k hk)) (fun _ _ => trivial)
theorem if_add (g k : Nat) : (if k = 0 then (⟨g, 0, none⟩ : Addr) else ⟨g, 0 + k, none⟩) = ⟨g, k, none⟩ := by by_cases h : k = 0 <;> simp [h]
theorem wrap8 (x : Int) : IntKind.u8.wrap x = x % 256 := IntKind.wrap_u8 x

set_option maxRecDepth 100000 in
set_option maxHeartbeats 4000000 in
theorem walk (a0_0 : Int) (a0_1 : Int) (a0_2 : Int) (a0_3 : Int) (a0_4 : Int) (a0_5 : Int) (a0_6 : Int) (a0_7 : Int) (a0_8 : Int) (a0_9 : Bool) (a0_10 : Int) (a0_11 : Int) (A0_12 : Option Addr) (c0_12 : Nat) (l0_12 : List Int) (A0_13 : Option Addr) (c0_13 : Nat) (l0_13 : List Int) (A0_14 : Option Addr) (c0_14 : Nat) (l0_14 : List Int) (w : World) (hr0_12 : Kd.C (Kd.int .i64) w A0_12 l0_12.length l0_12) (hc0_12 : l0_12.length ≤ c0_12) (hr0_13 : Kd.C (Kd.int .i64) w A0_13 l0_13.length l0_13) (hc0_13 : l0_13.length ≤ c0_13) (hr0_14 : Kd.C (Kd.int .u8) w A0_14 l0_14.length l0_14) (hc0_14 : l0_14.length ≤ c0_14) (hbt : bytesL l0_14) :
    Calls Try.prog 10 #[.agg #[.int .i64 a0_0, .int .i64 a0_1, .int .i64 a0_2, .int .i64 a0_3, .int .i64 a0_4, .int .i64 a0_5, .int .i64 a0_6, .int .i64 a0_7, .int .i64 a0_8, .bool a0_9, .int .i64 a0_10, .int .i64 a0_11, .slice A0_12 l0_12.length c0_12, .slice A0_13 l0_13.length c0_13, .slice A0_14 l0_14.length c0_14]] w fun e w' => e = .returned (.bool true) ∧ Below w.heap.size w w' := by
  have hurec := Try.underlying27
  have HBt := Lib.hid hbt
  have hwlt : w.heap.size < w.heap.size + 1 := by omega
  have hbl := (Below.refl w.heap.size w).alloc (Nat.le_refl _) (.cells #[.int .i64 a0_0, .int .i64 a0_1, .int .i64 a0_2, .int .i64 a0_3, .int .i64 a0_4, .int .i64 a0_5, .int .i64 a0_6, .int .i64 a0_7, .int .i64 a0_8, .bool a0_9, .int .i64 a0_10, .int .i64 a0_11, .slice A0_12 l0_12.length c0_12, .slice A0_13 l0_13.length c0_13, .slice A0_14 l0_14.length c0_14] 27)
  have HB := Lib.hid hbl
  have HA := Lib.hid (blk_new w (.cells #[.int .i64 a0_0, .int .i64 a0_1, .int .i64 a0_2, .int .i64 a0_3, .int .i64 a0_4, .int .i64 a0_5, .int .i64 a0_6, .int .i64 a0_7, .int .i64 a0_8, .bool a0_9, .int .i64 a0_10, .int .i64 a0_11, .slice A0_12 l0_12.length c0_12, .slice A0_13 l0_13.length c0_13, .slice A0_14 l0_14.length c0_14] 27))
  have HC0_12 := Lib.hid (Kd.C_below hr0_12 hbl)
  have HR0_12 := Lib.hid hr0_12
  have HC0_13 := Lib.hid (Kd.C_below hr0_13 hbl)
  have HR0_13 := Lib.hid hr0_13
  have HC0_14 := Lib.hid (Kd.C_below hr0_14 hbl)
  have HR0_14 := Lib.hid hr0_14
  clear hbl hbt hr0_12 hr0_13 hr0_14 hwlt
  have hfe := Lib.hid (few_eq ⟨a0_0, a0_1, a0_2, a0_3, a0_4, a0_5, a0_6, a0_7, a0_8, a0_9, a0_10, a0_11, l0_12, l0_13, l0_14⟩)
  go_enter Try.func10, Try.ntmps10
  go_wp2_with fail
  generalize hW0 : w.alloc (.cells #[.int .i64 a0_0, .int .i64 a0_1, .int .i64 a0_2, .int .i64 a0_3, .int .i64 a0_4, .int .i64 a0_5, .int .i64 a0_6, .int .i64 a0_7, .int .i64 a0_8, .bool a0_9, .int .i64 a0_10, .int .i64 a0_11, .slice A0_12 l0_12.length c0_12, .slice A0_13 l0_13.length c0_13, .slice A0_14 l0_14.length c0_14] 27) = W0 at *
  clear hW0
  have HC := Lib.hid (voklaw19_first.calls 1000 true W0 (first_eq 1000 (by omega) (by omega)))
  go_wp2_with fail
  refine HC.out.mono ?_
  rintro e w1 ⟨rfl, hbl⟩
  clear HC
  have HB' := Lib.hid (HB.out.trans (hbl.mono HB.out.size))
  clear HB
  have HB := HB'
  clear HB'
  have HA' := Lib.hid (blk_below HA.out hbl)
  clear HA
  have HA := HA'
  clear HA'
  have HC0_12' := Lib.hid (Kd.C_below HC0_12.out hbl)
  clear HC0_12
  have HC0_12 := HC0_12'
  clear HC0_12'
  have HC0_13' := Lib.hid (Kd.C_below HC0_13.out hbl)
  clear HC0_13
  have HC0_13 := HC0_13'
  clear HC0_13'
  have HC0_14' := Lib.hid (Kd.C_below HC0_14.out hbl)
  clear HC0_14
  have HC0_14 := HC0_14'
  clear HC0_14'
  clear hbl
  have xc0 := blk_cell HA.out 0
  have xc1 := blk_cell HA.out 1
  have xc2 := blk_cell HA.out 2
  have xc3 := blk_cell HA.out 3
  have xc4 := blk_cell HA.out 4
  have xc5 := blk_cell HA.out 5
  have xc6 := blk_cell HA.out 6
  have xc7 := blk_cell HA.out 7
  have xc8 := blk_cell HA.out 8
  have xc9 := blk_cell HA.out 9
  have xc10 := blk_cell HA.out 10
  have xc11 := blk_cell HA.out 11
  have xc12 := blk_cell HA.out 12
  have xc13 := blk_cell HA.out 13
  have xc14 := blk_cell HA.out 14
  simp only [List.getElem?_toArray, List.getElem?_cons_succ, List.getElem?_cons_zero] at xc0 xc1 xc2 xc3 xc4 xc5 xc6 xc7 xc8 xc9 xc10 xc11 xc12 xc13 xc14
  have HC := Lib.hid (voklaw19_Few.calls a0_0 a0_1 a0_2 a0_3 a0_4 a0_5 a0_6 a0_7 a0_8 a0_9 a0_10 a0_11 A0_12 c0_12 l0_12 A0_13 c0_13 l0_13 A0_14 c0_14 l0_14 _ w1 HC0_12.out hc0_12 HC0_13.out hc0_13 HC0_14.out hc0_14 hfe.out)
  by_cases hfew : l0_12.length ≤ 300 ∧ l0_13.length ≤ 300 ∧ l0_14.length ≤ 20000
  · rw [decide_eq_true hfew] at HC
    go_wp2_with fail
    refine HC.out.mono ?_
    rintro e w2 ⟨rfl, hbl⟩
    clear HC
    clear xc0 xc1 xc2 xc3 xc4 xc5 xc6 xc7 xc8 xc9 xc10 xc11 xc12 xc13 xc14
    have HB' := Lib.hid (HB.out.trans (hbl.mono HB.out.size))
    clear HB
    have HB := HB'
    clear HB'
    have HA' := Lib.hid (blk_below HA.out hbl)
    clear HA
    have HA := HA'
    clear HA'
    have HC0_12' := Lib.hid (Kd.C_below HC0_12.out hbl)
    clear HC0_12
    have HC0_12 := HC0_12'
    clear HC0_12'
    have HC0_13' := Lib.hid (Kd.C_below HC0_13.out hbl)
    clear HC0_13
    have HC0_13 := HC0_13'
    clear HC0_13'
    have HC0_14' := Lib.hid (Kd.C_below HC0_14.out hbl)
    clear HC0_14
    have HC0_14 := HC0_14'
    clear HC0_14'
    clear hbl
    obtain ⟨hfu, hfn, hft⟩ := hfew
    have xc0 := blk_cell HA.out 0
    have xc1 := blk_cell HA.out 1
    have xc2 := blk_cell HA.out 2
    have xc3 := blk_cell HA.out 3
    have xc4 := blk_cell HA.out 4
    have xc5 := blk_cell HA.out 5
    have xc6 := blk_cell HA.out 6
    have xc7 := blk_cell HA.out 7
    have xc8 := blk_cell HA.out 8
    have xc9 := blk_cell HA.out 9
    have xc10 := blk_cell HA.out 10
    have xc11 := blk_cell HA.out 11
    have xc12 := blk_cell HA.out 12
    have xc13 := blk_cell HA.out 13
    have xc14 := blk_cell HA.out 14
    simp only [List.getElem?_toArray, List.getElem?_cons_succ, List.getElem?_cons_zero] at xc0 xc1 xc2 xc3 xc4 xc5 xc6 xc7 xc8 xc9 xc10 xc11 xc12 xc13 xc14
    have hlta := (Array.getElem?_eq_some_iff.1 HA.out).1
    by_cases hm : May ⟨a0_0, a0_1, a0_2, a0_3, a0_4, a0_5, a0_6, a0_7, a0_8, a0_9, a0_10, a0_11, l0_12, l0_13, l0_14⟩
    · as_aux_lemma =>
      have Hm := Lib.hid hm
      have hsh := short hm
      simp only at hsh
      obtain ⟨hsu, hsn, hst⟩ := hsh
      clear hm
      have HC := Lib.hid (wire_Encode.calls 1000 a0_0 a0_1 a0_2 a0_3 a0_4 a0_5 a0_6 a0_7 a0_8 a0_9 a0_10 a0_11 A0_12 c0_12 l0_12 A0_13 c0_13 l0_13 A0_14 c0_14 l0_14 _ _ w2 HC0_12.out hc0_12 HC0_13.out hc0_13 HC0_14.out hc0_14 (Encode_yes 1000 ⟨a0_0, a0_1, a0_2, a0_3, a0_4, a0_5, a0_6, a0_7, a0_8, a0_9, a0_10, a0_11, l0_12, l0_13, l0_14⟩ Hm.out (by omega) (by omega)))
      have hbl0 := body_length ⟨a0_0, a0_1, a0_2, a0_3, a0_4, a0_5, a0_6, a0_7, a0_8, a0_9, a0_10, a0_11, l0_12, l0_13, l0_14⟩
      simp only at hbl0
      have Hbb := Lib.hid (bytes_body ⟨a0_0, a0_1, a0_2, a0_3, a0_4, a0_5, a0_6, a0_7, a0_8, a0_9, a0_10, a0_11, l0_12, l0_13, l0_14⟩ HBt.out)
      have Hdb := Lib.hid (dec_body ⟨a0_0, a0_1, a0_2, a0_3, a0_4, a0_5, a0_6, a0_7, a0_8, a0_9, a0_10, a0_11, l0_12, l0_13, l0_14⟩ Hm.out)
      generalize hx : body ⟨a0_0, a0_1, a0_2, a0_3, a0_4, a0_5, a0_6, a0_7, a0_8, a0_9, a0_10, a0_11, l0_12, l0_13, l0_14⟩ = x at *
      clear hx
      have hxl : x.length ≤ 4300 := by omega
      have hx0 : 0 < x.length := by omega
      clear hbl0
      go_wp2_with fail
      refine HC.out.mono ?_
      rintro e w3 ⟨vx, rfl, hX, hbl⟩
      clear HC
      clear xc0 xc1 xc2 xc3 xc4 xc5 xc6 xc7 xc8 xc9 xc10 xc11 xc12 xc13 xc14
      have HB' := Lib.hid (HB.out.trans (hbl.mono HB.out.size))
      clear HB
      have HB := HB'
      clear HB'
      have HA' := Lib.hid (blk_below HA.out hbl)
      clear HA
      have HA := HA'
      clear HA'
      have HC0_12' := Lib.hid (Kd.C_below HC0_12.out hbl)
      clear HC0_12
      have HC0_12 := HC0_12'
      clear HC0_12'
      have HC0_13' := Lib.hid (Kd.C_below HC0_13.out hbl)
      clear HC0_13
      have HC0_13 := HC0_13'
      clear HC0_13'
      have HC0_14' := Lib.hid (Kd.C_below HC0_14.out hbl)
      clear HC0_14
      have HC0_14 := HC0_14'
      clear HC0_14'
      obtain ⟨gx, cx, rfl, hgx0, hgx1, _⟩ := R_form hX hx0
      have HX := Lib.hid hX
      clear hX hbl
      have hwgx : w.heap.size < gx := by omega
      clear hgx0 hlta
      have HC := Lib.hid (decode_any x (some ⟨gx, 0, none⟩) cx w3 Hbb.out (by omega) (Kd.R_reads' HX.out).2.1 (Kd.R_reads' HX.out).2.2)
      rw [Hdb.out] at HC
      go_wp2_with fail
      refine HC.out.mono ?_
      rintro e w4 ⟨vu, vn, vt, rfl, hU, hN, hT, hUN, hbl⟩
      clear HC
      simp only at hU hN hT
      have hszp := hbl.size
      have HUp := Lib.hid hU
      have HNp := Lib.hid hN
      have HTp := Lib.hid hT
      have HUNp := Lib.hid hUN
      have HB' := Lib.hid (HB.out.trans (hbl.mono HB.out.size))
      clear HB
      have HB := HB'
      clear HB'
      have HA' := Lib.hid (blk_below HA.out hbl)
      clear HA
      have HA := HA'
      clear HA'
      have HC0_12' := Lib.hid (Kd.C_below HC0_12.out hbl)
      clear HC0_12
      have HC0_12 := HC0_12'
      clear HC0_12'
      have HC0_13' := Lib.hid (Kd.C_below HC0_13.out hbl)
      clear HC0_13
      have HC0_13 := HC0_13'
      clear HC0_13'
      have HC0_14' := Lib.hid (Kd.C_below HC0_14.out hbl)
      clear HC0_14
      have HC0_14 := HC0_14'
      clear HC0_14'
      have HX' := Lib.hid (Kd.R_below HX.out hbl)
      clear HX
      have HX := HX'
      clear HX'
      clear hU hN hT hUN hbl
      have hpT : ∃ At ct, vt = .slice At l0_14.length ct ∧ (0 < l0_14.length → ∃ gt, At = some ⟨gt, 0, none⟩ ∧ w3.heap.size ≤ gt ∧ gt < w4.heap.size) := by
        by_cases h0 : 0 < l0_14.length
        · obtain ⟨g, c, hv, h1, h2, _⟩ := R_form HTp.out h0
          exact ⟨_, c, hv, fun _ => ⟨g, rfl, h1, h2⟩⟩
        · obtain ⟨A, c, hv⟩ := Kd.R_slice HTp.out
          exact ⟨A, c, hv, fun h => absurd h h0⟩
      obtain ⟨Atp, ctp, rfl, hgt⟩ := hpT
      have hUlt := fun k hk => own_lt (Kd.R_own HUp.out).choose_spec k hk
      have hNlt := fun k hk => own_lt (Kd.R_own HNp.out).choose_spec k hk
      have HUlt := Lib.hid hUlt
      have HNlt := Lib.hid hNlt
      clear hUlt hNlt
      have Hgt := Lib.hid hgt
      clear hgt
      have hUb := fun k hk => own_base (Kd.R_own HUp.out).choose_spec k hk
      have hNb := fun k hk => own_base (Kd.R_own HNp.out).choose_spec k hk
      have HUb := Lib.hid hUb
      have HNb := Lib.hid hNb
      clear hUb hNb
      obtain ⟨Aup, cup, rfl⟩ := Kd.R_slice HUp.out
      obtain ⟨Anp, cnp, rfl⟩ := Kd.R_slice HNp.out
      have hwxp : gx < w3.heap.size := hgx1
      have hbl := (Below.refl w4.heap.size w4).alloc (Nat.le_refl _) (.cells #[.int .i64 a0_0, .int .i64 a0_1, .int .i64 a0_2, .int .i64 a0_3, .int .i64 a0_4, .int .i64 a0_5, .int .i64 a0_6, .int .i64 a0_7, .int .i64 a0_8, .bool a0_9, .int .i64 a0_10, .int .i64 a0_11, .slice Aup l0_12.length cup, .slice Anp l0_13.length cnp, .slice Atp l0_14.length ctp] 27)
      have hnew := blk_new w4 (.cells #[.int .i64 a0_0, .int .i64 a0_1, .int .i64 a0_2, .int .i64 a0_3, .int .i64 a0_4, .int .i64 a0_5, .int .i64 a0_6, .int .i64 a0_7, .int .i64 a0_8, .bool a0_9, .int .i64 a0_10, .int .i64 a0_11, .slice Aup l0_12.length cup, .slice Anp l0_13.length cnp, .slice Atp l0_14.length ctp] 27)
      have hltp : w4.heap.size < (w4.alloc (.cells #[.int .i64 a0_0, .int .i64 a0_1, .int .i64 a0_2, .int .i64 a0_3, .int .i64 a0_4, .int .i64 a0_5, .int .i64 a0_6, .int .i64 a0_7, .int .i64 a0_8, .bool a0_9, .int .i64 a0_10, .int .i64 a0_11, .slice Aup l0_12.length cup, .slice Anp l0_13.length cnp, .slice Atp l0_14.length ctp] 27)).heap.size := by simp
      have HB' := Lib.hid (HB.out.trans (hbl.mono HB.out.size))
      clear HB
      have HB := HB'
      clear HB'
      have HA' := Lib.hid (blk_below HA.out hbl)
      clear HA
      have HA := HA'
      clear HA'
      have HC0_12' := Lib.hid (Kd.C_below HC0_12.out hbl)
      clear HC0_12
      have HC0_12 := HC0_12'
      clear HC0_12'
      have HC0_13' := Lib.hid (Kd.C_below HC0_13.out hbl)
      clear HC0_13
      have HC0_13 := HC0_13'
      clear HC0_13'
      have HC0_14' := Lib.hid (Kd.C_below HC0_14.out hbl)
      clear HC0_14
      have HC0_14 := HC0_14'
      clear HC0_14'
      have HX' := Lib.hid (Kd.R_below HX.out hbl)
      clear HX
      have HX := HX'
      clear HX'
      have HUp' := Lib.hid (Kd.R_below HUp.out hbl)
      clear HUp
      have HUp := HUp'
      clear HUp'
      have HNp' := Lib.hid (Kd.R_below HNp.out hbl)
      clear HNp
      have HNp := HNp'
      clear HNp'
      have HTp' := Lib.hid (Kd.R_below HTp.out hbl)
      clear HTp
      have HTp := HTp'
      clear HTp'
      have HPp := Lib.hid hnew
      clear hnew hbl
      go_wp2_with fail
      generalize hal : w4.alloc (.cells #[.int .i64 a0_0, .int .i64 a0_1, .int .i64 a0_2, .int .i64 a0_3, .int .i64 a0_4, .int .i64 a0_5, .int .i64 a0_6, .int .i64 a0_7, .int .i64 a0_8, .bool a0_9, .int .i64 a0_10, .int .i64 a0_11, .slice Aup l0_12.length cup, .slice Anp l0_13.length cnp, .slice Atp l0_14.length ctp] 27) = w5 at *
      clear hal
      generalize hpP : w4.heap.size = pP at *
      clear hpP
      have HC := Lib.hid (decode_any x (some ⟨gx, 0, none⟩) cx w5 Hbb.out (by omega) (Kd.R_reads' HX.out).2.1 (Kd.R_reads' HX.out).2.2)
      rw [Hdb.out] at HC
      go_wp2_with fail
      refine HC.out.mono ?_
      rintro e w6 ⟨vu, vn, vt, rfl, hU, hN, hT, hUN, hbl⟩
      clear HC
      simp only at hU hN hT
      have hszq := hbl.size
      have HUq := Lib.hid hU
      have HNq := Lib.hid hN
      have HTq := Lib.hid hT
      have HUNq := Lib.hid hUN
      have HB' := Lib.hid (HB.out.trans (hbl.mono HB.out.size))
      clear HB
      have HB := HB'
      clear HB'
      have HA' := Lib.hid (blk_below HA.out hbl)
      clear HA
      have HA := HA'
      clear HA'
      have HC0_12' := Lib.hid (Kd.C_below HC0_12.out hbl)
      clear HC0_12
      have HC0_12 := HC0_12'
      clear HC0_12'
      have HC0_13' := Lib.hid (Kd.C_below HC0_13.out hbl)
      clear HC0_13
      have HC0_13 := HC0_13'
      clear HC0_13'
      have HC0_14' := Lib.hid (Kd.C_below HC0_14.out hbl)
      clear HC0_14
      have HC0_14 := HC0_14'
      clear HC0_14'
      have HX' := Lib.hid (Kd.R_below HX.out hbl)
      clear HX
      have HX := HX'
      clear HX'
      have HUp' := Lib.hid (Kd.R_below HUp.out hbl)
      clear HUp
      have HUp := HUp'
      clear HUp'
      have HNp' := Lib.hid (Kd.R_below HNp.out hbl)
      clear HNp
      have HNp := HNp'
      clear HNp'
      have HTp' := Lib.hid (Kd.R_below HTp.out hbl)
      clear HTp
      have HTp := HTp'
      clear HTp'
      have HPp' := Lib.hid (blk_below HPp.out hbl)
      clear HPp
      have HPp := HPp'
      clear HPp'
      clear hU hN hT hUN hbl
      obtain ⟨Auq, cuq, rfl⟩ := Kd.R_slice HUq.out
      obtain ⟨Anq, cnq, rfl⟩ := Kd.R_slice HNq.out
      obtain ⟨Atq, ctq, rfl⟩ := Kd.R_slice HTq.out
      have hbl := (Below.refl w6.heap.size w6).alloc (Nat.le_refl _) (.cells #[.int .i64 a0_0, .int .i64 a0_1, .int .i64 a0_2, .int .i64 a0_3, .int .i64 a0_4, .int .i64 a0_5, .int .i64 a0_6, .int .i64 a0_7, .int .i64 a0_8, .bool a0_9, .int .i64 a0_10, .int .i64 a0_11, .slice Auq l0_12.length cuq, .slice Anq l0_13.length cnq, .slice Atq l0_14.length ctq] 27)
      have hnew := blk_new w6 (.cells #[.int .i64 a0_0, .int .i64 a0_1, .int .i64 a0_2, .int .i64 a0_3, .int .i64 a0_4, .int .i64 a0_5, .int .i64 a0_6, .int .i64 a0_7, .int .i64 a0_8, .bool a0_9, .int .i64 a0_10, .int .i64 a0_11, .slice Auq l0_12.length cuq, .slice Anq l0_13.length cnq, .slice Atq l0_14.length ctq] 27)
      have hltq : w6.heap.size < (w6.alloc (.cells #[.int .i64 a0_0, .int .i64 a0_1, .int .i64 a0_2, .int .i64 a0_3, .int .i64 a0_4, .int .i64 a0_5, .int .i64 a0_6, .int .i64 a0_7, .int .i64 a0_8, .bool a0_9, .int .i64 a0_10, .int .i64 a0_11, .slice Auq l0_12.length cuq, .slice Anq l0_13.length cnq, .slice Atq l0_14.length ctq] 27)).heap.size := by simp
      have HB' := Lib.hid (HB.out.trans (hbl.mono HB.out.size))
      clear HB
      have HB := HB'
      clear HB'
      have HA' := Lib.hid (blk_below HA.out hbl)
      clear HA
      have HA := HA'
      clear HA'
      have HC0_12' := Lib.hid (Kd.C_below HC0_12.out hbl)
      clear HC0_12
      have HC0_12 := HC0_12'
      clear HC0_12'
      have HC0_13' := Lib.hid (Kd.C_below HC0_13.out hbl)
      clear HC0_13
      have HC0_13 := HC0_13'
      clear HC0_13'
      have HC0_14' := Lib.hid (Kd.C_below HC0_14.out hbl)
      clear HC0_14
      have HC0_14 := HC0_14'
      clear HC0_14'
      have HX' := Lib.hid (Kd.R_below HX.out hbl)
      clear HX
      have HX := HX'
      clear HX'
      have HUp' := Lib.hid (Kd.R_below HUp.out hbl)
      clear HUp
      have HUp := HUp'
      clear HUp'
      have HNp' := Lib.hid (Kd.R_below HNp.out hbl)
      clear HNp
      have HNp := HNp'
      clear HNp'
      have HTp' := Lib.hid (Kd.R_below HTp.out hbl)
      clear HTp
      have HTp := HTp'
      clear HTp'
      have HPp' := Lib.hid (blk_below HPp.out hbl)
      clear HPp
      have HPp := HPp'
      clear HPp'
      have HUq' := Lib.hid (Kd.R_below HUq.out hbl)
      clear HUq
      have HUq := HUq'
      clear HUq'
      have HNq' := Lib.hid (Kd.R_below HNq.out hbl)
      clear HNq
      have HNq := HNq'
      clear HNq'
      have HTq' := Lib.hid (Kd.R_below HTq.out hbl)
      clear HTq
      have HTq := HTq'
      clear HTq'
      have HPq := Lib.hid hnew
      clear hnew hbl
      go_wp2_with fail
      generalize hal : w6.alloc (.cells #[.int .i64 a0_0, .int .i64 a0_1, .int .i64 a0_2, .int .i64 a0_3, .int .i64 a0_4, .int .i64 a0_5, .int .i64 a0_6, .int .i64 a0_7, .int .i64 a0_8, .bool a0_9, .int .i64 a0_10, .int .i64 a0_11, .slice Auq l0_12.length cuq, .slice Anq l0_13.length cnq, .slice Atq l0_14.length ctq] 27) = w7 at *
      clear hal
      generalize hpQ : w6.heap.size = pQ at *
      clear hpQ
      have hgp : gx < pP := by omega
      have hgq : gx < pQ := by omega
      go_loopw [9] (fun i wr => ∃ (k : Nat) (ys : List Int), k ≤ x.length ∧ i = .int .i64 k ∧ Aside0 (ys.length = x.length) ∧ Aside0 (Kd.R (Kd.int .u8) 5 wr w2.heap.size (fun _ => True) (.slice (some ⟨gx, 0, none⟩) x.length cx) ys) ∧ Aside0 (KeepBut w7 wr gx none) ∧ Aside0 (Below w.heap.size w wr)) (fun i _ => x.length - (intOf i).toNat)
      case atStart => exact ⟨0, x, Nat.zero_le _, rfl, ⟨rfl⟩, ⟨HX.out⟩, ⟨KeepBut.refl _ _ _⟩, ⟨HB.out⟩⟩
      case round =>
        obtain ⟨k, ys, hk, rfl, Hys, HY, HK, HBr⟩ := hrel
        by_cases hlt : k < x.length
        · as_aux_lemma =>
          obtain ⟨cur, hcur⟩ := R_cur HY.out
          have hfz := blk_frozen hcur k
          clear hcur
          obtain ⟨ad, hae, hcell⟩ := Kd.at_int (Kd.R_reads' HY.out).2.2 (k : Int) (by omega) (by have := Hys.out; omega)
          cases hae
          rw [Int.toNat_natCast] at hcell
          simp only [Go.Addr.add, if_add] at hcell
          have Hput := Lib.hid (Kd.R_putg HY.out (k : Int) ((rd ys k + 1) % 256))
          rw [Int.toNat_natCast] at Hput
          go_wp2
          exact ⟨⟨k + 1, ys.set k ((rd ys k + 1) % 256), by omega, by push_cast; rfl, ⟨by simp [Hys.out]⟩, ⟨Hput.out.1⟩, ⟨HK.out.set_ k _⟩, ⟨HBr.out.setCell (p := ⟨gx, k, none⟩) (by show w.heap.size ≤ gx; omega) _⟩⟩, by simp [intOf]; omega⟩
        · have hkx : k = x.length := by omega
          have HB' := Lib.hid (HBr.out)
          clear HB
          have HB := HB'
          clear HB'
          have HC0_12' := Lib.hid (Kd.C_below HR0_12.out HB.out)
          clear HC0_12
          have HC0_12 := HC0_12'
          clear HC0_12'
          have HC0_13' := Lib.hid (Kd.C_below HR0_13.out HB.out)
          clear HC0_13
          have HC0_13 := HC0_13'
          clear HC0_13'
          have HC0_14' := Lib.hid (Kd.C_below HR0_14.out HB.out)
          clear HC0_14
          have HC0_14 := HC0_14'
          clear HC0_14'
          have HA' := Lib.hid (keep_blk HK.out HA.out (by omega))
          clear HA
          have HA := HA'
          clear HA'
          have HPp' := Lib.hid (keep_blk HK.out HPp.out (by omega))
          clear HPp
          have HPp := HPp'
          clear HPp'
          have HPq' := Lib.hid (keep_blk HK.out HPq.out (by omega))
          clear HPq
          have HPq := HPq'
          clear HPq'
          have HUp' := Lib.hid (R_left HUp.out HK.out (by omega))
          clear HUp
          have HUp := HUp'
          clear HUp'
          have HNp' := Lib.hid (R_left HNp.out HK.out (by omega))
          clear HNp
          have HNp := HNp'
          clear HNp'
          have HTp' := Lib.hid (R_left HTp.out HK.out (by omega))
          clear HTp
          have HTp := HTp'
          clear HTp'
          have HUq' := Lib.hid (R_left HUq.out HK.out (by omega))
          clear HUq
          have HUq := HUq'
          clear HUq'
          have HNq' := Lib.hid (R_left HNq.out HK.out (by omega))
          clear HNq
          have HNq := HNq'
          clear HNq'
          have HTq' := Lib.hid (R_left HTq.out HK.out (by omega))
          clear HTq
          have HTq := HTq'
          clear HTq'
          have hszK := HK.out.1
          obtain ⟨gt, hAt, hgl, hgu, cur, hcur⟩ : ∃ gt, (0 < l0_14.length → Atp = some ⟨gt, 0, none⟩) ∧ gx ≤ gt ∧ gt < pP ∧ ∃ cur, wr.heap[gt]? = some (.cells cur 5 (0, 0)) := by
            by_cases h0 : 0 < l0_14.length
            · obtain ⟨g, he, h1, h2⟩ := Hgt.out h0
              subst he
              exact ⟨g, fun _ => rfl, by omega, by omega, R_cur HTp.out⟩
            · exact ⟨gx, fun h => absurd h h0, Nat.le_refl _, hgp, R_cur HY.out⟩
          clear HK HY Hys HBr hk hlt
          have hcurH := Lib.hid hcur
          clear hcur
          have hAtH := Lib.hid hAt
          clear hAt
          go_wp2
          generalize wr = V2 at *
          go_loopw [10] (fun i wr => ∃ (k : Nat) (ys : List Int), k ≤ l0_14.length ∧ i = .int .i64 k ∧ Aside0 (ys.length = l0_14.length) ∧ Aside0 (Kd.R (Kd.int .u8) 5 wr w3.heap.size (fun _ => True) (.slice Atp l0_14.length ctp) ys) ∧ Aside0 (KeepBut V2 wr gt none) ∧ Aside0 (Below w.heap.size w wr)) (fun i _ => l0_14.length - (intOf i).toNat)
          case atStart => exact ⟨0, l0_14, Nat.zero_le _, rfl, ⟨rfl⟩, ⟨HTp.out⟩, ⟨KeepBut.refl _ _ _⟩, ⟨HB.out⟩⟩
          case round =>
            obtain ⟨k, ys, hk, rfl, Hys, HY, HK, HBr⟩ := hrel
            have HPp' := Lib.hid (keep_blk HK.out HPp.out (by omega))
            clear HPp
            have HPp := HPp'
            clear HPp'
            have yc := (blk_cell HPp.out 14).trans rfl
            by_cases hlt : k < l0_14.length
            · as_aux_lemma =>
              have hA := hAtH.out (by omega)
              subst hA
              obtain ⟨cur, hcur⟩ := R_cur HY.out
              have hfz := blk_frozen hcur k
              clear hcur
              obtain ⟨ad, hae, hcell⟩ := Kd.at_int (Kd.R_reads' HY.out).2.2 (k : Int) (by omega) (by have := Hys.out; omega)
              cases hae
              rw [Int.toNat_natCast] at hcell
              simp only [Go.Addr.add, if_add] at hcell
              have Hput := Lib.hid (Kd.R_putg HY.out (k : Int) ((rd ys k + 1) % 256))
              rw [Int.toNat_natCast] at Hput
              go_wp2
              exact ⟨⟨k + 1, ys.set k ((rd ys k + 1) % 256), by omega, by push_cast; rfl, ⟨by simp [Hys.out]⟩, ⟨Hput.out.1⟩, ⟨HK.out.set_ k _⟩, ⟨HBr.out.setCell (p := ⟨gt, k, none⟩) (by show w.heap.size ≤ gt; omega) _⟩⟩, by simp [intOf]; omega⟩
            · clear yc
              have hkt : k = l0_14.length := by omega
              have HB' := Lib.hid (HBr.out)
              clear HB
              have HB := HB'
              clear HB'
              have HC0_12' := Lib.hid (Kd.C_below HR0_12.out HB.out)
              clear HC0_12
              have HC0_12 := HC0_12'
              clear HC0_12'
              have HC0_13' := Lib.hid (Kd.C_below HR0_13.out HB.out)
              clear HC0_13
              have HC0_13 := HC0_13'
              clear HC0_13'
              have HC0_14' := Lib.hid (Kd.C_below HR0_14.out HB.out)
              clear HC0_14
              have HC0_14 := HC0_14'
              clear HC0_14'
              have HA' := Lib.hid (keep_blk HK.out HA.out (by omega))
              clear HA
              have HA := HA'
              clear HA'
              have HPq' := Lib.hid (keep_blk HK.out HPq.out (by omega))
              clear HPq
              have HPq := HPq'
              clear HPq'
              have HUp' := Lib.hid (R_other HUp.out HK.out hcurH.out (by decide) rfl)
              clear HUp
              have HUp := HUp'
              clear HUp'
              have HNp' := Lib.hid (R_other HNp.out HK.out hcurH.out (by decide) rfl)
              clear HNp
              have HNp := HNp'
              clear HNp'
              have HUq' := Lib.hid (R_left HUq.out HK.out (by omega))
              clear HUq
              have HUq := HUq'
              clear HUq'
              have HNq' := Lib.hid (R_left HNq.out HK.out (by omega))
              clear HNq
              have HNq := HNq'
              clear HNq'
              have HTq' := Lib.hid (R_left HTq.out HK.out (by omega))
              clear HTq
              have HTq := HTq'
              clear HTq'
              have hszK2 := HK.out.1
              clear HK HY Hys HBr hk HTp
              generalize wr = V3 at *
              have Hl1 := Lib.hid (show (l0_12.length + 1) * 8 ≤ 140737488355328 by omega)
              have Hl2 := Lib.hid (show (l0_13.length + 1) * 8 ≤ 140737488355328 by omega)
              have y12 := (blk_cell HPp.out 12).trans rfl
              have y14 := (blk_cell HPp.out 14).trans rfl
              go_wp2_with (first | (at_builtin; refine Kd.R_append (Kd.int .i64) (w0 := V3) w3.heap.size rfl (.tmp 68) (.tmp 69) 24 3 (.int .i64 0) 8 rfl Try.underlying24 info_i64 rfl (by decide) (by omega) (.slice Aup l0_12.length cup) l0_12 9 [.int .i64 9] (fun _ => True) (fun _ => False) rfl ?aX ?aP (fun _ hk => hk.elim) (fun _ _ => trivial) ?aO ?aB ?aS ?aL ?_; (case aX => first | exact rfl | exact congrArg (fun n => Go.Value.slice (some ⟨n, 0, none⟩) 1 1) Hse.out); (case aP => exact rfl); (case aO => exact HUp.out); (case aB => exact Below.refl _ _); (case aS => first | omega | exact Hs5.out); (case aL => exact Hl1.out); intro v4 w4 ho hb hg hat; have HG4 := Lib.hid hg; have HL4 := Lib.hid hb; obtain ⟨Ax4, cy4, rfl⟩ := Kd.R_slice ho; clear ho hg hb hat; have HP4 := Lib.hid (blk_grew HPp.out HG4.out (fun h => by have := HUlt.out pP h.symm; omega)); clear y12; have y12 := (blk_cell HP4.out 12).trans rfl; have y13 := (blk_cell HP4.out 13).trans rfl; have yf12 := blk_frozen HP4.out 12; have yf13 := blk_frozen HP4.out 13; have Hs5 := Lib.hid (show w3.heap.size ≤ (w4.setCell ⟨pP, 12, none⟩ (.slice Ax4 (l0_12.length + 1) cy4)).heap.size from by have h1 := HL4.out.size; have h2 := ((KeepBut.refl w4 pP none).set_ 12 (.slice Ax4 (l0_12.length + 1) cy4)).1; omega); have HN2 := Lib.hid (R_other (R_apart HNp.out HG4.out (fun k hk e => HUNp.out k e.symm hk.symm)) ((KeepBut.refl w4 pP none).set_ 12 (.slice Ax4 (l0_12.length + 1) cy4)) HP4.out (by decide) rfl); have HP4b := Lib.hid (show (w4.setCell ⟨pP, 12, none⟩ (.slice Ax4 (l0_12.length + 1) cy4)).heap[pP]? = some (.cells #[.int .i64 a0_0, .int .i64 a0_1, .int .i64 a0_2, .int .i64 a0_3, .int .i64 a0_4, .int .i64 a0_5, .int .i64 a0_6, .int .i64 a0_7, .int .i64 a0_8, .bool a0_9, .int .i64 a0_10, .int .i64 a0_11, .slice Ax4 (l0_12.length + 1) cy4, .slice Anp l0_13.length cnp, .slice Atp l0_14.length ctp] 27 (0, 0)) from by have q := blk_set HP4.out 12 (.slice Ax4 (l0_12.length + 1) cy4); simpa using q); have Hse := Lib.hid (show w4.heap.size = (w4.setCell ⟨pP, 12, none⟩ (.slice Ax4 (l0_12.length + 1) cy4)).heap.size from by simp [World.setCell])) | (at_builtin; refine Kd.R_append (Kd.int .i64) (w0 := (w4.setCell ⟨pP, 12, none⟩ (.slice Ax4 (l0_12.length + 1) cy4))) w3.heap.size rfl (.tmp 73) (.tmp 74) 24 3 (.int .i64 0) 8 rfl Try.underlying24 info_i64 rfl (by decide) (by omega) (.slice Anp l0_13.length cnp) l0_13 9 [.int .i64 9] (fun _ => True) (fun _ => False) rfl ?aX ?aP (fun _ hk => hk.elim) (fun _ _ => trivial) ?aO ?aB ?aS ?aL ?_; (case aX => first | exact rfl | exact congrArg (fun n => Go.Value.slice (some ⟨n, 0, none⟩) 1 1) Hse.out); (case aP => exact rfl); (case aO => exact HN2.out); (case aB => exact Below.refl _ _); (case aS => first | omega | exact Hs5.out); (case aL => exact Hl2.out); intro v5 w5 ho hb hg hat; have HG5 := Lib.hid hg; have HL5 := Lib.hid hb; obtain ⟨Ax5, cy5, rfl⟩ := Kd.R_slice ho; clear ho hg hb hat; have HP5 := Lib.hid (blk_grew HP4b.out HG5.out (fun h => by have := HNlt.out pP h.symm; omega)); clear y12 y13 yf12 yf13; have y12 := (blk_cell HP5.out 12).trans rfl; have y13 := (blk_cell HP5.out 13).trans rfl; have yf12 := blk_frozen HP5.out 12; have yf13 := blk_frozen HP5.out 13) | fail)
              clear y12 y13 yf12 yf13 y14
              have hszb4 := HL4.out.size
              have hszc4 := ((KeepBut.refl w4 pP none).set_ 12 (.slice Ax4 (l0_12.length + 1) cy4)).1
              have HB' := Lib.hid ((HB.out.trans (HL4.out.mono (by omega))).setCell (p := ⟨pP, 12, none⟩) (by show w.heap.size ≤ pP; omega) (.slice Ax4 (l0_12.length + 1) cy4))
              clear HB
              have HB := HB'
              clear HB'
              have HC0_12' := Lib.hid (Kd.C_below HR0_12.out HB.out)
              clear HC0_12
              have HC0_12 := HC0_12'
              clear HC0_12'
              have HC0_13' := Lib.hid (Kd.C_below HR0_13.out HB.out)
              clear HC0_13
              have HC0_13 := HC0_13'
              clear HC0_13'
              have HC0_14' := Lib.hid (Kd.C_below HR0_14.out HB.out)
              clear HC0_14
              have HC0_14 := HC0_14'
              clear HC0_14'
              have HA' := Lib.hid (blk_far (a := pP) (j := 12) ((HL4.out.block _ (by omega)).trans HA.out) (by omega) (.slice Ax4 (l0_12.length + 1) cy4))
              clear HA
              have HA := HA'
              clear HA'
              have HPq' := Lib.hid (blk_far (a := pP) (j := 12) (blk_grew HPq.out HG4.out (fun h => by have := HUlt.out pQ h.symm; omega)) (by omega) (.slice Ax4 (l0_12.length + 1) cy4))
              clear HPq
              have HPq := HPq'
              clear HPq'
              have HUq' := Lib.hid (R_set (a := pP) (j := 12) (R_grew HUq.out HG4.out (fun k hk => by have := HUlt.out k hk; omega)) (by omega) (.slice Ax4 (l0_12.length + 1) cy4))
              clear HUq
              have HUq := HUq'
              clear HUq'
              have HNq' := Lib.hid (R_set (a := pP) (j := 12) (R_grew HNq.out HG4.out (fun k hk => by have := HUlt.out k hk; omega)) (by omega) (.slice Ax4 (l0_12.length + 1) cy4))
              clear HNq
              have HNq := HNq'
              clear HNq'
              have HTq' := Lib.hid (R_set (a := pP) (j := 12) (R_grew HTq.out HG4.out (fun k hk => by have := HUlt.out k hk; omega)) (by omega) (.slice Ax4 (l0_12.length + 1) cy4))
              clear HTq
              have HTq := HTq'
              clear HTq'
              clear HG4 HL4 HP4
              clear HN2 HP4b Hs5 Hse HUp HNp HPp
              generalize hal : (w4.setCell ⟨pP, 12, none⟩ (.slice Ax4 (l0_12.length + 1) cy4)) = W4 at *
              clear hal
              have hszb5 := HL5.out.size
              have hszc5 := ((KeepBut.refl w5 pP none).set_ 13 (.slice Ax5 (l0_13.length + 1) cy5)).1
              have HB' := Lib.hid ((HB.out.trans (HL5.out.mono (by omega))).setCell (p := ⟨pP, 13, none⟩) (by show w.heap.size ≤ pP; omega) (.slice Ax5 (l0_13.length + 1) cy5))
              clear HB
              have HB := HB'
              clear HB'
              have HC0_12' := Lib.hid (Kd.C_below HR0_12.out HB.out)
              clear HC0_12
              have HC0_12 := HC0_12'
              clear HC0_12'
              have HC0_13' := Lib.hid (Kd.C_below HR0_13.out HB.out)
              clear HC0_13
              have HC0_13 := HC0_13'
              clear HC0_13'
              have HC0_14' := Lib.hid (Kd.C_below HR0_14.out HB.out)
              clear HC0_14
              have HC0_14 := HC0_14'
              clear HC0_14'
              have HA' := Lib.hid (blk_far (a := pP) (j := 13) ((HL5.out.block _ (by omega)).trans HA.out) (by omega) (.slice Ax5 (l0_13.length + 1) cy5))
              clear HA
              have HA := HA'
              clear HA'
              have HPq' := Lib.hid (blk_far (a := pP) (j := 13) (blk_grew HPq.out HG5.out (fun h => by have := HNlt.out pQ h.symm; omega)) (by omega) (.slice Ax5 (l0_13.length + 1) cy5))
              clear HPq
              have HPq := HPq'
              clear HPq'
              have HUq' := Lib.hid (R_set (a := pP) (j := 13) (R_grew HUq.out HG5.out (fun k hk => by have := HNlt.out k hk; omega)) (by omega) (.slice Ax5 (l0_13.length + 1) cy5))
              clear HUq
              have HUq := HUq'
              clear HUq'
              have HNq' := Lib.hid (R_set (a := pP) (j := 13) (R_grew HNq.out HG5.out (fun k hk => by have := HNlt.out k hk; omega)) (by omega) (.slice Ax5 (l0_13.length + 1) cy5))
              clear HNq
              have HNq := HNq'
              clear HNq'
              have HTq' := Lib.hid (R_set (a := pP) (j := 13) (R_grew HTq.out HG5.out (fun k hk => by have := HNlt.out k hk; omega)) (by omega) (.slice Ax5 (l0_13.length + 1) cy5))
              clear HTq
              have HTq := HTq'
              clear HTq'
              clear HG5 HL5 HP5
              generalize hal : (w5.setCell ⟨pP, 13, none⟩ (.slice Ax5 (l0_13.length + 1) cy5)) = W5 at *
              clear hal
              have HC := Lib.hid (voklaw19_first.calls 1000 true W5 (first_eq 1000 (by omega) (by omega)))
              go_wp2_with fail
              refine HC.out.mono ?_
              rintro e w8 ⟨rfl, hbl⟩
              clear HC
              have HB' := Lib.hid (HB.out.trans (hbl.mono HB.out.size))
              clear HB
              have HB := HB'
              clear HB'
              have HA' := Lib.hid (blk_below HA.out hbl)
              clear HA
              have HA := HA'
              clear HA'
              have HPq' := Lib.hid (blk_below HPq.out hbl)
              clear HPq
              have HPq := HPq'
              clear HPq'
              have HUq' := Lib.hid (Kd.R_below HUq.out hbl)
              clear HUq
              have HUq := HUq'
              clear HUq'
              have HNq' := Lib.hid (Kd.R_below HNq.out hbl)
              clear HNq
              have HNq := HNq'
              clear HNq'
              have HTq' := Lib.hid (Kd.R_below HTq.out hbl)
              clear HTq
              have HTq := HTq'
              clear HTq'
              have HC0_12' := Lib.hid (Kd.C_below HC0_12.out hbl)
              clear HC0_12
              have HC0_12 := HC0_12'
              clear HC0_12'
              have HC0_13' := Lib.hid (Kd.C_below HC0_13.out hbl)
              clear HC0_13
              have HC0_13 := HC0_13'
              clear HC0_13'
              have HC0_14' := Lib.hid (Kd.C_below HC0_14.out hbl)
              clear HC0_14
              have HC0_14 := HC0_14'
              clear HC0_14'
              clear hbl
              have xc0 := blk_cell HPq.out 0
              have xc1 := blk_cell HPq.out 1
              have xc2 := blk_cell HPq.out 2
              have xc3 := blk_cell HPq.out 3
              have xc4 := blk_cell HPq.out 4
              have xc5 := blk_cell HPq.out 5
              have xc6 := blk_cell HPq.out 6
              have xc7 := blk_cell HPq.out 7
              have xc8 := blk_cell HPq.out 8
              have xc9 := blk_cell HPq.out 9
              have xc10 := blk_cell HPq.out 10
              have xc11 := blk_cell HPq.out 11
              have xc12 := blk_cell HPq.out 12
              have xc13 := blk_cell HPq.out 13
              have xc14 := blk_cell HPq.out 14
              simp only [List.getElem?_toArray, List.getElem?_cons_succ, List.getElem?_cons_zero] at xc0 xc1 xc2 xc3 xc4 xc5 xc6 xc7 xc8 xc9 xc10 xc11 xc12 xc13 xc14
              have xd0 := blk_cell HA.out 0
              have xd1 := blk_cell HA.out 1
              have xd2 := blk_cell HA.out 2
              have xd3 := blk_cell HA.out 3
              have xd4 := blk_cell HA.out 4
              have xd5 := blk_cell HA.out 5
              have xd6 := blk_cell HA.out 6
              have xd7 := blk_cell HA.out 7
              have xd8 := blk_cell HA.out 8
              have xd9 := blk_cell HA.out 9
              have xd10 := blk_cell HA.out 10
              have xd11 := blk_cell HA.out 11
              have xd12 := blk_cell HA.out 12
              have xd13 := blk_cell HA.out 13
              have xd14 := blk_cell HA.out 14
              simp only [List.getElem?_toArray, List.getElem?_cons_succ, List.getElem?_cons_zero] at xd0 xd1 xd2 xd3 xd4 xd5 xd6 xd7 xd8 xd9 xd10 xd11 xd12 xd13 xd14
              obtain ⟨bs, hbs, hbi⟩ := same_eq 1000 ⟨a0_0, a0_1, a0_2, a0_3, a0_4, a0_5, a0_6, a0_7, a0_8, a0_9, a0_10, a0_11, l0_12, l0_13, l0_14⟩ ⟨a0_0, a0_1, a0_2, a0_3, a0_4, a0_5, a0_6, a0_7, a0_8, a0_9, a0_10, a0_11, l0_12, l0_13, l0_14⟩ (by show l0_12.length ≤ 1099511627776; omega) (by show l0_13.length ≤ 1099511627776; omega) (by show l0_12.length + 1 < 1000; omega) (by show l0_13.length + 1 < 1000; omega) HBt.out HBt.out
              obtain rfl := hbi.2 rfl
              simp only at hbs
              have Hbs := Lib.hid hbs
              clear hbs hbi
              have HC := Lib.hid (wire_Same.calls 1000 a0_0 a0_1 a0_2 a0_3 a0_4 a0_5 a0_6 a0_7 a0_8 a0_9 a0_10 a0_11 Auq cuq l0_12 Anq cnq l0_13 Atq ctq l0_14 a0_0 a0_1 a0_2 a0_3 a0_4 a0_5 a0_6 a0_7 a0_8 a0_9 a0_10 a0_11 A0_12 c0_12 l0_12 A0_13 c0_13 l0_13 A0_14 c0_14 l0_14 true w8 (Kd.R_reads' HUq.out).2.2 (Kd.R_reads' HUq.out).2.1 (Kd.R_reads' HNq.out).2.2 (Kd.R_reads' HNq.out).2.1 (Kd.R_reads' HTq.out).2.2 (Kd.R_reads' HTq.out).2.1 HC0_12.out hc0_12 HC0_13.out hc0_13 HC0_14.out hc0_14 Hbs.out)
              go_wp2_with fail
              refine HC.out.mono ?_
              rintro e w9 ⟨rfl, hbl⟩
              clear HC
              clear xc0 xc1 xc2 xc3 xc4 xc5 xc6 xc7 xc8 xc9 xc10 xc11 xc12 xc13 xc14
              clear xd0 xd1 xd2 xd3 xd4 xd5 xd6 xd7 xd8 xd9 xd10 xd11 xd12 xd13 xd14
              have HBz := Lib.hid (HB.out.trans (hbl.mono HB.out.size))
              clear hbl
              go_wp2
              go_ret
              exact ⟨rfl, HBz.out⟩
    · as_aux_lemma =>
      have Hm := Lib.hid hm
      clear hm
      have HC := Lib.hid (wire_Encode.calls 1000 a0_0 a0_1 a0_2 a0_3 a0_4 a0_5 a0_6 a0_7 a0_8 a0_9 a0_10 a0_11 A0_12 c0_12 l0_12 A0_13 c0_13 l0_13 A0_14 c0_14 l0_14 _ _ w2 HC0_12.out hc0_12 HC0_13.out hc0_13 HC0_14.out hc0_14 (no1000 ⟨a0_0, a0_1, a0_2, a0_3, a0_4, a0_5, a0_6, a0_7, a0_8, a0_9, a0_10, a0_11, l0_12, l0_13, l0_14⟩ Hm.out (by show l0_12.length ≤ 300; omega) (by show l0_13.length ≤ 300; omega) (by show l0_14.length ≤ 20000; omega)))
      go_wp2_with fail
      refine HC.out.mono ?_
      rintro e w3 ⟨vx, rfl, hX, hbl⟩
      clear HC
      clear xc0 xc1 xc2 xc3 xc4 xc5 xc6 xc7 xc8 xc9 xc10 xc11 xc12 xc13 xc14
      have HB' := Lib.hid (HB.out.trans (hbl.mono HB.out.size))
      clear HB
      have HB := HB'
      clear HB'
      have HA' := Lib.hid (blk_below HA.out hbl)
      clear HA
      have HA := HA'
      clear HA'
      have HC0_12' := Lib.hid (Kd.C_below HC0_12.out hbl)
      clear HC0_12
      have HC0_12 := HC0_12'
      clear HC0_12'
      have HC0_13' := Lib.hid (Kd.C_below HC0_13.out hbl)
      clear HC0_13
      have HC0_13 := HC0_13'
      clear HC0_13'
      have HC0_14' := Lib.hid (Kd.C_below HC0_14.out hbl)
      clear HC0_14
      have HC0_14 := HC0_14'
      clear HC0_14'
      obtain ⟨Ax, cx, rfl⟩ := Kd.R_slice hX
      clear hX hbl
      have HC := Lib.hid (voklaw19_first.calls 1000 true w3 (first_eq 1000 (by omega) (by omega)))
      go_wp2_with fail
      refine HC.out.mono ?_
      rintro e w4 ⟨rfl, hbl⟩
      clear HC
      have HB' := Lib.hid (HB.out.trans (hbl.mono HB.out.size))
      clear HB
      have HB := HB'
      clear HB'
      have HA' := Lib.hid (blk_below HA.out hbl)
      clear HA
      have HA := HA'
      clear HA'
      have HC0_12' := Lib.hid (Kd.C_below HC0_12.out hbl)
      clear HC0_12
      have HC0_12 := HC0_12'
      clear HC0_12'
      have HC0_13' := Lib.hid (Kd.C_below HC0_13.out hbl)
      clear HC0_13
      have HC0_13 := HC0_13'
      clear HC0_13'
      have HC0_14' := Lib.hid (Kd.C_below HC0_14.out hbl)
      clear HC0_14
      have HC0_14 := HC0_14'
      clear HC0_14'
      clear hbl
      go_wp2
      go_ret
      exact ⟨rfl, HB.out⟩
  · as_aux_lemma =>
    rw [decide_eq_false hfew] at HC
    go_wp2_with fail
    refine HC.out.mono ?_
    rintro e w2 ⟨rfl, hbl⟩
    clear HC
    clear xc0 xc1 xc2 xc3 xc4 xc5 xc6 xc7 xc8 xc9 xc10 xc11 xc12 xc13 xc14
    have HB' := Lib.hid (HB.out.trans (hbl.mono HB.out.size))
    clear HB
    have HB := HB'
    clear HB'
    have HA' := Lib.hid (blk_below HA.out hbl)
    clear HA
    have HA := HA'
    clear HA'
    have HC0_12' := Lib.hid (Kd.C_below HC0_12.out hbl)
    clear HC0_12
    have HC0_12 := HC0_12'
    clear HC0_12'
    have HC0_13' := Lib.hid (Kd.C_below HC0_13.out hbl)
    clear HC0_13
    have HC0_13 := HC0_13'
    clear HC0_13'
    have HC0_14' := Lib.hid (Kd.C_below HC0_14.out hbl)
    clear HC0_14
    have HC0_14 := HC0_14'
    clear HC0_14'
    clear hbl
    have HC := Lib.hid (voklaw19_first.calls 1000 true w2 (first_eq 1000 (by omega) (by omega)))
    go_wp2_with fail
    refine HC.out.mono ?_
    rintro e w3 ⟨rfl, hbl⟩
    clear HC
    have HB' := Lib.hid (HB.out.trans (hbl.mono HB.out.size))
    clear HB
    have HB := HB'
    clear HB'
    have HA' := Lib.hid (blk_below HA.out hbl)
    clear HA
    have HA := HA'
    clear HA'
    have HC0_12' := Lib.hid (Kd.C_below HC0_12.out hbl)
    clear HC0_12
    have HC0_12 := HC0_12'
    clear HC0_12'
    have HC0_13' := Lib.hid (Kd.C_below HC0_13.out hbl)
    clear HC0_13
    have HC0_13 := HC0_13'
    clear HC0_13'
    have HC0_14' := Lib.hid (Kd.C_below HC0_14.out hbl)
    clear HC0_14
    have HC0_14 := HC0_14'
    clear HC0_14'
    clear hbl
    go_wp2
    go_ret
    exact ⟨rfl, HB.out⟩
end Go.Proofs.Ytleljfmhefobeaa.WalkWireOwn
