/- ScriptBack: the walk, a theorem a case. -/
import Derived.Test.YtleljfmhefobeaaDoorGLFirst
import Derived.Test.YtleljfmhefobeaaDoorGLAux
import Derived.WalkKit
import Derived.WalkSpells
import Derived.Lib.Hide
import Derived.Deep.RegionHeld3
set_option linter.unusedVariables false
set_option linter.unusedSimpArgs false
namespace Go.Proofs.YtleljfmhefobeaaDoor.WalkSB
open Go Go.RowKit Go.Proofs.YtleljfmhefobeaaDoorW.PrintWords Go.Proofs.YtleljfmhefobeaaDoorW.PrintLast Go.Proofs.YtleljfmhefobeaaDoorW.PrintMore Go.Proofs.YtleljfmhefobeaaDoor.GL Go.Proofs.YtleljfmhefobeaaDoor.PureS1 Go.Proofs.YtleljfmhefobeaaDoor.PureS2 Go.Proofs.YtleljfmhefobeaaDoor.PureS3 Go.Proofs.YtleljfmhefobeaaDoor.PureS4 Go.Proofs.YtleljfmhefobeaaDoor.GLFirst Go.Proofs.YtleljfmhefobeaaDoor.GLAux

set_option maxRecDepth 100000 in
set_option maxHeartbeats 16000000 in
theorem big0 (k a b id op old : Int) (AU : Option Addr) (cU : Nat) (us : List Int) (AT : Option Addr) (cT : Nat) (tx : List Int) (s : ByteArray) (w : World) (hG : Glob w) (hrU : Kd.C (Kd.int .i64) w AU us.length us) (hcU : us.length ≤ cU) (hrT : Kd.C (Kd.int .u8) w AT tx.length tx) (hcT : tx.length ≤ cT) (hk : i64 k) (ha : i64 a) (hb : i64 b) (hid : i64 id) (hop : i64 op) (hold : i64 old) (hu : ∀ y ∈ us, i64 y) (hx : ∀ y ∈ tx, 0 ≤ y ∧ y ≤ 255) (g0 : ¬ tx.length ≤ 2000) :
    Calls Tryd.prog 4 #[.agg #[.int .i64 k, .int .i64 a, .int .i64 b, .int .i64 id, .int .i64 op, .int .i64 old, .slice AU us.length cU, .slice AT tx.length cT], .string s] w fun e w' => e = .returned (.bool true) ∧ Below w.heap.size w w' := by
  have hu1 := Tryd.underlying27
  have hu2 := Tryd.underlying25
  have hu3 := Tryd.underlying34
  have hu4 := Tryd.underlying32
  have HG := Lib.hid hG
  clear hG
  have HrU := Lib.hid hrU
  have HrT := Lib.hid hrT
  clear hrU hrT
  have Hu := Lib.hid hu
  have Hx := Lib.hid hx
  clear hu hx
  have HB := Lib.hid ((Below.refl w.heap.size w).alloc (Nat.le_refl _) (.cells #[.int .i64 k, .int .i64 a, .int .i64 b, .int .i64 id, .int .i64 op, .int .i64 old, .slice AU us.length cU, .slice AT tx.length cT] 27))
  have HA := Lib.hid (blk_new w (.cells #[.int .i64 k, .int .i64 a, .int .i64 b, .int .i64 id, .int .i64 op, .int .i64 old, .slice AU us.length cU, .slice AT tx.length cT] 27))
  go_enter Tryd.func4, Tryd.ntmps4
  go_wp2_with fail
  generalize w.alloc (.cells #[.int .i64 k, .int .i64 a, .int .i64 b, .int .i64 id, .int .i64 op, .int .i64 old, .slice AU us.length cU, .slice AT tx.length cT] 27) = W0 at *
  obtain ⟨g, hg⟩ : ∃ g, g = w.heap.size := ⟨_, rfl⟩
  have hgB : w.heap.size ≤ g := by omega
  have Hgg := Lib.hid hg
  rw [← hg] at HA
  rw [← hg]
  clear hg
  have HC := Lib.hid (first_any W0 (HG.out.below HB.out))
  go_wp2_with fail
  refine HC.out.mono ?_
  rintro e w1 ⟨rfl, hbl⟩
  clear HC
  have HB' := Lib.hid (HB.out.trans (hbl.mono HB.out.size))
  clear HB
  have HB := HB'
  clear HB'
  have HA' := Lib.hid (blk_below HA.out hbl)
  clear HA
  have HA := HA'
  clear HA'
  clear hbl
  have c0 := (blk_cell HA.out 0).trans rfl
  have c1 := (blk_cell HA.out 1).trans rfl
  have c2 := (blk_cell HA.out 2).trans rfl
  have c3 := (blk_cell HA.out 3).trans rfl
  have c4 := (blk_cell HA.out 4).trans rfl
  have c5 := (blk_cell HA.out 5).trans rfl
  have c6 := (blk_cell HA.out 6).trans rfl
  have c7 := (blk_cell HA.out 7).trans rfl
  have gn0 : decide (2000 < tx.length) = true := decide_eq_true (by omega)
  have gi0 : decide ((2000 : Int) < (tx.length : Int)) = true := decide_eq_true (by omega)
  have HC := Lib.hid (first_any w1 (HG.out.below HB.out))
  go_wp2_with fail
  refine HC.out.mono ?_
  rintro e w2 ⟨rfl, hbl⟩
  clear HC
  clear c0 c1 c2 c3 c4 c5 c6 c7
  have HB' := Lib.hid (HB.out.trans (hbl.mono HB.out.size))
  clear HB
  have HB := HB'
  clear HB'
  have HA' := Lib.hid (blk_below HA.out hbl)
  clear HA
  have HA := HA'
  clear HA'
  clear hbl
  go_wp2
  go_ret
  exact ⟨rfl, HB.out⟩
set_option maxRecDepth 100000 in
set_option maxHeartbeats 16000000 in
theorem big1 (k a b id op old : Int) (AU : Option Addr) (cU : Nat) (us : List Int) (AT : Option Addr) (cT : Nat) (tx : List Int) (s : ByteArray) (w : World) (hG : Glob w) (hrU : Kd.C (Kd.int .i64) w AU us.length us) (hcU : us.length ≤ cU) (hrT : Kd.C (Kd.int .u8) w AT tx.length tx) (hcT : tx.length ≤ cT) (hk : i64 k) (ha : i64 a) (hb : i64 b) (hid : i64 id) (hop : i64 op) (hold : i64 old) (hu : ∀ y ∈ us, i64 y) (hx : ∀ y ∈ tx, 0 ≤ y ∧ y ≤ 255) (g0 : tx.length ≤ 2000) (g1 : ¬ us.length ≤ 300) :
    Calls Tryd.prog 4 #[.agg #[.int .i64 k, .int .i64 a, .int .i64 b, .int .i64 id, .int .i64 op, .int .i64 old, .slice AU us.length cU, .slice AT tx.length cT], .string s] w fun e w' => e = .returned (.bool true) ∧ Below w.heap.size w w' := by
  have hu1 := Tryd.underlying27
  have hu2 := Tryd.underlying25
  have hu3 := Tryd.underlying34
  have hu4 := Tryd.underlying32
  have HG := Lib.hid hG
  clear hG
  have HrU := Lib.hid hrU
  have HrT := Lib.hid hrT
  clear hrU hrT
  have Hu := Lib.hid hu
  have Hx := Lib.hid hx
  clear hu hx
  have HB := Lib.hid ((Below.refl w.heap.size w).alloc (Nat.le_refl _) (.cells #[.int .i64 k, .int .i64 a, .int .i64 b, .int .i64 id, .int .i64 op, .int .i64 old, .slice AU us.length cU, .slice AT tx.length cT] 27))
  have HA := Lib.hid (blk_new w (.cells #[.int .i64 k, .int .i64 a, .int .i64 b, .int .i64 id, .int .i64 op, .int .i64 old, .slice AU us.length cU, .slice AT tx.length cT] 27))
  go_enter Tryd.func4, Tryd.ntmps4
  go_wp2_with fail
  generalize w.alloc (.cells #[.int .i64 k, .int .i64 a, .int .i64 b, .int .i64 id, .int .i64 op, .int .i64 old, .slice AU us.length cU, .slice AT tx.length cT] 27) = W0 at *
  obtain ⟨g, hg⟩ : ∃ g, g = w.heap.size := ⟨_, rfl⟩
  have hgB : w.heap.size ≤ g := by omega
  have Hgg := Lib.hid hg
  rw [← hg] at HA
  rw [← hg]
  clear hg
  have HC := Lib.hid (first_any W0 (HG.out.below HB.out))
  go_wp2_with fail
  refine HC.out.mono ?_
  rintro e w1 ⟨rfl, hbl⟩
  clear HC
  have HB' := Lib.hid (HB.out.trans (hbl.mono HB.out.size))
  clear HB
  have HB := HB'
  clear HB'
  have HA' := Lib.hid (blk_below HA.out hbl)
  clear HA
  have HA := HA'
  clear HA'
  clear hbl
  have c0 := (blk_cell HA.out 0).trans rfl
  have c1 := (blk_cell HA.out 1).trans rfl
  have c2 := (blk_cell HA.out 2).trans rfl
  have c3 := (blk_cell HA.out 3).trans rfl
  have c4 := (blk_cell HA.out 4).trans rfl
  have c5 := (blk_cell HA.out 5).trans rfl
  have c6 := (blk_cell HA.out 6).trans rfl
  have c7 := (blk_cell HA.out 7).trans rfl
  have gn0 : decide (2000 < tx.length) = false := decide_eq_false (by omega)
  have gi0 : decide ((2000 : Int) < (tx.length : Int)) = false := decide_eq_false (by omega)
  have gn1 : decide (300 < us.length) = true := decide_eq_true (by omega)
  have gi1 : decide ((300 : Int) < (us.length : Int)) = true := decide_eq_true (by omega)
  have HC := Lib.hid (first_any w1 (HG.out.below HB.out))
  go_wp2_with fail
  refine HC.out.mono ?_
  rintro e w2 ⟨rfl, hbl⟩
  clear HC
  clear c0 c1 c2 c3 c4 c5 c6 c7
  have HB' := Lib.hid (HB.out.trans (hbl.mono HB.out.size))
  clear HB
  have HB := HB'
  clear HB'
  have HA' := Lib.hid (blk_below HA.out hbl)
  clear HA
  have HA := HA'
  clear HA'
  clear hbl
  go_wp2
  go_ret
  exact ⟨rfl, HB.out⟩
set_option maxRecDepth 100000 in
set_option maxHeartbeats 16000000 in
theorem big2 (k a b id op old : Int) (AU : Option Addr) (cU : Nat) (us : List Int) (AT : Option Addr) (cT : Nat) (tx : List Int) (s : ByteArray) (w : World) (hG : Glob w) (hrU : Kd.C (Kd.int .i64) w AU us.length us) (hcU : us.length ≤ cU) (hrT : Kd.C (Kd.int .u8) w AT tx.length tx) (hcT : tx.length ≤ cT) (hk : i64 k) (ha : i64 a) (hb : i64 b) (hid : i64 id) (hop : i64 op) (hold : i64 old) (hu : ∀ y ∈ us, i64 y) (hx : ∀ y ∈ tx, 0 ≤ y ∧ y ≤ 255) (g0 : tx.length ≤ 2000) (g1 : us.length ≤ 300) (g2 : ¬ s.size ≤ 6000) :
    Calls Tryd.prog 4 #[.agg #[.int .i64 k, .int .i64 a, .int .i64 b, .int .i64 id, .int .i64 op, .int .i64 old, .slice AU us.length cU, .slice AT tx.length cT], .string s] w fun e w' => e = .returned (.bool true) ∧ Below w.heap.size w w' := by
  have hu1 := Tryd.underlying27
  have hu2 := Tryd.underlying25
  have hu3 := Tryd.underlying34
  have hu4 := Tryd.underlying32
  have HG := Lib.hid hG
  clear hG
  have HrU := Lib.hid hrU
  have HrT := Lib.hid hrT
  clear hrU hrT
  have Hu := Lib.hid hu
  have Hx := Lib.hid hx
  clear hu hx
  have HB := Lib.hid ((Below.refl w.heap.size w).alloc (Nat.le_refl _) (.cells #[.int .i64 k, .int .i64 a, .int .i64 b, .int .i64 id, .int .i64 op, .int .i64 old, .slice AU us.length cU, .slice AT tx.length cT] 27))
  have HA := Lib.hid (blk_new w (.cells #[.int .i64 k, .int .i64 a, .int .i64 b, .int .i64 id, .int .i64 op, .int .i64 old, .slice AU us.length cU, .slice AT tx.length cT] 27))
  go_enter Tryd.func4, Tryd.ntmps4
  go_wp2_with fail
  generalize w.alloc (.cells #[.int .i64 k, .int .i64 a, .int .i64 b, .int .i64 id, .int .i64 op, .int .i64 old, .slice AU us.length cU, .slice AT tx.length cT] 27) = W0 at *
  obtain ⟨g, hg⟩ : ∃ g, g = w.heap.size := ⟨_, rfl⟩
  have hgB : w.heap.size ≤ g := by omega
  have Hgg := Lib.hid hg
  rw [← hg] at HA
  rw [← hg]
  clear hg
  have HC := Lib.hid (first_any W0 (HG.out.below HB.out))
  go_wp2_with fail
  refine HC.out.mono ?_
  rintro e w1 ⟨rfl, hbl⟩
  clear HC
  have HB' := Lib.hid (HB.out.trans (hbl.mono HB.out.size))
  clear HB
  have HB := HB'
  clear HB'
  have HA' := Lib.hid (blk_below HA.out hbl)
  clear HA
  have HA := HA'
  clear HA'
  clear hbl
  have c0 := (blk_cell HA.out 0).trans rfl
  have c1 := (blk_cell HA.out 1).trans rfl
  have c2 := (blk_cell HA.out 2).trans rfl
  have c3 := (blk_cell HA.out 3).trans rfl
  have c4 := (blk_cell HA.out 4).trans rfl
  have c5 := (blk_cell HA.out 5).trans rfl
  have c6 := (blk_cell HA.out 6).trans rfl
  have c7 := (blk_cell HA.out 7).trans rfl
  have gn0 : decide (2000 < tx.length) = false := decide_eq_false (by omega)
  have gi0 : decide ((2000 : Int) < (tx.length : Int)) = false := decide_eq_false (by omega)
  have gn1 : decide (300 < us.length) = false := decide_eq_false (by omega)
  have gi1 : decide ((300 : Int) < (us.length : Int)) = false := decide_eq_false (by omega)
  have gn2 : decide (6000 < s.size) = true := decide_eq_true (by omega)
  have gi2 : decide ((6000 : Int) < (s.size : Int)) = true := decide_eq_true (by omega)
  have HC := Lib.hid (first_any w1 (HG.out.below HB.out))
  go_wp2_with fail
  refine HC.out.mono ?_
  rintro e w2 ⟨rfl, hbl⟩
  clear HC
  clear c0 c1 c2 c3 c4 c5 c6 c7
  have HB' := Lib.hid (HB.out.trans (hbl.mono HB.out.size))
  clear HB
  have HB := HB'
  clear HB'
  have HA' := Lib.hid (blk_below HA.out hbl)
  clear HA
  have HA := HA'
  clear HA'
  clear hbl
  go_wp2
  go_ret
  exact ⟨rfl, HB.out⟩
set_option maxRecDepth 100000 in
set_option maxHeartbeats 16000000 in
theorem t_low (k a b id op old : Int) (AU : Option Addr) (cU : Nat) (us : List Int) (AT : Option Addr) (cT : Nat) (tx : List Int) (s : ByteArray) (w : World) (hG : Glob w) (hrU : Kd.C (Kd.int .i64) w AU us.length us) (hcU : us.length ≤ cU) (hrT : Kd.C (Kd.int .u8) w AT tx.length tx) (hcT : tx.length ≤ cT) (hk : i64 k) (ha : i64 a) (hb : i64 b) (hid : i64 id) (hop : i64 op) (hold : i64 old) (hu : ∀ y ∈ us, i64 y) (hx : ∀ y ∈ tx, 0 ≤ y ∧ y ≤ 255) (g0 : tx.length ≤ 2000) (g1 : us.length ≤ 300) (g2 : s.size ≤ 6000) (he : (parse (L s)).2 = 0) (hkk : k < 1) :
    Calls Tryd.prog 4 #[.agg #[.int .i64 k, .int .i64 a, .int .i64 b, .int .i64 id, .int .i64 op, .int .i64 old, .slice AU us.length cU, .slice AT tx.length cT], .string s] w fun e w' => e = .returned (.bool true) ∧ Below w.heap.size w w' := by
  have hu1 := Tryd.underlying27
  have hu2 := Tryd.underlying25
  have hu3 := Tryd.underlying34
  have hu4 := Tryd.underlying32
  have HG := Lib.hid hG
  clear hG
  have HrU := Lib.hid hrU
  have HrT := Lib.hid hrT
  clear hrU hrT
  have Hu := Lib.hid hu
  have Hx := Lib.hid hx
  clear hu hx
  have HB := Lib.hid ((Below.refl w.heap.size w).alloc (Nat.le_refl _) (.cells #[.int .i64 k, .int .i64 a, .int .i64 b, .int .i64 id, .int .i64 op, .int .i64 old, .slice AU us.length cU, .slice AT tx.length cT] 27))
  have HA := Lib.hid (blk_new w (.cells #[.int .i64 k, .int .i64 a, .int .i64 b, .int .i64 id, .int .i64 op, .int .i64 old, .slice AU us.length cU, .slice AT tx.length cT] 27))
  go_enter Tryd.func4, Tryd.ntmps4
  go_wp2_with fail
  generalize w.alloc (.cells #[.int .i64 k, .int .i64 a, .int .i64 b, .int .i64 id, .int .i64 op, .int .i64 old, .slice AU us.length cU, .slice AT tx.length cT] 27) = W0 at *
  obtain ⟨g, hg⟩ : ∃ g, g = w.heap.size := ⟨_, rfl⟩
  have hgB : w.heap.size ≤ g := by omega
  have Hgg := Lib.hid hg
  rw [← hg] at HA
  rw [← hg]
  clear hg
  have HC := Lib.hid (first_any W0 (HG.out.below HB.out))
  go_wp2_with fail
  refine HC.out.mono ?_
  rintro e w1 ⟨rfl, hbl⟩
  clear HC
  have HB' := Lib.hid (HB.out.trans (hbl.mono HB.out.size))
  clear HB
  have HB := HB'
  clear HB'
  have HA' := Lib.hid (blk_below HA.out hbl)
  clear HA
  have HA := HA'
  clear HA'
  clear hbl
  have c0 := (blk_cell HA.out 0).trans rfl
  have c1 := (blk_cell HA.out 1).trans rfl
  have c2 := (blk_cell HA.out 2).trans rfl
  have c3 := (blk_cell HA.out 3).trans rfl
  have c4 := (blk_cell HA.out 4).trans rfl
  have c5 := (blk_cell HA.out 5).trans rfl
  have c6 := (blk_cell HA.out 6).trans rfl
  have c7 := (blk_cell HA.out 7).trans rfl
  have gn0 : decide (2000 < tx.length) = false := decide_eq_false (by omega)
  have gi0 : decide ((2000 : Int) < (tx.length : Int)) = false := decide_eq_false (by omega)
  have gn1 : decide (300 < us.length) = false := decide_eq_false (by omega)
  have gi1 : decide ((300 : Int) < (us.length : Int)) = false := decide_eq_false (by omega)
  have gn2 : decide (6000 < s.size) = false := decide_eq_false (by omega)
  have gi2 : decide ((6000 : Int) < (s.size : Int)) = false := decide_eq_false (by omega)
  have PX := Lib.hid (px s (parse (L s)).1 (parse (L s)).2 (by omega) rfl)
  have PO := Lib.hid (parse_ok (L s) (by rw [← size_L]; omega))
  have PP := Lib.hid (parse_pr (L s))
  generalize parse (L s) = X at *
  obtain ⟨⟨xk, xa, xb, xid, xop, xold, xus, xtx⟩, er⟩ := X
  simp only at he
  have HC := Lib.hid (script_Parse.calls 3000000 s xk xa xb xid xop xold xus xtx er w1 (HG.out.below HB.out) PX.out)
  go_wp2_with fail
  refine HC.out.mono ?_
  rintro e w2 ⟨v6, v7, rfl, h6, h7, hbl⟩
  clear HC
  clear c0 c1 c2 c3 c4 c5 c6 c7
  clear PX
  have HB' := Lib.hid (HB.out.trans (hbl.mono HB.out.size))
  clear HB
  have HB := HB'
  clear HB'
  have HA' := Lib.hid (blk_below HA.out hbl)
  clear HA
  have HA := HA'
  clear HA'
  obtain ⟨A6, q6, rfl⟩ := Kd.R_slice h6
  obtain ⟨A7, q7, rfl⟩ := Kd.R_slice h7
  have X6 := Lib.hid h6
  have X7 := Lib.hid h7
  clear h6 h7 hbl
  have hbl := (Below.refl w2.heap.size w2).alloc (Nat.le_refl _) (.cells #[.int .i64 xk, .int .i64 xa, .int .i64 xb, .int .i64 xid, .int .i64 xop, .int .i64 xold, .slice A6 xus.length q6, .slice A7 xtx.length q7] 27)
  have hnew := blk_new w2 (.cells #[.int .i64 xk, .int .i64 xa, .int .i64 xb, .int .i64 xid, .int .i64 xop, .int .i64 xold, .slice A6 xus.length q6, .slice A7 xtx.length q7] 27)
  have HB' := Lib.hid (HB.out.trans (hbl.mono HB.out.size))
  clear HB
  have HB := HB'
  clear HB'
  have HA' := Lib.hid (blk_below HA.out hbl)
  clear HA
  have HA := HA'
  clear HA'
  have X6' := Lib.hid (Kd.R_below X6.out hbl)
  clear X6
  have X6 := X6'
  clear X6'
  have X7' := Lib.hid (Kd.R_below X7.out hbl)
  clear X7
  have X7 := X7'
  clear X7'
  have HX := Lib.hid hnew
  clear hnew hbl
  subst he
  have hbe : ((0 : Int) == 0) = true := rfl
  go_wp2_with fail
  generalize w2.alloc (.cells #[.int .i64 xk, .int .i64 xa, .int .i64 xb, .int .i64 xid, .int .i64 xop, .int .i64 xold, .slice A6 xus.length q6, .slice A7 xtx.length q7] 27) = w3 at *
  obtain ⟨gHX, hgHX⟩ : ∃ g, g = w2.heap.size := ⟨_, rfl⟩
  generalize w2.heap.size = gHX at *
  have hps : B (pr ⟨xk, xa, xb, xid, xop, xold, xus, xtx⟩) = s := by rw [PP.out (by first | rfl | trivial), B_L]
  have HP := Lib.hid ((print_eq 3000000 ⟨xk, xa, xb, xid, xop, xold, xus, xtx⟩ PO.out (by omega)).trans (congrArg some hps))
  clear hps
  have x0 := (blk_cell HX.out 0).trans rfl
  have x1 := (blk_cell HX.out 1).trans rfl
  have x2 := (blk_cell HX.out 2).trans rfl
  have x3 := (blk_cell HX.out 3).trans rfl
  have x4 := (blk_cell HX.out 4).trans rfl
  have x5 := (blk_cell HX.out 5).trans rfl
  have x6 := (blk_cell HX.out 6).trans rfl
  have x7 := (blk_cell HX.out 7).trans rfl
  have HC := Lib.hid (script_Print.calls 3000000 xk xa xb xid xop xold A6 q6 xus A7 q7 xtx s w3 (Kd.R_reads' X6.out).2.2 (Kd.R_reads' X6.out).2.1 (Kd.R_reads' X7.out).2.2 (Kd.R_reads' X7.out).2.1 (HG.out.below HB.out) HP.out)
  go_wp2_with fail
  refine HC.out.mono ?_
  rintro e w4 ⟨rfl, hbl⟩
  clear HC
  clear x0 x1 x2 x3 x4 x5 x6 x7
  have HB' := Lib.hid (HB.out.trans (hbl.mono HB.out.size))
  clear HB
  have HB := HB'
  clear HB'
  have HA' := Lib.hid (blk_below HA.out hbl)
  clear HA
  have HA := HA'
  clear HA'
  have HX' := Lib.hid (blk_below HX.out hbl)
  clear HX
  have HX := HX'
  clear HX'
  have X6' := Lib.hid (Kd.R_below X6.out hbl)
  clear X6
  have X6 := X6'
  clear X6'
  have X7' := Lib.hid (Kd.R_below X7.out hbl)
  clear X7
  have X7 := X7'
  clear X7'
  clear hbl HP PO PP
  clear HX X6 X7
  have c0 := (blk_cell HA.out 0).trans rfl
  have cf0 := blk_frozen HA.out 0
  have c1 := (blk_cell HA.out 1).trans rfl
  have cf1 := blk_frozen HA.out 1
  have c2 := (blk_cell HA.out 2).trans rfl
  have cf2 := blk_frozen HA.out 2
  have c3 := (blk_cell HA.out 3).trans rfl
  have cf3 := blk_frozen HA.out 3
  have c4 := (blk_cell HA.out 4).trans rfl
  have cf4 := blk_frozen HA.out 4
  have c5 := (blk_cell HA.out 5).trans rfl
  have cf5 := blk_frozen HA.out 5
  have c6 := (blk_cell HA.out 6).trans rfl
  have cf6 := blk_frozen HA.out 6
  have c7 := (blk_cell HA.out 7).trans rfl
  have cf7 := blk_frozen HA.out 7
  have HO := print_eq 3000000 ⟨k, a, b, id, op, old, us, tx⟩ ⟨ha, hb, hid, hop, hold, Hu.out, by show us.length ≤ 100000; omega, Hx.out, by show tx.length ≤ 1000000; omega⟩ (by omega)
  have hpr : pr ⟨k, a, b, id, op, old, us, tx⟩ = [63] := by unfold pr; exact if_pos (by exact .inl hkk)
  rw [hpr] at HO
  clear hpr
  have HO := Lib.hid HO
  have hb1 : decide (k < 1) = true := decide_eq_true hkk
  have HC := Lib.hid (first_any _ (HG.out.below HB.out))
  go_wp2_with fail
  refine HC.out.mono ?_
  rintro e w5 ⟨rfl, hbl⟩
  clear HC
  clear c0 c1 c2 c3 c4 c5 c6 c7 cf0 cf1 cf2 cf3 cf4 cf5 cf6 cf7
  have HB' := Lib.hid (HB.out.trans (hbl.mono HB.out.size))
  clear HB
  have HB := HB'
  clear HB'
  have HA' := Lib.hid (blk_below HA.out hbl)
  clear HA
  have HA := HA'
  clear HA'
  clear hbl
  have c0 := (blk_cell HA.out 0).trans rfl
  have c1 := (blk_cell HA.out 1).trans rfl
  have c2 := (blk_cell HA.out 2).trans rfl
  have c3 := (blk_cell HA.out 3).trans rfl
  have c4 := (blk_cell HA.out 4).trans rfl
  have c5 := (blk_cell HA.out 5).trans rfl
  have c6 := (blk_cell HA.out 6).trans rfl
  have c7 := (blk_cell HA.out 7).trans rfl
  have HC := Lib.hid (script_Print.calls 3000000 k a b id op old AU cU us AT cT tx (B [63]) w5 (Kd.C_below HrU.out HB.out) hcU (Kd.C_below HrT.out HB.out) hcT (HG.out.below HB.out) HO.out)
  go_wp2_with fail
  refine HC.out.mono ?_
  rintro e w6 ⟨rfl, hbl⟩
  clear HC
  clear c0 c1 c2 c3 c4 c5 c6 c7
  have HB' := Lib.hid (HB.out.trans (hbl.mono HB.out.size))
  clear HB
  have HB := HB'
  clear HB'
  have HA' := Lib.hid (blk_below HA.out hbl)
  clear HA
  have HA := HA'
  clear HA'
  clear hbl HO
  go_wp2
  go_ret
  exact ⟨rfl, HB.out⟩
set_option maxRecDepth 100000 in
set_option maxHeartbeats 16000000 in
theorem t_high (k a b id op old : Int) (AU : Option Addr) (cU : Nat) (us : List Int) (AT : Option Addr) (cT : Nat) (tx : List Int) (s : ByteArray) (w : World) (hG : Glob w) (hrU : Kd.C (Kd.int .i64) w AU us.length us) (hcU : us.length ≤ cU) (hrT : Kd.C (Kd.int .u8) w AT tx.length tx) (hcT : tx.length ≤ cT) (hk : i64 k) (ha : i64 a) (hb : i64 b) (hid : i64 id) (hop : i64 op) (hold : i64 old) (hu : ∀ y ∈ us, i64 y) (hx : ∀ y ∈ tx, 0 ≤ y ∧ y ≤ 255) (g0 : tx.length ≤ 2000) (g1 : us.length ≤ 300) (g2 : s.size ≤ 6000) (he : (parse (L s)).2 = 0) (hk1 : 1 ≤ k) (hkk : 8 < k) :
    Calls Tryd.prog 4 #[.agg #[.int .i64 k, .int .i64 a, .int .i64 b, .int .i64 id, .int .i64 op, .int .i64 old, .slice AU us.length cU, .slice AT tx.length cT], .string s] w fun e w' => e = .returned (.bool true) ∧ Below w.heap.size w w' := by
  have hu1 := Tryd.underlying27
  have hu2 := Tryd.underlying25
  have hu3 := Tryd.underlying34
  have hu4 := Tryd.underlying32
  have HG := Lib.hid hG
  clear hG
  have HrU := Lib.hid hrU
  have HrT := Lib.hid hrT
  clear hrU hrT
  have Hu := Lib.hid hu
  have Hx := Lib.hid hx
  clear hu hx
  have HB := Lib.hid ((Below.refl w.heap.size w).alloc (Nat.le_refl _) (.cells #[.int .i64 k, .int .i64 a, .int .i64 b, .int .i64 id, .int .i64 op, .int .i64 old, .slice AU us.length cU, .slice AT tx.length cT] 27))
  have HA := Lib.hid (blk_new w (.cells #[.int .i64 k, .int .i64 a, .int .i64 b, .int .i64 id, .int .i64 op, .int .i64 old, .slice AU us.length cU, .slice AT tx.length cT] 27))
  go_enter Tryd.func4, Tryd.ntmps4
  go_wp2_with fail
  generalize w.alloc (.cells #[.int .i64 k, .int .i64 a, .int .i64 b, .int .i64 id, .int .i64 op, .int .i64 old, .slice AU us.length cU, .slice AT tx.length cT] 27) = W0 at *
  obtain ⟨g, hg⟩ : ∃ g, g = w.heap.size := ⟨_, rfl⟩
  have hgB : w.heap.size ≤ g := by omega
  have Hgg := Lib.hid hg
  rw [← hg] at HA
  rw [← hg]
  clear hg
  have HC := Lib.hid (first_any W0 (HG.out.below HB.out))
  go_wp2_with fail
  refine HC.out.mono ?_
  rintro e w1 ⟨rfl, hbl⟩
  clear HC
  have HB' := Lib.hid (HB.out.trans (hbl.mono HB.out.size))
  clear HB
  have HB := HB'
  clear HB'
  have HA' := Lib.hid (blk_below HA.out hbl)
  clear HA
  have HA := HA'
  clear HA'
  clear hbl
  have c0 := (blk_cell HA.out 0).trans rfl
  have c1 := (blk_cell HA.out 1).trans rfl
  have c2 := (blk_cell HA.out 2).trans rfl
  have c3 := (blk_cell HA.out 3).trans rfl
  have c4 := (blk_cell HA.out 4).trans rfl
  have c5 := (blk_cell HA.out 5).trans rfl
  have c6 := (blk_cell HA.out 6).trans rfl
  have c7 := (blk_cell HA.out 7).trans rfl
  have gn0 : decide (2000 < tx.length) = false := decide_eq_false (by omega)
  have gi0 : decide ((2000 : Int) < (tx.length : Int)) = false := decide_eq_false (by omega)
  have gn1 : decide (300 < us.length) = false := decide_eq_false (by omega)
  have gi1 : decide ((300 : Int) < (us.length : Int)) = false := decide_eq_false (by omega)
  have gn2 : decide (6000 < s.size) = false := decide_eq_false (by omega)
  have gi2 : decide ((6000 : Int) < (s.size : Int)) = false := decide_eq_false (by omega)
  have PX := Lib.hid (px s (parse (L s)).1 (parse (L s)).2 (by omega) rfl)
  have PO := Lib.hid (parse_ok (L s) (by rw [← size_L]; omega))
  have PP := Lib.hid (parse_pr (L s))
  generalize parse (L s) = X at *
  obtain ⟨⟨xk, xa, xb, xid, xop, xold, xus, xtx⟩, er⟩ := X
  simp only at he
  have HC := Lib.hid (script_Parse.calls 3000000 s xk xa xb xid xop xold xus xtx er w1 (HG.out.below HB.out) PX.out)
  go_wp2_with fail
  refine HC.out.mono ?_
  rintro e w2 ⟨v6, v7, rfl, h6, h7, hbl⟩
  clear HC
  clear c0 c1 c2 c3 c4 c5 c6 c7
  clear PX
  have HB' := Lib.hid (HB.out.trans (hbl.mono HB.out.size))
  clear HB
  have HB := HB'
  clear HB'
  have HA' := Lib.hid (blk_below HA.out hbl)
  clear HA
  have HA := HA'
  clear HA'
  obtain ⟨A6, q6, rfl⟩ := Kd.R_slice h6
  obtain ⟨A7, q7, rfl⟩ := Kd.R_slice h7
  have X6 := Lib.hid h6
  have X7 := Lib.hid h7
  clear h6 h7 hbl
  have hbl := (Below.refl w2.heap.size w2).alloc (Nat.le_refl _) (.cells #[.int .i64 xk, .int .i64 xa, .int .i64 xb, .int .i64 xid, .int .i64 xop, .int .i64 xold, .slice A6 xus.length q6, .slice A7 xtx.length q7] 27)
  have hnew := blk_new w2 (.cells #[.int .i64 xk, .int .i64 xa, .int .i64 xb, .int .i64 xid, .int .i64 xop, .int .i64 xold, .slice A6 xus.length q6, .slice A7 xtx.length q7] 27)
  have HB' := Lib.hid (HB.out.trans (hbl.mono HB.out.size))
  clear HB
  have HB := HB'
  clear HB'
  have HA' := Lib.hid (blk_below HA.out hbl)
  clear HA
  have HA := HA'
  clear HA'
  have X6' := Lib.hid (Kd.R_below X6.out hbl)
  clear X6
  have X6 := X6'
  clear X6'
  have X7' := Lib.hid (Kd.R_below X7.out hbl)
  clear X7
  have X7 := X7'
  clear X7'
  have HX := Lib.hid hnew
  clear hnew hbl
  subst he
  have hbe : ((0 : Int) == 0) = true := rfl
  go_wp2_with fail
  generalize w2.alloc (.cells #[.int .i64 xk, .int .i64 xa, .int .i64 xb, .int .i64 xid, .int .i64 xop, .int .i64 xold, .slice A6 xus.length q6, .slice A7 xtx.length q7] 27) = w3 at *
  obtain ⟨gHX, hgHX⟩ : ∃ g, g = w2.heap.size := ⟨_, rfl⟩
  generalize w2.heap.size = gHX at *
  have hps : B (pr ⟨xk, xa, xb, xid, xop, xold, xus, xtx⟩) = s := by rw [PP.out (by first | rfl | trivial), B_L]
  have HP := Lib.hid ((print_eq 3000000 ⟨xk, xa, xb, xid, xop, xold, xus, xtx⟩ PO.out (by omega)).trans (congrArg some hps))
  clear hps
  have x0 := (blk_cell HX.out 0).trans rfl
  have x1 := (blk_cell HX.out 1).trans rfl
  have x2 := (blk_cell HX.out 2).trans rfl
  have x3 := (blk_cell HX.out 3).trans rfl
  have x4 := (blk_cell HX.out 4).trans rfl
  have x5 := (blk_cell HX.out 5).trans rfl
  have x6 := (blk_cell HX.out 6).trans rfl
  have x7 := (blk_cell HX.out 7).trans rfl
  have HC := Lib.hid (script_Print.calls 3000000 xk xa xb xid xop xold A6 q6 xus A7 q7 xtx s w3 (Kd.R_reads' X6.out).2.2 (Kd.R_reads' X6.out).2.1 (Kd.R_reads' X7.out).2.2 (Kd.R_reads' X7.out).2.1 (HG.out.below HB.out) HP.out)
  go_wp2_with fail
  refine HC.out.mono ?_
  rintro e w4 ⟨rfl, hbl⟩
  clear HC
  clear x0 x1 x2 x3 x4 x5 x6 x7
  have HB' := Lib.hid (HB.out.trans (hbl.mono HB.out.size))
  clear HB
  have HB := HB'
  clear HB'
  have HA' := Lib.hid (blk_below HA.out hbl)
  clear HA
  have HA := HA'
  clear HA'
  have HX' := Lib.hid (blk_below HX.out hbl)
  clear HX
  have HX := HX'
  clear HX'
  have X6' := Lib.hid (Kd.R_below X6.out hbl)
  clear X6
  have X6 := X6'
  clear X6'
  have X7' := Lib.hid (Kd.R_below X7.out hbl)
  clear X7
  have X7 := X7'
  clear X7'
  clear hbl HP PO PP
  clear HX X6 X7
  have c0 := (blk_cell HA.out 0).trans rfl
  have cf0 := blk_frozen HA.out 0
  have c1 := (blk_cell HA.out 1).trans rfl
  have cf1 := blk_frozen HA.out 1
  have c2 := (blk_cell HA.out 2).trans rfl
  have cf2 := blk_frozen HA.out 2
  have c3 := (blk_cell HA.out 3).trans rfl
  have cf3 := blk_frozen HA.out 3
  have c4 := (blk_cell HA.out 4).trans rfl
  have cf4 := blk_frozen HA.out 4
  have c5 := (blk_cell HA.out 5).trans rfl
  have cf5 := blk_frozen HA.out 5
  have c6 := (blk_cell HA.out 6).trans rfl
  have cf6 := blk_frozen HA.out 6
  have c7 := (blk_cell HA.out 7).trans rfl
  have cf7 := blk_frozen HA.out 7
  have HO := print_eq 3000000 ⟨k, a, b, id, op, old, us, tx⟩ ⟨ha, hb, hid, hop, hold, Hu.out, by show us.length ≤ 100000; omega, Hx.out, by show tx.length ≤ 1000000; omega⟩ (by omega)
  have hpr : pr ⟨k, a, b, id, op, old, us, tx⟩ = [63] := by unfold pr; exact if_pos (by exact .inr hkk)
  rw [hpr] at HO
  clear hpr
  have HO := Lib.hid HO
  have hb1 : decide (k < 1) = false := decide_eq_false (by omega)
  have hb8 : decide (8 < k) = true := decide_eq_true hkk
  have HC := Lib.hid (first_any _ (HG.out.below HB.out))
  go_wp2_with fail
  refine HC.out.mono ?_
  rintro e w5 ⟨rfl, hbl⟩
  clear HC
  clear c0 c1 c2 c3 c4 c5 c6 c7 cf0 cf1 cf2 cf3 cf4 cf5 cf6 cf7
  have HB' := Lib.hid (HB.out.trans (hbl.mono HB.out.size))
  clear HB
  have HB := HB'
  clear HB'
  have HA' := Lib.hid (blk_below HA.out hbl)
  clear HA
  have HA := HA'
  clear HA'
  clear hbl
  have c0 := (blk_cell HA.out 0).trans rfl
  have c1 := (blk_cell HA.out 1).trans rfl
  have c2 := (blk_cell HA.out 2).trans rfl
  have c3 := (blk_cell HA.out 3).trans rfl
  have c4 := (blk_cell HA.out 4).trans rfl
  have c5 := (blk_cell HA.out 5).trans rfl
  have c6 := (blk_cell HA.out 6).trans rfl
  have c7 := (blk_cell HA.out 7).trans rfl
  have HC := Lib.hid (script_Print.calls 3000000 k a b id op old AU cU us AT cT tx (B [63]) w5 (Kd.C_below HrU.out HB.out) hcU (Kd.C_below HrT.out HB.out) hcT (HG.out.below HB.out) HO.out)
  go_wp2_with fail
  refine HC.out.mono ?_
  rintro e w6 ⟨rfl, hbl⟩
  clear HC
  clear c0 c1 c2 c3 c4 c5 c6 c7
  have HB' := Lib.hid (HB.out.trans (hbl.mono HB.out.size))
  clear HB
  have HB := HB'
  clear HB'
  have HA' := Lib.hid (blk_below HA.out hbl)
  clear HA
  have HA := HA'
  clear HA'
  clear hbl HO
  go_wp2
  go_ret
  exact ⟨rfl, HB.out⟩
set_option maxRecDepth 100000 in
set_option maxHeartbeats 16000000 in
theorem t_ask (k a b id op old : Int) (AU : Option Addr) (cU : Nat) (us : List Int) (AT : Option Addr) (cT : Nat) (tx : List Int) (s : ByteArray) (w : World) (hG : Glob w) (hrU : Kd.C (Kd.int .i64) w AU us.length us) (hcU : us.length ≤ cU) (hrT : Kd.C (Kd.int .u8) w AT tx.length tx) (hcT : tx.length ≤ cT) (hk : i64 k) (ha : i64 a) (hb : i64 b) (hid : i64 id) (hop : i64 op) (hold : i64 old) (hu : ∀ y ∈ us, i64 y) (hx : ∀ y ∈ tx, 0 ≤ y ∧ y ≤ 255) (g0 : tx.length ≤ 2000) (g1 : us.length ≤ 300) (g2 : s.size ≤ 6000) (he : (parse (L s)).2 = 0) (hk1 : k = 1) :
    Calls Tryd.prog 4 #[.agg #[.int .i64 k, .int .i64 a, .int .i64 b, .int .i64 id, .int .i64 op, .int .i64 old, .slice AU us.length cU, .slice AT tx.length cT], .string s] w fun e w' => e = .returned (.bool true) ∧ Below w.heap.size w w' := by
  have hbk : (k == 1) = true := by simp [hk1]
  have hb1 : decide (k < 1) = false := decide_eq_false (by omega)
  have hb8 : decide (8 < k) = false := decide_eq_false (by omega)
  have Hk1 := Lib.hid hk1
  clear hk1
  have hu1 := Tryd.underlying27
  have hu2 := Tryd.underlying25
  have hu3 := Tryd.underlying34
  have hu4 := Tryd.underlying32
  have HG := Lib.hid hG
  clear hG
  have HrU := Lib.hid hrU
  have HrT := Lib.hid hrT
  clear hrU hrT
  have Hu := Lib.hid hu
  have Hx := Lib.hid hx
  clear hu hx
  have HB := Lib.hid ((Below.refl w.heap.size w).alloc (Nat.le_refl _) (.cells #[.int .i64 k, .int .i64 a, .int .i64 b, .int .i64 id, .int .i64 op, .int .i64 old, .slice AU us.length cU, .slice AT tx.length cT] 27))
  have HA := Lib.hid (blk_new w (.cells #[.int .i64 k, .int .i64 a, .int .i64 b, .int .i64 id, .int .i64 op, .int .i64 old, .slice AU us.length cU, .slice AT tx.length cT] 27))
  go_enter Tryd.func4, Tryd.ntmps4
  go_wp2_with fail
  generalize w.alloc (.cells #[.int .i64 k, .int .i64 a, .int .i64 b, .int .i64 id, .int .i64 op, .int .i64 old, .slice AU us.length cU, .slice AT tx.length cT] 27) = W0 at *
  obtain ⟨g, hg⟩ : ∃ g, g = w.heap.size := ⟨_, rfl⟩
  have hgB : w.heap.size ≤ g := by omega
  have Hgg := Lib.hid hg
  rw [← hg] at HA
  rw [← hg]
  clear hg
  have HC := Lib.hid (first_any W0 (HG.out.below HB.out))
  go_wp2_with fail
  refine HC.out.mono ?_
  rintro e w1 ⟨rfl, hbl⟩
  clear HC
  have HB' := Lib.hid (HB.out.trans (hbl.mono HB.out.size))
  clear HB
  have HB := HB'
  clear HB'
  have HA' := Lib.hid (blk_below HA.out hbl)
  clear HA
  have HA := HA'
  clear HA'
  clear hbl
  have c0 := (blk_cell HA.out 0).trans rfl
  have c1 := (blk_cell HA.out 1).trans rfl
  have c2 := (blk_cell HA.out 2).trans rfl
  have c3 := (blk_cell HA.out 3).trans rfl
  have c4 := (blk_cell HA.out 4).trans rfl
  have c5 := (blk_cell HA.out 5).trans rfl
  have c6 := (blk_cell HA.out 6).trans rfl
  have c7 := (blk_cell HA.out 7).trans rfl
  have gn0 : decide (2000 < tx.length) = false := decide_eq_false (by omega)
  have gi0 : decide ((2000 : Int) < (tx.length : Int)) = false := decide_eq_false (by omega)
  have gn1 : decide (300 < us.length) = false := decide_eq_false (by omega)
  have gi1 : decide ((300 : Int) < (us.length : Int)) = false := decide_eq_false (by omega)
  have gn2 : decide (6000 < s.size) = false := decide_eq_false (by omega)
  have gi2 : decide ((6000 : Int) < (s.size : Int)) = false := decide_eq_false (by omega)
  have PX := Lib.hid (px s (parse (L s)).1 (parse (L s)).2 (by omega) rfl)
  have PO := Lib.hid (parse_ok (L s) (by rw [← size_L]; omega))
  have PP := Lib.hid (parse_pr (L s))
  generalize parse (L s) = X at *
  obtain ⟨⟨xk, xa, xb, xid, xop, xold, xus, xtx⟩, er⟩ := X
  simp only at he
  have HC := Lib.hid (script_Parse.calls 3000000 s xk xa xb xid xop xold xus xtx er w1 (HG.out.below HB.out) PX.out)
  go_wp2_with fail
  refine HC.out.mono ?_
  rintro e w2 ⟨v6, v7, rfl, h6, h7, hbl⟩
  clear HC
  clear c0 c1 c2 c3 c4 c5 c6 c7
  clear PX
  have HB' := Lib.hid (HB.out.trans (hbl.mono HB.out.size))
  clear HB
  have HB := HB'
  clear HB'
  have HA' := Lib.hid (blk_below HA.out hbl)
  clear HA
  have HA := HA'
  clear HA'
  obtain ⟨A6, q6, rfl⟩ := Kd.R_slice h6
  obtain ⟨A7, q7, rfl⟩ := Kd.R_slice h7
  have X6 := Lib.hid h6
  have X7 := Lib.hid h7
  clear h6 h7 hbl
  have hbl := (Below.refl w2.heap.size w2).alloc (Nat.le_refl _) (.cells #[.int .i64 xk, .int .i64 xa, .int .i64 xb, .int .i64 xid, .int .i64 xop, .int .i64 xold, .slice A6 xus.length q6, .slice A7 xtx.length q7] 27)
  have hnew := blk_new w2 (.cells #[.int .i64 xk, .int .i64 xa, .int .i64 xb, .int .i64 xid, .int .i64 xop, .int .i64 xold, .slice A6 xus.length q6, .slice A7 xtx.length q7] 27)
  have HB' := Lib.hid (HB.out.trans (hbl.mono HB.out.size))
  clear HB
  have HB := HB'
  clear HB'
  have HA' := Lib.hid (blk_below HA.out hbl)
  clear HA
  have HA := HA'
  clear HA'
  have X6' := Lib.hid (Kd.R_below X6.out hbl)
  clear X6
  have X6 := X6'
  clear X6'
  have X7' := Lib.hid (Kd.R_below X7.out hbl)
  clear X7
  have X7 := X7'
  clear X7'
  have HX := Lib.hid hnew
  clear hnew hbl
  subst he
  have hbe : ((0 : Int) == 0) = true := rfl
  go_wp2_with fail
  generalize w2.alloc (.cells #[.int .i64 xk, .int .i64 xa, .int .i64 xb, .int .i64 xid, .int .i64 xop, .int .i64 xold, .slice A6 xus.length q6, .slice A7 xtx.length q7] 27) = w3 at *
  obtain ⟨gHX, hgHX⟩ : ∃ g, g = w2.heap.size := ⟨_, rfl⟩
  generalize w2.heap.size = gHX at *
  have hps : B (pr ⟨xk, xa, xb, xid, xop, xold, xus, xtx⟩) = s := by rw [PP.out (by first | rfl | trivial), B_L]
  have HP := Lib.hid ((print_eq 3000000 ⟨xk, xa, xb, xid, xop, xold, xus, xtx⟩ PO.out (by omega)).trans (congrArg some hps))
  clear hps
  have x0 := (blk_cell HX.out 0).trans rfl
  have x1 := (blk_cell HX.out 1).trans rfl
  have x2 := (blk_cell HX.out 2).trans rfl
  have x3 := (blk_cell HX.out 3).trans rfl
  have x4 := (blk_cell HX.out 4).trans rfl
  have x5 := (blk_cell HX.out 5).trans rfl
  have x6 := (blk_cell HX.out 6).trans rfl
  have x7 := (blk_cell HX.out 7).trans rfl
  have HC := Lib.hid (script_Print.calls 3000000 xk xa xb xid xop xold A6 q6 xus A7 q7 xtx s w3 (Kd.R_reads' X6.out).2.2 (Kd.R_reads' X6.out).2.1 (Kd.R_reads' X7.out).2.2 (Kd.R_reads' X7.out).2.1 (HG.out.below HB.out) HP.out)
  go_wp2_with fail
  refine HC.out.mono ?_
  rintro e w4 ⟨rfl, hbl⟩
  clear HC
  clear x0 x1 x2 x3 x4 x5 x6 x7
  have HB' := Lib.hid (HB.out.trans (hbl.mono HB.out.size))
  clear HB
  have HB := HB'
  clear HB'
  have HA' := Lib.hid (blk_below HA.out hbl)
  clear HA
  have HA := HA'
  clear HA'
  have HX' := Lib.hid (blk_below HX.out hbl)
  clear HX
  have HX := HX'
  clear HX'
  have X6' := Lib.hid (Kd.R_below X6.out hbl)
  clear X6
  have X6 := X6'
  clear X6'
  have X7' := Lib.hid (Kd.R_below X7.out hbl)
  clear X7
  have X7 := X7'
  clear X7'
  clear hbl HP PO PP
  clear HX X6 X7
  have c0 := (blk_cell HA.out 0).trans rfl
  have cf0 := blk_frozen HA.out 0
  have c1 := (blk_cell HA.out 1).trans rfl
  have cf1 := blk_frozen HA.out 1
  have c2 := (blk_cell HA.out 2).trans rfl
  have cf2 := blk_frozen HA.out 2
  have c3 := (blk_cell HA.out 3).trans rfl
  have cf3 := blk_frozen HA.out 3
  have c4 := (blk_cell HA.out 4).trans rfl
  have cf4 := blk_frozen HA.out 4
  have c5 := (blk_cell HA.out 5).trans rfl
  have cf5 := blk_frozen HA.out 5
  have c6 := (blk_cell HA.out 6).trans rfl
  have cf6 := blk_frozen HA.out 6
  have c7 := (blk_cell HA.out 7).trans rfl
  have cf7 := blk_frozen HA.out 7
  have HA2 := Lib.hid (show ((w4.setCell ⟨g, 1, none⟩ (.int .i64 0)).setCell ⟨g, 2, none⟩ (.int .i64 0)).heap[g]? = some (.cells #[.int .i64 k, .int .i64 0, .int .i64 0, .int .i64 id, .int .i64 op, .int .i64 old, .slice AU us.length cU, .slice AT tx.length cT] 27 (0, 0)) from (blk_put (blk_put HA.out 1 (.int .i64 0) rfl) 2 (.int .i64 0) rfl))
  have HB2 := Lib.hid (Below.setCell (Below.setCell HB.out (p := ⟨g, 1, none⟩) hgB (.int .i64 0)) (p := ⟨g, 2, none⟩) hgB (.int .i64 0))
  go_wp2_with (first | ((with_reducible refine gate_dst (N := 86) rfl ?_); refine Kd.R_lit (Kd.int .i64) _ 3 ?hg (N := 86) ?hd (xs := ([0, 0, id, op, old] : List Int)) (inner := [.int .i64 0, .int .i64 0, .int .i64 id, .int .i64 op, .int .i64 old]) (ok := fun _ => True) (okp := fun _ => True) ?hr ?hp (fun _ hk => hk) trivial (Below.refl _ _) (Nat.le_refl _) (by simp) ?_; (case hd => rfl); (case hg => rfl); (case hr => first | (go_simp; done) | (go_simp; rfl)); (case hp => exact (Reps.one (show Kd.M (Kd.int .i64) _ _ _ (0 : Int) [.int .i64 0] from rfl) (Reps.one (show Kd.M (Kd.int .i64) _ _ _ (0 : Int) [.int .i64 0] from rfl) (Reps.one (show Kd.M (Kd.int .i64) _ _ _ (id : Int) [.int .i64 id] from rfl) (Reps.one (show Kd.M (Kd.int .i64) _ _ _ (op : Int) [.int .i64 op] from rfl) (Reps.one (show Kd.M (Kd.int .i64) _ _ _ (old : Int) [.int .i64 old] from rfl) (Reps.none _ _))))))); intro v86 w86 ho1 hb1_ hg1 hn1; clear hg1 hn1; (have HBn := Lib.hid (HB2.out.trans (hb1_.mono HB2.out.size))); (have HAn := Lib.hid (blk_below HA2.out hb1_)); (have HN1 := Lib.hid (Kd.R_lower ho1 HB2.out.size)); (have z6 := (blk_cell HAn.out 6).trans rfl); clear HA2 HB2 ho1 hb1_ HA HB) | ((with_reducible refine gate_builtin (b := .append) (xs := #[.tmp 86, .tmp 89]) rfl ?_); at_builtin; refine Kd.R_append_rows (Kd.int .i64) (w0 := w) w.heap.size rfl (.tmp 86) (.tmp 89) 22 3 (.int .i64 0) 8 rfl Tryd.underlying22 info3 rfl (by decide) (by omega) v86 ([0, 0, id, op, old] : List Int) us _ _ _ (fun _ => True) (fun _ => False) rfl rfl HN1.out ?aR (fun _ _ h => h) (fun _ h => h.elim) (fun _ _ => trivial) HBn.out HBn.out.size (by simp only [List.length_cons, List.length_nil]; omega) ?_; (case aR => exact (Kd.C_below HrU.out HBn.out)); intro v90 w90 ho2 hb2_ hg2 hn2; (have HNn := Lib.hid ho2); (have HBm := Lib.hid hb2_); (have HAm := Lib.hid (grown_blk hg2 HAn.out (Kd.R_ne HN1.out HAn.out (by decide)))); clear ho2 hb2_ hg2 hn2 HAn HBn HN1) | fail)
  clear c0 c1 c2 c3 c4 c5 c6 c7 cf0 cf1 cf2 cf3 cf4 cf5 cf6 cf7
  have HB := HBm
  clear HBm
  have HA := HAm
  clear HAm z6
  obtain ⟨nad, cN, rfl⟩ := Kd.R_slice1 HNn.out (by simp only [List.length_append, List.length_cons, List.length_nil]; omega)
  have hNl : ([0, 0, id, op, old] ++ us : List Int).length ≤ 400 := by simp only [List.length_append, List.length_cons, List.length_nil]; omega
  generalize ([0, 0, id, op, old] ++ us : List Int) = N at *
  have HNC := Lib.hid (Kd.R_reads' HNn.out).2.2
  clear HNn
  go_loop [8] (fun i => ∃ j : Nat, j ≤ N.length ∧ i = .int .i64 j) (fun i => N.length - (intOf i).toNat)
  case atStart => exact ⟨0, Nat.zero_le _, rfl⟩
  case round =>
    obtain ⟨j, hj, rfl⟩ := hrel
    by_cases hlt : j < N.length
    · obtain ⟨ad, hae, hcell⟩ := Kd.at_int HNC.out (j : Int) (by omega) (by omega)
      cases hae
      rw [Int.toNat_natCast] at hcell
      generalize rd N j = x at *
      by_cases hf : x ≤ -1000000000000000000
      · have hf1 : decide (x ≤ -1000000000000000000) = true := decide_eq_true hf
        have HC := Lib.hid (first_any w90 (HG.out.below HB.out))
        go_wp2_with fail
        refine HC.out.mono ?_
        rintro e wr ⟨rfl, hbl⟩
        have HBr := Lib.hid (HB.out.trans (hbl.mono HB.out.size))
        clear HC hbl
        go_wp2
        go_ret
        exact ⟨rfl, HBr.out⟩
      · have hf1 : decide (x ≤ -1000000000000000000) = false := decide_eq_false hf
        by_cases hf2 : 1000000000000000000 ≤ x
        · have hf3 : decide (1000000000000000000 ≤ x) = true := decide_eq_true hf2
          have HC := Lib.hid (first_any w90 (HG.out.below HB.out))
          go_wp2_with fail
          refine HC.out.mono ?_
          rintro e wr ⟨rfl, hbl⟩
          have HBr := Lib.hid (HB.out.trans (hbl.mono HB.out.size))
          clear HC hbl
          go_wp2
          go_ret
          exact ⟨rfl, HBr.out⟩
        · have hf3 : decide (1000000000000000000 ≤ x) = false := decide_eq_false hf2
          go_wp2
          exact ⟨⟨j + 1, by omega, by go_num⟩, by simp [intOf]; omega⟩
    · obtain rfl : j = N.length := by omega
      clear hlt
      have HP := Lib.hid (print_eq 3000000 (⟨k, 0, 0, id, op, old, us, tx⟩ : A8) ⟨z64, z64, hid, hop, hold, Hu.out, by show us.length ≤ 100000; omega, Hx.out, by show tx.length ≤ 1000000; omega⟩ (by omega))
      have PX := Lib.hid (px (B (pr (⟨k, 0, 0, id, op, old, us, tx⟩ : A8))) (⟨k, 0, 0, id, op, old, us, tx⟩ : A8) 0 (by have := pr_len (⟨k, 0, 0, id, op, old, us, tx⟩ : A8) ⟨z64, z64, hid, hop, hold, Hu.out, by show us.length ≤ 100000; omega, Hx.out, by show tx.length ≤ 1000000; omega⟩ (by show (us).length ≤ 300; omega) (by show (tx).length ≤ 6000; omega); rw [size_B]; omega) (parse_of_pr (⟨k, 0, 0, id, op, old, us, tx⟩ : A8) (by have := Hk1.out; show 1 ≤ k; omega) (by have := Hk1.out; show k ≤ 8; omega) Hx.out z64 z64 hid hop hold Hu.out (by rw [if_pos Hk1.out]; exact ⟨rfl, rfl⟩)))
      generalize hpv : B (pr (⟨k, 0, 0, id, op, old, us, tx⟩ : A8)) = p at *
      clear hpv
      have c0 := (blk_cell HA.out 0).trans rfl
      have c1 := (blk_cell HA.out 1).trans rfl
      have c2 := (blk_cell HA.out 2).trans rfl
      have c3 := (blk_cell HA.out 3).trans rfl
      have c4 := (blk_cell HA.out 4).trans rfl
      have c5 := (blk_cell HA.out 5).trans rfl
      have c6 := (blk_cell HA.out 6).trans rfl
      have c7 := (blk_cell HA.out 7).trans rfl
      have HC := Lib.hid (script_Print.calls 3000000 k 0 0 id op old AU cU us AT cT tx p w90 (Kd.C_below HrU.out HB.out) hcU (Kd.C_below HrT.out HB.out) hcT (HG.out.below HB.out) HP.out)
      go_wp2_with fail
      refine HC.out.mono ?_
      rintro e w5 ⟨rfl, hbl⟩
      clear HC
      clear c0 c1 c2 c3 c4 c5 c6 c7
      have HB' := Lib.hid (HB.out.trans (hbl.mono HB.out.size))
      clear HB
      have HB := HB'
      clear HB'
      have HA' := Lib.hid (blk_below HA.out hbl)
      clear HA
      have HA := HA'
      clear HA'
      clear hbl HP
      have HC := Lib.hid (script_Parse.calls 3000000 p k 0 0 id op old us tx 0 w5 (HG.out.below HB.out) PX.out)
      go_wp2_with fail
      refine HC.out.mono ?_
      rintro e w6 ⟨v6, v7, rfl, h6, h7, hbl⟩
      clear HC
      have HB' := Lib.hid (HB.out.trans (hbl.mono HB.out.size))
      clear HB
      have HB := HB'
      clear HB'
      have HA' := Lib.hid (blk_below HA.out hbl)
      clear HA
      have HA := HA'
      clear HA'
      clear PX hbl
      obtain ⟨A6, q6, rfl⟩ := Kd.R_slice h6
      obtain ⟨A7, q7, rfl⟩ := Kd.R_slice h7
      have Y6 := Lib.hid h6
      have Y7 := Lib.hid h7
      clear h6 h7
      have hbl := (Below.refl w6.heap.size w6).alloc (Nat.le_refl _) (.cells #[.int .i64 k, .int .i64 0, .int .i64 0, .int .i64 id, .int .i64 op, .int .i64 old, .slice A6 us.length q6, .slice A7 tx.length q7] 27)
      have hnew := blk_new w6 (.cells #[.int .i64 k, .int .i64 0, .int .i64 0, .int .i64 id, .int .i64 op, .int .i64 old, .slice A6 us.length q6, .slice A7 tx.length q7] 27)
      have HB' := Lib.hid (HB.out.trans (hbl.mono HB.out.size))
      clear HB
      have HB := HB'
      clear HB'
      have HA' := Lib.hid (blk_below HA.out hbl)
      clear HA
      have HA := HA'
      clear HA'
      have Y6' := Lib.hid (Kd.R_below Y6.out hbl)
      clear Y6
      have Y6 := Y6'
      clear Y6'
      have Y7' := Lib.hid (Kd.R_below Y7.out hbl)
      clear Y7
      have Y7 := Y7'
      clear Y7'
      have HY := Lib.hid hnew
      clear hnew hbl
      go_wp2_with fail
      generalize w6.alloc (.cells #[.int .i64 k, .int .i64 0, .int .i64 0, .int .i64 id, .int .i64 op, .int .i64 old, .slice A6 us.length q6, .slice A7 tx.length q7] 27) = w7 at *
      obtain ⟨gHY, hgHY⟩ : ∃ g, g = w6.heap.size := ⟨_, rfl⟩
      generalize w6.heap.size = gHY at *
      have hz0 : Below w7.heap.size w7 w7.drew := (Below.refl _ _).drew
      have HZ0 := Lib.hid hz0
      have hS0 : w7.drew.cell? ⟨gHY, 0, none⟩ = some (.int .i64 k) ∧ w7.drew.cell? ⟨gHY, 1, none⟩ = some (.int .i64 0) ∧ w7.drew.cell? ⟨gHY, 2, none⟩ = some (.int .i64 0) ∧ w7.drew.cell? ⟨gHY, 3, none⟩ = some (.int .i64 id) ∧ w7.drew.cell? ⟨gHY, 4, none⟩ = some (.int .i64 op) ∧ w7.drew.cell? ⟨gHY, 5, none⟩ = some (.int .i64 old) ∧ w7.drew.cell? ⟨gHY, 6, none⟩ = some (.slice A6 us.length q6) ∧ w7.drew.cell? ⟨gHY, 7, none⟩ = some (.slice A7 tx.length q7) ∧ w7.drew.cell? ⟨g, 0, none⟩ = some (.int .i64 k) ∧ w7.drew.cell? ⟨g, 1, none⟩ = some (.int .i64 0) ∧ w7.drew.cell? ⟨g, 2, none⟩ = some (.int .i64 0) ∧ w7.drew.cell? ⟨g, 3, none⟩ = some (.int .i64 id) ∧ w7.drew.cell? ⟨g, 4, none⟩ = some (.int .i64 op) ∧ w7.drew.cell? ⟨g, 5, none⟩ = some (.int .i64 old) ∧ w7.drew.cell? ⟨g, 6, none⟩ = some (.slice AU us.length cU) ∧ w7.drew.cell? ⟨g, 7, none⟩ = some (.slice AT tx.length cT) := ⟨(blk_cell (blk_below HY.out hz0) 0).trans rfl, (blk_cell (blk_below HY.out hz0) 1).trans rfl, (blk_cell (blk_below HY.out hz0) 2).trans rfl, (blk_cell (blk_below HY.out hz0) 3).trans rfl, (blk_cell (blk_below HY.out hz0) 4).trans rfl, (blk_cell (blk_below HY.out hz0) 5).trans rfl, (blk_cell (blk_below HY.out hz0) 6).trans rfl, (blk_cell (blk_below HY.out hz0) 7).trans rfl, (blk_cell (blk_below HA.out hz0) 0).trans rfl, (blk_cell (blk_below HA.out hz0) 1).trans rfl, (blk_cell (blk_below HA.out hz0) 2).trans rfl, (blk_cell (blk_below HA.out hz0) 3).trans rfl, (blk_cell (blk_below HA.out hz0) 4).trans rfl, (blk_cell (blk_below HA.out hz0) 5).trans rfl, (blk_cell (blk_below HA.out hz0) 6).trans rfl, (blk_cell (blk_below HA.out hz0) 7).trans rfl⟩
      clear hz0
      have HSM := Lib.hid (same_self (⟨k, 0, 0, id, op, old, us, tx⟩ : A8) (by show (us).length ≤ 100000; omega))
      go_region_held3 (fun w' => w'.cell? ⟨gHY, 0, none⟩ = some (.int .i64 k) ∧ w'.cell? ⟨gHY, 1, none⟩ = some (.int .i64 0) ∧ w'.cell? ⟨gHY, 2, none⟩ = some (.int .i64 0) ∧ w'.cell? ⟨gHY, 3, none⟩ = some (.int .i64 id) ∧ w'.cell? ⟨gHY, 4, none⟩ = some (.int .i64 op) ∧ w'.cell? ⟨gHY, 5, none⟩ = some (.int .i64 old) ∧ w'.cell? ⟨gHY, 6, none⟩ = some (.slice A6 us.length q6) ∧ w'.cell? ⟨gHY, 7, none⟩ = some (.slice A7 tx.length q7) ∧ w'.cell? ⟨g, 0, none⟩ = some (.int .i64 k) ∧ w'.cell? ⟨g, 1, none⟩ = some (.int .i64 0) ∧ w'.cell? ⟨g, 2, none⟩ = some (.int .i64 0) ∧ w'.cell? ⟨g, 3, none⟩ = some (.int .i64 id) ∧ w'.cell? ⟨g, 4, none⟩ = some (.int .i64 op) ∧ w'.cell? ⟨g, 5, none⟩ = some (.int .i64 old) ∧ w'.cell? ⟨g, 6, none⟩ = some (.slice AU us.length cU) ∧ w'.cell? ⟨g, 7, none⟩ = some (.slice AT tx.length cT)) (first | (with_reducible exact hS0) | (with_reducible exact hS1) | (with_reducible exact hS2) | (with_reducible exact hS3) | go_keep) (first | (go_at_call 5; clear hS0; refine (first_any _ (HG.out.below (HB.out.trans (HZ0.out.mono HB.out.size)))).mono ?_; rintro e y1 ⟨rfl, hbl⟩; (have hz : Below w7.heap.size w7 y1 := HZ0.out.trans (hbl.mono HZ0.out.size)); (have hS1 : y1.cell? ⟨gHY, 0, none⟩ = some (.int .i64 k) ∧ y1.cell? ⟨gHY, 1, none⟩ = some (.int .i64 0) ∧ y1.cell? ⟨gHY, 2, none⟩ = some (.int .i64 0) ∧ y1.cell? ⟨gHY, 3, none⟩ = some (.int .i64 id) ∧ y1.cell? ⟨gHY, 4, none⟩ = some (.int .i64 op) ∧ y1.cell? ⟨gHY, 5, none⟩ = some (.int .i64 old) ∧ y1.cell? ⟨gHY, 6, none⟩ = some (.slice A6 us.length q6) ∧ y1.cell? ⟨gHY, 7, none⟩ = some (.slice A7 tx.length q7) ∧ y1.cell? ⟨g, 0, none⟩ = some (.int .i64 k) ∧ y1.cell? ⟨g, 1, none⟩ = some (.int .i64 0) ∧ y1.cell? ⟨g, 2, none⟩ = some (.int .i64 0) ∧ y1.cell? ⟨g, 3, none⟩ = some (.int .i64 id) ∧ y1.cell? ⟨g, 4, none⟩ = some (.int .i64 op) ∧ y1.cell? ⟨g, 5, none⟩ = some (.int .i64 old) ∧ y1.cell? ⟨g, 6, none⟩ = some (.slice AU us.length cU) ∧ y1.cell? ⟨g, 7, none⟩ = some (.slice AT tx.length cT) := ⟨(blk_cell (blk_below HY.out hz) 0).trans rfl, (blk_cell (blk_below HY.out hz) 1).trans rfl, (blk_cell (blk_below HY.out hz) 2).trans rfl, (blk_cell (blk_below HY.out hz) 3).trans rfl, (blk_cell (blk_below HY.out hz) 4).trans rfl, (blk_cell (blk_below HY.out hz) 5).trans rfl, (blk_cell (blk_below HY.out hz) 6).trans rfl, (blk_cell (blk_below HY.out hz) 7).trans rfl, (blk_cell (blk_below HA.out hz) 0).trans rfl, (blk_cell (blk_below HA.out hz) 1).trans rfl, (blk_cell (blk_below HA.out hz) 2).trans rfl, (blk_cell (blk_below HA.out hz) 3).trans rfl, (blk_cell (blk_below HA.out hz) 4).trans rfl, (blk_cell (blk_below HA.out hz) 5).trans rfl, (blk_cell (blk_below HA.out hz) 6).trans rfl, (blk_cell (blk_below HA.out hz) 7).trans rfl⟩); (have HZ1 := Lib.hid hz); clear hbl hz HZ0) | (go_at_call 10; clear hS1; refine (plain_any k 0 0 id op old AU AT us.length cU tx.length cT _).mono ?_; rintro e y2 ⟨rfl, hbl⟩; (have hz : Below w7.heap.size w7 y2 := HZ1.out.trans (hbl.mono HZ1.out.size)); (have hS2 : y2.cell? ⟨gHY, 0, none⟩ = some (.int .i64 k) ∧ y2.cell? ⟨gHY, 1, none⟩ = some (.int .i64 0) ∧ y2.cell? ⟨gHY, 2, none⟩ = some (.int .i64 0) ∧ y2.cell? ⟨gHY, 3, none⟩ = some (.int .i64 id) ∧ y2.cell? ⟨gHY, 4, none⟩ = some (.int .i64 op) ∧ y2.cell? ⟨gHY, 5, none⟩ = some (.int .i64 old) ∧ y2.cell? ⟨gHY, 6, none⟩ = some (.slice A6 us.length q6) ∧ y2.cell? ⟨gHY, 7, none⟩ = some (.slice A7 tx.length q7) ∧ y2.cell? ⟨g, 0, none⟩ = some (.int .i64 k) ∧ y2.cell? ⟨g, 1, none⟩ = some (.int .i64 0) ∧ y2.cell? ⟨g, 2, none⟩ = some (.int .i64 0) ∧ y2.cell? ⟨g, 3, none⟩ = some (.int .i64 id) ∧ y2.cell? ⟨g, 4, none⟩ = some (.int .i64 op) ∧ y2.cell? ⟨g, 5, none⟩ = some (.int .i64 old) ∧ y2.cell? ⟨g, 6, none⟩ = some (.slice AU us.length cU) ∧ y2.cell? ⟨g, 7, none⟩ = some (.slice AT tx.length cT) := ⟨(blk_cell (blk_below HY.out hz) 0).trans rfl, (blk_cell (blk_below HY.out hz) 1).trans rfl, (blk_cell (blk_below HY.out hz) 2).trans rfl, (blk_cell (blk_below HY.out hz) 3).trans rfl, (blk_cell (blk_below HY.out hz) 4).trans rfl, (blk_cell (blk_below HY.out hz) 5).trans rfl, (blk_cell (blk_below HY.out hz) 6).trans rfl, (blk_cell (blk_below HY.out hz) 7).trans rfl, (blk_cell (blk_below HA.out hz) 0).trans rfl, (blk_cell (blk_below HA.out hz) 1).trans rfl, (blk_cell (blk_below HA.out hz) 2).trans rfl, (blk_cell (blk_below HA.out hz) 3).trans rfl, (blk_cell (blk_below HA.out hz) 4).trans rfl, (blk_cell (blk_below HA.out hz) 5).trans rfl, (blk_cell (blk_below HA.out hz) 6).trans rfl, (blk_cell (blk_below HA.out hz) 7).trans rfl⟩); (have HZ2 := Lib.hid hz); clear hbl hz HZ1) | (go_at_call 11; clear hS2; refine (voklaw26_same.calls 3000000 k 0 0 id op old A6 q6 us A7 q7 tx k 0 0 id op old AU cU us AT cT tx true _ (Kd.C_below (Kd.R_reads' Y6.out).2.2 HZ2.out) (Kd.R_reads' Y6.out).2.1 (Kd.C_below (Kd.R_reads' Y7.out).2.2 HZ2.out) (Kd.R_reads' Y7.out).2.1 (Kd.C_below HrU.out (HB.out.trans (HZ2.out.mono HB.out.size))) hcU (Kd.C_below HrT.out (HB.out.trans (HZ2.out.mono HB.out.size))) hcT HSM.out).mono ?_; rintro e y3 ⟨rfl, hbl⟩; (have hz : Below w7.heap.size w7 y3 := HZ2.out.trans (hbl.mono HZ2.out.size)); (have hS3 : y3.cell? ⟨gHY, 0, none⟩ = some (.int .i64 k) ∧ y3.cell? ⟨gHY, 1, none⟩ = some (.int .i64 0) ∧ y3.cell? ⟨gHY, 2, none⟩ = some (.int .i64 0) ∧ y3.cell? ⟨gHY, 3, none⟩ = some (.int .i64 id) ∧ y3.cell? ⟨gHY, 4, none⟩ = some (.int .i64 op) ∧ y3.cell? ⟨gHY, 5, none⟩ = some (.int .i64 old) ∧ y3.cell? ⟨gHY, 6, none⟩ = some (.slice A6 us.length q6) ∧ y3.cell? ⟨gHY, 7, none⟩ = some (.slice A7 tx.length q7) ∧ y3.cell? ⟨g, 0, none⟩ = some (.int .i64 k) ∧ y3.cell? ⟨g, 1, none⟩ = some (.int .i64 0) ∧ y3.cell? ⟨g, 2, none⟩ = some (.int .i64 0) ∧ y3.cell? ⟨g, 3, none⟩ = some (.int .i64 id) ∧ y3.cell? ⟨g, 4, none⟩ = some (.int .i64 op) ∧ y3.cell? ⟨g, 5, none⟩ = some (.int .i64 old) ∧ y3.cell? ⟨g, 6, none⟩ = some (.slice AU us.length cU) ∧ y3.cell? ⟨g, 7, none⟩ = some (.slice AT tx.length cT) := ⟨(blk_cell (blk_below HY.out hz) 0).trans rfl, (blk_cell (blk_below HY.out hz) 1).trans rfl, (blk_cell (blk_below HY.out hz) 2).trans rfl, (blk_cell (blk_below HY.out hz) 3).trans rfl, (blk_cell (blk_below HY.out hz) 4).trans rfl, (blk_cell (blk_below HY.out hz) 5).trans rfl, (blk_cell (blk_below HY.out hz) 6).trans rfl, (blk_cell (blk_below HY.out hz) 7).trans rfl, (blk_cell (blk_below HA.out hz) 0).trans rfl, (blk_cell (blk_below HA.out hz) 1).trans rfl, (blk_cell (blk_below HA.out hz) 2).trans rfl, (blk_cell (blk_below HA.out hz) 3).trans rfl, (blk_cell (blk_below HA.out hz) 4).trans rfl, (blk_cell (blk_below HA.out hz) 5).trans rfl, (blk_cell (blk_below HA.out hz) 6).trans rfl, (blk_cell (blk_below HA.out hz) 7).trans rfl⟩); (have HZ3 := Lib.hid hz); clear hbl hz HZ2))
      go_wp2
      go_ret
      exact ⟨rfl, HB.out.trans (HZ3.out.mono HB.out.size)⟩
set_option maxRecDepth 100000 in
set_option maxHeartbeats 16000000 in
theorem t_other (k a b id op old : Int) (AU : Option Addr) (cU : Nat) (us : List Int) (AT : Option Addr) (cT : Nat) (tx : List Int) (s : ByteArray) (w : World) (hG : Glob w) (hrU : Kd.C (Kd.int .i64) w AU us.length us) (hcU : us.length ≤ cU) (hrT : Kd.C (Kd.int .u8) w AT tx.length tx) (hcT : tx.length ≤ cT) (hk : i64 k) (ha : i64 a) (hb : i64 b) (hid : i64 id) (hop : i64 op) (hold : i64 old) (hu : ∀ y ∈ us, i64 y) (hx : ∀ y ∈ tx, 0 ≤ y ∧ y ≤ 255) (g0 : tx.length ≤ 2000) (g1 : us.length ≤ 300) (g2 : s.size ≤ 6000) (he : (parse (L s)).2 = 0) (hk1 : 1 ≤ k) (hk8 : k ≤ 8) (hkn : k ≠ 1) :
    Calls Tryd.prog 4 #[.agg #[.int .i64 k, .int .i64 a, .int .i64 b, .int .i64 id, .int .i64 op, .int .i64 old, .slice AU us.length cU, .slice AT tx.length cT], .string s] w fun e w' => e = .returned (.bool true) ∧ Below w.heap.size w w' := by
  have hu1 := Tryd.underlying27
  have hu2 := Tryd.underlying25
  have hu3 := Tryd.underlying34
  have hu4 := Tryd.underlying32
  have HG := Lib.hid hG
  clear hG
  have HrU := Lib.hid hrU
  have HrT := Lib.hid hrT
  clear hrU hrT
  have Hu := Lib.hid hu
  have Hx := Lib.hid hx
  clear hu hx
  have HB := Lib.hid ((Below.refl w.heap.size w).alloc (Nat.le_refl _) (.cells #[.int .i64 k, .int .i64 a, .int .i64 b, .int .i64 id, .int .i64 op, .int .i64 old, .slice AU us.length cU, .slice AT tx.length cT] 27))
  have HA := Lib.hid (blk_new w (.cells #[.int .i64 k, .int .i64 a, .int .i64 b, .int .i64 id, .int .i64 op, .int .i64 old, .slice AU us.length cU, .slice AT tx.length cT] 27))
  go_enter Tryd.func4, Tryd.ntmps4
  go_wp2_with fail
  generalize w.alloc (.cells #[.int .i64 k, .int .i64 a, .int .i64 b, .int .i64 id, .int .i64 op, .int .i64 old, .slice AU us.length cU, .slice AT tx.length cT] 27) = W0 at *
  obtain ⟨g, hg⟩ : ∃ g, g = w.heap.size := ⟨_, rfl⟩
  have hgB : w.heap.size ≤ g := by omega
  have Hgg := Lib.hid hg
  rw [← hg] at HA
  rw [← hg]
  clear hg
  have HC := Lib.hid (first_any W0 (HG.out.below HB.out))
  go_wp2_with fail
  refine HC.out.mono ?_
  rintro e w1 ⟨rfl, hbl⟩
  clear HC
  have HB' := Lib.hid (HB.out.trans (hbl.mono HB.out.size))
  clear HB
  have HB := HB'
  clear HB'
  have HA' := Lib.hid (blk_below HA.out hbl)
  clear HA
  have HA := HA'
  clear HA'
  clear hbl
  have c0 := (blk_cell HA.out 0).trans rfl
  have c1 := (blk_cell HA.out 1).trans rfl
  have c2 := (blk_cell HA.out 2).trans rfl
  have c3 := (blk_cell HA.out 3).trans rfl
  have c4 := (blk_cell HA.out 4).trans rfl
  have c5 := (blk_cell HA.out 5).trans rfl
  have c6 := (blk_cell HA.out 6).trans rfl
  have c7 := (blk_cell HA.out 7).trans rfl
  have gn0 : decide (2000 < tx.length) = false := decide_eq_false (by omega)
  have gi0 : decide ((2000 : Int) < (tx.length : Int)) = false := decide_eq_false (by omega)
  have gn1 : decide (300 < us.length) = false := decide_eq_false (by omega)
  have gi1 : decide ((300 : Int) < (us.length : Int)) = false := decide_eq_false (by omega)
  have gn2 : decide (6000 < s.size) = false := decide_eq_false (by omega)
  have gi2 : decide ((6000 : Int) < (s.size : Int)) = false := decide_eq_false (by omega)
  have PX := Lib.hid (px s (parse (L s)).1 (parse (L s)).2 (by omega) rfl)
  have PO := Lib.hid (parse_ok (L s) (by rw [← size_L]; omega))
  have PP := Lib.hid (parse_pr (L s))
  generalize parse (L s) = X at *
  obtain ⟨⟨xk, xa, xb, xid, xop, xold, xus, xtx⟩, er⟩ := X
  simp only at he
  have HC := Lib.hid (script_Parse.calls 3000000 s xk xa xb xid xop xold xus xtx er w1 (HG.out.below HB.out) PX.out)
  go_wp2_with fail
  refine HC.out.mono ?_
  rintro e w2 ⟨v6, v7, rfl, h6, h7, hbl⟩
  clear HC
  clear c0 c1 c2 c3 c4 c5 c6 c7
  clear PX
  have HB' := Lib.hid (HB.out.trans (hbl.mono HB.out.size))
  clear HB
  have HB := HB'
  clear HB'
  have HA' := Lib.hid (blk_below HA.out hbl)
  clear HA
  have HA := HA'
  clear HA'
  obtain ⟨A6, q6, rfl⟩ := Kd.R_slice h6
  obtain ⟨A7, q7, rfl⟩ := Kd.R_slice h7
  have X6 := Lib.hid h6
  have X7 := Lib.hid h7
  clear h6 h7 hbl
  have hbl := (Below.refl w2.heap.size w2).alloc (Nat.le_refl _) (.cells #[.int .i64 xk, .int .i64 xa, .int .i64 xb, .int .i64 xid, .int .i64 xop, .int .i64 xold, .slice A6 xus.length q6, .slice A7 xtx.length q7] 27)
  have hnew := blk_new w2 (.cells #[.int .i64 xk, .int .i64 xa, .int .i64 xb, .int .i64 xid, .int .i64 xop, .int .i64 xold, .slice A6 xus.length q6, .slice A7 xtx.length q7] 27)
  have HB' := Lib.hid (HB.out.trans (hbl.mono HB.out.size))
  clear HB
  have HB := HB'
  clear HB'
  have HA' := Lib.hid (blk_below HA.out hbl)
  clear HA
  have HA := HA'
  clear HA'
  have X6' := Lib.hid (Kd.R_below X6.out hbl)
  clear X6
  have X6 := X6'
  clear X6'
  have X7' := Lib.hid (Kd.R_below X7.out hbl)
  clear X7
  have X7 := X7'
  clear X7'
  have HX := Lib.hid hnew
  clear hnew hbl
  subst he
  have hbe : ((0 : Int) == 0) = true := rfl
  go_wp2_with fail
  generalize w2.alloc (.cells #[.int .i64 xk, .int .i64 xa, .int .i64 xb, .int .i64 xid, .int .i64 xop, .int .i64 xold, .slice A6 xus.length q6, .slice A7 xtx.length q7] 27) = w3 at *
  obtain ⟨gHX, hgHX⟩ : ∃ g, g = w2.heap.size := ⟨_, rfl⟩
  generalize w2.heap.size = gHX at *
  have hps : B (pr ⟨xk, xa, xb, xid, xop, xold, xus, xtx⟩) = s := by rw [PP.out (by first | rfl | trivial), B_L]
  have HP := Lib.hid ((print_eq 3000000 ⟨xk, xa, xb, xid, xop, xold, xus, xtx⟩ PO.out (by omega)).trans (congrArg some hps))
  clear hps
  have x0 := (blk_cell HX.out 0).trans rfl
  have x1 := (blk_cell HX.out 1).trans rfl
  have x2 := (blk_cell HX.out 2).trans rfl
  have x3 := (blk_cell HX.out 3).trans rfl
  have x4 := (blk_cell HX.out 4).trans rfl
  have x5 := (blk_cell HX.out 5).trans rfl
  have x6 := (blk_cell HX.out 6).trans rfl
  have x7 := (blk_cell HX.out 7).trans rfl
  have HC := Lib.hid (script_Print.calls 3000000 xk xa xb xid xop xold A6 q6 xus A7 q7 xtx s w3 (Kd.R_reads' X6.out).2.2 (Kd.R_reads' X6.out).2.1 (Kd.R_reads' X7.out).2.2 (Kd.R_reads' X7.out).2.1 (HG.out.below HB.out) HP.out)
  go_wp2_with fail
  refine HC.out.mono ?_
  rintro e w4 ⟨rfl, hbl⟩
  clear HC
  clear x0 x1 x2 x3 x4 x5 x6 x7
  have HB' := Lib.hid (HB.out.trans (hbl.mono HB.out.size))
  clear HB
  have HB := HB'
  clear HB'
  have HA' := Lib.hid (blk_below HA.out hbl)
  clear HA
  have HA := HA'
  clear HA'
  have HX' := Lib.hid (blk_below HX.out hbl)
  clear HX
  have HX := HX'
  clear HX'
  have X6' := Lib.hid (Kd.R_below X6.out hbl)
  clear X6
  have X6 := X6'
  clear X6'
  have X7' := Lib.hid (Kd.R_below X7.out hbl)
  clear X7
  have X7 := X7'
  clear X7'
  clear hbl HP PO PP
  clear HX X6 X7
  have c0 := (blk_cell HA.out 0).trans rfl
  have cf0 := blk_frozen HA.out 0
  have c1 := (blk_cell HA.out 1).trans rfl
  have cf1 := blk_frozen HA.out 1
  have c2 := (blk_cell HA.out 2).trans rfl
  have cf2 := blk_frozen HA.out 2
  have c3 := (blk_cell HA.out 3).trans rfl
  have cf3 := blk_frozen HA.out 3
  have c4 := (blk_cell HA.out 4).trans rfl
  have cf4 := blk_frozen HA.out 4
  have c5 := (blk_cell HA.out 5).trans rfl
  have cf5 := blk_frozen HA.out 5
  have c6 := (blk_cell HA.out 6).trans rfl
  have cf6 := blk_frozen HA.out 6
  have c7 := (blk_cell HA.out 7).trans rfl
  have cf7 := blk_frozen HA.out 7
  have hb1 : decide (k < 1) = false := decide_eq_false (by omega)
  have hb8 : decide (8 < k) = false := decide_eq_false (by omega)
  have hbk : (k == 1) = false := by simp [hkn]
  have HA2 := Lib.hid (show (((((w4.setCell ⟨g, 3, none⟩ (.int .i64 0)).setCell ⟨g, 4, none⟩ (.int .i64 0)).setCell ⟨g, 5, none⟩ (.int .i64 0)).setCell ⟨g, 6, none⟩ (.slice none 0 0)).setCell ⟨g, 7, none⟩ (.slice none 0 0)).heap[g]? = some (.cells #[.int .i64 k, .int .i64 a, .int .i64 b, .int .i64 0, .int .i64 0, .int .i64 0, .slice none ([] : List Int).length 0, .slice none ([] : List Int).length 0] 27 (0, 0)) from (blk_put (blk_put (blk_put (blk_put (blk_put HA.out 3 (.int .i64 0) rfl) 4 (.int .i64 0) rfl) 5 (.int .i64 0) rfl) 6 (.slice none 0 0) rfl) 7 (.slice none 0 0) rfl))
  have HB2 := Lib.hid (Below.setCell (Below.setCell (Below.setCell (Below.setCell (Below.setCell HB.out (p := ⟨g, 3, none⟩) hgB (.int .i64 0)) (p := ⟨g, 4, none⟩) hgB (.int .i64 0)) (p := ⟨g, 5, none⟩) hgB (.int .i64 0)) (p := ⟨g, 6, none⟩) hgB (.slice none 0 0)) (p := ⟨g, 7, none⟩) hgB (.slice none 0 0))
  go_wp2_with (first | ((with_reducible refine gate_dst (N := 86) rfl ?_); refine Kd.R_lit (Kd.int .i64) _ 3 ?hg (N := 86) ?hd (xs := ([a, b, 0, 0, 0] : List Int)) (inner := [.int .i64 a, .int .i64 b, .int .i64 0, .int .i64 0, .int .i64 0]) (ok := fun _ => True) (okp := fun _ => True) ?hr ?hp (fun _ hk => hk) trivial (Below.refl _ _) (Nat.le_refl _) (by simp) ?_; (case hd => rfl); (case hg => rfl); (case hr => first | (go_simp; done) | (go_simp; rfl)); (case hp => exact (Reps.one (show Kd.M (Kd.int .i64) _ _ _ (a : Int) [.int .i64 a] from rfl) (Reps.one (show Kd.M (Kd.int .i64) _ _ _ (b : Int) [.int .i64 b] from rfl) (Reps.one (show Kd.M (Kd.int .i64) _ _ _ (0 : Int) [.int .i64 0] from rfl) (Reps.one (show Kd.M (Kd.int .i64) _ _ _ (0 : Int) [.int .i64 0] from rfl) (Reps.one (show Kd.M (Kd.int .i64) _ _ _ (0 : Int) [.int .i64 0] from rfl) (Reps.none _ _))))))); intro v86 w86 ho1 hb1_ hg1 hn1; clear hg1 hn1; (have HBn := Lib.hid (HB2.out.trans (hb1_.mono HB2.out.size))); (have HAn := Lib.hid (blk_below HA2.out hb1_)); (have HN1 := Lib.hid (Kd.R_lower ho1 HB2.out.size)); (have z6 := (blk_cell HAn.out 6).trans rfl); clear HA2 HB2 ho1 hb1_ HA HB) | ((with_reducible refine gate_builtin (b := .append) (xs := #[.tmp 86, .tmp 89]) rfl ?_); at_builtin; refine Kd.R_append_rows (Kd.int .i64) (w0 := w) w.heap.size rfl (.tmp 86) (.tmp 89) 22 3 (.int .i64 0) 8 rfl Tryd.underlying22 info3 rfl (by decide) (by omega) v86 ([a, b, 0, 0, 0] : List Int) ([] : List Int) _ _ _ (fun _ => True) (fun _ => False) rfl rfl HN1.out ?aR (fun _ _ h => h) (fun _ h => h.elim) (fun _ _ => trivial) HBn.out HBn.out.size (by simp only [List.length_cons, List.length_nil]; omega) ?_; (case aR => exact (C_none (Kd.int .i64) w86)); intro v90 w90 ho2 hb2_ hg2 hn2; (have HNn := Lib.hid ho2); (have HBm := Lib.hid hb2_); (have HAm := Lib.hid (grown_blk hg2 HAn.out (Kd.R_ne HN1.out HAn.out (by decide)))); clear ho2 hb2_ hg2 hn2 HAn HBn HN1) | fail)
  clear c0 c1 c2 c3 c4 c5 c6 c7 cf0 cf1 cf2 cf3 cf4 cf5 cf6 cf7
  have HB := HBm
  clear HBm
  have HA := HAm
  clear HAm z6
  obtain ⟨nad, cN, rfl⟩ := Kd.R_slice1 HNn.out (by simp only [List.length_append, List.length_cons, List.length_nil]; omega)
  have hNl : ([a, b, 0, 0, 0] ++ ([] : List Int) : List Int).length ≤ 400 := by simp only [List.length_append, List.length_cons, List.length_nil]; omega
  generalize ([a, b, 0, 0, 0] ++ ([] : List Int) : List Int) = N at *
  have HNC := Lib.hid (Kd.R_reads' HNn.out).2.2
  clear HNn
  go_loop [8] (fun i => ∃ j : Nat, j ≤ N.length ∧ i = .int .i64 j) (fun i => N.length - (intOf i).toNat)
  case atStart => exact ⟨0, Nat.zero_le _, rfl⟩
  case round =>
    obtain ⟨j, hj, rfl⟩ := hrel
    by_cases hlt : j < N.length
    · obtain ⟨ad, hae, hcell⟩ := Kd.at_int HNC.out (j : Int) (by omega) (by omega)
      cases hae
      rw [Int.toNat_natCast] at hcell
      generalize rd N j = x at *
      by_cases hf : x ≤ -1000000000000000000
      · have hf1 : decide (x ≤ -1000000000000000000) = true := decide_eq_true hf
        have HC := Lib.hid (first_any w90 (HG.out.below HB.out))
        go_wp2_with fail
        refine HC.out.mono ?_
        rintro e wr ⟨rfl, hbl⟩
        have HBr := Lib.hid (HB.out.trans (hbl.mono HB.out.size))
        clear HC hbl
        go_wp2
        go_ret
        exact ⟨rfl, HBr.out⟩
      · have hf1 : decide (x ≤ -1000000000000000000) = false := decide_eq_false hf
        by_cases hf2 : 1000000000000000000 ≤ x
        · have hf3 : decide (1000000000000000000 ≤ x) = true := decide_eq_true hf2
          have HC := Lib.hid (first_any w90 (HG.out.below HB.out))
          go_wp2_with fail
          refine HC.out.mono ?_
          rintro e wr ⟨rfl, hbl⟩
          have HBr := Lib.hid (HB.out.trans (hbl.mono HB.out.size))
          clear HC hbl
          go_wp2
          go_ret
          exact ⟨rfl, HBr.out⟩
        · have hf3 : decide (1000000000000000000 ≤ x) = false := decide_eq_false hf2
          go_wp2
          exact ⟨⟨j + 1, by omega, by go_num⟩, by simp [intOf]; omega⟩
    · obtain rfl : j = N.length := by omega
      clear hlt
      have HP := Lib.hid (print_eq 3000000 (⟨k, a, b, 0, 0, 0, [], []⟩ : A8) ⟨ha, hb, z64, z64, z64, fun y hy => (by cases hy), Nat.zero_le _, fun y hy => (by cases hy), Nat.zero_le _⟩ (by omega))
      have PX := Lib.hid (px (B (pr (⟨k, a, b, 0, 0, 0, [], []⟩ : A8))) (⟨k, a, b, 0, 0, 0, [], []⟩ : A8) 0 (by have := pr_len (⟨k, a, b, 0, 0, 0, [], []⟩ : A8) ⟨ha, hb, z64, z64, z64, fun y hy => (by cases hy), Nat.zero_le _, fun y hy => (by cases hy), Nat.zero_le _⟩ (by show (([] : List Int)).length ≤ 300; simp) (by show (([] : List Int)).length ≤ 6000; simp); rw [size_B]; omega) (parse_of_pr (⟨k, a, b, 0, 0, 0, [], []⟩ : A8) hk1 hk8 (fun y hy => (by cases hy)) ha hb z64 z64 z64 (fun y hy => (by cases hy)) (by rw [if_neg hkn]; exact ⟨rfl, rfl, rfl, rfl, rfl⟩)))
      generalize hpv : B (pr (⟨k, a, b, 0, 0, 0, [], []⟩ : A8)) = p at *
      clear hpv
      have c0 := (blk_cell HA.out 0).trans rfl
      have c1 := (blk_cell HA.out 1).trans rfl
      have c2 := (blk_cell HA.out 2).trans rfl
      have c3 := (blk_cell HA.out 3).trans rfl
      have c4 := (blk_cell HA.out 4).trans rfl
      have c5 := (blk_cell HA.out 5).trans rfl
      have c6 := (blk_cell HA.out 6).trans rfl
      have c7 := (blk_cell HA.out 7).trans rfl
      have HC := Lib.hid (script_Print.calls 3000000 k a b 0 0 0 none 0 ([] : List Int) none 0 ([] : List Int) p w90 (C_none (Kd.int .i64) w90) (Nat.le_refl _) (C_none (Kd.int .u8) w90) (Nat.le_refl _) (HG.out.below HB.out) HP.out)
      go_wp2_with fail
      refine HC.out.mono ?_
      rintro e w5 ⟨rfl, hbl⟩
      clear HC
      clear c0 c1 c2 c3 c4 c5 c6 c7
      have HB' := Lib.hid (HB.out.trans (hbl.mono HB.out.size))
      clear HB
      have HB := HB'
      clear HB'
      have HA' := Lib.hid (blk_below HA.out hbl)
      clear HA
      have HA := HA'
      clear HA'
      clear hbl HP
      have HC := Lib.hid (script_Parse.calls 3000000 p k a b 0 0 0 ([] : List Int) ([] : List Int) 0 w5 (HG.out.below HB.out) PX.out)
      go_wp2_with fail
      refine HC.out.mono ?_
      rintro e w6 ⟨v6, v7, rfl, h6, h7, hbl⟩
      clear HC
      have HB' := Lib.hid (HB.out.trans (hbl.mono HB.out.size))
      clear HB
      have HB := HB'
      clear HB'
      have HA' := Lib.hid (blk_below HA.out hbl)
      clear HA
      have HA := HA'
      clear HA'
      clear PX hbl
      obtain ⟨A6, q6, rfl⟩ := Kd.R_slice h6
      obtain ⟨A7, q7, rfl⟩ := Kd.R_slice h7
      have Y6 := Lib.hid h6
      have Y7 := Lib.hid h7
      clear h6 h7
      have hbl := (Below.refl w6.heap.size w6).alloc (Nat.le_refl _) (.cells #[.int .i64 k, .int .i64 a, .int .i64 b, .int .i64 0, .int .i64 0, .int .i64 0, .slice A6 ([] : List Int).length q6, .slice A7 ([] : List Int).length q7] 27)
      have hnew := blk_new w6 (.cells #[.int .i64 k, .int .i64 a, .int .i64 b, .int .i64 0, .int .i64 0, .int .i64 0, .slice A6 ([] : List Int).length q6, .slice A7 ([] : List Int).length q7] 27)
      have HB' := Lib.hid (HB.out.trans (hbl.mono HB.out.size))
      clear HB
      have HB := HB'
      clear HB'
      have HA' := Lib.hid (blk_below HA.out hbl)
      clear HA
      have HA := HA'
      clear HA'
      have Y6' := Lib.hid (Kd.R_below Y6.out hbl)
      clear Y6
      have Y6 := Y6'
      clear Y6'
      have Y7' := Lib.hid (Kd.R_below Y7.out hbl)
      clear Y7
      have Y7 := Y7'
      clear Y7'
      have HY := Lib.hid hnew
      clear hnew hbl
      go_wp2_with fail
      generalize w6.alloc (.cells #[.int .i64 k, .int .i64 a, .int .i64 b, .int .i64 0, .int .i64 0, .int .i64 0, .slice A6 ([] : List Int).length q6, .slice A7 ([] : List Int).length q7] 27) = w7 at *
      obtain ⟨gHY, hgHY⟩ : ∃ g, g = w6.heap.size := ⟨_, rfl⟩
      generalize w6.heap.size = gHY at *
      have hz0 : Below w7.heap.size w7 w7.drew := (Below.refl _ _).drew
      have HZ0 := Lib.hid hz0
      have hS0 : w7.drew.cell? ⟨gHY, 0, none⟩ = some (.int .i64 k) ∧ w7.drew.cell? ⟨gHY, 1, none⟩ = some (.int .i64 a) ∧ w7.drew.cell? ⟨gHY, 2, none⟩ = some (.int .i64 b) ∧ w7.drew.cell? ⟨gHY, 3, none⟩ = some (.int .i64 0) ∧ w7.drew.cell? ⟨gHY, 4, none⟩ = some (.int .i64 0) ∧ w7.drew.cell? ⟨gHY, 5, none⟩ = some (.int .i64 0) ∧ w7.drew.cell? ⟨gHY, 6, none⟩ = some (.slice A6 ([] : List Int).length q6) ∧ w7.drew.cell? ⟨gHY, 7, none⟩ = some (.slice A7 ([] : List Int).length q7) ∧ w7.drew.cell? ⟨g, 0, none⟩ = some (.int .i64 k) ∧ w7.drew.cell? ⟨g, 1, none⟩ = some (.int .i64 a) ∧ w7.drew.cell? ⟨g, 2, none⟩ = some (.int .i64 b) ∧ w7.drew.cell? ⟨g, 3, none⟩ = some (.int .i64 0) ∧ w7.drew.cell? ⟨g, 4, none⟩ = some (.int .i64 0) ∧ w7.drew.cell? ⟨g, 5, none⟩ = some (.int .i64 0) ∧ w7.drew.cell? ⟨g, 6, none⟩ = some (.slice none ([] : List Int).length 0) ∧ w7.drew.cell? ⟨g, 7, none⟩ = some (.slice none ([] : List Int).length 0) := ⟨(blk_cell (blk_below HY.out hz0) 0).trans rfl, (blk_cell (blk_below HY.out hz0) 1).trans rfl, (blk_cell (blk_below HY.out hz0) 2).trans rfl, (blk_cell (blk_below HY.out hz0) 3).trans rfl, (blk_cell (blk_below HY.out hz0) 4).trans rfl, (blk_cell (blk_below HY.out hz0) 5).trans rfl, (blk_cell (blk_below HY.out hz0) 6).trans rfl, (blk_cell (blk_below HY.out hz0) 7).trans rfl, (blk_cell (blk_below HA.out hz0) 0).trans rfl, (blk_cell (blk_below HA.out hz0) 1).trans rfl, (blk_cell (blk_below HA.out hz0) 2).trans rfl, (blk_cell (blk_below HA.out hz0) 3).trans rfl, (blk_cell (blk_below HA.out hz0) 4).trans rfl, (blk_cell (blk_below HA.out hz0) 5).trans rfl, (blk_cell (blk_below HA.out hz0) 6).trans rfl, (blk_cell (blk_below HA.out hz0) 7).trans rfl⟩
      clear hz0
      have HSM := Lib.hid (same_self (⟨k, a, b, 0, 0, 0, [], []⟩ : A8) (by show (([] : List Int)).length ≤ 100000; simp))
      go_region_held3 (fun w' => w'.cell? ⟨gHY, 0, none⟩ = some (.int .i64 k) ∧ w'.cell? ⟨gHY, 1, none⟩ = some (.int .i64 a) ∧ w'.cell? ⟨gHY, 2, none⟩ = some (.int .i64 b) ∧ w'.cell? ⟨gHY, 3, none⟩ = some (.int .i64 0) ∧ w'.cell? ⟨gHY, 4, none⟩ = some (.int .i64 0) ∧ w'.cell? ⟨gHY, 5, none⟩ = some (.int .i64 0) ∧ w'.cell? ⟨gHY, 6, none⟩ = some (.slice A6 ([] : List Int).length q6) ∧ w'.cell? ⟨gHY, 7, none⟩ = some (.slice A7 ([] : List Int).length q7) ∧ w'.cell? ⟨g, 0, none⟩ = some (.int .i64 k) ∧ w'.cell? ⟨g, 1, none⟩ = some (.int .i64 a) ∧ w'.cell? ⟨g, 2, none⟩ = some (.int .i64 b) ∧ w'.cell? ⟨g, 3, none⟩ = some (.int .i64 0) ∧ w'.cell? ⟨g, 4, none⟩ = some (.int .i64 0) ∧ w'.cell? ⟨g, 5, none⟩ = some (.int .i64 0) ∧ w'.cell? ⟨g, 6, none⟩ = some (.slice none ([] : List Int).length 0) ∧ w'.cell? ⟨g, 7, none⟩ = some (.slice none ([] : List Int).length 0)) (first | (with_reducible exact hS0) | (with_reducible exact hS1) | (with_reducible exact hS2) | (with_reducible exact hS3) | go_keep) (first | (go_at_call 5; clear hS0; refine (first_any _ (HG.out.below (HB.out.trans (HZ0.out.mono HB.out.size)))).mono ?_; rintro e y1 ⟨rfl, hbl⟩; (have hz : Below w7.heap.size w7 y1 := HZ0.out.trans (hbl.mono HZ0.out.size)); (have hS1 : y1.cell? ⟨gHY, 0, none⟩ = some (.int .i64 k) ∧ y1.cell? ⟨gHY, 1, none⟩ = some (.int .i64 a) ∧ y1.cell? ⟨gHY, 2, none⟩ = some (.int .i64 b) ∧ y1.cell? ⟨gHY, 3, none⟩ = some (.int .i64 0) ∧ y1.cell? ⟨gHY, 4, none⟩ = some (.int .i64 0) ∧ y1.cell? ⟨gHY, 5, none⟩ = some (.int .i64 0) ∧ y1.cell? ⟨gHY, 6, none⟩ = some (.slice A6 ([] : List Int).length q6) ∧ y1.cell? ⟨gHY, 7, none⟩ = some (.slice A7 ([] : List Int).length q7) ∧ y1.cell? ⟨g, 0, none⟩ = some (.int .i64 k) ∧ y1.cell? ⟨g, 1, none⟩ = some (.int .i64 a) ∧ y1.cell? ⟨g, 2, none⟩ = some (.int .i64 b) ∧ y1.cell? ⟨g, 3, none⟩ = some (.int .i64 0) ∧ y1.cell? ⟨g, 4, none⟩ = some (.int .i64 0) ∧ y1.cell? ⟨g, 5, none⟩ = some (.int .i64 0) ∧ y1.cell? ⟨g, 6, none⟩ = some (.slice none ([] : List Int).length 0) ∧ y1.cell? ⟨g, 7, none⟩ = some (.slice none ([] : List Int).length 0) := ⟨(blk_cell (blk_below HY.out hz) 0).trans rfl, (blk_cell (blk_below HY.out hz) 1).trans rfl, (blk_cell (blk_below HY.out hz) 2).trans rfl, (blk_cell (blk_below HY.out hz) 3).trans rfl, (blk_cell (blk_below HY.out hz) 4).trans rfl, (blk_cell (blk_below HY.out hz) 5).trans rfl, (blk_cell (blk_below HY.out hz) 6).trans rfl, (blk_cell (blk_below HY.out hz) 7).trans rfl, (blk_cell (blk_below HA.out hz) 0).trans rfl, (blk_cell (blk_below HA.out hz) 1).trans rfl, (blk_cell (blk_below HA.out hz) 2).trans rfl, (blk_cell (blk_below HA.out hz) 3).trans rfl, (blk_cell (blk_below HA.out hz) 4).trans rfl, (blk_cell (blk_below HA.out hz) 5).trans rfl, (blk_cell (blk_below HA.out hz) 6).trans rfl, (blk_cell (blk_below HA.out hz) 7).trans rfl⟩); (have HZ1 := Lib.hid hz); clear hbl hz HZ0) | (go_at_call 10; clear hS1; refine (plain_any k a b 0 0 0 none none ([] : List Int).length 0 ([] : List Int).length 0 _).mono ?_; rintro e y2 ⟨rfl, hbl⟩; (have hz : Below w7.heap.size w7 y2 := HZ1.out.trans (hbl.mono HZ1.out.size)); (have hS2 : y2.cell? ⟨gHY, 0, none⟩ = some (.int .i64 k) ∧ y2.cell? ⟨gHY, 1, none⟩ = some (.int .i64 a) ∧ y2.cell? ⟨gHY, 2, none⟩ = some (.int .i64 b) ∧ y2.cell? ⟨gHY, 3, none⟩ = some (.int .i64 0) ∧ y2.cell? ⟨gHY, 4, none⟩ = some (.int .i64 0) ∧ y2.cell? ⟨gHY, 5, none⟩ = some (.int .i64 0) ∧ y2.cell? ⟨gHY, 6, none⟩ = some (.slice A6 ([] : List Int).length q6) ∧ y2.cell? ⟨gHY, 7, none⟩ = some (.slice A7 ([] : List Int).length q7) ∧ y2.cell? ⟨g, 0, none⟩ = some (.int .i64 k) ∧ y2.cell? ⟨g, 1, none⟩ = some (.int .i64 a) ∧ y2.cell? ⟨g, 2, none⟩ = some (.int .i64 b) ∧ y2.cell? ⟨g, 3, none⟩ = some (.int .i64 0) ∧ y2.cell? ⟨g, 4, none⟩ = some (.int .i64 0) ∧ y2.cell? ⟨g, 5, none⟩ = some (.int .i64 0) ∧ y2.cell? ⟨g, 6, none⟩ = some (.slice none ([] : List Int).length 0) ∧ y2.cell? ⟨g, 7, none⟩ = some (.slice none ([] : List Int).length 0) := ⟨(blk_cell (blk_below HY.out hz) 0).trans rfl, (blk_cell (blk_below HY.out hz) 1).trans rfl, (blk_cell (blk_below HY.out hz) 2).trans rfl, (blk_cell (blk_below HY.out hz) 3).trans rfl, (blk_cell (blk_below HY.out hz) 4).trans rfl, (blk_cell (blk_below HY.out hz) 5).trans rfl, (blk_cell (blk_below HY.out hz) 6).trans rfl, (blk_cell (blk_below HY.out hz) 7).trans rfl, (blk_cell (blk_below HA.out hz) 0).trans rfl, (blk_cell (blk_below HA.out hz) 1).trans rfl, (blk_cell (blk_below HA.out hz) 2).trans rfl, (blk_cell (blk_below HA.out hz) 3).trans rfl, (blk_cell (blk_below HA.out hz) 4).trans rfl, (blk_cell (blk_below HA.out hz) 5).trans rfl, (blk_cell (blk_below HA.out hz) 6).trans rfl, (blk_cell (blk_below HA.out hz) 7).trans rfl⟩); (have HZ2 := Lib.hid hz); clear hbl hz HZ1) | (go_at_call 11; clear hS2; refine (voklaw26_same.calls 3000000 k a b 0 0 0 A6 q6 ([] : List Int) A7 q7 ([] : List Int) k a b 0 0 0 none 0 ([] : List Int) none 0 ([] : List Int) true _ (Kd.C_below (Kd.R_reads' Y6.out).2.2 HZ2.out) (Kd.R_reads' Y6.out).2.1 (Kd.C_below (Kd.R_reads' Y7.out).2.2 HZ2.out) (Kd.R_reads' Y7.out).2.1 (C_none (Kd.int .i64) _) (Nat.le_refl _) (C_none (Kd.int .u8) _) (Nat.le_refl _) HSM.out).mono ?_; rintro e y3 ⟨rfl, hbl⟩; (have hz : Below w7.heap.size w7 y3 := HZ2.out.trans (hbl.mono HZ2.out.size)); (have hS3 : y3.cell? ⟨gHY, 0, none⟩ = some (.int .i64 k) ∧ y3.cell? ⟨gHY, 1, none⟩ = some (.int .i64 a) ∧ y3.cell? ⟨gHY, 2, none⟩ = some (.int .i64 b) ∧ y3.cell? ⟨gHY, 3, none⟩ = some (.int .i64 0) ∧ y3.cell? ⟨gHY, 4, none⟩ = some (.int .i64 0) ∧ y3.cell? ⟨gHY, 5, none⟩ = some (.int .i64 0) ∧ y3.cell? ⟨gHY, 6, none⟩ = some (.slice A6 ([] : List Int).length q6) ∧ y3.cell? ⟨gHY, 7, none⟩ = some (.slice A7 ([] : List Int).length q7) ∧ y3.cell? ⟨g, 0, none⟩ = some (.int .i64 k) ∧ y3.cell? ⟨g, 1, none⟩ = some (.int .i64 a) ∧ y3.cell? ⟨g, 2, none⟩ = some (.int .i64 b) ∧ y3.cell? ⟨g, 3, none⟩ = some (.int .i64 0) ∧ y3.cell? ⟨g, 4, none⟩ = some (.int .i64 0) ∧ y3.cell? ⟨g, 5, none⟩ = some (.int .i64 0) ∧ y3.cell? ⟨g, 6, none⟩ = some (.slice none ([] : List Int).length 0) ∧ y3.cell? ⟨g, 7, none⟩ = some (.slice none ([] : List Int).length 0) := ⟨(blk_cell (blk_below HY.out hz) 0).trans rfl, (blk_cell (blk_below HY.out hz) 1).trans rfl, (blk_cell (blk_below HY.out hz) 2).trans rfl, (blk_cell (blk_below HY.out hz) 3).trans rfl, (blk_cell (blk_below HY.out hz) 4).trans rfl, (blk_cell (blk_below HY.out hz) 5).trans rfl, (blk_cell (blk_below HY.out hz) 6).trans rfl, (blk_cell (blk_below HY.out hz) 7).trans rfl, (blk_cell (blk_below HA.out hz) 0).trans rfl, (blk_cell (blk_below HA.out hz) 1).trans rfl, (blk_cell (blk_below HA.out hz) 2).trans rfl, (blk_cell (blk_below HA.out hz) 3).trans rfl, (blk_cell (blk_below HA.out hz) 4).trans rfl, (blk_cell (blk_below HA.out hz) 5).trans rfl, (blk_cell (blk_below HA.out hz) 6).trans rfl, (blk_cell (blk_below HA.out hz) 7).trans rfl⟩); (have HZ3 := Lib.hid hz); clear hbl hz HZ2))
      go_wp2
      go_ret
      exact ⟨rfl, HB.out.trans (HZ3.out.mono HB.out.size)⟩
set_option maxRecDepth 100000 in
set_option maxHeartbeats 16000000 in
theorem u_low (k a b id op old : Int) (AU : Option Addr) (cU : Nat) (us : List Int) (AT : Option Addr) (cT : Nat) (tx : List Int) (s : ByteArray) (w : World) (hG : Glob w) (hrU : Kd.C (Kd.int .i64) w AU us.length us) (hcU : us.length ≤ cU) (hrT : Kd.C (Kd.int .u8) w AT tx.length tx) (hcT : tx.length ≤ cT) (hk : i64 k) (ha : i64 a) (hb : i64 b) (hid : i64 id) (hop : i64 op) (hold : i64 old) (hu : ∀ y ∈ us, i64 y) (hx : ∀ y ∈ tx, 0 ≤ y ∧ y ≤ 255) (g0 : tx.length ≤ 2000) (g1 : us.length ≤ 300) (g2 : s.size ≤ 6000) (he : (parse (L s)).2 ≠ 0) (hkk : k < 1) :
    Calls Tryd.prog 4 #[.agg #[.int .i64 k, .int .i64 a, .int .i64 b, .int .i64 id, .int .i64 op, .int .i64 old, .slice AU us.length cU, .slice AT tx.length cT], .string s] w fun e w' => e = .returned (.bool true) ∧ Below w.heap.size w w' := by
  have hu1 := Tryd.underlying27
  have hu2 := Tryd.underlying25
  have hu3 := Tryd.underlying34
  have hu4 := Tryd.underlying32
  have HG := Lib.hid hG
  clear hG
  have HrU := Lib.hid hrU
  have HrT := Lib.hid hrT
  clear hrU hrT
  have Hu := Lib.hid hu
  have Hx := Lib.hid hx
  clear hu hx
  have HB := Lib.hid ((Below.refl w.heap.size w).alloc (Nat.le_refl _) (.cells #[.int .i64 k, .int .i64 a, .int .i64 b, .int .i64 id, .int .i64 op, .int .i64 old, .slice AU us.length cU, .slice AT tx.length cT] 27))
  have HA := Lib.hid (blk_new w (.cells #[.int .i64 k, .int .i64 a, .int .i64 b, .int .i64 id, .int .i64 op, .int .i64 old, .slice AU us.length cU, .slice AT tx.length cT] 27))
  go_enter Tryd.func4, Tryd.ntmps4
  go_wp2_with fail
  generalize w.alloc (.cells #[.int .i64 k, .int .i64 a, .int .i64 b, .int .i64 id, .int .i64 op, .int .i64 old, .slice AU us.length cU, .slice AT tx.length cT] 27) = W0 at *
  obtain ⟨g, hg⟩ : ∃ g, g = w.heap.size := ⟨_, rfl⟩
  have hgB : w.heap.size ≤ g := by omega
  have Hgg := Lib.hid hg
  rw [← hg] at HA
  rw [← hg]
  clear hg
  have HC := Lib.hid (first_any W0 (HG.out.below HB.out))
  go_wp2_with fail
  refine HC.out.mono ?_
  rintro e w1 ⟨rfl, hbl⟩
  clear HC
  have HB' := Lib.hid (HB.out.trans (hbl.mono HB.out.size))
  clear HB
  have HB := HB'
  clear HB'
  have HA' := Lib.hid (blk_below HA.out hbl)
  clear HA
  have HA := HA'
  clear HA'
  clear hbl
  have c0 := (blk_cell HA.out 0).trans rfl
  have c1 := (blk_cell HA.out 1).trans rfl
  have c2 := (blk_cell HA.out 2).trans rfl
  have c3 := (blk_cell HA.out 3).trans rfl
  have c4 := (blk_cell HA.out 4).trans rfl
  have c5 := (blk_cell HA.out 5).trans rfl
  have c6 := (blk_cell HA.out 6).trans rfl
  have c7 := (blk_cell HA.out 7).trans rfl
  have gn0 : decide (2000 < tx.length) = false := decide_eq_false (by omega)
  have gi0 : decide ((2000 : Int) < (tx.length : Int)) = false := decide_eq_false (by omega)
  have gn1 : decide (300 < us.length) = false := decide_eq_false (by omega)
  have gi1 : decide ((300 : Int) < (us.length : Int)) = false := decide_eq_false (by omega)
  have gn2 : decide (6000 < s.size) = false := decide_eq_false (by omega)
  have gi2 : decide ((6000 : Int) < (s.size : Int)) = false := decide_eq_false (by omega)
  have PX := Lib.hid (px s (parse (L s)).1 (parse (L s)).2 (by omega) rfl)
  have PO := Lib.hid (parse_ok (L s) (by rw [← size_L]; omega))
  have PP := Lib.hid (parse_pr (L s))
  generalize parse (L s) = X at *
  obtain ⟨⟨xk, xa, xb, xid, xop, xold, xus, xtx⟩, er⟩ := X
  simp only at he
  have HC := Lib.hid (script_Parse.calls 3000000 s xk xa xb xid xop xold xus xtx er w1 (HG.out.below HB.out) PX.out)
  go_wp2_with fail
  refine HC.out.mono ?_
  rintro e w2 ⟨v6, v7, rfl, h6, h7, hbl⟩
  clear HC
  clear c0 c1 c2 c3 c4 c5 c6 c7
  clear PX
  have HB' := Lib.hid (HB.out.trans (hbl.mono HB.out.size))
  clear HB
  have HB := HB'
  clear HB'
  have HA' := Lib.hid (blk_below HA.out hbl)
  clear HA
  have HA := HA'
  clear HA'
  obtain ⟨A6, q6, rfl⟩ := Kd.R_slice h6
  obtain ⟨A7, q7, rfl⟩ := Kd.R_slice h7
  have X6 := Lib.hid h6
  have X7 := Lib.hid h7
  clear h6 h7 hbl
  have hbl := (Below.refl w2.heap.size w2).alloc (Nat.le_refl _) (.cells #[.int .i64 xk, .int .i64 xa, .int .i64 xb, .int .i64 xid, .int .i64 xop, .int .i64 xold, .slice A6 xus.length q6, .slice A7 xtx.length q7] 27)
  have hnew := blk_new w2 (.cells #[.int .i64 xk, .int .i64 xa, .int .i64 xb, .int .i64 xid, .int .i64 xop, .int .i64 xold, .slice A6 xus.length q6, .slice A7 xtx.length q7] 27)
  have HB' := Lib.hid (HB.out.trans (hbl.mono HB.out.size))
  clear HB
  have HB := HB'
  clear HB'
  have HA' := Lib.hid (blk_below HA.out hbl)
  clear HA
  have HA := HA'
  clear HA'
  have X6' := Lib.hid (Kd.R_below X6.out hbl)
  clear X6
  have X6 := X6'
  clear X6'
  have X7' := Lib.hid (Kd.R_below X7.out hbl)
  clear X7
  have X7 := X7'
  clear X7'
  have HX := Lib.hid hnew
  clear hnew hbl
  have hbe : (er == 0) = false := by simp [he]
  clear PO PP
  have HG0 := HG
  clear X6 X7
  have HX' := HX
  clear HX HX'
  have c0 := (blk_cell HA.out 0).trans rfl
  have cf0 := blk_frozen HA.out 0
  have c1 := (blk_cell HA.out 1).trans rfl
  have cf1 := blk_frozen HA.out 1
  have c2 := (blk_cell HA.out 2).trans rfl
  have cf2 := blk_frozen HA.out 2
  have c3 := (blk_cell HA.out 3).trans rfl
  have cf3 := blk_frozen HA.out 3
  have c4 := (blk_cell HA.out 4).trans rfl
  have cf4 := blk_frozen HA.out 4
  have c5 := (blk_cell HA.out 5).trans rfl
  have cf5 := blk_frozen HA.out 5
  have c6 := (blk_cell HA.out 6).trans rfl
  have cf6 := blk_frozen HA.out 6
  have c7 := (blk_cell HA.out 7).trans rfl
  have cf7 := blk_frozen HA.out 7
  have HO := print_eq 3000000 ⟨k, a, b, id, op, old, us, tx⟩ ⟨ha, hb, hid, hop, hold, Hu.out, by show us.length ≤ 100000; omega, Hx.out, by show tx.length ≤ 1000000; omega⟩ (by omega)
  have hpr : pr ⟨k, a, b, id, op, old, us, tx⟩ = [63] := by unfold pr; exact if_pos (by exact .inl hkk)
  rw [hpr] at HO
  clear hpr
  have HO := Lib.hid HO
  have hb1 : decide (k < 1) = true := decide_eq_true hkk
  have HC := Lib.hid (first_any _ (HG.out.below HB.out))
  go_wp2_with fail
  refine HC.out.mono ?_
  rintro e w4 ⟨rfl, hbl⟩
  clear HC
  clear c0 c1 c2 c3 c4 c5 c6 c7 cf0 cf1 cf2 cf3 cf4 cf5 cf6 cf7
  have HB' := Lib.hid (HB.out.trans (hbl.mono HB.out.size))
  clear HB
  have HB := HB'
  clear HB'
  have HA' := Lib.hid (blk_below HA.out hbl)
  clear HA
  have HA := HA'
  clear HA'
  clear hbl
  have c0 := (blk_cell HA.out 0).trans rfl
  have c1 := (blk_cell HA.out 1).trans rfl
  have c2 := (blk_cell HA.out 2).trans rfl
  have c3 := (blk_cell HA.out 3).trans rfl
  have c4 := (blk_cell HA.out 4).trans rfl
  have c5 := (blk_cell HA.out 5).trans rfl
  have c6 := (blk_cell HA.out 6).trans rfl
  have c7 := (blk_cell HA.out 7).trans rfl
  have HC := Lib.hid (script_Print.calls 3000000 k a b id op old AU cU us AT cT tx (B [63]) w4 (Kd.C_below HrU.out HB.out) hcU (Kd.C_below HrT.out HB.out) hcT (HG.out.below HB.out) HO.out)
  go_wp2_with fail
  refine HC.out.mono ?_
  rintro e w5 ⟨rfl, hbl⟩
  clear HC
  clear c0 c1 c2 c3 c4 c5 c6 c7
  have HB' := Lib.hid (HB.out.trans (hbl.mono HB.out.size))
  clear HB
  have HB := HB'
  clear HB'
  have HA' := Lib.hid (blk_below HA.out hbl)
  clear HA
  have HA := HA'
  clear HA'
  clear hbl HO
  go_wp2
  go_ret
  exact ⟨rfl, HB.out⟩
set_option maxRecDepth 100000 in
set_option maxHeartbeats 16000000 in
theorem u_high (k a b id op old : Int) (AU : Option Addr) (cU : Nat) (us : List Int) (AT : Option Addr) (cT : Nat) (tx : List Int) (s : ByteArray) (w : World) (hG : Glob w) (hrU : Kd.C (Kd.int .i64) w AU us.length us) (hcU : us.length ≤ cU) (hrT : Kd.C (Kd.int .u8) w AT tx.length tx) (hcT : tx.length ≤ cT) (hk : i64 k) (ha : i64 a) (hb : i64 b) (hid : i64 id) (hop : i64 op) (hold : i64 old) (hu : ∀ y ∈ us, i64 y) (hx : ∀ y ∈ tx, 0 ≤ y ∧ y ≤ 255) (g0 : tx.length ≤ 2000) (g1 : us.length ≤ 300) (g2 : s.size ≤ 6000) (he : (parse (L s)).2 ≠ 0) (hk1 : 1 ≤ k) (hkk : 8 < k) :
    Calls Tryd.prog 4 #[.agg #[.int .i64 k, .int .i64 a, .int .i64 b, .int .i64 id, .int .i64 op, .int .i64 old, .slice AU us.length cU, .slice AT tx.length cT], .string s] w fun e w' => e = .returned (.bool true) ∧ Below w.heap.size w w' := by
  have hu1 := Tryd.underlying27
  have hu2 := Tryd.underlying25
  have hu3 := Tryd.underlying34
  have hu4 := Tryd.underlying32
  have HG := Lib.hid hG
  clear hG
  have HrU := Lib.hid hrU
  have HrT := Lib.hid hrT
  clear hrU hrT
  have Hu := Lib.hid hu
  have Hx := Lib.hid hx
  clear hu hx
  have HB := Lib.hid ((Below.refl w.heap.size w).alloc (Nat.le_refl _) (.cells #[.int .i64 k, .int .i64 a, .int .i64 b, .int .i64 id, .int .i64 op, .int .i64 old, .slice AU us.length cU, .slice AT tx.length cT] 27))
  have HA := Lib.hid (blk_new w (.cells #[.int .i64 k, .int .i64 a, .int .i64 b, .int .i64 id, .int .i64 op, .int .i64 old, .slice AU us.length cU, .slice AT tx.length cT] 27))
  go_enter Tryd.func4, Tryd.ntmps4
  go_wp2_with fail
  generalize w.alloc (.cells #[.int .i64 k, .int .i64 a, .int .i64 b, .int .i64 id, .int .i64 op, .int .i64 old, .slice AU us.length cU, .slice AT tx.length cT] 27) = W0 at *
  obtain ⟨g, hg⟩ : ∃ g, g = w.heap.size := ⟨_, rfl⟩
  have hgB : w.heap.size ≤ g := by omega
  have Hgg := Lib.hid hg
  rw [← hg] at HA
  rw [← hg]
  clear hg
  have HC := Lib.hid (first_any W0 (HG.out.below HB.out))
  go_wp2_with fail
  refine HC.out.mono ?_
  rintro e w1 ⟨rfl, hbl⟩
  clear HC
  have HB' := Lib.hid (HB.out.trans (hbl.mono HB.out.size))
  clear HB
  have HB := HB'
  clear HB'
  have HA' := Lib.hid (blk_below HA.out hbl)
  clear HA
  have HA := HA'
  clear HA'
  clear hbl
  have c0 := (blk_cell HA.out 0).trans rfl
  have c1 := (blk_cell HA.out 1).trans rfl
  have c2 := (blk_cell HA.out 2).trans rfl
  have c3 := (blk_cell HA.out 3).trans rfl
  have c4 := (blk_cell HA.out 4).trans rfl
  have c5 := (blk_cell HA.out 5).trans rfl
  have c6 := (blk_cell HA.out 6).trans rfl
  have c7 := (blk_cell HA.out 7).trans rfl
  have gn0 : decide (2000 < tx.length) = false := decide_eq_false (by omega)
  have gi0 : decide ((2000 : Int) < (tx.length : Int)) = false := decide_eq_false (by omega)
  have gn1 : decide (300 < us.length) = false := decide_eq_false (by omega)
  have gi1 : decide ((300 : Int) < (us.length : Int)) = false := decide_eq_false (by omega)
  have gn2 : decide (6000 < s.size) = false := decide_eq_false (by omega)
  have gi2 : decide ((6000 : Int) < (s.size : Int)) = false := decide_eq_false (by omega)
  have PX := Lib.hid (px s (parse (L s)).1 (parse (L s)).2 (by omega) rfl)
  have PO := Lib.hid (parse_ok (L s) (by rw [← size_L]; omega))
  have PP := Lib.hid (parse_pr (L s))
  generalize parse (L s) = X at *
  obtain ⟨⟨xk, xa, xb, xid, xop, xold, xus, xtx⟩, er⟩ := X
  simp only at he
  have HC := Lib.hid (script_Parse.calls 3000000 s xk xa xb xid xop xold xus xtx er w1 (HG.out.below HB.out) PX.out)
  go_wp2_with fail
  refine HC.out.mono ?_
  rintro e w2 ⟨v6, v7, rfl, h6, h7, hbl⟩
  clear HC
  clear c0 c1 c2 c3 c4 c5 c6 c7
  clear PX
  have HB' := Lib.hid (HB.out.trans (hbl.mono HB.out.size))
  clear HB
  have HB := HB'
  clear HB'
  have HA' := Lib.hid (blk_below HA.out hbl)
  clear HA
  have HA := HA'
  clear HA'
  obtain ⟨A6, q6, rfl⟩ := Kd.R_slice h6
  obtain ⟨A7, q7, rfl⟩ := Kd.R_slice h7
  have X6 := Lib.hid h6
  have X7 := Lib.hid h7
  clear h6 h7 hbl
  have hbl := (Below.refl w2.heap.size w2).alloc (Nat.le_refl _) (.cells #[.int .i64 xk, .int .i64 xa, .int .i64 xb, .int .i64 xid, .int .i64 xop, .int .i64 xold, .slice A6 xus.length q6, .slice A7 xtx.length q7] 27)
  have hnew := blk_new w2 (.cells #[.int .i64 xk, .int .i64 xa, .int .i64 xb, .int .i64 xid, .int .i64 xop, .int .i64 xold, .slice A6 xus.length q6, .slice A7 xtx.length q7] 27)
  have HB' := Lib.hid (HB.out.trans (hbl.mono HB.out.size))
  clear HB
  have HB := HB'
  clear HB'
  have HA' := Lib.hid (blk_below HA.out hbl)
  clear HA
  have HA := HA'
  clear HA'
  have X6' := Lib.hid (Kd.R_below X6.out hbl)
  clear X6
  have X6 := X6'
  clear X6'
  have X7' := Lib.hid (Kd.R_below X7.out hbl)
  clear X7
  have X7 := X7'
  clear X7'
  have HX := Lib.hid hnew
  clear hnew hbl
  have hbe : (er == 0) = false := by simp [he]
  clear PO PP
  have HG0 := HG
  clear X6 X7
  have HX' := HX
  clear HX HX'
  have c0 := (blk_cell HA.out 0).trans rfl
  have cf0 := blk_frozen HA.out 0
  have c1 := (blk_cell HA.out 1).trans rfl
  have cf1 := blk_frozen HA.out 1
  have c2 := (blk_cell HA.out 2).trans rfl
  have cf2 := blk_frozen HA.out 2
  have c3 := (blk_cell HA.out 3).trans rfl
  have cf3 := blk_frozen HA.out 3
  have c4 := (blk_cell HA.out 4).trans rfl
  have cf4 := blk_frozen HA.out 4
  have c5 := (blk_cell HA.out 5).trans rfl
  have cf5 := blk_frozen HA.out 5
  have c6 := (blk_cell HA.out 6).trans rfl
  have cf6 := blk_frozen HA.out 6
  have c7 := (blk_cell HA.out 7).trans rfl
  have cf7 := blk_frozen HA.out 7
  have HO := print_eq 3000000 ⟨k, a, b, id, op, old, us, tx⟩ ⟨ha, hb, hid, hop, hold, Hu.out, by show us.length ≤ 100000; omega, Hx.out, by show tx.length ≤ 1000000; omega⟩ (by omega)
  have hpr : pr ⟨k, a, b, id, op, old, us, tx⟩ = [63] := by unfold pr; exact if_pos (by exact .inr hkk)
  rw [hpr] at HO
  clear hpr
  have HO := Lib.hid HO
  have hb1 : decide (k < 1) = false := decide_eq_false (by omega)
  have hb8 : decide (8 < k) = true := decide_eq_true hkk
  have HC := Lib.hid (first_any _ (HG.out.below HB.out))
  go_wp2_with fail
  refine HC.out.mono ?_
  rintro e w4 ⟨rfl, hbl⟩
  clear HC
  clear c0 c1 c2 c3 c4 c5 c6 c7 cf0 cf1 cf2 cf3 cf4 cf5 cf6 cf7
  have HB' := Lib.hid (HB.out.trans (hbl.mono HB.out.size))
  clear HB
  have HB := HB'
  clear HB'
  have HA' := Lib.hid (blk_below HA.out hbl)
  clear HA
  have HA := HA'
  clear HA'
  clear hbl
  have c0 := (blk_cell HA.out 0).trans rfl
  have c1 := (blk_cell HA.out 1).trans rfl
  have c2 := (blk_cell HA.out 2).trans rfl
  have c3 := (blk_cell HA.out 3).trans rfl
  have c4 := (blk_cell HA.out 4).trans rfl
  have c5 := (blk_cell HA.out 5).trans rfl
  have c6 := (blk_cell HA.out 6).trans rfl
  have c7 := (blk_cell HA.out 7).trans rfl
  have HC := Lib.hid (script_Print.calls 3000000 k a b id op old AU cU us AT cT tx (B [63]) w4 (Kd.C_below HrU.out HB.out) hcU (Kd.C_below HrT.out HB.out) hcT (HG.out.below HB.out) HO.out)
  go_wp2_with fail
  refine HC.out.mono ?_
  rintro e w5 ⟨rfl, hbl⟩
  clear HC
  clear c0 c1 c2 c3 c4 c5 c6 c7
  have HB' := Lib.hid (HB.out.trans (hbl.mono HB.out.size))
  clear HB
  have HB := HB'
  clear HB'
  have HA' := Lib.hid (blk_below HA.out hbl)
  clear HA
  have HA := HA'
  clear HA'
  clear hbl HO
  go_wp2
  go_ret
  exact ⟨rfl, HB.out⟩
set_option maxRecDepth 100000 in
set_option maxHeartbeats 16000000 in
theorem u_ask (k a b id op old : Int) (AU : Option Addr) (cU : Nat) (us : List Int) (AT : Option Addr) (cT : Nat) (tx : List Int) (s : ByteArray) (w : World) (hG : Glob w) (hrU : Kd.C (Kd.int .i64) w AU us.length us) (hcU : us.length ≤ cU) (hrT : Kd.C (Kd.int .u8) w AT tx.length tx) (hcT : tx.length ≤ cT) (hk : i64 k) (ha : i64 a) (hb : i64 b) (hid : i64 id) (hop : i64 op) (hold : i64 old) (hu : ∀ y ∈ us, i64 y) (hx : ∀ y ∈ tx, 0 ≤ y ∧ y ≤ 255) (g0 : tx.length ≤ 2000) (g1 : us.length ≤ 300) (g2 : s.size ≤ 6000) (he : (parse (L s)).2 ≠ 0) (hk1 : k = 1) :
    Calls Tryd.prog 4 #[.agg #[.int .i64 k, .int .i64 a, .int .i64 b, .int .i64 id, .int .i64 op, .int .i64 old, .slice AU us.length cU, .slice AT tx.length cT], .string s] w fun e w' => e = .returned (.bool true) ∧ Below w.heap.size w w' := by
  have hbk : (k == 1) = true := by simp [hk1]
  have hb1 : decide (k < 1) = false := decide_eq_false (by omega)
  have hb8 : decide (8 < k) = false := decide_eq_false (by omega)
  have Hk1 := Lib.hid hk1
  clear hk1
  have hu1 := Tryd.underlying27
  have hu2 := Tryd.underlying25
  have hu3 := Tryd.underlying34
  have hu4 := Tryd.underlying32
  have HG := Lib.hid hG
  clear hG
  have HrU := Lib.hid hrU
  have HrT := Lib.hid hrT
  clear hrU hrT
  have Hu := Lib.hid hu
  have Hx := Lib.hid hx
  clear hu hx
  have HB := Lib.hid ((Below.refl w.heap.size w).alloc (Nat.le_refl _) (.cells #[.int .i64 k, .int .i64 a, .int .i64 b, .int .i64 id, .int .i64 op, .int .i64 old, .slice AU us.length cU, .slice AT tx.length cT] 27))
  have HA := Lib.hid (blk_new w (.cells #[.int .i64 k, .int .i64 a, .int .i64 b, .int .i64 id, .int .i64 op, .int .i64 old, .slice AU us.length cU, .slice AT tx.length cT] 27))
  go_enter Tryd.func4, Tryd.ntmps4
  go_wp2_with fail
  generalize w.alloc (.cells #[.int .i64 k, .int .i64 a, .int .i64 b, .int .i64 id, .int .i64 op, .int .i64 old, .slice AU us.length cU, .slice AT tx.length cT] 27) = W0 at *
  obtain ⟨g, hg⟩ : ∃ g, g = w.heap.size := ⟨_, rfl⟩
  have hgB : w.heap.size ≤ g := by omega
  have Hgg := Lib.hid hg
  rw [← hg] at HA
  rw [← hg]
  clear hg
  have HC := Lib.hid (first_any W0 (HG.out.below HB.out))
  go_wp2_with fail
  refine HC.out.mono ?_
  rintro e w1 ⟨rfl, hbl⟩
  clear HC
  have HB' := Lib.hid (HB.out.trans (hbl.mono HB.out.size))
  clear HB
  have HB := HB'
  clear HB'
  have HA' := Lib.hid (blk_below HA.out hbl)
  clear HA
  have HA := HA'
  clear HA'
  clear hbl
  have c0 := (blk_cell HA.out 0).trans rfl
  have c1 := (blk_cell HA.out 1).trans rfl
  have c2 := (blk_cell HA.out 2).trans rfl
  have c3 := (blk_cell HA.out 3).trans rfl
  have c4 := (blk_cell HA.out 4).trans rfl
  have c5 := (blk_cell HA.out 5).trans rfl
  have c6 := (blk_cell HA.out 6).trans rfl
  have c7 := (blk_cell HA.out 7).trans rfl
  have gn0 : decide (2000 < tx.length) = false := decide_eq_false (by omega)
  have gi0 : decide ((2000 : Int) < (tx.length : Int)) = false := decide_eq_false (by omega)
  have gn1 : decide (300 < us.length) = false := decide_eq_false (by omega)
  have gi1 : decide ((300 : Int) < (us.length : Int)) = false := decide_eq_false (by omega)
  have gn2 : decide (6000 < s.size) = false := decide_eq_false (by omega)
  have gi2 : decide ((6000 : Int) < (s.size : Int)) = false := decide_eq_false (by omega)
  have PX := Lib.hid (px s (parse (L s)).1 (parse (L s)).2 (by omega) rfl)
  have PO := Lib.hid (parse_ok (L s) (by rw [← size_L]; omega))
  have PP := Lib.hid (parse_pr (L s))
  generalize parse (L s) = X at *
  obtain ⟨⟨xk, xa, xb, xid, xop, xold, xus, xtx⟩, er⟩ := X
  simp only at he
  have HC := Lib.hid (script_Parse.calls 3000000 s xk xa xb xid xop xold xus xtx er w1 (HG.out.below HB.out) PX.out)
  go_wp2_with fail
  refine HC.out.mono ?_
  rintro e w2 ⟨v6, v7, rfl, h6, h7, hbl⟩
  clear HC
  clear c0 c1 c2 c3 c4 c5 c6 c7
  clear PX
  have HB' := Lib.hid (HB.out.trans (hbl.mono HB.out.size))
  clear HB
  have HB := HB'
  clear HB'
  have HA' := Lib.hid (blk_below HA.out hbl)
  clear HA
  have HA := HA'
  clear HA'
  obtain ⟨A6, q6, rfl⟩ := Kd.R_slice h6
  obtain ⟨A7, q7, rfl⟩ := Kd.R_slice h7
  have X6 := Lib.hid h6
  have X7 := Lib.hid h7
  clear h6 h7 hbl
  have hbl := (Below.refl w2.heap.size w2).alloc (Nat.le_refl _) (.cells #[.int .i64 xk, .int .i64 xa, .int .i64 xb, .int .i64 xid, .int .i64 xop, .int .i64 xold, .slice A6 xus.length q6, .slice A7 xtx.length q7] 27)
  have hnew := blk_new w2 (.cells #[.int .i64 xk, .int .i64 xa, .int .i64 xb, .int .i64 xid, .int .i64 xop, .int .i64 xold, .slice A6 xus.length q6, .slice A7 xtx.length q7] 27)
  have HB' := Lib.hid (HB.out.trans (hbl.mono HB.out.size))
  clear HB
  have HB := HB'
  clear HB'
  have HA' := Lib.hid (blk_below HA.out hbl)
  clear HA
  have HA := HA'
  clear HA'
  have X6' := Lib.hid (Kd.R_below X6.out hbl)
  clear X6
  have X6 := X6'
  clear X6'
  have X7' := Lib.hid (Kd.R_below X7.out hbl)
  clear X7
  have X7 := X7'
  clear X7'
  have HX := Lib.hid hnew
  clear hnew hbl
  have hbe : (er == 0) = false := by simp [he]
  clear PO PP
  have HG0 := HG
  clear X6 X7
  have HX' := HX
  clear HX HX'
  have c0 := (blk_cell HA.out 0).trans rfl
  have cf0 := blk_frozen HA.out 0
  have c1 := (blk_cell HA.out 1).trans rfl
  have cf1 := blk_frozen HA.out 1
  have c2 := (blk_cell HA.out 2).trans rfl
  have cf2 := blk_frozen HA.out 2
  have c3 := (blk_cell HA.out 3).trans rfl
  have cf3 := blk_frozen HA.out 3
  have c4 := (blk_cell HA.out 4).trans rfl
  have cf4 := blk_frozen HA.out 4
  have c5 := (blk_cell HA.out 5).trans rfl
  have cf5 := blk_frozen HA.out 5
  have c6 := (blk_cell HA.out 6).trans rfl
  have cf6 := blk_frozen HA.out 6
  have c7 := (blk_cell HA.out 7).trans rfl
  have cf7 := blk_frozen HA.out 7
  have HA2 := Lib.hid (show (((w2.alloc (.cells #[.int .i64 xk, .int .i64 xa, .int .i64 xb, .int .i64 xid, .int .i64 xop, .int .i64 xold, .slice A6 xus.length q6, .slice A7 xtx.length q7] 27)).setCell ⟨g, 1, none⟩ (.int .i64 0)).setCell ⟨g, 2, none⟩ (.int .i64 0)).heap[g]? = some (.cells #[.int .i64 k, .int .i64 0, .int .i64 0, .int .i64 id, .int .i64 op, .int .i64 old, .slice AU us.length cU, .slice AT tx.length cT] 27 (0, 0)) from (blk_put (blk_put HA.out 1 (.int .i64 0) rfl) 2 (.int .i64 0) rfl))
  have HB2 := Lib.hid (Below.setCell (Below.setCell HB.out (p := ⟨g, 1, none⟩) hgB (.int .i64 0)) (p := ⟨g, 2, none⟩) hgB (.int .i64 0))
  go_wp2_with (first | ((with_reducible refine gate_dst (N := 86) rfl ?_); refine Kd.R_lit (Kd.int .i64) _ 3 ?hg (N := 86) ?hd (xs := ([0, 0, id, op, old] : List Int)) (inner := [.int .i64 0, .int .i64 0, .int .i64 id, .int .i64 op, .int .i64 old]) (ok := fun _ => True) (okp := fun _ => True) ?hr ?hp (fun _ hk => hk) trivial (Below.refl _ _) (Nat.le_refl _) (by simp) ?_; (case hd => rfl); (case hg => rfl); (case hr => first | (go_simp; done) | (go_simp; rfl)); (case hp => exact (Reps.one (show Kd.M (Kd.int .i64) _ _ _ (0 : Int) [.int .i64 0] from rfl) (Reps.one (show Kd.M (Kd.int .i64) _ _ _ (0 : Int) [.int .i64 0] from rfl) (Reps.one (show Kd.M (Kd.int .i64) _ _ _ (id : Int) [.int .i64 id] from rfl) (Reps.one (show Kd.M (Kd.int .i64) _ _ _ (op : Int) [.int .i64 op] from rfl) (Reps.one (show Kd.M (Kd.int .i64) _ _ _ (old : Int) [.int .i64 old] from rfl) (Reps.none _ _))))))); intro v86 w86 ho1 hb1_ hg1 hn1; clear hg1 hn1; (have HBn := Lib.hid (HB2.out.trans (hb1_.mono HB2.out.size))); (have HAn := Lib.hid (blk_below HA2.out hb1_)); (have HN1 := Lib.hid (Kd.R_lower ho1 HB2.out.size)); (have z6 := (blk_cell HAn.out 6).trans rfl); clear HA2 HB2 ho1 hb1_ HA HB) | ((with_reducible refine gate_builtin (b := .append) (xs := #[.tmp 86, .tmp 89]) rfl ?_); at_builtin; refine Kd.R_append_rows (Kd.int .i64) (w0 := w) w.heap.size rfl (.tmp 86) (.tmp 89) 22 3 (.int .i64 0) 8 rfl Tryd.underlying22 info3 rfl (by decide) (by omega) v86 ([0, 0, id, op, old] : List Int) us _ _ _ (fun _ => True) (fun _ => False) rfl rfl HN1.out ?aR (fun _ _ h => h) (fun _ h => h.elim) (fun _ _ => trivial) HBn.out HBn.out.size (by simp only [List.length_cons, List.length_nil]; omega) ?_; (case aR => exact (Kd.C_below HrU.out HBn.out)); intro v90 w90 ho2 hb2_ hg2 hn2; (have HNn := Lib.hid ho2); (have HBm := Lib.hid hb2_); (have HAm := Lib.hid (grown_blk hg2 HAn.out (Kd.R_ne HN1.out HAn.out (by decide)))); clear ho2 hb2_ hg2 hn2 HAn HBn HN1) | fail)
  clear c0 c1 c2 c3 c4 c5 c6 c7 cf0 cf1 cf2 cf3 cf4 cf5 cf6 cf7
  have HB := HBm
  clear HBm
  have HA := HAm
  clear HAm z6
  obtain ⟨nad, cN, rfl⟩ := Kd.R_slice1 HNn.out (by simp only [List.length_append, List.length_cons, List.length_nil]; omega)
  have hNl : ([0, 0, id, op, old] ++ us : List Int).length ≤ 400 := by simp only [List.length_append, List.length_cons, List.length_nil]; omega
  generalize ([0, 0, id, op, old] ++ us : List Int) = N at *
  have HNC := Lib.hid (Kd.R_reads' HNn.out).2.2
  clear HNn
  go_loop [8] (fun i => ∃ j : Nat, j ≤ N.length ∧ i = .int .i64 j) (fun i => N.length - (intOf i).toNat)
  case atStart => exact ⟨0, Nat.zero_le _, rfl⟩
  case round =>
    obtain ⟨j, hj, rfl⟩ := hrel
    by_cases hlt : j < N.length
    · obtain ⟨ad, hae, hcell⟩ := Kd.at_int HNC.out (j : Int) (by omega) (by omega)
      cases hae
      rw [Int.toNat_natCast] at hcell
      generalize rd N j = x at *
      by_cases hf : x ≤ -1000000000000000000
      · have hf1 : decide (x ≤ -1000000000000000000) = true := decide_eq_true hf
        have HC := Lib.hid (first_any w90 (HG.out.below HB.out))
        go_wp2_with fail
        refine HC.out.mono ?_
        rintro e wr ⟨rfl, hbl⟩
        have HBr := Lib.hid (HB.out.trans (hbl.mono HB.out.size))
        clear HC hbl
        go_wp2
        go_ret
        exact ⟨rfl, HBr.out⟩
      · have hf1 : decide (x ≤ -1000000000000000000) = false := decide_eq_false hf
        by_cases hf2 : 1000000000000000000 ≤ x
        · have hf3 : decide (1000000000000000000 ≤ x) = true := decide_eq_true hf2
          have HC := Lib.hid (first_any w90 (HG.out.below HB.out))
          go_wp2_with fail
          refine HC.out.mono ?_
          rintro e wr ⟨rfl, hbl⟩
          have HBr := Lib.hid (HB.out.trans (hbl.mono HB.out.size))
          clear HC hbl
          go_wp2
          go_ret
          exact ⟨rfl, HBr.out⟩
        · have hf3 : decide (1000000000000000000 ≤ x) = false := decide_eq_false hf2
          go_wp2
          exact ⟨⟨j + 1, by omega, by go_num⟩, by simp [intOf]; omega⟩
    · obtain rfl : j = N.length := by omega
      clear hlt
      have HP := Lib.hid (print_eq 3000000 (⟨k, 0, 0, id, op, old, us, tx⟩ : A8) ⟨z64, z64, hid, hop, hold, Hu.out, by show us.length ≤ 100000; omega, Hx.out, by show tx.length ≤ 1000000; omega⟩ (by omega))
      have PX := Lib.hid (px (B (pr (⟨k, 0, 0, id, op, old, us, tx⟩ : A8))) (⟨k, 0, 0, id, op, old, us, tx⟩ : A8) 0 (by have := pr_len (⟨k, 0, 0, id, op, old, us, tx⟩ : A8) ⟨z64, z64, hid, hop, hold, Hu.out, by show us.length ≤ 100000; omega, Hx.out, by show tx.length ≤ 1000000; omega⟩ (by show (us).length ≤ 300; omega) (by show (tx).length ≤ 6000; omega); rw [size_B]; omega) (parse_of_pr (⟨k, 0, 0, id, op, old, us, tx⟩ : A8) (by have := Hk1.out; show 1 ≤ k; omega) (by have := Hk1.out; show k ≤ 8; omega) Hx.out z64 z64 hid hop hold Hu.out (by rw [if_pos Hk1.out]; exact ⟨rfl, rfl⟩)))
      generalize hpv : B (pr (⟨k, 0, 0, id, op, old, us, tx⟩ : A8)) = p at *
      clear hpv
      have c0 := (blk_cell HA.out 0).trans rfl
      have c1 := (blk_cell HA.out 1).trans rfl
      have c2 := (blk_cell HA.out 2).trans rfl
      have c3 := (blk_cell HA.out 3).trans rfl
      have c4 := (blk_cell HA.out 4).trans rfl
      have c5 := (blk_cell HA.out 5).trans rfl
      have c6 := (blk_cell HA.out 6).trans rfl
      have c7 := (blk_cell HA.out 7).trans rfl
      have HC := Lib.hid (script_Print.calls 3000000 k 0 0 id op old AU cU us AT cT tx p w90 (Kd.C_below HrU.out HB.out) hcU (Kd.C_below HrT.out HB.out) hcT (HG.out.below HB.out) HP.out)
      go_wp2_with fail
      refine HC.out.mono ?_
      rintro e w4 ⟨rfl, hbl⟩
      clear HC
      clear c0 c1 c2 c3 c4 c5 c6 c7
      have HB' := Lib.hid (HB.out.trans (hbl.mono HB.out.size))
      clear HB
      have HB := HB'
      clear HB'
      have HA' := Lib.hid (blk_below HA.out hbl)
      clear HA
      have HA := HA'
      clear HA'
      clear hbl HP
      have HC := Lib.hid (script_Parse.calls 3000000 p k 0 0 id op old us tx 0 w4 (HG.out.below HB.out) PX.out)
      go_wp2_with fail
      refine HC.out.mono ?_
      rintro e w5 ⟨v6, v7, rfl, h6, h7, hbl⟩
      clear HC
      have HB' := Lib.hid (HB.out.trans (hbl.mono HB.out.size))
      clear HB
      have HB := HB'
      clear HB'
      have HA' := Lib.hid (blk_below HA.out hbl)
      clear HA
      have HA := HA'
      clear HA'
      clear PX hbl
      obtain ⟨A6, q6, rfl⟩ := Kd.R_slice h6
      obtain ⟨A7, q7, rfl⟩ := Kd.R_slice h7
      have Y6 := Lib.hid h6
      have Y7 := Lib.hid h7
      clear h6 h7
      have hbl := (Below.refl w5.heap.size w5).alloc (Nat.le_refl _) (.cells #[.int .i64 k, .int .i64 0, .int .i64 0, .int .i64 id, .int .i64 op, .int .i64 old, .slice A6 us.length q6, .slice A7 tx.length q7] 27)
      have hnew := blk_new w5 (.cells #[.int .i64 k, .int .i64 0, .int .i64 0, .int .i64 id, .int .i64 op, .int .i64 old, .slice A6 us.length q6, .slice A7 tx.length q7] 27)
      have HB' := Lib.hid (HB.out.trans (hbl.mono HB.out.size))
      clear HB
      have HB := HB'
      clear HB'
      have HA' := Lib.hid (blk_below HA.out hbl)
      clear HA
      have HA := HA'
      clear HA'
      have Y6' := Lib.hid (Kd.R_below Y6.out hbl)
      clear Y6
      have Y6 := Y6'
      clear Y6'
      have Y7' := Lib.hid (Kd.R_below Y7.out hbl)
      clear Y7
      have Y7 := Y7'
      clear Y7'
      have HY := Lib.hid hnew
      clear hnew hbl
      go_wp2_with fail
      generalize w5.alloc (.cells #[.int .i64 k, .int .i64 0, .int .i64 0, .int .i64 id, .int .i64 op, .int .i64 old, .slice A6 us.length q6, .slice A7 tx.length q7] 27) = w6 at *
      obtain ⟨gHY, hgHY⟩ : ∃ g, g = w5.heap.size := ⟨_, rfl⟩
      generalize w5.heap.size = gHY at *
      have hz0 : Below w6.heap.size w6 w6.drew := (Below.refl _ _).drew
      have HZ0 := Lib.hid hz0
      have hS0 : w6.drew.cell? ⟨gHY, 0, none⟩ = some (.int .i64 k) ∧ w6.drew.cell? ⟨gHY, 1, none⟩ = some (.int .i64 0) ∧ w6.drew.cell? ⟨gHY, 2, none⟩ = some (.int .i64 0) ∧ w6.drew.cell? ⟨gHY, 3, none⟩ = some (.int .i64 id) ∧ w6.drew.cell? ⟨gHY, 4, none⟩ = some (.int .i64 op) ∧ w6.drew.cell? ⟨gHY, 5, none⟩ = some (.int .i64 old) ∧ w6.drew.cell? ⟨gHY, 6, none⟩ = some (.slice A6 us.length q6) ∧ w6.drew.cell? ⟨gHY, 7, none⟩ = some (.slice A7 tx.length q7) ∧ w6.drew.cell? ⟨g, 0, none⟩ = some (.int .i64 k) ∧ w6.drew.cell? ⟨g, 1, none⟩ = some (.int .i64 0) ∧ w6.drew.cell? ⟨g, 2, none⟩ = some (.int .i64 0) ∧ w6.drew.cell? ⟨g, 3, none⟩ = some (.int .i64 id) ∧ w6.drew.cell? ⟨g, 4, none⟩ = some (.int .i64 op) ∧ w6.drew.cell? ⟨g, 5, none⟩ = some (.int .i64 old) ∧ w6.drew.cell? ⟨g, 6, none⟩ = some (.slice AU us.length cU) ∧ w6.drew.cell? ⟨g, 7, none⟩ = some (.slice AT tx.length cT) := ⟨(blk_cell (blk_below HY.out hz0) 0).trans rfl, (blk_cell (blk_below HY.out hz0) 1).trans rfl, (blk_cell (blk_below HY.out hz0) 2).trans rfl, (blk_cell (blk_below HY.out hz0) 3).trans rfl, (blk_cell (blk_below HY.out hz0) 4).trans rfl, (blk_cell (blk_below HY.out hz0) 5).trans rfl, (blk_cell (blk_below HY.out hz0) 6).trans rfl, (blk_cell (blk_below HY.out hz0) 7).trans rfl, (blk_cell (blk_below HA.out hz0) 0).trans rfl, (blk_cell (blk_below HA.out hz0) 1).trans rfl, (blk_cell (blk_below HA.out hz0) 2).trans rfl, (blk_cell (blk_below HA.out hz0) 3).trans rfl, (blk_cell (blk_below HA.out hz0) 4).trans rfl, (blk_cell (blk_below HA.out hz0) 5).trans rfl, (blk_cell (blk_below HA.out hz0) 6).trans rfl, (blk_cell (blk_below HA.out hz0) 7).trans rfl⟩
      clear hz0
      have HSM := Lib.hid (same_self (⟨k, 0, 0, id, op, old, us, tx⟩ : A8) (by show (us).length ≤ 100000; omega))
      go_region_held3 (fun w' => w'.cell? ⟨gHY, 0, none⟩ = some (.int .i64 k) ∧ w'.cell? ⟨gHY, 1, none⟩ = some (.int .i64 0) ∧ w'.cell? ⟨gHY, 2, none⟩ = some (.int .i64 0) ∧ w'.cell? ⟨gHY, 3, none⟩ = some (.int .i64 id) ∧ w'.cell? ⟨gHY, 4, none⟩ = some (.int .i64 op) ∧ w'.cell? ⟨gHY, 5, none⟩ = some (.int .i64 old) ∧ w'.cell? ⟨gHY, 6, none⟩ = some (.slice A6 us.length q6) ∧ w'.cell? ⟨gHY, 7, none⟩ = some (.slice A7 tx.length q7) ∧ w'.cell? ⟨g, 0, none⟩ = some (.int .i64 k) ∧ w'.cell? ⟨g, 1, none⟩ = some (.int .i64 0) ∧ w'.cell? ⟨g, 2, none⟩ = some (.int .i64 0) ∧ w'.cell? ⟨g, 3, none⟩ = some (.int .i64 id) ∧ w'.cell? ⟨g, 4, none⟩ = some (.int .i64 op) ∧ w'.cell? ⟨g, 5, none⟩ = some (.int .i64 old) ∧ w'.cell? ⟨g, 6, none⟩ = some (.slice AU us.length cU) ∧ w'.cell? ⟨g, 7, none⟩ = some (.slice AT tx.length cT)) (first | (with_reducible exact hS0) | (with_reducible exact hS1) | (with_reducible exact hS2) | (with_reducible exact hS3) | go_keep) (first | (go_at_call 5; clear hS0; refine (first_any _ (HG.out.below (HB.out.trans (HZ0.out.mono HB.out.size)))).mono ?_; rintro e y1 ⟨rfl, hbl⟩; (have hz : Below w6.heap.size w6 y1 := HZ0.out.trans (hbl.mono HZ0.out.size)); (have hS1 : y1.cell? ⟨gHY, 0, none⟩ = some (.int .i64 k) ∧ y1.cell? ⟨gHY, 1, none⟩ = some (.int .i64 0) ∧ y1.cell? ⟨gHY, 2, none⟩ = some (.int .i64 0) ∧ y1.cell? ⟨gHY, 3, none⟩ = some (.int .i64 id) ∧ y1.cell? ⟨gHY, 4, none⟩ = some (.int .i64 op) ∧ y1.cell? ⟨gHY, 5, none⟩ = some (.int .i64 old) ∧ y1.cell? ⟨gHY, 6, none⟩ = some (.slice A6 us.length q6) ∧ y1.cell? ⟨gHY, 7, none⟩ = some (.slice A7 tx.length q7) ∧ y1.cell? ⟨g, 0, none⟩ = some (.int .i64 k) ∧ y1.cell? ⟨g, 1, none⟩ = some (.int .i64 0) ∧ y1.cell? ⟨g, 2, none⟩ = some (.int .i64 0) ∧ y1.cell? ⟨g, 3, none⟩ = some (.int .i64 id) ∧ y1.cell? ⟨g, 4, none⟩ = some (.int .i64 op) ∧ y1.cell? ⟨g, 5, none⟩ = some (.int .i64 old) ∧ y1.cell? ⟨g, 6, none⟩ = some (.slice AU us.length cU) ∧ y1.cell? ⟨g, 7, none⟩ = some (.slice AT tx.length cT) := ⟨(blk_cell (blk_below HY.out hz) 0).trans rfl, (blk_cell (blk_below HY.out hz) 1).trans rfl, (blk_cell (blk_below HY.out hz) 2).trans rfl, (blk_cell (blk_below HY.out hz) 3).trans rfl, (blk_cell (blk_below HY.out hz) 4).trans rfl, (blk_cell (blk_below HY.out hz) 5).trans rfl, (blk_cell (blk_below HY.out hz) 6).trans rfl, (blk_cell (blk_below HY.out hz) 7).trans rfl, (blk_cell (blk_below HA.out hz) 0).trans rfl, (blk_cell (blk_below HA.out hz) 1).trans rfl, (blk_cell (blk_below HA.out hz) 2).trans rfl, (blk_cell (blk_below HA.out hz) 3).trans rfl, (blk_cell (blk_below HA.out hz) 4).trans rfl, (blk_cell (blk_below HA.out hz) 5).trans rfl, (blk_cell (blk_below HA.out hz) 6).trans rfl, (blk_cell (blk_below HA.out hz) 7).trans rfl⟩); (have HZ1 := Lib.hid hz); clear hbl hz HZ0) | (go_at_call 10; clear hS1; refine (plain_any k 0 0 id op old AU AT us.length cU tx.length cT _).mono ?_; rintro e y2 ⟨rfl, hbl⟩; (have hz : Below w6.heap.size w6 y2 := HZ1.out.trans (hbl.mono HZ1.out.size)); (have hS2 : y2.cell? ⟨gHY, 0, none⟩ = some (.int .i64 k) ∧ y2.cell? ⟨gHY, 1, none⟩ = some (.int .i64 0) ∧ y2.cell? ⟨gHY, 2, none⟩ = some (.int .i64 0) ∧ y2.cell? ⟨gHY, 3, none⟩ = some (.int .i64 id) ∧ y2.cell? ⟨gHY, 4, none⟩ = some (.int .i64 op) ∧ y2.cell? ⟨gHY, 5, none⟩ = some (.int .i64 old) ∧ y2.cell? ⟨gHY, 6, none⟩ = some (.slice A6 us.length q6) ∧ y2.cell? ⟨gHY, 7, none⟩ = some (.slice A7 tx.length q7) ∧ y2.cell? ⟨g, 0, none⟩ = some (.int .i64 k) ∧ y2.cell? ⟨g, 1, none⟩ = some (.int .i64 0) ∧ y2.cell? ⟨g, 2, none⟩ = some (.int .i64 0) ∧ y2.cell? ⟨g, 3, none⟩ = some (.int .i64 id) ∧ y2.cell? ⟨g, 4, none⟩ = some (.int .i64 op) ∧ y2.cell? ⟨g, 5, none⟩ = some (.int .i64 old) ∧ y2.cell? ⟨g, 6, none⟩ = some (.slice AU us.length cU) ∧ y2.cell? ⟨g, 7, none⟩ = some (.slice AT tx.length cT) := ⟨(blk_cell (blk_below HY.out hz) 0).trans rfl, (blk_cell (blk_below HY.out hz) 1).trans rfl, (blk_cell (blk_below HY.out hz) 2).trans rfl, (blk_cell (blk_below HY.out hz) 3).trans rfl, (blk_cell (blk_below HY.out hz) 4).trans rfl, (blk_cell (blk_below HY.out hz) 5).trans rfl, (blk_cell (blk_below HY.out hz) 6).trans rfl, (blk_cell (blk_below HY.out hz) 7).trans rfl, (blk_cell (blk_below HA.out hz) 0).trans rfl, (blk_cell (blk_below HA.out hz) 1).trans rfl, (blk_cell (blk_below HA.out hz) 2).trans rfl, (blk_cell (blk_below HA.out hz) 3).trans rfl, (blk_cell (blk_below HA.out hz) 4).trans rfl, (blk_cell (blk_below HA.out hz) 5).trans rfl, (blk_cell (blk_below HA.out hz) 6).trans rfl, (blk_cell (blk_below HA.out hz) 7).trans rfl⟩); (have HZ2 := Lib.hid hz); clear hbl hz HZ1) | (go_at_call 11; clear hS2; refine (voklaw26_same.calls 3000000 k 0 0 id op old A6 q6 us A7 q7 tx k 0 0 id op old AU cU us AT cT tx true _ (Kd.C_below (Kd.R_reads' Y6.out).2.2 HZ2.out) (Kd.R_reads' Y6.out).2.1 (Kd.C_below (Kd.R_reads' Y7.out).2.2 HZ2.out) (Kd.R_reads' Y7.out).2.1 (Kd.C_below HrU.out (HB.out.trans (HZ2.out.mono HB.out.size))) hcU (Kd.C_below HrT.out (HB.out.trans (HZ2.out.mono HB.out.size))) hcT HSM.out).mono ?_; rintro e y3 ⟨rfl, hbl⟩; (have hz : Below w6.heap.size w6 y3 := HZ2.out.trans (hbl.mono HZ2.out.size)); (have hS3 : y3.cell? ⟨gHY, 0, none⟩ = some (.int .i64 k) ∧ y3.cell? ⟨gHY, 1, none⟩ = some (.int .i64 0) ∧ y3.cell? ⟨gHY, 2, none⟩ = some (.int .i64 0) ∧ y3.cell? ⟨gHY, 3, none⟩ = some (.int .i64 id) ∧ y3.cell? ⟨gHY, 4, none⟩ = some (.int .i64 op) ∧ y3.cell? ⟨gHY, 5, none⟩ = some (.int .i64 old) ∧ y3.cell? ⟨gHY, 6, none⟩ = some (.slice A6 us.length q6) ∧ y3.cell? ⟨gHY, 7, none⟩ = some (.slice A7 tx.length q7) ∧ y3.cell? ⟨g, 0, none⟩ = some (.int .i64 k) ∧ y3.cell? ⟨g, 1, none⟩ = some (.int .i64 0) ∧ y3.cell? ⟨g, 2, none⟩ = some (.int .i64 0) ∧ y3.cell? ⟨g, 3, none⟩ = some (.int .i64 id) ∧ y3.cell? ⟨g, 4, none⟩ = some (.int .i64 op) ∧ y3.cell? ⟨g, 5, none⟩ = some (.int .i64 old) ∧ y3.cell? ⟨g, 6, none⟩ = some (.slice AU us.length cU) ∧ y3.cell? ⟨g, 7, none⟩ = some (.slice AT tx.length cT) := ⟨(blk_cell (blk_below HY.out hz) 0).trans rfl, (blk_cell (blk_below HY.out hz) 1).trans rfl, (blk_cell (blk_below HY.out hz) 2).trans rfl, (blk_cell (blk_below HY.out hz) 3).trans rfl, (blk_cell (blk_below HY.out hz) 4).trans rfl, (blk_cell (blk_below HY.out hz) 5).trans rfl, (blk_cell (blk_below HY.out hz) 6).trans rfl, (blk_cell (blk_below HY.out hz) 7).trans rfl, (blk_cell (blk_below HA.out hz) 0).trans rfl, (blk_cell (blk_below HA.out hz) 1).trans rfl, (blk_cell (blk_below HA.out hz) 2).trans rfl, (blk_cell (blk_below HA.out hz) 3).trans rfl, (blk_cell (blk_below HA.out hz) 4).trans rfl, (blk_cell (blk_below HA.out hz) 5).trans rfl, (blk_cell (blk_below HA.out hz) 6).trans rfl, (blk_cell (blk_below HA.out hz) 7).trans rfl⟩); (have HZ3 := Lib.hid hz); clear hbl hz HZ2))
      go_wp2
      go_ret
      exact ⟨rfl, HB.out.trans (HZ3.out.mono HB.out.size)⟩
set_option maxRecDepth 100000 in
set_option maxHeartbeats 16000000 in
theorem u_other (k a b id op old : Int) (AU : Option Addr) (cU : Nat) (us : List Int) (AT : Option Addr) (cT : Nat) (tx : List Int) (s : ByteArray) (w : World) (hG : Glob w) (hrU : Kd.C (Kd.int .i64) w AU us.length us) (hcU : us.length ≤ cU) (hrT : Kd.C (Kd.int .u8) w AT tx.length tx) (hcT : tx.length ≤ cT) (hk : i64 k) (ha : i64 a) (hb : i64 b) (hid : i64 id) (hop : i64 op) (hold : i64 old) (hu : ∀ y ∈ us, i64 y) (hx : ∀ y ∈ tx, 0 ≤ y ∧ y ≤ 255) (g0 : tx.length ≤ 2000) (g1 : us.length ≤ 300) (g2 : s.size ≤ 6000) (he : (parse (L s)).2 ≠ 0) (hk1 : 1 ≤ k) (hk8 : k ≤ 8) (hkn : k ≠ 1) :
    Calls Tryd.prog 4 #[.agg #[.int .i64 k, .int .i64 a, .int .i64 b, .int .i64 id, .int .i64 op, .int .i64 old, .slice AU us.length cU, .slice AT tx.length cT], .string s] w fun e w' => e = .returned (.bool true) ∧ Below w.heap.size w w' := by
  have hu1 := Tryd.underlying27
  have hu2 := Tryd.underlying25
  have hu3 := Tryd.underlying34
  have hu4 := Tryd.underlying32
  have HG := Lib.hid hG
  clear hG
  have HrU := Lib.hid hrU
  have HrT := Lib.hid hrT
  clear hrU hrT
  have Hu := Lib.hid hu
  have Hx := Lib.hid hx
  clear hu hx
  have HB := Lib.hid ((Below.refl w.heap.size w).alloc (Nat.le_refl _) (.cells #[.int .i64 k, .int .i64 a, .int .i64 b, .int .i64 id, .int .i64 op, .int .i64 old, .slice AU us.length cU, .slice AT tx.length cT] 27))
  have HA := Lib.hid (blk_new w (.cells #[.int .i64 k, .int .i64 a, .int .i64 b, .int .i64 id, .int .i64 op, .int .i64 old, .slice AU us.length cU, .slice AT tx.length cT] 27))
  go_enter Tryd.func4, Tryd.ntmps4
  go_wp2_with fail
  generalize w.alloc (.cells #[.int .i64 k, .int .i64 a, .int .i64 b, .int .i64 id, .int .i64 op, .int .i64 old, .slice AU us.length cU, .slice AT tx.length cT] 27) = W0 at *
  obtain ⟨g, hg⟩ : ∃ g, g = w.heap.size := ⟨_, rfl⟩
  have hgB : w.heap.size ≤ g := by omega
  have Hgg := Lib.hid hg
  rw [← hg] at HA
  rw [← hg]
  clear hg
  have HC := Lib.hid (first_any W0 (HG.out.below HB.out))
  go_wp2_with fail
  refine HC.out.mono ?_
  rintro e w1 ⟨rfl, hbl⟩
  clear HC
  have HB' := Lib.hid (HB.out.trans (hbl.mono HB.out.size))
  clear HB
  have HB := HB'
  clear HB'
  have HA' := Lib.hid (blk_below HA.out hbl)
  clear HA
  have HA := HA'
  clear HA'
  clear hbl
  have c0 := (blk_cell HA.out 0).trans rfl
  have c1 := (blk_cell HA.out 1).trans rfl
  have c2 := (blk_cell HA.out 2).trans rfl
  have c3 := (blk_cell HA.out 3).trans rfl
  have c4 := (blk_cell HA.out 4).trans rfl
  have c5 := (blk_cell HA.out 5).trans rfl
  have c6 := (blk_cell HA.out 6).trans rfl
  have c7 := (blk_cell HA.out 7).trans rfl
  have gn0 : decide (2000 < tx.length) = false := decide_eq_false (by omega)
  have gi0 : decide ((2000 : Int) < (tx.length : Int)) = false := decide_eq_false (by omega)
  have gn1 : decide (300 < us.length) = false := decide_eq_false (by omega)
  have gi1 : decide ((300 : Int) < (us.length : Int)) = false := decide_eq_false (by omega)
  have gn2 : decide (6000 < s.size) = false := decide_eq_false (by omega)
  have gi2 : decide ((6000 : Int) < (s.size : Int)) = false := decide_eq_false (by omega)
  have PX := Lib.hid (px s (parse (L s)).1 (parse (L s)).2 (by omega) rfl)
  have PO := Lib.hid (parse_ok (L s) (by rw [← size_L]; omega))
  have PP := Lib.hid (parse_pr (L s))
  generalize parse (L s) = X at *
  obtain ⟨⟨xk, xa, xb, xid, xop, xold, xus, xtx⟩, er⟩ := X
  simp only at he
  have HC := Lib.hid (script_Parse.calls 3000000 s xk xa xb xid xop xold xus xtx er w1 (HG.out.below HB.out) PX.out)
  go_wp2_with fail
  refine HC.out.mono ?_
  rintro e w2 ⟨v6, v7, rfl, h6, h7, hbl⟩
  clear HC
  clear c0 c1 c2 c3 c4 c5 c6 c7
  clear PX
  have HB' := Lib.hid (HB.out.trans (hbl.mono HB.out.size))
  clear HB
  have HB := HB'
  clear HB'
  have HA' := Lib.hid (blk_below HA.out hbl)
  clear HA
  have HA := HA'
  clear HA'
  obtain ⟨A6, q6, rfl⟩ := Kd.R_slice h6
  obtain ⟨A7, q7, rfl⟩ := Kd.R_slice h7
  have X6 := Lib.hid h6
  have X7 := Lib.hid h7
  clear h6 h7 hbl
  have hbl := (Below.refl w2.heap.size w2).alloc (Nat.le_refl _) (.cells #[.int .i64 xk, .int .i64 xa, .int .i64 xb, .int .i64 xid, .int .i64 xop, .int .i64 xold, .slice A6 xus.length q6, .slice A7 xtx.length q7] 27)
  have hnew := blk_new w2 (.cells #[.int .i64 xk, .int .i64 xa, .int .i64 xb, .int .i64 xid, .int .i64 xop, .int .i64 xold, .slice A6 xus.length q6, .slice A7 xtx.length q7] 27)
  have HB' := Lib.hid (HB.out.trans (hbl.mono HB.out.size))
  clear HB
  have HB := HB'
  clear HB'
  have HA' := Lib.hid (blk_below HA.out hbl)
  clear HA
  have HA := HA'
  clear HA'
  have X6' := Lib.hid (Kd.R_below X6.out hbl)
  clear X6
  have X6 := X6'
  clear X6'
  have X7' := Lib.hid (Kd.R_below X7.out hbl)
  clear X7
  have X7 := X7'
  clear X7'
  have HX := Lib.hid hnew
  clear hnew hbl
  have hbe : (er == 0) = false := by simp [he]
  clear PO PP
  have HG0 := HG
  clear X6 X7
  have HX' := HX
  clear HX HX'
  have c0 := (blk_cell HA.out 0).trans rfl
  have cf0 := blk_frozen HA.out 0
  have c1 := (blk_cell HA.out 1).trans rfl
  have cf1 := blk_frozen HA.out 1
  have c2 := (blk_cell HA.out 2).trans rfl
  have cf2 := blk_frozen HA.out 2
  have c3 := (blk_cell HA.out 3).trans rfl
  have cf3 := blk_frozen HA.out 3
  have c4 := (blk_cell HA.out 4).trans rfl
  have cf4 := blk_frozen HA.out 4
  have c5 := (blk_cell HA.out 5).trans rfl
  have cf5 := blk_frozen HA.out 5
  have c6 := (blk_cell HA.out 6).trans rfl
  have cf6 := blk_frozen HA.out 6
  have c7 := (blk_cell HA.out 7).trans rfl
  have cf7 := blk_frozen HA.out 7
  have hb1 : decide (k < 1) = false := decide_eq_false (by omega)
  have hb8 : decide (8 < k) = false := decide_eq_false (by omega)
  have hbk : (k == 1) = false := by simp [hkn]
  have HA2 := Lib.hid (show ((((((w2.alloc (.cells #[.int .i64 xk, .int .i64 xa, .int .i64 xb, .int .i64 xid, .int .i64 xop, .int .i64 xold, .slice A6 xus.length q6, .slice A7 xtx.length q7] 27)).setCell ⟨g, 3, none⟩ (.int .i64 0)).setCell ⟨g, 4, none⟩ (.int .i64 0)).setCell ⟨g, 5, none⟩ (.int .i64 0)).setCell ⟨g, 6, none⟩ (.slice none 0 0)).setCell ⟨g, 7, none⟩ (.slice none 0 0)).heap[g]? = some (.cells #[.int .i64 k, .int .i64 a, .int .i64 b, .int .i64 0, .int .i64 0, .int .i64 0, .slice none ([] : List Int).length 0, .slice none ([] : List Int).length 0] 27 (0, 0)) from (blk_put (blk_put (blk_put (blk_put (blk_put HA.out 3 (.int .i64 0) rfl) 4 (.int .i64 0) rfl) 5 (.int .i64 0) rfl) 6 (.slice none 0 0) rfl) 7 (.slice none 0 0) rfl))
  have HB2 := Lib.hid (Below.setCell (Below.setCell (Below.setCell (Below.setCell (Below.setCell HB.out (p := ⟨g, 3, none⟩) hgB (.int .i64 0)) (p := ⟨g, 4, none⟩) hgB (.int .i64 0)) (p := ⟨g, 5, none⟩) hgB (.int .i64 0)) (p := ⟨g, 6, none⟩) hgB (.slice none 0 0)) (p := ⟨g, 7, none⟩) hgB (.slice none 0 0))
  go_wp2_with (first | ((with_reducible refine gate_dst (N := 86) rfl ?_); refine Kd.R_lit (Kd.int .i64) _ 3 ?hg (N := 86) ?hd (xs := ([a, b, 0, 0, 0] : List Int)) (inner := [.int .i64 a, .int .i64 b, .int .i64 0, .int .i64 0, .int .i64 0]) (ok := fun _ => True) (okp := fun _ => True) ?hr ?hp (fun _ hk => hk) trivial (Below.refl _ _) (Nat.le_refl _) (by simp) ?_; (case hd => rfl); (case hg => rfl); (case hr => first | (go_simp; done) | (go_simp; rfl)); (case hp => exact (Reps.one (show Kd.M (Kd.int .i64) _ _ _ (a : Int) [.int .i64 a] from rfl) (Reps.one (show Kd.M (Kd.int .i64) _ _ _ (b : Int) [.int .i64 b] from rfl) (Reps.one (show Kd.M (Kd.int .i64) _ _ _ (0 : Int) [.int .i64 0] from rfl) (Reps.one (show Kd.M (Kd.int .i64) _ _ _ (0 : Int) [.int .i64 0] from rfl) (Reps.one (show Kd.M (Kd.int .i64) _ _ _ (0 : Int) [.int .i64 0] from rfl) (Reps.none _ _))))))); intro v86 w86 ho1 hb1_ hg1 hn1; clear hg1 hn1; (have HBn := Lib.hid (HB2.out.trans (hb1_.mono HB2.out.size))); (have HAn := Lib.hid (blk_below HA2.out hb1_)); (have HN1 := Lib.hid (Kd.R_lower ho1 HB2.out.size)); (have z6 := (blk_cell HAn.out 6).trans rfl); clear HA2 HB2 ho1 hb1_ HA HB) | ((with_reducible refine gate_builtin (b := .append) (xs := #[.tmp 86, .tmp 89]) rfl ?_); at_builtin; refine Kd.R_append_rows (Kd.int .i64) (w0 := w) w.heap.size rfl (.tmp 86) (.tmp 89) 22 3 (.int .i64 0) 8 rfl Tryd.underlying22 info3 rfl (by decide) (by omega) v86 ([a, b, 0, 0, 0] : List Int) ([] : List Int) _ _ _ (fun _ => True) (fun _ => False) rfl rfl HN1.out ?aR (fun _ _ h => h) (fun _ h => h.elim) (fun _ _ => trivial) HBn.out HBn.out.size (by simp only [List.length_cons, List.length_nil]; omega) ?_; (case aR => exact (C_none (Kd.int .i64) w86)); intro v90 w90 ho2 hb2_ hg2 hn2; (have HNn := Lib.hid ho2); (have HBm := Lib.hid hb2_); (have HAm := Lib.hid (grown_blk hg2 HAn.out (Kd.R_ne HN1.out HAn.out (by decide)))); clear ho2 hb2_ hg2 hn2 HAn HBn HN1) | fail)
  clear c0 c1 c2 c3 c4 c5 c6 c7 cf0 cf1 cf2 cf3 cf4 cf5 cf6 cf7
  have HB := HBm
  clear HBm
  have HA := HAm
  clear HAm z6
  obtain ⟨nad, cN, rfl⟩ := Kd.R_slice1 HNn.out (by simp only [List.length_append, List.length_cons, List.length_nil]; omega)
  have hNl : ([a, b, 0, 0, 0] ++ ([] : List Int) : List Int).length ≤ 400 := by simp only [List.length_append, List.length_cons, List.length_nil]; omega
  generalize ([a, b, 0, 0, 0] ++ ([] : List Int) : List Int) = N at *
  have HNC := Lib.hid (Kd.R_reads' HNn.out).2.2
  clear HNn
  go_loop [8] (fun i => ∃ j : Nat, j ≤ N.length ∧ i = .int .i64 j) (fun i => N.length - (intOf i).toNat)
  case atStart => exact ⟨0, Nat.zero_le _, rfl⟩
  case round =>
    obtain ⟨j, hj, rfl⟩ := hrel
    by_cases hlt : j < N.length
    · obtain ⟨ad, hae, hcell⟩ := Kd.at_int HNC.out (j : Int) (by omega) (by omega)
      cases hae
      rw [Int.toNat_natCast] at hcell
      generalize rd N j = x at *
      by_cases hf : x ≤ -1000000000000000000
      · have hf1 : decide (x ≤ -1000000000000000000) = true := decide_eq_true hf
        have HC := Lib.hid (first_any w90 (HG.out.below HB.out))
        go_wp2_with fail
        refine HC.out.mono ?_
        rintro e wr ⟨rfl, hbl⟩
        have HBr := Lib.hid (HB.out.trans (hbl.mono HB.out.size))
        clear HC hbl
        go_wp2
        go_ret
        exact ⟨rfl, HBr.out⟩
      · have hf1 : decide (x ≤ -1000000000000000000) = false := decide_eq_false hf
        by_cases hf2 : 1000000000000000000 ≤ x
        · have hf3 : decide (1000000000000000000 ≤ x) = true := decide_eq_true hf2
          have HC := Lib.hid (first_any w90 (HG.out.below HB.out))
          go_wp2_with fail
          refine HC.out.mono ?_
          rintro e wr ⟨rfl, hbl⟩
          have HBr := Lib.hid (HB.out.trans (hbl.mono HB.out.size))
          clear HC hbl
          go_wp2
          go_ret
          exact ⟨rfl, HBr.out⟩
        · have hf3 : decide (1000000000000000000 ≤ x) = false := decide_eq_false hf2
          go_wp2
          exact ⟨⟨j + 1, by omega, by go_num⟩, by simp [intOf]; omega⟩
    · obtain rfl : j = N.length := by omega
      clear hlt
      have HP := Lib.hid (print_eq 3000000 (⟨k, a, b, 0, 0, 0, [], []⟩ : A8) ⟨ha, hb, z64, z64, z64, fun y hy => (by cases hy), Nat.zero_le _, fun y hy => (by cases hy), Nat.zero_le _⟩ (by omega))
      have PX := Lib.hid (px (B (pr (⟨k, a, b, 0, 0, 0, [], []⟩ : A8))) (⟨k, a, b, 0, 0, 0, [], []⟩ : A8) 0 (by have := pr_len (⟨k, a, b, 0, 0, 0, [], []⟩ : A8) ⟨ha, hb, z64, z64, z64, fun y hy => (by cases hy), Nat.zero_le _, fun y hy => (by cases hy), Nat.zero_le _⟩ (by show (([] : List Int)).length ≤ 300; simp) (by show (([] : List Int)).length ≤ 6000; simp); rw [size_B]; omega) (parse_of_pr (⟨k, a, b, 0, 0, 0, [], []⟩ : A8) hk1 hk8 (fun y hy => (by cases hy)) ha hb z64 z64 z64 (fun y hy => (by cases hy)) (by rw [if_neg hkn]; exact ⟨rfl, rfl, rfl, rfl, rfl⟩)))
      generalize hpv : B (pr (⟨k, a, b, 0, 0, 0, [], []⟩ : A8)) = p at *
      clear hpv
      have c0 := (blk_cell HA.out 0).trans rfl
      have c1 := (blk_cell HA.out 1).trans rfl
      have c2 := (blk_cell HA.out 2).trans rfl
      have c3 := (blk_cell HA.out 3).trans rfl
      have c4 := (blk_cell HA.out 4).trans rfl
      have c5 := (blk_cell HA.out 5).trans rfl
      have c6 := (blk_cell HA.out 6).trans rfl
      have c7 := (blk_cell HA.out 7).trans rfl
      have HC := Lib.hid (script_Print.calls 3000000 k a b 0 0 0 none 0 ([] : List Int) none 0 ([] : List Int) p w90 (C_none (Kd.int .i64) w90) (Nat.le_refl _) (C_none (Kd.int .u8) w90) (Nat.le_refl _) (HG.out.below HB.out) HP.out)
      go_wp2_with fail
      refine HC.out.mono ?_
      rintro e w4 ⟨rfl, hbl⟩
      clear HC
      clear c0 c1 c2 c3 c4 c5 c6 c7
      have HB' := Lib.hid (HB.out.trans (hbl.mono HB.out.size))
      clear HB
      have HB := HB'
      clear HB'
      have HA' := Lib.hid (blk_below HA.out hbl)
      clear HA
      have HA := HA'
      clear HA'
      clear hbl HP
      have HC := Lib.hid (script_Parse.calls 3000000 p k a b 0 0 0 ([] : List Int) ([] : List Int) 0 w4 (HG.out.below HB.out) PX.out)
      go_wp2_with fail
      refine HC.out.mono ?_
      rintro e w5 ⟨v6, v7, rfl, h6, h7, hbl⟩
      clear HC
      have HB' := Lib.hid (HB.out.trans (hbl.mono HB.out.size))
      clear HB
      have HB := HB'
      clear HB'
      have HA' := Lib.hid (blk_below HA.out hbl)
      clear HA
      have HA := HA'
      clear HA'
      clear PX hbl
      obtain ⟨A6, q6, rfl⟩ := Kd.R_slice h6
      obtain ⟨A7, q7, rfl⟩ := Kd.R_slice h7
      have Y6 := Lib.hid h6
      have Y7 := Lib.hid h7
      clear h6 h7
      have hbl := (Below.refl w5.heap.size w5).alloc (Nat.le_refl _) (.cells #[.int .i64 k, .int .i64 a, .int .i64 b, .int .i64 0, .int .i64 0, .int .i64 0, .slice A6 ([] : List Int).length q6, .slice A7 ([] : List Int).length q7] 27)
      have hnew := blk_new w5 (.cells #[.int .i64 k, .int .i64 a, .int .i64 b, .int .i64 0, .int .i64 0, .int .i64 0, .slice A6 ([] : List Int).length q6, .slice A7 ([] : List Int).length q7] 27)
      have HB' := Lib.hid (HB.out.trans (hbl.mono HB.out.size))
      clear HB
      have HB := HB'
      clear HB'
      have HA' := Lib.hid (blk_below HA.out hbl)
      clear HA
      have HA := HA'
      clear HA'
      have Y6' := Lib.hid (Kd.R_below Y6.out hbl)
      clear Y6
      have Y6 := Y6'
      clear Y6'
      have Y7' := Lib.hid (Kd.R_below Y7.out hbl)
      clear Y7
      have Y7 := Y7'
      clear Y7'
      have HY := Lib.hid hnew
      clear hnew hbl
      go_wp2_with fail
      generalize w5.alloc (.cells #[.int .i64 k, .int .i64 a, .int .i64 b, .int .i64 0, .int .i64 0, .int .i64 0, .slice A6 ([] : List Int).length q6, .slice A7 ([] : List Int).length q7] 27) = w6 at *
      obtain ⟨gHY, hgHY⟩ : ∃ g, g = w5.heap.size := ⟨_, rfl⟩
      generalize w5.heap.size = gHY at *
      have hz0 : Below w6.heap.size w6 w6.drew := (Below.refl _ _).drew
      have HZ0 := Lib.hid hz0
      have hS0 : w6.drew.cell? ⟨gHY, 0, none⟩ = some (.int .i64 k) ∧ w6.drew.cell? ⟨gHY, 1, none⟩ = some (.int .i64 a) ∧ w6.drew.cell? ⟨gHY, 2, none⟩ = some (.int .i64 b) ∧ w6.drew.cell? ⟨gHY, 3, none⟩ = some (.int .i64 0) ∧ w6.drew.cell? ⟨gHY, 4, none⟩ = some (.int .i64 0) ∧ w6.drew.cell? ⟨gHY, 5, none⟩ = some (.int .i64 0) ∧ w6.drew.cell? ⟨gHY, 6, none⟩ = some (.slice A6 ([] : List Int).length q6) ∧ w6.drew.cell? ⟨gHY, 7, none⟩ = some (.slice A7 ([] : List Int).length q7) ∧ w6.drew.cell? ⟨g, 0, none⟩ = some (.int .i64 k) ∧ w6.drew.cell? ⟨g, 1, none⟩ = some (.int .i64 a) ∧ w6.drew.cell? ⟨g, 2, none⟩ = some (.int .i64 b) ∧ w6.drew.cell? ⟨g, 3, none⟩ = some (.int .i64 0) ∧ w6.drew.cell? ⟨g, 4, none⟩ = some (.int .i64 0) ∧ w6.drew.cell? ⟨g, 5, none⟩ = some (.int .i64 0) ∧ w6.drew.cell? ⟨g, 6, none⟩ = some (.slice none ([] : List Int).length 0) ∧ w6.drew.cell? ⟨g, 7, none⟩ = some (.slice none ([] : List Int).length 0) := ⟨(blk_cell (blk_below HY.out hz0) 0).trans rfl, (blk_cell (blk_below HY.out hz0) 1).trans rfl, (blk_cell (blk_below HY.out hz0) 2).trans rfl, (blk_cell (blk_below HY.out hz0) 3).trans rfl, (blk_cell (blk_below HY.out hz0) 4).trans rfl, (blk_cell (blk_below HY.out hz0) 5).trans rfl, (blk_cell (blk_below HY.out hz0) 6).trans rfl, (blk_cell (blk_below HY.out hz0) 7).trans rfl, (blk_cell (blk_below HA.out hz0) 0).trans rfl, (blk_cell (blk_below HA.out hz0) 1).trans rfl, (blk_cell (blk_below HA.out hz0) 2).trans rfl, (blk_cell (blk_below HA.out hz0) 3).trans rfl, (blk_cell (blk_below HA.out hz0) 4).trans rfl, (blk_cell (blk_below HA.out hz0) 5).trans rfl, (blk_cell (blk_below HA.out hz0) 6).trans rfl, (blk_cell (blk_below HA.out hz0) 7).trans rfl⟩
      clear hz0
      have HSM := Lib.hid (same_self (⟨k, a, b, 0, 0, 0, [], []⟩ : A8) (by show (([] : List Int)).length ≤ 100000; simp))
      go_region_held3 (fun w' => w'.cell? ⟨gHY, 0, none⟩ = some (.int .i64 k) ∧ w'.cell? ⟨gHY, 1, none⟩ = some (.int .i64 a) ∧ w'.cell? ⟨gHY, 2, none⟩ = some (.int .i64 b) ∧ w'.cell? ⟨gHY, 3, none⟩ = some (.int .i64 0) ∧ w'.cell? ⟨gHY, 4, none⟩ = some (.int .i64 0) ∧ w'.cell? ⟨gHY, 5, none⟩ = some (.int .i64 0) ∧ w'.cell? ⟨gHY, 6, none⟩ = some (.slice A6 ([] : List Int).length q6) ∧ w'.cell? ⟨gHY, 7, none⟩ = some (.slice A7 ([] : List Int).length q7) ∧ w'.cell? ⟨g, 0, none⟩ = some (.int .i64 k) ∧ w'.cell? ⟨g, 1, none⟩ = some (.int .i64 a) ∧ w'.cell? ⟨g, 2, none⟩ = some (.int .i64 b) ∧ w'.cell? ⟨g, 3, none⟩ = some (.int .i64 0) ∧ w'.cell? ⟨g, 4, none⟩ = some (.int .i64 0) ∧ w'.cell? ⟨g, 5, none⟩ = some (.int .i64 0) ∧ w'.cell? ⟨g, 6, none⟩ = some (.slice none ([] : List Int).length 0) ∧ w'.cell? ⟨g, 7, none⟩ = some (.slice none ([] : List Int).length 0)) (first | (with_reducible exact hS0) | (with_reducible exact hS1) | (with_reducible exact hS2) | (with_reducible exact hS3) | go_keep) (first | (go_at_call 5; clear hS0; refine (first_any _ (HG.out.below (HB.out.trans (HZ0.out.mono HB.out.size)))).mono ?_; rintro e y1 ⟨rfl, hbl⟩; (have hz : Below w6.heap.size w6 y1 := HZ0.out.trans (hbl.mono HZ0.out.size)); (have hS1 : y1.cell? ⟨gHY, 0, none⟩ = some (.int .i64 k) ∧ y1.cell? ⟨gHY, 1, none⟩ = some (.int .i64 a) ∧ y1.cell? ⟨gHY, 2, none⟩ = some (.int .i64 b) ∧ y1.cell? ⟨gHY, 3, none⟩ = some (.int .i64 0) ∧ y1.cell? ⟨gHY, 4, none⟩ = some (.int .i64 0) ∧ y1.cell? ⟨gHY, 5, none⟩ = some (.int .i64 0) ∧ y1.cell? ⟨gHY, 6, none⟩ = some (.slice A6 ([] : List Int).length q6) ∧ y1.cell? ⟨gHY, 7, none⟩ = some (.slice A7 ([] : List Int).length q7) ∧ y1.cell? ⟨g, 0, none⟩ = some (.int .i64 k) ∧ y1.cell? ⟨g, 1, none⟩ = some (.int .i64 a) ∧ y1.cell? ⟨g, 2, none⟩ = some (.int .i64 b) ∧ y1.cell? ⟨g, 3, none⟩ = some (.int .i64 0) ∧ y1.cell? ⟨g, 4, none⟩ = some (.int .i64 0) ∧ y1.cell? ⟨g, 5, none⟩ = some (.int .i64 0) ∧ y1.cell? ⟨g, 6, none⟩ = some (.slice none ([] : List Int).length 0) ∧ y1.cell? ⟨g, 7, none⟩ = some (.slice none ([] : List Int).length 0) := ⟨(blk_cell (blk_below HY.out hz) 0).trans rfl, (blk_cell (blk_below HY.out hz) 1).trans rfl, (blk_cell (blk_below HY.out hz) 2).trans rfl, (blk_cell (blk_below HY.out hz) 3).trans rfl, (blk_cell (blk_below HY.out hz) 4).trans rfl, (blk_cell (blk_below HY.out hz) 5).trans rfl, (blk_cell (blk_below HY.out hz) 6).trans rfl, (blk_cell (blk_below HY.out hz) 7).trans rfl, (blk_cell (blk_below HA.out hz) 0).trans rfl, (blk_cell (blk_below HA.out hz) 1).trans rfl, (blk_cell (blk_below HA.out hz) 2).trans rfl, (blk_cell (blk_below HA.out hz) 3).trans rfl, (blk_cell (blk_below HA.out hz) 4).trans rfl, (blk_cell (blk_below HA.out hz) 5).trans rfl, (blk_cell (blk_below HA.out hz) 6).trans rfl, (blk_cell (blk_below HA.out hz) 7).trans rfl⟩); (have HZ1 := Lib.hid hz); clear hbl hz HZ0) | (go_at_call 10; clear hS1; refine (plain_any k a b 0 0 0 none none ([] : List Int).length 0 ([] : List Int).length 0 _).mono ?_; rintro e y2 ⟨rfl, hbl⟩; (have hz : Below w6.heap.size w6 y2 := HZ1.out.trans (hbl.mono HZ1.out.size)); (have hS2 : y2.cell? ⟨gHY, 0, none⟩ = some (.int .i64 k) ∧ y2.cell? ⟨gHY, 1, none⟩ = some (.int .i64 a) ∧ y2.cell? ⟨gHY, 2, none⟩ = some (.int .i64 b) ∧ y2.cell? ⟨gHY, 3, none⟩ = some (.int .i64 0) ∧ y2.cell? ⟨gHY, 4, none⟩ = some (.int .i64 0) ∧ y2.cell? ⟨gHY, 5, none⟩ = some (.int .i64 0) ∧ y2.cell? ⟨gHY, 6, none⟩ = some (.slice A6 ([] : List Int).length q6) ∧ y2.cell? ⟨gHY, 7, none⟩ = some (.slice A7 ([] : List Int).length q7) ∧ y2.cell? ⟨g, 0, none⟩ = some (.int .i64 k) ∧ y2.cell? ⟨g, 1, none⟩ = some (.int .i64 a) ∧ y2.cell? ⟨g, 2, none⟩ = some (.int .i64 b) ∧ y2.cell? ⟨g, 3, none⟩ = some (.int .i64 0) ∧ y2.cell? ⟨g, 4, none⟩ = some (.int .i64 0) ∧ y2.cell? ⟨g, 5, none⟩ = some (.int .i64 0) ∧ y2.cell? ⟨g, 6, none⟩ = some (.slice none ([] : List Int).length 0) ∧ y2.cell? ⟨g, 7, none⟩ = some (.slice none ([] : List Int).length 0) := ⟨(blk_cell (blk_below HY.out hz) 0).trans rfl, (blk_cell (blk_below HY.out hz) 1).trans rfl, (blk_cell (blk_below HY.out hz) 2).trans rfl, (blk_cell (blk_below HY.out hz) 3).trans rfl, (blk_cell (blk_below HY.out hz) 4).trans rfl, (blk_cell (blk_below HY.out hz) 5).trans rfl, (blk_cell (blk_below HY.out hz) 6).trans rfl, (blk_cell (blk_below HY.out hz) 7).trans rfl, (blk_cell (blk_below HA.out hz) 0).trans rfl, (blk_cell (blk_below HA.out hz) 1).trans rfl, (blk_cell (blk_below HA.out hz) 2).trans rfl, (blk_cell (blk_below HA.out hz) 3).trans rfl, (blk_cell (blk_below HA.out hz) 4).trans rfl, (blk_cell (blk_below HA.out hz) 5).trans rfl, (blk_cell (blk_below HA.out hz) 6).trans rfl, (blk_cell (blk_below HA.out hz) 7).trans rfl⟩); (have HZ2 := Lib.hid hz); clear hbl hz HZ1) | (go_at_call 11; clear hS2; refine (voklaw26_same.calls 3000000 k a b 0 0 0 A6 q6 ([] : List Int) A7 q7 ([] : List Int) k a b 0 0 0 none 0 ([] : List Int) none 0 ([] : List Int) true _ (Kd.C_below (Kd.R_reads' Y6.out).2.2 HZ2.out) (Kd.R_reads' Y6.out).2.1 (Kd.C_below (Kd.R_reads' Y7.out).2.2 HZ2.out) (Kd.R_reads' Y7.out).2.1 (C_none (Kd.int .i64) _) (Nat.le_refl _) (C_none (Kd.int .u8) _) (Nat.le_refl _) HSM.out).mono ?_; rintro e y3 ⟨rfl, hbl⟩; (have hz : Below w6.heap.size w6 y3 := HZ2.out.trans (hbl.mono HZ2.out.size)); (have hS3 : y3.cell? ⟨gHY, 0, none⟩ = some (.int .i64 k) ∧ y3.cell? ⟨gHY, 1, none⟩ = some (.int .i64 a) ∧ y3.cell? ⟨gHY, 2, none⟩ = some (.int .i64 b) ∧ y3.cell? ⟨gHY, 3, none⟩ = some (.int .i64 0) ∧ y3.cell? ⟨gHY, 4, none⟩ = some (.int .i64 0) ∧ y3.cell? ⟨gHY, 5, none⟩ = some (.int .i64 0) ∧ y3.cell? ⟨gHY, 6, none⟩ = some (.slice A6 ([] : List Int).length q6) ∧ y3.cell? ⟨gHY, 7, none⟩ = some (.slice A7 ([] : List Int).length q7) ∧ y3.cell? ⟨g, 0, none⟩ = some (.int .i64 k) ∧ y3.cell? ⟨g, 1, none⟩ = some (.int .i64 a) ∧ y3.cell? ⟨g, 2, none⟩ = some (.int .i64 b) ∧ y3.cell? ⟨g, 3, none⟩ = some (.int .i64 0) ∧ y3.cell? ⟨g, 4, none⟩ = some (.int .i64 0) ∧ y3.cell? ⟨g, 5, none⟩ = some (.int .i64 0) ∧ y3.cell? ⟨g, 6, none⟩ = some (.slice none ([] : List Int).length 0) ∧ y3.cell? ⟨g, 7, none⟩ = some (.slice none ([] : List Int).length 0) := ⟨(blk_cell (blk_below HY.out hz) 0).trans rfl, (blk_cell (blk_below HY.out hz) 1).trans rfl, (blk_cell (blk_below HY.out hz) 2).trans rfl, (blk_cell (blk_below HY.out hz) 3).trans rfl, (blk_cell (blk_below HY.out hz) 4).trans rfl, (blk_cell (blk_below HY.out hz) 5).trans rfl, (blk_cell (blk_below HY.out hz) 6).trans rfl, (blk_cell (blk_below HY.out hz) 7).trans rfl, (blk_cell (blk_below HA.out hz) 0).trans rfl, (blk_cell (blk_below HA.out hz) 1).trans rfl, (blk_cell (blk_below HA.out hz) 2).trans rfl, (blk_cell (blk_below HA.out hz) 3).trans rfl, (blk_cell (blk_below HA.out hz) 4).trans rfl, (blk_cell (blk_below HA.out hz) 5).trans rfl, (blk_cell (blk_below HA.out hz) 6).trans rfl, (blk_cell (blk_below HA.out hz) 7).trans rfl⟩); (have HZ3 := Lib.hid hz); clear hbl hz HZ2))
      go_wp2
      go_ret
      exact ⟨rfl, HB.out.trans (HZ3.out.mono HB.out.size)⟩
theorem walk (k a b id op old : Int) (AU : Option Addr) (cU : Nat) (us : List Int) (AT : Option Addr) (cT : Nat) (tx : List Int) (s : ByteArray) (w : World) (hG : Glob w) (hrU : Kd.C (Kd.int .i64) w AU us.length us) (hcU : us.length ≤ cU) (hrT : Kd.C (Kd.int .u8) w AT tx.length tx) (hcT : tx.length ≤ cT) (hk : i64 k) (ha : i64 a) (hb : i64 b) (hid : i64 id) (hop : i64 op) (hold : i64 old) (hu : ∀ y ∈ us, i64 y) (hx : ∀ y ∈ tx, 0 ≤ y ∧ y ≤ 255) :
    Calls Tryd.prog 4 #[.agg #[.int .i64 k, .int .i64 a, .int .i64 b, .int .i64 id, .int .i64 op, .int .i64 old, .slice AU us.length cU, .slice AT tx.length cT], .string s] w fun e w' => e = .returned (.bool true) ∧ Below w.heap.size w w' := by
  by_cases g0 : tx.length ≤ 2000
  · by_cases g1 : us.length ≤ 300
    · by_cases g2 : s.size ≤ 6000
      · by_cases he : (parse (L s)).2 = 0
        · by_cases k1 : k < 1
          · exact t_low k a b id op old AU cU us AT cT tx s w hG hrU hcU hrT hcT hk ha hb hid hop hold hu hx g0 g1 g2 he k1
          · by_cases k8 : 8 < k
            · exact t_high k a b id op old AU cU us AT cT tx s w hG hrU hcU hrT hcT hk ha hb hid hop hold hu hx g0 g1 g2 he (by omega) k8
            · by_cases ka : k = 1
              · exact t_ask k a b id op old AU cU us AT cT tx s w hG hrU hcU hrT hcT hk ha hb hid hop hold hu hx g0 g1 g2 he ka
              · exact t_other k a b id op old AU cU us AT cT tx s w hG hrU hcU hrT hcT hk ha hb hid hop hold hu hx g0 g1 g2 he (by omega) (by omega) ka
        · by_cases k1 : k < 1
          · exact u_low k a b id op old AU cU us AT cT tx s w hG hrU hcU hrT hcT hk ha hb hid hop hold hu hx g0 g1 g2 he k1
          · by_cases k8 : 8 < k
            · exact u_high k a b id op old AU cU us AT cT tx s w hG hrU hcU hrT hcT hk ha hb hid hop hold hu hx g0 g1 g2 he (by omega) k8
            · by_cases ka : k = 1
              · exact u_ask k a b id op old AU cU us AT cT tx s w hG hrU hcU hrT hcT hk ha hb hid hop hold hu hx g0 g1 g2 he ka
              · exact u_other k a b id op old AU cU us AT cT tx s w hG hrU hcU hrT hcT hk ha hb hid hop hold hu hx g0 g1 g2 he (by omega) (by omega) ka
      · exact big2 k a b id op old AU cU us AT cT tx s w hG hrU hcU hrT hcT hk ha hb hid hop hold hu hx g0 g1 g2
    · exact big1 k a b id op old AU cU us AT cT tx s w hG hrU hcU hrT hcT hk ha hb hid hop hold hu hx g0 g1
  · exact big0 k a b id op old AU cU us AT cT tx s w hG hrU hcU hrT hcT hk ha hb hid hop hold hu hx g0
end Go.Proofs.YtleljfmhefobeaaDoor.WalkSB
