/- ScriptLines: the walk. -/
import Derived.Test.YtleljfmhefobeaaDoorGLFirst
import Derived.Test.YtleljfmhefobeaaDoorGLAux
import Derived.Test.YtleljfmhefobeaaDoorPureS7
import Derived.Test.YtleljfmhefobeaaDoorGLx9
import Derived.WalkKit
import Derived.WalkSpells
import Derived.Lib.Hide
import Derived.Deep.RegionHeld3
set_option linter.unusedVariables false
set_option linter.unusedSimpArgs false
namespace Go.Proofs.YtleljfmhefobeaaDoor.WalkSL
open Go Go.RowKit Go.Proofs.YtleljfmhefobeaaDoorW.PrintWords Go.Proofs.YtleljfmhefobeaaDoorW.PrintLast Go.Proofs.YtleljfmhefobeaaDoorW.PrintMore Go.Proofs.YtleljfmhefobeaaDoor.GL Go.Proofs.YtleljfmhefobeaaDoor.PureS1 Go.Proofs.YtleljfmhefobeaaDoor.PureS2 Go.Proofs.YtleljfmhefobeaaDoor.PureS3 Go.Proofs.YtleljfmhefobeaaDoor.PureS4 Go.Proofs.YtleljfmhefobeaaDoor.PureS6 Go.Proofs.YtleljfmhefobeaaDoor.PureS7 Go.Proofs.YtleljfmhefobeaaDoor.GLFirst Go.Proofs.YtleljfmhefobeaaDoor.GLAux

theorem vpx (s : ByteArray) (x : A8) (e : Int) (hs : s.size ≤ 99999) (h : parse (L s) = (x, e)) : vokref25_Parse.f 3000000 s = some (x.k, x.a, x.b, x.id, x.op, x.old, x.us, x.tx, e) := by
  rw [vparse_f 3000000 s hs (by omega), ← parse_eq, h]
  rfl

set_option maxRecDepth 100000 in
set_option maxHeartbeats 16000000 in
theorem big0 (k a b id op old : Int) (AU : Option Addr) (cU : Nat) (us : List Int) (AT : Option Addr) (cT : Nat) (tx : List Int) (s : ByteArray) (w : World) (hG : Glob w) (hrU : Kd.C (Kd.int .i64) w AU us.length us) (hcU : us.length ≤ cU) (hrT : Kd.C (Kd.int .u8) w AT tx.length tx) (hcT : tx.length ≤ cT) (hk : i64 k) (ha : i64 a) (hb : i64 b) (hid : i64 id) (hop : i64 op) (hold : i64 old) (hu : ∀ y ∈ us, i64 y) (hx : ∀ y ∈ tx, 0 ≤ y ∧ y ≤ 255) (g0 : ¬ tx.length ≤ 6000) :
    Calls Tryd.prog 3 #[.agg #[.int .i64 k, .int .i64 a, .int .i64 b, .int .i64 id, .int .i64 op, .int .i64 old, .slice AU us.length cU, .slice AT tx.length cT], .string s] w fun e w' => e = .returned (.bool true) ∧ Below w.heap.size w w' := by
  have hu1 := Tryd.underlying27
  have hu2 := Tryd.underlying25
  have hu3 := Tryd.underlying34
  have hu4 := Tryd.underlying32
  have HG := Lib.hid hG
  clear hG
  have HrU := Lib.hid hrU
  have HrT := Lib.hid hrT
  clear hrU hrT
  have Hu := Lib.hid hu
  have Hx := Lib.hid hx
  clear hu hx
  have HB := Lib.hid ((Below.refl w.heap.size w).alloc (Nat.le_refl _) (.cells #[.int .i64 k, .int .i64 a, .int .i64 b, .int .i64 id, .int .i64 op, .int .i64 old, .slice AU us.length cU, .slice AT tx.length cT] 27))
  have HA := Lib.hid (blk_new w (.cells #[.int .i64 k, .int .i64 a, .int .i64 b, .int .i64 id, .int .i64 op, .int .i64 old, .slice AU us.length cU, .slice AT tx.length cT] 27))
  go_enter Tryd.func3, Tryd.ntmps3
  go_wp2_with fail
  generalize w.alloc (.cells #[.int .i64 k, .int .i64 a, .int .i64 b, .int .i64 id, .int .i64 op, .int .i64 old, .slice AU us.length cU, .slice AT tx.length cT] 27) = W0 at *
  obtain ⟨g, hg⟩ : ∃ g, g = w.heap.size := ⟨_, rfl⟩
  have hgB : w.heap.size ≤ g := by omega
  have Hgg := Lib.hid hg
  rw [← hg] at HA
  rw [← hg]
  clear hg
  have HC := Lib.hid (first_any W0 (HG.out.below HB.out))
  go_wp2_with fail
  refine HC.out.mono ?_
  rintro e w1 ⟨rfl, hbl⟩
  clear HC
  have HB' := Lib.hid (HB.out.trans (hbl.mono HB.out.size))
  clear HB
  have HB := HB'
  clear HB'
  have HA' := Lib.hid (blk_below HA.out hbl)
  clear HA
  have HA := HA'
  clear HA'
  clear hbl
  have c0 := (blk_cell HA.out 0).trans rfl
  have c1 := (blk_cell HA.out 1).trans rfl
  have c2 := (blk_cell HA.out 2).trans rfl
  have c3 := (blk_cell HA.out 3).trans rfl
  have c4 := (blk_cell HA.out 4).trans rfl
  have c5 := (blk_cell HA.out 5).trans rfl
  have c6 := (blk_cell HA.out 6).trans rfl
  have c7 := (blk_cell HA.out 7).trans rfl
  have gn0 : decide (6000 < tx.length) = true := decide_eq_true (by omega)
  have gi0 : decide ((6000 : Int) < (tx.length : Int)) = true := decide_eq_true (by omega)
  have HC := Lib.hid (first_any w1 (HG.out.below HB.out))
  go_wp2_with fail
  refine HC.out.mono ?_
  rintro e w2 ⟨rfl, hbl⟩
  clear HC
  clear c0 c1 c2 c3 c4 c5 c6 c7
  have HB' := Lib.hid (HB.out.trans (hbl.mono HB.out.size))
  clear HB
  have HB := HB'
  clear HB'
  have HA' := Lib.hid (blk_below HA.out hbl)
  clear HA
  have HA := HA'
  clear HA'
  clear hbl
  go_wp2
  go_ret
  exact ⟨rfl, HB.out⟩
set_option maxRecDepth 100000 in
set_option maxHeartbeats 16000000 in
theorem big1 (k a b id op old : Int) (AU : Option Addr) (cU : Nat) (us : List Int) (AT : Option Addr) (cT : Nat) (tx : List Int) (s : ByteArray) (w : World) (hG : Glob w) (hrU : Kd.C (Kd.int .i64) w AU us.length us) (hcU : us.length ≤ cU) (hrT : Kd.C (Kd.int .u8) w AT tx.length tx) (hcT : tx.length ≤ cT) (hk : i64 k) (ha : i64 a) (hb : i64 b) (hid : i64 id) (hop : i64 op) (hold : i64 old) (hu : ∀ y ∈ us, i64 y) (hx : ∀ y ∈ tx, 0 ≤ y ∧ y ≤ 255) (g0 : tx.length ≤ 6000) (g1 : ¬ us.length ≤ 300) :
    Calls Tryd.prog 3 #[.agg #[.int .i64 k, .int .i64 a, .int .i64 b, .int .i64 id, .int .i64 op, .int .i64 old, .slice AU us.length cU, .slice AT tx.length cT], .string s] w fun e w' => e = .returned (.bool true) ∧ Below w.heap.size w w' := by
  have hu1 := Tryd.underlying27
  have hu2 := Tryd.underlying25
  have hu3 := Tryd.underlying34
  have hu4 := Tryd.underlying32
  have HG := Lib.hid hG
  clear hG
  have HrU := Lib.hid hrU
  have HrT := Lib.hid hrT
  clear hrU hrT
  have Hu := Lib.hid hu
  have Hx := Lib.hid hx
  clear hu hx
  have HB := Lib.hid ((Below.refl w.heap.size w).alloc (Nat.le_refl _) (.cells #[.int .i64 k, .int .i64 a, .int .i64 b, .int .i64 id, .int .i64 op, .int .i64 old, .slice AU us.length cU, .slice AT tx.length cT] 27))
  have HA := Lib.hid (blk_new w (.cells #[.int .i64 k, .int .i64 a, .int .i64 b, .int .i64 id, .int .i64 op, .int .i64 old, .slice AU us.length cU, .slice AT tx.length cT] 27))
  go_enter Tryd.func3, Tryd.ntmps3
  go_wp2_with fail
  generalize w.alloc (.cells #[.int .i64 k, .int .i64 a, .int .i64 b, .int .i64 id, .int .i64 op, .int .i64 old, .slice AU us.length cU, .slice AT tx.length cT] 27) = W0 at *
  obtain ⟨g, hg⟩ : ∃ g, g = w.heap.size := ⟨_, rfl⟩
  have hgB : w.heap.size ≤ g := by omega
  have Hgg := Lib.hid hg
  rw [← hg] at HA
  rw [← hg]
  clear hg
  have HC := Lib.hid (first_any W0 (HG.out.below HB.out))
  go_wp2_with fail
  refine HC.out.mono ?_
  rintro e w1 ⟨rfl, hbl⟩
  clear HC
  have HB' := Lib.hid (HB.out.trans (hbl.mono HB.out.size))
  clear HB
  have HB := HB'
  clear HB'
  have HA' := Lib.hid (blk_below HA.out hbl)
  clear HA
  have HA := HA'
  clear HA'
  clear hbl
  have c0 := (blk_cell HA.out 0).trans rfl
  have c1 := (blk_cell HA.out 1).trans rfl
  have c2 := (blk_cell HA.out 2).trans rfl
  have c3 := (blk_cell HA.out 3).trans rfl
  have c4 := (blk_cell HA.out 4).trans rfl
  have c5 := (blk_cell HA.out 5).trans rfl
  have c6 := (blk_cell HA.out 6).trans rfl
  have c7 := (blk_cell HA.out 7).trans rfl
  have gn0 : decide (6000 < tx.length) = false := decide_eq_false (by omega)
  have gi0 : decide ((6000 : Int) < (tx.length : Int)) = false := decide_eq_false (by omega)
  have gn1 : decide (300 < us.length) = true := decide_eq_true (by omega)
  have gi1 : decide ((300 : Int) < (us.length : Int)) = true := decide_eq_true (by omega)
  have HC := Lib.hid (first_any w1 (HG.out.below HB.out))
  go_wp2_with fail
  refine HC.out.mono ?_
  rintro e w2 ⟨rfl, hbl⟩
  clear HC
  clear c0 c1 c2 c3 c4 c5 c6 c7
  have HB' := Lib.hid (HB.out.trans (hbl.mono HB.out.size))
  clear HB
  have HB := HB'
  clear HB'
  have HA' := Lib.hid (blk_below HA.out hbl)
  clear HA
  have HA := HA'
  clear HA'
  clear hbl
  go_wp2
  go_ret
  exact ⟨rfl, HB.out⟩
set_option maxRecDepth 100000 in
set_option maxHeartbeats 16000000 in
theorem big2 (k a b id op old : Int) (AU : Option Addr) (cU : Nat) (us : List Int) (AT : Option Addr) (cT : Nat) (tx : List Int) (s : ByteArray) (w : World) (hG : Glob w) (hrU : Kd.C (Kd.int .i64) w AU us.length us) (hcU : us.length ≤ cU) (hrT : Kd.C (Kd.int .u8) w AT tx.length tx) (hcT : tx.length ≤ cT) (hk : i64 k) (ha : i64 a) (hb : i64 b) (hid : i64 id) (hop : i64 op) (hold : i64 old) (hu : ∀ y ∈ us, i64 y) (hx : ∀ y ∈ tx, 0 ≤ y ∧ y ≤ 255) (g0 : tx.length ≤ 6000) (g1 : us.length ≤ 300) (g2 : ¬ s.size ≤ 6000) :
    Calls Tryd.prog 3 #[.agg #[.int .i64 k, .int .i64 a, .int .i64 b, .int .i64 id, .int .i64 op, .int .i64 old, .slice AU us.length cU, .slice AT tx.length cT], .string s] w fun e w' => e = .returned (.bool true) ∧ Below w.heap.size w w' := by
  have hu1 := Tryd.underlying27
  have hu2 := Tryd.underlying25
  have hu3 := Tryd.underlying34
  have hu4 := Tryd.underlying32
  have HG := Lib.hid hG
  clear hG
  have HrU := Lib.hid hrU
  have HrT := Lib.hid hrT
  clear hrU hrT
  have Hu := Lib.hid hu
  have Hx := Lib.hid hx
  clear hu hx
  have HB := Lib.hid ((Below.refl w.heap.size w).alloc (Nat.le_refl _) (.cells #[.int .i64 k, .int .i64 a, .int .i64 b, .int .i64 id, .int .i64 op, .int .i64 old, .slice AU us.length cU, .slice AT tx.length cT] 27))
  have HA := Lib.hid (blk_new w (.cells #[.int .i64 k, .int .i64 a, .int .i64 b, .int .i64 id, .int .i64 op, .int .i64 old, .slice AU us.length cU, .slice AT tx.length cT] 27))
  go_enter Tryd.func3, Tryd.ntmps3
  go_wp2_with fail
  generalize w.alloc (.cells #[.int .i64 k, .int .i64 a, .int .i64 b, .int .i64 id, .int .i64 op, .int .i64 old, .slice AU us.length cU, .slice AT tx.length cT] 27) = W0 at *
  obtain ⟨g, hg⟩ : ∃ g, g = w.heap.size := ⟨_, rfl⟩
  have hgB : w.heap.size ≤ g := by omega
  have Hgg := Lib.hid hg
  rw [← hg] at HA
  rw [← hg]
  clear hg
  have HC := Lib.hid (first_any W0 (HG.out.below HB.out))
  go_wp2_with fail
  refine HC.out.mono ?_
  rintro e w1 ⟨rfl, hbl⟩
  clear HC
  have HB' := Lib.hid (HB.out.trans (hbl.mono HB.out.size))
  clear HB
  have HB := HB'
  clear HB'
  have HA' := Lib.hid (blk_below HA.out hbl)
  clear HA
  have HA := HA'
  clear HA'
  clear hbl
  have c0 := (blk_cell HA.out 0).trans rfl
  have c1 := (blk_cell HA.out 1).trans rfl
  have c2 := (blk_cell HA.out 2).trans rfl
  have c3 := (blk_cell HA.out 3).trans rfl
  have c4 := (blk_cell HA.out 4).trans rfl
  have c5 := (blk_cell HA.out 5).trans rfl
  have c6 := (blk_cell HA.out 6).trans rfl
  have c7 := (blk_cell HA.out 7).trans rfl
  have gn0 : decide (6000 < tx.length) = false := decide_eq_false (by omega)
  have gi0 : decide ((6000 : Int) < (tx.length : Int)) = false := decide_eq_false (by omega)
  have gn1 : decide (300 < us.length) = false := decide_eq_false (by omega)
  have gi1 : decide ((300 : Int) < (us.length : Int)) = false := decide_eq_false (by omega)
  have gn2 : decide (6000 < s.size) = true := decide_eq_true (by omega)
  have gi2 : decide ((6000 : Int) < (s.size : Int)) = true := decide_eq_true (by omega)
  have HC := Lib.hid (first_any w1 (HG.out.below HB.out))
  go_wp2_with fail
  refine HC.out.mono ?_
  rintro e w2 ⟨rfl, hbl⟩
  clear HC
  clear c0 c1 c2 c3 c4 c5 c6 c7
  have HB' := Lib.hid (HB.out.trans (hbl.mono HB.out.size))
  clear HB
  have HB := HB'
  clear HB'
  have HA' := Lib.hid (blk_below HA.out hbl)
  clear HA
  have HA := HA'
  clear HA'
  clear hbl
  go_wp2
  go_ret
  exact ⟨rfl, HB.out⟩
set_option maxRecDepth 100000 in
set_option maxHeartbeats 16000000 in
theorem fit (k a b id op old : Int) (AU : Option Addr) (cU : Nat) (us : List Int) (AT : Option Addr) (cT : Nat) (tx : List Int) (s : ByteArray) (w : World) (hG : Glob w) (hrU : Kd.C (Kd.int .i64) w AU us.length us) (hcU : us.length ≤ cU) (hrT : Kd.C (Kd.int .u8) w AT tx.length tx) (hcT : tx.length ≤ cT) (hk : i64 k) (ha : i64 a) (hb : i64 b) (hid : i64 id) (hop : i64 op) (hold : i64 old) (hu : ∀ y ∈ us, i64 y) (hx : ∀ y ∈ tx, 0 ≤ y ∧ y ≤ 255) (g0 : tx.length ≤ 6000) (g1 : us.length ≤ 300) (g2 : s.size ≤ 6000) :
    Calls Tryd.prog 3 #[.agg #[.int .i64 k, .int .i64 a, .int .i64 b, .int .i64 id, .int .i64 op, .int .i64 old, .slice AU us.length cU, .slice AT tx.length cT], .string s] w fun e w' => e = .returned (.bool true) ∧ Below w.heap.size w w' := by
  have hu1 := Tryd.underlying27
  have hu2 := Tryd.underlying25
  have hu3 := Tryd.underlying34
  have hu4 := Tryd.underlying32
  have HG := Lib.hid hG
  clear hG
  have HrU := Lib.hid hrU
  have HrT := Lib.hid hrT
  clear hrU hrT
  have Hu := Lib.hid hu
  have Hx := Lib.hid hx
  clear hu hx
  have HB := Lib.hid ((Below.refl w.heap.size w).alloc (Nat.le_refl _) (.cells #[.int .i64 k, .int .i64 a, .int .i64 b, .int .i64 id, .int .i64 op, .int .i64 old, .slice AU us.length cU, .slice AT tx.length cT] 27))
  have HA := Lib.hid (blk_new w (.cells #[.int .i64 k, .int .i64 a, .int .i64 b, .int .i64 id, .int .i64 op, .int .i64 old, .slice AU us.length cU, .slice AT tx.length cT] 27))
  go_enter Tryd.func3, Tryd.ntmps3
  go_wp2_with fail
  generalize w.alloc (.cells #[.int .i64 k, .int .i64 a, .int .i64 b, .int .i64 id, .int .i64 op, .int .i64 old, .slice AU us.length cU, .slice AT tx.length cT] 27) = W0 at *
  obtain ⟨g, hg⟩ : ∃ g, g = w.heap.size := ⟨_, rfl⟩
  have hgB : w.heap.size ≤ g := by omega
  have Hgg := Lib.hid hg
  rw [← hg] at HA
  rw [← hg]
  clear hg
  have HC := Lib.hid (first_any W0 (HG.out.below HB.out))
  go_wp2_with fail
  refine HC.out.mono ?_
  rintro e w1 ⟨rfl, hbl⟩
  clear HC
  have HB' := Lib.hid (HB.out.trans (hbl.mono HB.out.size))
  clear HB
  have HB := HB'
  clear HB'
  have HA' := Lib.hid (blk_below HA.out hbl)
  clear HA
  have HA := HA'
  clear HA'
  clear hbl
  have c0 := (blk_cell HA.out 0).trans rfl
  have c1 := (blk_cell HA.out 1).trans rfl
  have c2 := (blk_cell HA.out 2).trans rfl
  have c3 := (blk_cell HA.out 3).trans rfl
  have c4 := (blk_cell HA.out 4).trans rfl
  have c5 := (blk_cell HA.out 5).trans rfl
  have c6 := (blk_cell HA.out 6).trans rfl
  have c7 := (blk_cell HA.out 7).trans rfl
  have gn0 : decide (6000 < tx.length) = false := decide_eq_false (by omega)
  have gi0 : decide ((6000 : Int) < (tx.length : Int)) = false := decide_eq_false (by omega)
  have gn1 : decide (300 < us.length) = false := decide_eq_false (by omega)
  have gi1 : decide ((300 : Int) < (us.length : Int)) = false := decide_eq_false (by omega)
  have gn2 : decide (6000 < s.size) = false := decide_eq_false (by omega)
  have gi2 : decide ((6000 : Int) < (s.size : Int)) = false := decide_eq_false (by omega)
  have PX := Lib.hid (px s (parse (L s)).1 (parse (L s)).2 (by omega) rfl)
  have VX := Lib.hid (vpx s (parse (L s)).1 (parse (L s)).2 (by omega) rfl)
  have PO := Lib.hid (parse_ok (L s) (by rw [← size_L]; omega))
  generalize parse (L s) = X at *
  obtain ⟨⟨xk, xa, xb, xid, xop, xold, xus, xtx⟩, er⟩ := X
  have HC := Lib.hid (script_Parse.calls 3000000 s xk xa xb xid xop xold xus xtx er w1 (HG.out.below HB.out) PX.out)
  go_wp2_with fail
  refine HC.out.mono ?_
  rintro e w2 ⟨v6, v7, rfl, h6, h7, hbl⟩
  clear HC
  clear c0 c1 c2 c3 c4 c5 c6 c7
  clear PX
  have HB' := Lib.hid (HB.out.trans (hbl.mono HB.out.size))
  clear HB
  have HB := HB'
  clear HB'
  have HA' := Lib.hid (blk_below HA.out hbl)
  clear HA
  have HA := HA'
  clear HA'
  obtain ⟨A6, q6, rfl⟩ := Kd.R_slice h6
  obtain ⟨A7, q7, rfl⟩ := Kd.R_slice h7
  have X6 := Lib.hid h6
  have X7 := Lib.hid h7
  clear h6 h7 hbl
  have hbl := (Below.refl w2.heap.size w2).alloc (Nat.le_refl _) (.cells #[.int .i64 xk, .int .i64 xa, .int .i64 xb, .int .i64 xid, .int .i64 xop, .int .i64 xold, .slice A6 xus.length q6, .slice A7 xtx.length q7] 27)
  have hnew := blk_new w2 (.cells #[.int .i64 xk, .int .i64 xa, .int .i64 xb, .int .i64 xid, .int .i64 xop, .int .i64 xold, .slice A6 xus.length q6, .slice A7 xtx.length q7] 27)
  have HB' := Lib.hid (HB.out.trans (hbl.mono HB.out.size))
  clear HB
  have HB := HB'
  clear HB'
  have HA' := Lib.hid (blk_below HA.out hbl)
  clear HA
  have HA := HA'
  clear HA'
  have X6' := Lib.hid (Kd.R_below X6.out hbl)
  clear X6
  have X6 := X6'
  clear X6'
  have X7' := Lib.hid (Kd.R_below X7.out hbl)
  clear X7
  have X7 := X7'
  clear X7'
  have HX := Lib.hid hnew
  clear hnew hbl
  go_wp2_with fail
  generalize w2.alloc (.cells #[.int .i64 xk, .int .i64 xa, .int .i64 xb, .int .i64 xid, .int .i64 xop, .int .i64 xold, .slice A6 xus.length q6, .slice A7 xtx.length q7] 27) = w3 at *
  obtain ⟨gHX, hgHX⟩ : ∃ g, g = w2.heap.size := ⟨_, rfl⟩
  generalize w2.heap.size = gHX at *
  have HC := Lib.hid (vokref25_Parse.calls 3000000 s xk xa xb xid xop xold xus xtx er w3 VX.out)
  go_wp2_with fail
  refine HC.out.mono ?_
  rintro e w4 ⟨v6, v7, rfl, h6, h7, hbl⟩
  clear HC
  clear VX
  have HB' := Lib.hid (HB.out.trans (hbl.mono HB.out.size))
  clear HB
  have HB := HB'
  clear HB'
  have HA' := Lib.hid (blk_below HA.out hbl)
  clear HA
  have HA := HA'
  clear HA'
  have HX' := Lib.hid (blk_below HX.out hbl)
  clear HX
  have HX := HX'
  clear HX'
  have X6' := Lib.hid (Kd.R_below X6.out hbl)
  clear X6
  have X6 := X6'
  clear X6'
  have X7' := Lib.hid (Kd.R_below X7.out hbl)
  clear X7
  have X7 := X7'
  clear X7'
  obtain ⟨B6, y6, rfl⟩ := Kd.R_slice h6
  obtain ⟨B7, y7, rfl⟩ := Kd.R_slice h7
  have Y6 := Lib.hid h6
  have Y7 := Lib.hid h7
  clear h6 h7 hbl
  have hbl := (Below.refl w4.heap.size w4).alloc (Nat.le_refl _) (.cells #[.int .i64 xk, .int .i64 xa, .int .i64 xb, .int .i64 xid, .int .i64 xop, .int .i64 xold, .slice B6 xus.length y6, .slice B7 xtx.length y7] 34)
  have hnew := blk_new w4 (.cells #[.int .i64 xk, .int .i64 xa, .int .i64 xb, .int .i64 xid, .int .i64 xop, .int .i64 xold, .slice B6 xus.length y6, .slice B7 xtx.length y7] 34)
  have HB' := Lib.hid (HB.out.trans (hbl.mono HB.out.size))
  clear HB
  have HB := HB'
  clear HB'
  have HA' := Lib.hid (blk_below HA.out hbl)
  clear HA
  have HA := HA'
  clear HA'
  have HX' := Lib.hid (blk_below HX.out hbl)
  clear HX
  have HX := HX'
  clear HX'
  have X6' := Lib.hid (Kd.R_below X6.out hbl)
  clear X6
  have X6 := X6'
  clear X6'
  have X7' := Lib.hid (Kd.R_below X7.out hbl)
  clear X7
  have X7 := X7'
  clear X7'
  have Y6' := Lib.hid (Kd.R_below Y6.out hbl)
  clear Y6
  have Y6 := Y6'
  clear Y6'
  have Y7' := Lib.hid (Kd.R_below Y7.out hbl)
  clear Y7
  have Y7 := Y7'
  clear Y7'
  have HY := Lib.hid hnew
  clear hnew hbl
  go_wp2_with fail
  generalize w4.alloc (.cells #[.int .i64 xk, .int .i64 xa, .int .i64 xb, .int .i64 xid, .int .i64 xop, .int .i64 xold, .slice B6 xus.length y6, .slice B7 xtx.length y7] 34) = w5 at *
  obtain ⟨gHY, hgHY⟩ : ∃ g, g = w4.heap.size := ⟨_, rfl⟩
  generalize w4.heap.size = gHY at *
  have HP := Lib.hid (print_eq 3000000 ⟨k, a, b, id, op, old, us, tx⟩ ⟨ha, hb, hid, hop, hold, Hu.out, by show us.length ≤ 100000; omega, Hx.out, by show tx.length ≤ 1000000; omega⟩ (by omega))
  have HV := Lib.hid (vprint_eq 3000000 ⟨k, a, b, id, op, old, us, tx⟩ ⟨ha, hb, hid, hop, hold, Hu.out, by show us.length ≤ 100000; omega, Hx.out, by show tx.length ≤ 1000000; omega⟩ (by omega))
  generalize B (pr ⟨k, a, b, id, op, old, us, tx⟩) = p at *
  have hpl : (p.toList == p.toList) = true := beq_self_eq_true _
  have hee : (er == er) = true := beq_self_eq_true er
  have HSM := Lib.hid (same_self ⟨xk, xa, xb, xid, xop, xold, xus, xtx⟩ PO.out.ul)
  have hz0 : Below w5.heap.size w5 w5.drew := (Below.refl _ _).drew
  have HZ0 := Lib.hid hz0
  have hS0 : w5.drew.cell? ⟨gHY, 0, none⟩ = some (.int .i64 xk) ∧ w5.drew.cell? ⟨gHY, 1, none⟩ = some (.int .i64 xa) ∧ w5.drew.cell? ⟨gHY, 2, none⟩ = some (.int .i64 xb) ∧ w5.drew.cell? ⟨gHY, 3, none⟩ = some (.int .i64 xid) ∧ w5.drew.cell? ⟨gHY, 4, none⟩ = some (.int .i64 xop) ∧ w5.drew.cell? ⟨gHY, 5, none⟩ = some (.int .i64 xold) ∧ w5.drew.cell? ⟨gHY, 6, none⟩ = some (.slice B6 xus.length y6) ∧ w5.drew.cell? ⟨gHY, 7, none⟩ = some (.slice B7 xtx.length y7) ∧ w5.drew.cell? ⟨gHX, 0, none⟩ = some (.int .i64 xk) ∧ w5.drew.cell? ⟨gHX, 1, none⟩ = some (.int .i64 xa) ∧ w5.drew.cell? ⟨gHX, 2, none⟩ = some (.int .i64 xb) ∧ w5.drew.cell? ⟨gHX, 3, none⟩ = some (.int .i64 xid) ∧ w5.drew.cell? ⟨gHX, 4, none⟩ = some (.int .i64 xop) ∧ w5.drew.cell? ⟨gHX, 5, none⟩ = some (.int .i64 xold) ∧ w5.drew.cell? ⟨gHX, 6, none⟩ = some (.slice A6 xus.length q6) ∧ w5.drew.cell? ⟨gHX, 7, none⟩ = some (.slice A7 xtx.length q7) ∧ w5.drew.cell? ⟨g, 0, none⟩ = some (.int .i64 k) ∧ w5.drew.cell? ⟨g, 1, none⟩ = some (.int .i64 a) ∧ w5.drew.cell? ⟨g, 2, none⟩ = some (.int .i64 b) ∧ w5.drew.cell? ⟨g, 3, none⟩ = some (.int .i64 id) ∧ w5.drew.cell? ⟨g, 4, none⟩ = some (.int .i64 op) ∧ w5.drew.cell? ⟨g, 5, none⟩ = some (.int .i64 old) ∧ w5.drew.cell? ⟨g, 6, none⟩ = some (.slice AU us.length cU) ∧ w5.drew.cell? ⟨g, 7, none⟩ = some (.slice AT tx.length cT) := ⟨(blk_cell (blk_below HY.out hz0) 0).trans rfl, (blk_cell (blk_below HY.out hz0) 1).trans rfl, (blk_cell (blk_below HY.out hz0) 2).trans rfl, (blk_cell (blk_below HY.out hz0) 3).trans rfl, (blk_cell (blk_below HY.out hz0) 4).trans rfl, (blk_cell (blk_below HY.out hz0) 5).trans rfl, (blk_cell (blk_below HY.out hz0) 6).trans rfl, (blk_cell (blk_below HY.out hz0) 7).trans rfl, (blk_cell (blk_below HX.out hz0) 0).trans rfl, (blk_cell (blk_below HX.out hz0) 1).trans rfl, (blk_cell (blk_below HX.out hz0) 2).trans rfl, (blk_cell (blk_below HX.out hz0) 3).trans rfl, (blk_cell (blk_below HX.out hz0) 4).trans rfl, (blk_cell (blk_below HX.out hz0) 5).trans rfl, (blk_cell (blk_below HX.out hz0) 6).trans rfl, (blk_cell (blk_below HX.out hz0) 7).trans rfl, (blk_cell (blk_below HA.out hz0) 0).trans rfl, (blk_cell (blk_below HA.out hz0) 1).trans rfl, (blk_cell (blk_below HA.out hz0) 2).trans rfl, (blk_cell (blk_below HA.out hz0) 3).trans rfl, (blk_cell (blk_below HA.out hz0) 4).trans rfl, (blk_cell (blk_below HA.out hz0) 5).trans rfl, (blk_cell (blk_below HA.out hz0) 6).trans rfl, (blk_cell (blk_below HA.out hz0) 7).trans rfl⟩
  clear hz0
  go_region_held3 (fun w' => w'.cell? ⟨gHY, 0, none⟩ = some (.int .i64 xk) ∧ w'.cell? ⟨gHY, 1, none⟩ = some (.int .i64 xa) ∧ w'.cell? ⟨gHY, 2, none⟩ = some (.int .i64 xb) ∧ w'.cell? ⟨gHY, 3, none⟩ = some (.int .i64 xid) ∧ w'.cell? ⟨gHY, 4, none⟩ = some (.int .i64 xop) ∧ w'.cell? ⟨gHY, 5, none⟩ = some (.int .i64 xold) ∧ w'.cell? ⟨gHY, 6, none⟩ = some (.slice B6 xus.length y6) ∧ w'.cell? ⟨gHY, 7, none⟩ = some (.slice B7 xtx.length y7) ∧ w'.cell? ⟨gHX, 0, none⟩ = some (.int .i64 xk) ∧ w'.cell? ⟨gHX, 1, none⟩ = some (.int .i64 xa) ∧ w'.cell? ⟨gHX, 2, none⟩ = some (.int .i64 xb) ∧ w'.cell? ⟨gHX, 3, none⟩ = some (.int .i64 xid) ∧ w'.cell? ⟨gHX, 4, none⟩ = some (.int .i64 xop) ∧ w'.cell? ⟨gHX, 5, none⟩ = some (.int .i64 xold) ∧ w'.cell? ⟨gHX, 6, none⟩ = some (.slice A6 xus.length q6) ∧ w'.cell? ⟨gHX, 7, none⟩ = some (.slice A7 xtx.length q7) ∧ w'.cell? ⟨g, 0, none⟩ = some (.int .i64 k) ∧ w'.cell? ⟨g, 1, none⟩ = some (.int .i64 a) ∧ w'.cell? ⟨g, 2, none⟩ = some (.int .i64 b) ∧ w'.cell? ⟨g, 3, none⟩ = some (.int .i64 id) ∧ w'.cell? ⟨g, 4, none⟩ = some (.int .i64 op) ∧ w'.cell? ⟨g, 5, none⟩ = some (.int .i64 old) ∧ w'.cell? ⟨g, 6, none⟩ = some (.slice AU us.length cU) ∧ w'.cell? ⟨g, 7, none⟩ = some (.slice AT tx.length cT)) (first | (with_reducible exact hS0) | (with_reducible exact hS1) | (with_reducible exact hS2) | (with_reducible exact hS3) | (with_reducible exact hS4) | (with_reducible exact hS5) | go_keep) (first | (go_at_call 5; clear hS0; refine (first_any _ (HG.out.below (HB.out.trans (HZ0.out.mono HB.out.size)))).mono ?_; rintro e y1 ⟨rfl, hbl⟩; (have hz : Below w5.heap.size w5 y1 := HZ0.out.trans (hbl.mono HZ0.out.size)); (have hS1 : y1.cell? ⟨gHY, 0, none⟩ = some (.int .i64 xk) ∧ y1.cell? ⟨gHY, 1, none⟩ = some (.int .i64 xa) ∧ y1.cell? ⟨gHY, 2, none⟩ = some (.int .i64 xb) ∧ y1.cell? ⟨gHY, 3, none⟩ = some (.int .i64 xid) ∧ y1.cell? ⟨gHY, 4, none⟩ = some (.int .i64 xop) ∧ y1.cell? ⟨gHY, 5, none⟩ = some (.int .i64 xold) ∧ y1.cell? ⟨gHY, 6, none⟩ = some (.slice B6 xus.length y6) ∧ y1.cell? ⟨gHY, 7, none⟩ = some (.slice B7 xtx.length y7) ∧ y1.cell? ⟨gHX, 0, none⟩ = some (.int .i64 xk) ∧ y1.cell? ⟨gHX, 1, none⟩ = some (.int .i64 xa) ∧ y1.cell? ⟨gHX, 2, none⟩ = some (.int .i64 xb) ∧ y1.cell? ⟨gHX, 3, none⟩ = some (.int .i64 xid) ∧ y1.cell? ⟨gHX, 4, none⟩ = some (.int .i64 xop) ∧ y1.cell? ⟨gHX, 5, none⟩ = some (.int .i64 xold) ∧ y1.cell? ⟨gHX, 6, none⟩ = some (.slice A6 xus.length q6) ∧ y1.cell? ⟨gHX, 7, none⟩ = some (.slice A7 xtx.length q7) ∧ y1.cell? ⟨g, 0, none⟩ = some (.int .i64 k) ∧ y1.cell? ⟨g, 1, none⟩ = some (.int .i64 a) ∧ y1.cell? ⟨g, 2, none⟩ = some (.int .i64 b) ∧ y1.cell? ⟨g, 3, none⟩ = some (.int .i64 id) ∧ y1.cell? ⟨g, 4, none⟩ = some (.int .i64 op) ∧ y1.cell? ⟨g, 5, none⟩ = some (.int .i64 old) ∧ y1.cell? ⟨g, 6, none⟩ = some (.slice AU us.length cU) ∧ y1.cell? ⟨g, 7, none⟩ = some (.slice AT tx.length cT) := ⟨(blk_cell (blk_below HY.out hz) 0).trans rfl, (blk_cell (blk_below HY.out hz) 1).trans rfl, (blk_cell (blk_below HY.out hz) 2).trans rfl, (blk_cell (blk_below HY.out hz) 3).trans rfl, (blk_cell (blk_below HY.out hz) 4).trans rfl, (blk_cell (blk_below HY.out hz) 5).trans rfl, (blk_cell (blk_below HY.out hz) 6).trans rfl, (blk_cell (blk_below HY.out hz) 7).trans rfl, (blk_cell (blk_below HX.out hz) 0).trans rfl, (blk_cell (blk_below HX.out hz) 1).trans rfl, (blk_cell (blk_below HX.out hz) 2).trans rfl, (blk_cell (blk_below HX.out hz) 3).trans rfl, (blk_cell (blk_below HX.out hz) 4).trans rfl, (blk_cell (blk_below HX.out hz) 5).trans rfl, (blk_cell (blk_below HX.out hz) 6).trans rfl, (blk_cell (blk_below HX.out hz) 7).trans rfl, (blk_cell (blk_below HA.out hz) 0).trans rfl, (blk_cell (blk_below HA.out hz) 1).trans rfl, (blk_cell (blk_below HA.out hz) 2).trans rfl, (blk_cell (blk_below HA.out hz) 3).trans rfl, (blk_cell (blk_below HA.out hz) 4).trans rfl, (blk_cell (blk_below HA.out hz) 5).trans rfl, (blk_cell (blk_below HA.out hz) 6).trans rfl, (blk_cell (blk_below HA.out hz) 7).trans rfl⟩); (have HZ1 := Lib.hid hz); clear hbl hz HZ0) | (go_at_call 8; clear hS1; refine (script_Print.calls 3000000 k a b id op old AU cU us AT cT tx p _ (Kd.C_below HrU.out (HB.out.trans (HZ1.out.mono HB.out.size))) hcU (Kd.C_below HrT.out (HB.out.trans (HZ1.out.mono HB.out.size))) hcT (HG.out.below (HB.out.trans (HZ1.out.mono HB.out.size))) HP.out).mono ?_; rintro e y2 ⟨rfl, hbl⟩; (have hz : Below w5.heap.size w5 y2 := HZ1.out.trans (hbl.mono HZ1.out.size)); (have hS2 : y2.cell? ⟨gHY, 0, none⟩ = some (.int .i64 xk) ∧ y2.cell? ⟨gHY, 1, none⟩ = some (.int .i64 xa) ∧ y2.cell? ⟨gHY, 2, none⟩ = some (.int .i64 xb) ∧ y2.cell? ⟨gHY, 3, none⟩ = some (.int .i64 xid) ∧ y2.cell? ⟨gHY, 4, none⟩ = some (.int .i64 xop) ∧ y2.cell? ⟨gHY, 5, none⟩ = some (.int .i64 xold) ∧ y2.cell? ⟨gHY, 6, none⟩ = some (.slice B6 xus.length y6) ∧ y2.cell? ⟨gHY, 7, none⟩ = some (.slice B7 xtx.length y7) ∧ y2.cell? ⟨gHX, 0, none⟩ = some (.int .i64 xk) ∧ y2.cell? ⟨gHX, 1, none⟩ = some (.int .i64 xa) ∧ y2.cell? ⟨gHX, 2, none⟩ = some (.int .i64 xb) ∧ y2.cell? ⟨gHX, 3, none⟩ = some (.int .i64 xid) ∧ y2.cell? ⟨gHX, 4, none⟩ = some (.int .i64 xop) ∧ y2.cell? ⟨gHX, 5, none⟩ = some (.int .i64 xold) ∧ y2.cell? ⟨gHX, 6, none⟩ = some (.slice A6 xus.length q6) ∧ y2.cell? ⟨gHX, 7, none⟩ = some (.slice A7 xtx.length q7) ∧ y2.cell? ⟨g, 0, none⟩ = some (.int .i64 k) ∧ y2.cell? ⟨g, 1, none⟩ = some (.int .i64 a) ∧ y2.cell? ⟨g, 2, none⟩ = some (.int .i64 b) ∧ y2.cell? ⟨g, 3, none⟩ = some (.int .i64 id) ∧ y2.cell? ⟨g, 4, none⟩ = some (.int .i64 op) ∧ y2.cell? ⟨g, 5, none⟩ = some (.int .i64 old) ∧ y2.cell? ⟨g, 6, none⟩ = some (.slice AU us.length cU) ∧ y2.cell? ⟨g, 7, none⟩ = some (.slice AT tx.length cT) := ⟨(blk_cell (blk_below HY.out hz) 0).trans rfl, (blk_cell (blk_below HY.out hz) 1).trans rfl, (blk_cell (blk_below HY.out hz) 2).trans rfl, (blk_cell (blk_below HY.out hz) 3).trans rfl, (blk_cell (blk_below HY.out hz) 4).trans rfl, (blk_cell (blk_below HY.out hz) 5).trans rfl, (blk_cell (blk_below HY.out hz) 6).trans rfl, (blk_cell (blk_below HY.out hz) 7).trans rfl, (blk_cell (blk_below HX.out hz) 0).trans rfl, (blk_cell (blk_below HX.out hz) 1).trans rfl, (blk_cell (blk_below HX.out hz) 2).trans rfl, (blk_cell (blk_below HX.out hz) 3).trans rfl, (blk_cell (blk_below HX.out hz) 4).trans rfl, (blk_cell (blk_below HX.out hz) 5).trans rfl, (blk_cell (blk_below HX.out hz) 6).trans rfl, (blk_cell (blk_below HX.out hz) 7).trans rfl, (blk_cell (blk_below HA.out hz) 0).trans rfl, (blk_cell (blk_below HA.out hz) 1).trans rfl, (blk_cell (blk_below HA.out hz) 2).trans rfl, (blk_cell (blk_below HA.out hz) 3).trans rfl, (blk_cell (blk_below HA.out hz) 4).trans rfl, (blk_cell (blk_below HA.out hz) 5).trans rfl, (blk_cell (blk_below HA.out hz) 6).trans rfl, (blk_cell (blk_below HA.out hz) 7).trans rfl⟩); (have HZ2 := Lib.hid hz); clear hbl hz HZ1) | (go_at_call 10; clear hS2; refine (plain_any k a b id op old AU AT us.length cU tx.length cT _).mono ?_; rintro e y3 ⟨rfl, hbl⟩; (have hz : Below w5.heap.size w5 y3 := HZ2.out.trans (hbl.mono HZ2.out.size)); (have hS3 : y3.cell? ⟨gHY, 0, none⟩ = some (.int .i64 xk) ∧ y3.cell? ⟨gHY, 1, none⟩ = some (.int .i64 xa) ∧ y3.cell? ⟨gHY, 2, none⟩ = some (.int .i64 xb) ∧ y3.cell? ⟨gHY, 3, none⟩ = some (.int .i64 xid) ∧ y3.cell? ⟨gHY, 4, none⟩ = some (.int .i64 xop) ∧ y3.cell? ⟨gHY, 5, none⟩ = some (.int .i64 xold) ∧ y3.cell? ⟨gHY, 6, none⟩ = some (.slice B6 xus.length y6) ∧ y3.cell? ⟨gHY, 7, none⟩ = some (.slice B7 xtx.length y7) ∧ y3.cell? ⟨gHX, 0, none⟩ = some (.int .i64 xk) ∧ y3.cell? ⟨gHX, 1, none⟩ = some (.int .i64 xa) ∧ y3.cell? ⟨gHX, 2, none⟩ = some (.int .i64 xb) ∧ y3.cell? ⟨gHX, 3, none⟩ = some (.int .i64 xid) ∧ y3.cell? ⟨gHX, 4, none⟩ = some (.int .i64 xop) ∧ y3.cell? ⟨gHX, 5, none⟩ = some (.int .i64 xold) ∧ y3.cell? ⟨gHX, 6, none⟩ = some (.slice A6 xus.length q6) ∧ y3.cell? ⟨gHX, 7, none⟩ = some (.slice A7 xtx.length q7) ∧ y3.cell? ⟨g, 0, none⟩ = some (.int .i64 k) ∧ y3.cell? ⟨g, 1, none⟩ = some (.int .i64 a) ∧ y3.cell? ⟨g, 2, none⟩ = some (.int .i64 b) ∧ y3.cell? ⟨g, 3, none⟩ = some (.int .i64 id) ∧ y3.cell? ⟨g, 4, none⟩ = some (.int .i64 op) ∧ y3.cell? ⟨g, 5, none⟩ = some (.int .i64 old) ∧ y3.cell? ⟨g, 6, none⟩ = some (.slice AU us.length cU) ∧ y3.cell? ⟨g, 7, none⟩ = some (.slice AT tx.length cT) := ⟨(blk_cell (blk_below HY.out hz) 0).trans rfl, (blk_cell (blk_below HY.out hz) 1).trans rfl, (blk_cell (blk_below HY.out hz) 2).trans rfl, (blk_cell (blk_below HY.out hz) 3).trans rfl, (blk_cell (blk_below HY.out hz) 4).trans rfl, (blk_cell (blk_below HY.out hz) 5).trans rfl, (blk_cell (blk_below HY.out hz) 6).trans rfl, (blk_cell (blk_below HY.out hz) 7).trans rfl, (blk_cell (blk_below HX.out hz) 0).trans rfl, (blk_cell (blk_below HX.out hz) 1).trans rfl, (blk_cell (blk_below HX.out hz) 2).trans rfl, (blk_cell (blk_below HX.out hz) 3).trans rfl, (blk_cell (blk_below HX.out hz) 4).trans rfl, (blk_cell (blk_below HX.out hz) 5).trans rfl, (blk_cell (blk_below HX.out hz) 6).trans rfl, (blk_cell (blk_below HX.out hz) 7).trans rfl, (blk_cell (blk_below HA.out hz) 0).trans rfl, (blk_cell (blk_below HA.out hz) 1).trans rfl, (blk_cell (blk_below HA.out hz) 2).trans rfl, (blk_cell (blk_below HA.out hz) 3).trans rfl, (blk_cell (blk_below HA.out hz) 4).trans rfl, (blk_cell (blk_below HA.out hz) 5).trans rfl, (blk_cell (blk_below HA.out hz) 6).trans rfl, (blk_cell (blk_below HA.out hz) 7).trans rfl⟩); (have HZ3 := Lib.hid hz); clear hbl hz HZ2) | (go_at_call 9; clear hS3; refine (vokref25_Print.calls 3000000 k a b id op old AU cU us AT cT tx p _ (Kd.C_below HrU.out (HB.out.trans (HZ3.out.mono HB.out.size))) hcU (Kd.C_below HrT.out (HB.out.trans (HZ3.out.mono HB.out.size))) hcT HV.out).mono ?_; rintro e y4 ⟨rfl, hbl⟩; (have hz : Below w5.heap.size w5 y4 := HZ3.out.trans (hbl.mono HZ3.out.size)); (have hS4 : y4.cell? ⟨gHY, 0, none⟩ = some (.int .i64 xk) ∧ y4.cell? ⟨gHY, 1, none⟩ = some (.int .i64 xa) ∧ y4.cell? ⟨gHY, 2, none⟩ = some (.int .i64 xb) ∧ y4.cell? ⟨gHY, 3, none⟩ = some (.int .i64 xid) ∧ y4.cell? ⟨gHY, 4, none⟩ = some (.int .i64 xop) ∧ y4.cell? ⟨gHY, 5, none⟩ = some (.int .i64 xold) ∧ y4.cell? ⟨gHY, 6, none⟩ = some (.slice B6 xus.length y6) ∧ y4.cell? ⟨gHY, 7, none⟩ = some (.slice B7 xtx.length y7) ∧ y4.cell? ⟨gHX, 0, none⟩ = some (.int .i64 xk) ∧ y4.cell? ⟨gHX, 1, none⟩ = some (.int .i64 xa) ∧ y4.cell? ⟨gHX, 2, none⟩ = some (.int .i64 xb) ∧ y4.cell? ⟨gHX, 3, none⟩ = some (.int .i64 xid) ∧ y4.cell? ⟨gHX, 4, none⟩ = some (.int .i64 xop) ∧ y4.cell? ⟨gHX, 5, none⟩ = some (.int .i64 xold) ∧ y4.cell? ⟨gHX, 6, none⟩ = some (.slice A6 xus.length q6) ∧ y4.cell? ⟨gHX, 7, none⟩ = some (.slice A7 xtx.length q7) ∧ y4.cell? ⟨g, 0, none⟩ = some (.int .i64 k) ∧ y4.cell? ⟨g, 1, none⟩ = some (.int .i64 a) ∧ y4.cell? ⟨g, 2, none⟩ = some (.int .i64 b) ∧ y4.cell? ⟨g, 3, none⟩ = some (.int .i64 id) ∧ y4.cell? ⟨g, 4, none⟩ = some (.int .i64 op) ∧ y4.cell? ⟨g, 5, none⟩ = some (.int .i64 old) ∧ y4.cell? ⟨g, 6, none⟩ = some (.slice AU us.length cU) ∧ y4.cell? ⟨g, 7, none⟩ = some (.slice AT tx.length cT) := ⟨(blk_cell (blk_below HY.out hz) 0).trans rfl, (blk_cell (blk_below HY.out hz) 1).trans rfl, (blk_cell (blk_below HY.out hz) 2).trans rfl, (blk_cell (blk_below HY.out hz) 3).trans rfl, (blk_cell (blk_below HY.out hz) 4).trans rfl, (blk_cell (blk_below HY.out hz) 5).trans rfl, (blk_cell (blk_below HY.out hz) 6).trans rfl, (blk_cell (blk_below HY.out hz) 7).trans rfl, (blk_cell (blk_below HX.out hz) 0).trans rfl, (blk_cell (blk_below HX.out hz) 1).trans rfl, (blk_cell (blk_below HX.out hz) 2).trans rfl, (blk_cell (blk_below HX.out hz) 3).trans rfl, (blk_cell (blk_below HX.out hz) 4).trans rfl, (blk_cell (blk_below HX.out hz) 5).trans rfl, (blk_cell (blk_below HX.out hz) 6).trans rfl, (blk_cell (blk_below HX.out hz) 7).trans rfl, (blk_cell (blk_below HA.out hz) 0).trans rfl, (blk_cell (blk_below HA.out hz) 1).trans rfl, (blk_cell (blk_below HA.out hz) 2).trans rfl, (blk_cell (blk_below HA.out hz) 3).trans rfl, (blk_cell (blk_below HA.out hz) 4).trans rfl, (blk_cell (blk_below HA.out hz) 5).trans rfl, (blk_cell (blk_below HA.out hz) 6).trans rfl, (blk_cell (blk_below HA.out hz) 7).trans rfl⟩); (have HZ4 := Lib.hid hz); clear hbl hz HZ3) | (go_at_call 11; clear hS4; refine (voklaw26_same.calls 3000000 xk xa xb xid xop xold A6 q6 xus A7 q7 xtx xk xa xb xid xop xold B6 y6 xus B7 y7 xtx true _ (Kd.C_below (Kd.R_reads' X6.out).2.2 HZ4.out) (Kd.R_reads' X6.out).2.1 (Kd.C_below (Kd.R_reads' X7.out).2.2 HZ4.out) (Kd.R_reads' X7.out).2.1 (Kd.C_below (Kd.R_reads' Y6.out).2.2 HZ4.out) (Kd.R_reads' Y6.out).2.1 (Kd.C_below (Kd.R_reads' Y7.out).2.2 HZ4.out) (Kd.R_reads' Y7.out).2.1 HSM.out).mono ?_; rintro e y5 ⟨rfl, hbl⟩; (have hz : Below w5.heap.size w5 y5 := HZ4.out.trans (hbl.mono HZ4.out.size)); (have hS5 : y5.cell? ⟨gHY, 0, none⟩ = some (.int .i64 xk) ∧ y5.cell? ⟨gHY, 1, none⟩ = some (.int .i64 xa) ∧ y5.cell? ⟨gHY, 2, none⟩ = some (.int .i64 xb) ∧ y5.cell? ⟨gHY, 3, none⟩ = some (.int .i64 xid) ∧ y5.cell? ⟨gHY, 4, none⟩ = some (.int .i64 xop) ∧ y5.cell? ⟨gHY, 5, none⟩ = some (.int .i64 xold) ∧ y5.cell? ⟨gHY, 6, none⟩ = some (.slice B6 xus.length y6) ∧ y5.cell? ⟨gHY, 7, none⟩ = some (.slice B7 xtx.length y7) ∧ y5.cell? ⟨gHX, 0, none⟩ = some (.int .i64 xk) ∧ y5.cell? ⟨gHX, 1, none⟩ = some (.int .i64 xa) ∧ y5.cell? ⟨gHX, 2, none⟩ = some (.int .i64 xb) ∧ y5.cell? ⟨gHX, 3, none⟩ = some (.int .i64 xid) ∧ y5.cell? ⟨gHX, 4, none⟩ = some (.int .i64 xop) ∧ y5.cell? ⟨gHX, 5, none⟩ = some (.int .i64 xold) ∧ y5.cell? ⟨gHX, 6, none⟩ = some (.slice A6 xus.length q6) ∧ y5.cell? ⟨gHX, 7, none⟩ = some (.slice A7 xtx.length q7) ∧ y5.cell? ⟨g, 0, none⟩ = some (.int .i64 k) ∧ y5.cell? ⟨g, 1, none⟩ = some (.int .i64 a) ∧ y5.cell? ⟨g, 2, none⟩ = some (.int .i64 b) ∧ y5.cell? ⟨g, 3, none⟩ = some (.int .i64 id) ∧ y5.cell? ⟨g, 4, none⟩ = some (.int .i64 op) ∧ y5.cell? ⟨g, 5, none⟩ = some (.int .i64 old) ∧ y5.cell? ⟨g, 6, none⟩ = some (.slice AU us.length cU) ∧ y5.cell? ⟨g, 7, none⟩ = some (.slice AT tx.length cT) := ⟨(blk_cell (blk_below HY.out hz) 0).trans rfl, (blk_cell (blk_below HY.out hz) 1).trans rfl, (blk_cell (blk_below HY.out hz) 2).trans rfl, (blk_cell (blk_below HY.out hz) 3).trans rfl, (blk_cell (blk_below HY.out hz) 4).trans rfl, (blk_cell (blk_below HY.out hz) 5).trans rfl, (blk_cell (blk_below HY.out hz) 6).trans rfl, (blk_cell (blk_below HY.out hz) 7).trans rfl, (blk_cell (blk_below HX.out hz) 0).trans rfl, (blk_cell (blk_below HX.out hz) 1).trans rfl, (blk_cell (blk_below HX.out hz) 2).trans rfl, (blk_cell (blk_below HX.out hz) 3).trans rfl, (blk_cell (blk_below HX.out hz) 4).trans rfl, (blk_cell (blk_below HX.out hz) 5).trans rfl, (blk_cell (blk_below HX.out hz) 6).trans rfl, (blk_cell (blk_below HX.out hz) 7).trans rfl, (blk_cell (blk_below HA.out hz) 0).trans rfl, (blk_cell (blk_below HA.out hz) 1).trans rfl, (blk_cell (blk_below HA.out hz) 2).trans rfl, (blk_cell (blk_below HA.out hz) 3).trans rfl, (blk_cell (blk_below HA.out hz) 4).trans rfl, (blk_cell (blk_below HA.out hz) 5).trans rfl, (blk_cell (blk_below HA.out hz) 6).trans rfl, (blk_cell (blk_below HA.out hz) 7).trans rfl⟩); (have HZ5 := Lib.hid hz); clear hbl hz HZ4))
  go_wp2
  go_ret
  exact ⟨rfl, HB.out.trans (HZ5.out.mono HB.out.size)⟩
theorem walk (k a b id op old : Int) (AU : Option Addr) (cU : Nat) (us : List Int) (AT : Option Addr) (cT : Nat) (tx : List Int) (s : ByteArray) (w : World) (hG : Glob w) (hrU : Kd.C (Kd.int .i64) w AU us.length us) (hcU : us.length ≤ cU) (hrT : Kd.C (Kd.int .u8) w AT tx.length tx) (hcT : tx.length ≤ cT) (hk : i64 k) (ha : i64 a) (hb : i64 b) (hid : i64 id) (hop : i64 op) (hold : i64 old) (hu : ∀ y ∈ us, i64 y) (hx : ∀ y ∈ tx, 0 ≤ y ∧ y ≤ 255) :
    Calls Tryd.prog 3 #[.agg #[.int .i64 k, .int .i64 a, .int .i64 b, .int .i64 id, .int .i64 op, .int .i64 old, .slice AU us.length cU, .slice AT tx.length cT], .string s] w fun e w' => e = .returned (.bool true) ∧ Below w.heap.size w w' := by
  by_cases g0 : tx.length ≤ 6000
  · by_cases g1 : us.length ≤ 300
    · by_cases g2 : s.size ≤ 6000
      · exact fit k a b id op old AU cU us AT cT tx s w hG hrU hcU hrT hcT hk ha hb hid hop hold hu hx g0 g1 g2
      · exact big2 k a b id op old AU cU us AT cT tx s w hG hrU hcU hrT hcT hk ha hb hid hop hold hu hx g0 g1 g2
    · exact big1 k a b id op old AU cU us AT cT tx s w hG hrU hcU hrT hcT hk ha hb hid hop hold hu hx g0 g1
  · exact big0 k a b id op old AU cU us AT cT tx s w hG hrU hcU hrT hcT hk ha hb hid hop hold hu hx g0
end Go.Proofs.YtleljfmhefobeaaDoor.WalkSL
