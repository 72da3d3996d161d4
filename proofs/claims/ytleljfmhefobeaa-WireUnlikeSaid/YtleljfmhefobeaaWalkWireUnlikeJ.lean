/- WireUnlike: the walk. -/
import Derived.Test.YtleljfmhefobeaaWalkWireUnlike0
import Derived.Test.YtleljfmhefobeaaWalkWireUnlike1
import Derived.Test.YtleljfmhefobeaaWalkWireUnlike2
import Derived.Test.YtleljfmhefobeaaWalkWireUnlike3
import Derived.Test.YtleljfmhefobeaaWalkWireUnlike4
import Derived.Test.YtleljfmhefobeaaWalkWireUnlike5
import Derived.Test.YtleljfmhefobeaaWalkWireUnliked
import Derived.WalkKit
import Derived.WalkSpells
import Derived.Lib.Hide
set_option linter.unusedVariables false
set_option linter.unusedSimpArgs false
namespace Go.Proofs.Ytleljfmhefobeaa.WalkWireUnlike
open Go.RowKit Go.Proofs.YtleljfmhefobeaaW.PrintWords Go.Proofs.YtleljfmhefobeaaW.PrintLast Go.Proofs.YtleljfmhefobeaaW.PrintMore Go.Proofs.Ytleljfmhefobeaa.GW Go.Proofs.Ytleljfmhefobeaa.GWPa Go.Proofs.Ytleljfmhefobeaa.GWPe Go.Proofs.Ytleljfmhefobeaa.GWPw Go.Proofs.Ytleljfmhefobeaa.GWB Go.Proofs.Ytleljfmhefobeaa.GWSrc Go.Proofs.Ytleljfmhefobeaa.GWAux

set_option maxRecDepth 100000 in
set_option maxHeartbeats 4000000 in
theorem walk (a0_0 : Int) (a0_1 : Int) (a0_2 : Int) (a0_3 : Int) (a0_4 : Int) (a0_5 : Int) (a0_6 : Int) (a0_7 : Int) (a0_8 : Int) (a0_9 : Bool) (a0_10 : Int) (a0_11 : Int) (A0_12 : Option Addr) (c0_12 : Nat) (l0_12 : List Int) (A0_13 : Option Addr) (c0_13 : Nat) (l0_13 : List Int) (A0_14 : Option Addr) (c0_14 : Nat) (l0_14 : List Int) (a1 : Int) (w : World) (hr0_12 : Kd.C (Kd.int .i64) w A0_12 l0_12.length l0_12) (hc0_12 : l0_12.length ≤ c0_12) (hr0_13 : Kd.C (Kd.int .i64) w A0_13 l0_13.length l0_13) (hc0_13 : l0_13.length ≤ c0_13) (hr0_14 : Kd.C (Kd.int .u8) w A0_14 l0_14.length l0_14) (hc0_14 : l0_14.length ≤ c0_14) (hbt : bytesL l0_14)  :
    Calls Try.prog 6 #[.agg #[.int .i64 a0_0, .int .i64 a0_1, .int .i64 a0_2, .int .i64 a0_3, .int .i64 a0_4, .int .i64 a0_5, .int .i64 a0_6, .int .i64 a0_7, .int .i64 a0_8, .bool a0_9, .int .i64 a0_10, .int .i64 a0_11, .slice A0_12 l0_12.length c0_12, .slice A0_13 l0_13.length c0_13, .slice A0_14 l0_14.length c0_14], .int .i64 a1] w fun e w' => e = .returned (.bool true) ∧ Below w.heap.size w w' := by
  by_cases hfew : l0_12.length ≤ 300 ∧ l0_13.length ≤ 300 ∧ l0_14.length ≤ 20000
  · by_cases hm : May ⟨a0_0, a0_1, a0_2, a0_3, a0_4, a0_5, a0_6, a0_7, a0_8, a0_9, a0_10, a0_11, l0_12, l0_13, l0_14⟩
    · by_cases h0 : a1 = 0
      · exact walk_0 _ _ _ _ _ _ _ _ _ _ _ _ _ _ _ _ _ _ _ _ _ a1 w hr0_12 hc0_12 hr0_13 hc0_13 hr0_14 hc0_14 hbt hfew hm h0
      by_cases h1 : a1 = 1
      · exact walk_1 _ _ _ _ _ _ _ _ _ _ _ _ _ _ _ _ _ _ _ _ _ a1 w hr0_12 hc0_12 hr0_13 hc0_13 hr0_14 hc0_14 hbt hfew hm h1
      by_cases h2 : a1 = 2
      · exact walk_2 _ _ _ _ _ _ _ _ _ _ _ _ _ _ _ _ _ _ _ _ _ a1 w hr0_12 hc0_12 hr0_13 hc0_13 hr0_14 hc0_14 hbt hfew hm h2
      by_cases h3 : a1 = 3
      · exact walk_3 _ _ _ _ _ _ _ _ _ _ _ _ _ _ _ _ _ _ _ _ _ a1 w hr0_12 hc0_12 hr0_13 hc0_13 hr0_14 hc0_14 hbt hfew hm h3
      by_cases h4 : a1 = 4
      · exact walk_4 _ _ _ _ _ _ _ _ _ _ _ _ _ _ _ _ _ _ _ _ _ a1 w hr0_12 hc0_12 hr0_13 hc0_13 hr0_14 hc0_14 hbt hfew hm h4
      by_cases h5 : a1 = 5
      · exact walk_5 _ _ _ _ _ _ _ _ _ _ _ _ _ _ _ _ _ _ _ _ _ a1 w hr0_12 hc0_12 hr0_13 hc0_13 hr0_14 hc0_14 hbt hfew hm h5
      exact walk_d _ _ _ _ _ _ _ _ _ _ _ _ _ _ _ _ _ _ _ _ _ a1 w hr0_12 hc0_12 hr0_13 hc0_13 hr0_14 hc0_14 hbt hfew hm h0 h1 h2 h3 h4 h5
    · exact walk_no _ _ _ _ _ _ _ _ _ _ _ _ _ _ _ _ _ _ _ _ _ a1 w hr0_12 hc0_12 hr0_13 hc0_13 hr0_14 hc0_14 hbt hfew hm
  · exact walk_few _ _ _ _ _ _ _ _ _ _ _ _ _ _ _ _ _ _ _ _ _ a1 w hr0_12 hc0_12 hr0_13 hc0_13 hr0_14 hc0_14 hbt hfew
end Go.Proofs.Ytleljfmhefobeaa.WalkWireUnlike
