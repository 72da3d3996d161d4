/- Small facts that the walks of rec's laws want. -/
import Derived.Test.YtleljfmhefobeaaGRPr
import Derived.Test.YtleljfmhefobeaaGRx5
set_option linter.unusedVariables false
namespace Go.Proofs.Ytleljfmhefobeaa.GRAux
open Go.RowKit Go.Proofs.YtleljfmhefobeaaW.PrintWords Go.Proofs.Ytleljfmhefobeaa.GR Go.Proofs.Ytleljfmhefobeaa.GRPa Go.Proofs.Ytleljfmhefobeaa.GRPr Go.Proofs.Ytleljfmhefobeaa.GR

theorem may_eq1000 (m : M) (hu : m.us.length ≤ 300) (hn : m.ns.length ≤ 300) (ht : m.tx.length ≤ 20000) : rec_May.f 1000 m.a0 m.a1 m.a2 m.a3 m.a4 m.y m.us m.ns m.tx = some (mayB m) := may_eq' 1000 m (by omega) (by omega) (by omega) (by omega)
theorem no1000 (m : M) (h : ¬ May m) (hu : m.us.length ≤ 300) (hn : m.ns.length ≤ 300) (ht : m.tx.length ≤ 20000) : rec_Encode.f 1000 m.a0 m.a1 m.a2 m.a3 m.a4 m.y m.us m.ns m.tx = some ([], 1) := Encode_no 1000 m h (by omega) (by omega) (by omega) (by omega)
theorem copy_eq (l : List Int) (h : l.length ≤ 1099511627776) : vokref_CopyBytes.f l = some l := by
  unfold vokref_CopyBytes.f
  rw [Option.bind_some, if_pos (by simp; omega)]
  simp
end Go.Proofs.Ytleljfmhefobeaa.GRAux
