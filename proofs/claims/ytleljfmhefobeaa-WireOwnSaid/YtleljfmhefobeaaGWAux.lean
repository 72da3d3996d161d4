/- Small facts that the walks of wire's laws want. -/
import Derived.Test.YtleljfmhefobeaaGWPw
import Derived.Test.YtleljfmhefobeaaGWx8
import Derived.Test.YtleljfmhefobeaaGWx6
set_option linter.unusedVariables false
namespace Go.Proofs.Ytleljfmhefobeaa.GWAux
open Go.RowKit Go.Proofs.YtleljfmhefobeaaW.PrintWords Go.Proofs.Ytleljfmhefobeaa.GW Go.Proofs.Ytleljfmhefobeaa.GWPa Go.Proofs.Ytleljfmhefobeaa.GWPw

theorem may_eq1000 (m : M) (hu : m.us.length ≤ 300) (hn : m.ns.length ≤ 300) (ht : m.tx.length ≤ 20000) : wire_May.f 1000 m.a0 m.a1 m.a2 m.a3 m.a4 m.a5 m.a6 m.a7 m.a8 m.y m.lo m.hi m.us m.ns m.tx = some (mayB m) := may_eq 998 m (by omega) (by omega) (by omega)
theorem no1000 (m : M) (h : ¬ May m) (hu : m.us.length ≤ 300) (hn : m.ns.length ≤ 300) (ht : m.tx.length ≤ 20000) : wire_Encode.f 1000 m.a0 m.a1 m.a2 m.a3 m.a4 m.a5 m.a6 m.a7 m.a8 m.y m.lo m.hi m.us m.ns m.tx = some ([], 1) := Encode_no 1000 m h (by omega) (by omega) (by omega)
theorem copy_eq (l : List Int) (h : l.length ≤ 1099511627776) : vokref_CopyBytes.f l = some l := by
  unfold vokref_CopyBytes.f
  rw [Option.bind_some, if_pos (by simp; omega)]
  simp
theorem few_eq (m : M) : voklaw19_Few.f m.a0 m.a1 m.a2 m.a3 m.a4 m.a5 m.a6 m.a7 m.a8 m.y m.lo m.hi m.us m.ns m.tx = some (decide (m.us.length ≤ 300 ∧ m.ns.length ≤ 300 ∧ m.tx.length ≤ 20000)) := by
  unfold voklaw19_Few.f
  by_cases h1 : m.us.length ≤ 300
  · rw [if_pos (by omega)]
    by_cases h2 : m.ns.length ≤ 300
    · rw [if_pos (by omega)]
      congr 1
      simp [h1, h2]
      omega
    · rw [if_neg (by omega)]; simp [h2]
  · rw [if_neg (by omega)]; simp [h1]
end Go.Proofs.Ytleljfmhefobeaa.GWAux
