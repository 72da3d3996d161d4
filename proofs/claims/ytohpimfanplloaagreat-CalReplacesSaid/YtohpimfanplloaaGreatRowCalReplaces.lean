/- The law CalReplaces, proved: for every input it returns true and leaves its arguments alone. No condition. -/
import Derived.Test.YtohpimfanplloaaGreatRows
import Derived.Test.YtohpimfanplloaaGreatCalT
import Derived.Test.YtohpimfanplloaaGreatOpen
import Derived.WalkKit
import Derived.ProofKit
import Derived.OpenShut
import Derived.ShutString
import Derived.ChangeOld
import Derived.Below
import Derived.Carry
set_option linter.unusedVariables false
set_option linter.unusedSimpArgs false
namespace Go.Proofs.YtohpimfanplloaaGreat.calReplaces
open Go.ChangeShapes Go.WideShapes Go.ChangeAt Go.RowKit Go.Proofs.YtohpimfanplloaaGreat.Opn Go.Proofs.YtohpimfanplloaaGreatW.PrintWords
open Go.ChangeMaps (open_string shut_string)
theorem own : ownKnob Tryz.prog.godebug = none := by kernel_rfl
theorem laidOut : laidOutB Tryz.prog = true := by kernel_rfl
noncomputable def kd33 := (Kd.slice 42 (Kd.pair (Kd.int .i64) (Kd.int .i64)))
set_option maxRecDepth 100000 in
theorem opens33 : Opens Tryz.prog 33 kd33 (fun xs => xs.length ≤ maxLen ∧ ∀ x ∈ xs, (fun p => (fun n => (Lit.int .i64 n).wf = true) p.1 ∧ (fun n => (Lit.int .i64 n).wf = true) p.2) x) := (opens_slice Tryz.underlying33 (by kernel_rfl) (opens_struct Tryz.underlying42 (by kernel_rfl) (opensAt_cons (by kernel_rfl) (by kernel_rfl) (opens_int Tryz.underlying3) (opensAt_one (by kernel_rfl) (by kernel_rfl) (opens_int Tryz.underlying3)))))
set_option maxRecDepth 100000 in
theorem lifted (os : Os) (started : os.Started) (H : Type) (enc : TypeId × Value → H) :
    ReturnsInHanded {} Tryz.checked os 5 .any (Rows.calReplacesSpec.pre6 enc Tryz.prog Tryz.f5 Rows.calReplacesRow.domain false) (Rows.calReplacesSpec.post enc Tryz.prog Tryz.f5 false true false false) := by
  refine returnsInHanded_of_change (C := Tryz.checked) own started (by kernel_rfl) Tryz.func5
    (ChangeSpec.witness6 (enc := enc) (C := Tryz.checked) false ⟨#[], #[.slice none 0 0, .slice none 0 0, .int .i64 0], []⟩ 8 (by kernel_rfl) (by kernel_rfl) (by kernel_rfl) (by kernel_rfl)) ?_
  intro W base args ds gs before hval0 hW hcnd _
  have hval : ∀ (j : Nat) t v, Tryz.f5.params[j]? = some t → args[j]? = some v → Value.okWide Tryz.prog W .any base t v := hval0
  have hW' := hW
  obtain ⟨p, q, hA0, hV, rfl, hfz, hnd⟩ := hW
  have hA : DataW.TrodAll enc Tryz.prog W 0 (fun _ => true) true Tryz.f5.params.toList args.toList ds p := hA0
  rw [Tryz.params5] at hA hval
  obtain ⟨v0, vs0, d0, ds0, p0, q0, hargs, rfl, rfl, h0, r0⟩ := trodAll_cons hA
  obtain ⟨v1, vs1, d1, ds1, p1, q1, rfl, rfl, rfl, h1, r1⟩ := trodAll_cons r0
  obtain ⟨v2, vs2, d2, ds2, p2, q2, rfl, rfl, rfl, h2, r2⟩ := trodAll_cons r1
  obtain ⟨rfl, rfl, rfl⟩ := trodAll_nil r2
  obtain rfl : args = #[v0, v1, v2] := by cases args; simp_all
  obtain ⟨rfl, rfl⟩ := trodVars_none hV
  have k0 := h0
  have lt0 : ∀ x ∈ p0, x.block < W.heap.size := by obtain ⟨m, hm⟩ := k0; exact DataW.trod_lt m _ _ _ hm
  obtain ⟨l0, A0, c0, rfl, hc0, hr0, ok0⟩ := open_sl opens33 Tryz.underlying33 (hval 0 33 v0 rfl rfl) h0
  have k1 := h1
  have lt1 : ∀ x ∈ p1, x.block < W.heap.size := by obtain ⟨m, hm⟩ := k1; exact DataW.trod_lt m _ _ _ hm
  obtain ⟨l1, A1, c1, rfl, hc1, hr1, ok1⟩ := open_sl opens33 Tryz.underlying33 (hval 1 33 v1 rfl rfl) h1
  obtain ⟨a2, rfl, rfl, rfl, ok2⟩ := open_int Tryz.underlying3 (hval 2 3 v2 rfl rfl) h2
  clear hA0 hval0
  refine (CalT.walk A0 c0 l0 A1 c1 l1 a2 W hr0 hc0 hr1 hc1 ).mono fun e W' ⟨he, bel0⟩ => ?_
  have bel : Below W.heap.size W W' := bel0
  subst he
  exact ⟨_, rfl, _, _, _, [], _, [], hW', trodAll_mk1 (shut_bool Tryz.underlying4 _), (trodAll_cons_mk (Below.trod laidOut (by kernel_rfl) (of_decide_eq_true (by kernel_rfl)) k0 bel lt0) (trodAll_cons_mk (Below.trod laidOut (by kernel_rfl) (of_decide_eq_true (by kernel_rfl)) k1 bel lt1) (trodAll_cons_mk (shut_int Tryz.underlying3 ok2) trodAll_mk0))), rfl, bel.frame _, fun h => by cases h⟩
theorem over : Rows.calReplacesRow.holds Tryz.pinned (OpenSpec.ofChange Rows.calReplacesSpec) :=
  OpenClaim.holds_of_wide 5 Tryz.f5 rfl rfl rfl rfl rfl rfl rfl ⟨rfl, rfl, rfl, rfl, rfl⟩ rfl rfl rfl rfl rfl (by kernel_rfl) Tryz.func5 (by kernel_rfl)
    (of_decide_eq_true (by kernel_rfl)) (by unfold Func.isWrapper; first | (rw [if_pos (by decide +kernel)]; kernel_rfl) | (rw [if_neg (by decide +kernel)]; exact ⟨rfl, rfl⟩))
    (fun os started H enc _ => lifted os started H enc)
theorem proved : Rows.CalReplacesSaid := over
#print axioms proved
end Go.Proofs.YtohpimfanplloaaGreat.calReplaces
namespace Go.Proofs.YtohpimfanplloaaGreat
theorem calReplaces_holds : Rows.CalReplacesSaid := calReplaces.proved
end Go.Proofs.YtohpimfanplloaaGreat
