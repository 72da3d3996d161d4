/- The law WireOwn, proved: for every input it returns true and leaves its arguments alone. No condition. -/
import Derived.Test.YtleljfmhefobeaaRows
import Derived.Test.YtleljfmhefobeaaWalkWireOwn
import Derived.Test.YtleljfmhefobeaaOpen
import Derived.WalkKit
import Derived.ProofKit
import Derived.OpenShut
import Derived.ShutString
import Derived.ChangeOld
import Derived.Below
import Derived.Carry
set_option linter.unusedVariables false
set_option linter.unusedSimpArgs false
namespace Go.Proofs.Ytleljfmhefobeaa.wireOwn
open Go.ChangeShapes Go.WideShapes Go.ChangeAt Go.RowKit Go.Proofs.Ytleljfmhefobeaa.Opn Go.Proofs.YtleljfmhefobeaaW.PrintWords
open Go.ChangeMaps (open_string shut_string)
theorem own : ownKnob Try.prog.godebug = none := by kernel_rfl
theorem laidOut : laidOutB Try.prog = true := by kernel_rfl
noncomputable def kd27 := (Kd.pair (Kd.int .i64) (Kd.pair (Kd.int .i64) (Kd.pair (Kd.int .i64) (Kd.pair (Kd.int .i64) (Kd.pair (Kd.int .i64) (Kd.pair (Kd.int .i64) (Kd.pair (Kd.int .i64) (Kd.pair (Kd.int .i64) (Kd.pair (Kd.int .i64) (Kd.pair Kd.bool (Kd.pair (Kd.pair (Kd.int .i64) (Kd.int .i64)) (Kd.pair (Kd.slice 3 (Kd.int .i64)) (Kd.pair (Kd.slice 3 (Kd.int .i64)) (Kd.slice 5 (Kd.int .u8)))))))))))))))
theorem opens27 : Opens Try.prog 27 kd27 (fun p => (fun n => (Lit.int .i64 n).wf = true) p.1 ∧ (fun p => (fun n => (Lit.int .i64 n).wf = true) p.1 ∧ (fun p => (fun n => (Lit.int .i64 n).wf = true) p.1 ∧ (fun p => (fun n => (Lit.int .i64 n).wf = true) p.1 ∧ (fun p => (fun n => (Lit.int .i64 n).wf = true) p.1 ∧ (fun p => (fun n => (Lit.int .i64 n).wf = true) p.1 ∧ (fun p => (fun n => (Lit.int .i64 n).wf = true) p.1 ∧ (fun p => (fun n => (Lit.int .i64 n).wf = true) p.1 ∧ (fun p => (fun n => (Lit.int .i64 n).wf = true) p.1 ∧ (fun p => (fun _ => True) p.1 ∧ (fun p => (fun p => (fun n => (Lit.int .i64 n).wf = true) p.1 ∧ (fun n => (Lit.int .i64 n).wf = true) p.2) p.1 ∧ (fun p => (fun xs => xs.length ≤ maxLen ∧ ∀ x ∈ xs, (fun n => (Lit.int .i64 n).wf = true) x) p.1 ∧ (fun p => (fun xs => xs.length ≤ maxLen ∧ ∀ x ∈ xs, (fun n => (Lit.int .i64 n).wf = true) x) p.1 ∧ (fun xs => xs.length ≤ maxLen ∧ ∀ x ∈ xs, (fun n => (Lit.int .u8 n).wf = true) x) p.2) p.2) p.2) p.2) p.2) p.2) p.2) p.2) p.2) p.2) p.2) p.2) p.2) := (opens_struct Try.underlying27 (by kernel_rfl) (opensAt_cons (by kernel_rfl) (by kernel_rfl) (opens_int Try.underlying3) (opensAt_cons (by kernel_rfl) (by kernel_rfl) (opens_int Try.underlying3) (opensAt_cons (by kernel_rfl) (by kernel_rfl) (opens_int Try.underlying3) (opensAt_cons (by kernel_rfl) (by kernel_rfl) (opens_int Try.underlying3) (opensAt_cons (by kernel_rfl) (by kernel_rfl) (opens_int Try.underlying3) (opensAt_cons (by kernel_rfl) (by kernel_rfl) (opens_int Try.underlying3) (opensAt_cons (by kernel_rfl) (by kernel_rfl) (opens_int Try.underlying3) (opensAt_cons (by kernel_rfl) (by kernel_rfl) (opens_int Try.underlying3) (opensAt_cons (by kernel_rfl) (by kernel_rfl) (opens_int Try.underlying3) (opensAt_cons (by kernel_rfl) (by kernel_rfl) (opens_bool Try.underlying4) (opensAt_cons (by kernel_rfl) (by kernel_rfl) (opens_struct Try.underlying23 (by kernel_rfl) (opensAt_cons (by kernel_rfl) (by kernel_rfl) (opens_int Try.underlying3) (opensAt_one (by kernel_rfl) (by kernel_rfl) (opens_int Try.underlying3)))) (opensAt_cons (by kernel_rfl) (by kernel_rfl) (opens_slice Try.underlying24 (by kernel_rfl) (opens_int Try.underlying3)) (opensAt_cons (by kernel_rfl) (by kernel_rfl) (opens_slice Try.underlying24 (by kernel_rfl) (opens_int Try.underlying3)) (opensAt_one (by kernel_rfl) (by kernel_rfl) (opens_slice Try.underlying25 (by kernel_rfl) (opens_int Try.underlying5)))))))))))))))))
set_option maxRecDepth 100000 in
theorem lifted (os : Os) (started : os.Started) (H : Type) (enc : TypeId × Value → H) :
    ReturnsInHanded {} Try.checked os 10 .any (Rows.wireOwnSpec.pre6 enc Try.prog Try.f10 Rows.wireOwnRow.domain false) (Rows.wireOwnSpec.post enc Try.prog Try.f10 false true false false) := by
  refine returnsInHanded_of_change (C := Try.checked) own started (by kernel_rfl) Try.func10
    (ChangeSpec.witness6 (enc := enc) (C := Try.checked) false ⟨#[], #[.agg #[.int .i64 0, .int .i64 0, .int .i64 0, .int .i64 0, .int .i64 0, .int .i64 0, .int .i64 0, .int .i64 0, .int .i64 0, .bool false, .int .i64 0, .int .i64 0, .slice none 0 0, .slice none 0 0, .slice none 0 0]], []⟩ 8 (by kernel_rfl) (by kernel_rfl) (by kernel_rfl) (by kernel_rfl)) ?_
  intro W base args ds gs before hval0 hW hcnd _
  have hval : ∀ (j : Nat) t v, Try.f10.params[j]? = some t → args[j]? = some v → Value.okWide Try.prog W .any base t v := hval0
  have hW' := hW
  obtain ⟨p, q, hA0, hV, rfl, hfz, hnd⟩ := hW
  have hA : DataW.TrodAll enc Try.prog W 0 (fun _ => true) true Try.f10.params.toList args.toList ds p := hA0
  rw [Try.params10] at hA hval
  obtain ⟨v0, vs0, d0, ds0, p0, q0, hargs, rfl, rfl, h0, r0⟩ := trodAll_cons hA
  obtain ⟨rfl, rfl, rfl⟩ := trodAll_nil r0
  obtain rfl : args = #[v0] := by cases args; simp_all
  obtain ⟨rfl, rfl⟩ := trodVars_none hV
  have k0 := h0
  have lt0 : ∀ x ∈ p0, x.block < W.heap.size := by obtain ⟨m, hm⟩ := k0; exact DataW.trod_lt m _ _ _ hm
  obtain ⟨⟨a0_0, ⟨a0_1, ⟨a0_2, ⟨a0_3, ⟨a0_4, ⟨a0_5, ⟨a0_6, ⟨a0_7, ⟨a0_8, ⟨a0_9, ⟨⟨a0_10, a0_11⟩, ⟨l0_12, ⟨l0_13, l0_14⟩⟩⟩⟩⟩⟩⟩⟩⟩⟩⟩⟩⟩, cs0, rfl, hK0, ⟨ok0_0, ⟨ok0_1, ⟨ok0_2, ⟨ok0_3, ⟨ok0_4, ⟨ok0_5, ⟨ok0_6, ⟨ok0_7, ⟨ok0_8, ⟨ok0_9, ⟨⟨ok0_10, ok0_11⟩, ⟨ok0_12, ⟨ok0_13, ok0_14⟩⟩⟩⟩⟩⟩⟩⟩⟩⟩⟩⟩⟩⟩ := open_agg opens27 Try.underlying27 (hval 0 27 v0 rfl rfl) h0
  obtain ⟨cs0⟩ := cs0
  have hK0 : kd27.K W _ cs0 := hK0
  unfold kd27 at hK0
  obtain ⟨_, _, rfl, rfl, ⟨_, _, rfl, rfl, ⟨_, _, rfl, rfl, ⟨_, _, rfl, rfl, ⟨_, _, rfl, rfl, ⟨_, _, rfl, rfl, ⟨_, _, rfl, rfl, ⟨_, _, rfl, rfl, ⟨_, _, rfl, rfl, ⟨_, _, rfl, rfl, ⟨_, _, rfl, ⟨_, _, rfl, rfl, rfl⟩, ⟨_, _, rfl, ⟨A0_12, c0_12, rfl, hc0_12, hr0_12⟩, ⟨_, _, rfl, ⟨A0_13, c0_13, rfl, hc0_13, hr0_13⟩, ⟨A0_14, c0_14, rfl, hc0_14, hr0_14⟩⟩⟩⟩⟩⟩⟩⟩⟩⟩⟩⟩⟩⟩ := hK0
  clear hA0 hval0
  refine (WalkWireOwn.walk a0_0 a0_1 a0_2 a0_3 a0_4 a0_5 a0_6 a0_7 a0_8 a0_9 a0_10 a0_11 A0_12 c0_12 l0_12 A0_13 c0_13 l0_13 A0_14 c0_14 l0_14 W hr0_12 hc0_12 hr0_13 hc0_13 hr0_14 hc0_14 (GWPe.bytesL_wf ok0_14.2)).mono fun e W' ⟨he, bel0⟩ => ?_
  have bel : Below W.heap.size W W' := bel0
  subst he
  exact ⟨_, rfl, _, _, _, [], _, [], hW', trodAll_mk1 (shut_bool Try.underlying4 _), (trodAll_cons_mk (Below.trod laidOut (by kernel_rfl) (of_decide_eq_true (by kernel_rfl)) k0 bel lt0) trodAll_mk0), rfl, bel.frame _, fun h => by cases h⟩
theorem over : Rows.wireOwnRow.holds Try.pinned (OpenSpec.ofChange Rows.wireOwnSpec) :=
  OpenClaim.holds_of_wide 10 Try.f10 rfl rfl rfl rfl rfl rfl rfl ⟨rfl, rfl, rfl, rfl, rfl⟩ rfl rfl rfl rfl rfl (by kernel_rfl) Try.func10 (by kernel_rfl)
    (of_decide_eq_true (by kernel_rfl)) (by unfold Func.isWrapper; first | (rw [if_pos (by decide +kernel)]; kernel_rfl) | (rw [if_neg (by decide +kernel)]; exact ⟨rfl, rfl⟩))
    (fun os started H enc _ => lifted os started H enc)
theorem proved : Rows.WireOwnSaid := over
#print axioms proved
end Go.Proofs.Ytleljfmhefobeaa.wireOwn
namespace Go.Proofs.Ytleljfmhefobeaa
theorem wireOwn_holds : Rows.WireOwnSaid := wireOwn.proved
end Go.Proofs.Ytleljfmhefobeaa
