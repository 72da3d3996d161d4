/- The law WireCodes, proved: for every input it returns true and leaves its arguments alone. No condition. -/
import Derived.Test.YtleljfmhefobeaaRows
import Derived.Test.YtleljfmhefobeaaWalkWireCodes
import Derived.Test.YtleljfmhefobeaaOpenK
import Derived.WalkKit
import Derived.ProofKit
import Derived.OpenShut
import Derived.ShutString
import Derived.ChangeOld
import Derived.Below
import Derived.Carry
set_option linter.unusedVariables false
set_option linter.unusedSimpArgs false
namespace Go.Proofs.Ytleljfmhefobeaa.wireCodes
open Go.ChangeShapes Go.WideShapes Go.ChangeAt Go.RowKit Go.Proofs.Ytleljfmhefobeaa.Opn Go.Proofs.YtleljfmhefobeaaW.PrintWords
open Go.ChangeMaps (open_string shut_string)
theorem own : ownKnob Try.prog.godebug = none := by kernel_rfl
theorem laidOut : laidOutB Try.prog = true := by kernel_rfl
noncomputable def kd27 := (Kd.pair (Kd.int .i64) (Kd.pair (Kd.int .i64) (Kd.pair (Kd.int .i64) (Kd.pair (Kd.int .i64) (Kd.pair (Kd.int .i64) (Kd.pair (Kd.int .i64) (Kd.pair (Kd.int .i64) (Kd.pair (Kd.int .i64) (Kd.pair (Kd.int .i64) (Kd.pair Kd.bool (Kd.pair (Kd.pair (Kd.int .i64) (Kd.int .i64)) (Kd.pair (Kd.slice 3 (Kd.int .i64)) (Kd.pair (Kd.slice 3 (Kd.int .i64)) (Kd.slice 5 (Kd.int .u8)))))))))))))))
theorem opens27 : Opens Try.prog 27 kd27 (fun p => (fun n => (Lit.int .i64 n).wf = true) p.1 ∧ (fun p => (fun n => (Lit.int .i64 n).wf = true) p.1 ∧ (fun p => (fun n => (Lit.int .i64 n).wf = true) p.1 ∧ (fun p => (fun n => (Lit.int .i64 n).wf = true) p.1 ∧ (fun p => (fun n => (Lit.int .i64 n).wf = true) p.1 ∧ (fun p => (fun n => (Lit.int .i64 n).wf = true) p.1 ∧ (fun p => (fun n => (Lit.int .i64 n).wf = true) p.1 ∧ (fun p => (fun n => (Lit.int .i64 n).wf = true) p.1 ∧ (fun p => (fun n => (Lit.int .i64 n).wf = true) p.1 ∧ (fun p => (fun _ => True) p.1 ∧ (fun p => (fun p => (fun n => (Lit.int .i64 n).wf = true) p.1 ∧ (fun n => (Lit.int .i64 n).wf = true) p.2) p.1 ∧ (fun p => (fun xs => xs.length ≤ maxLen ∧ ∀ x ∈ xs, (fun n => (Lit.int .i64 n).wf = true) x) p.1 ∧ (fun p => (fun xs => xs.length ≤ maxLen ∧ ∀ x ∈ xs, (fun n => (Lit.int .i64 n).wf = true) x) p.1 ∧ (fun xs => xs.length ≤ maxLen ∧ ∀ x ∈ xs, (fun n => (Lit.int .u8 n).wf = true) x) p.2) p.2) p.2) p.2) p.2) p.2) p.2) p.2) p.2) p.2) p.2) p.2) p.2) := (opens_struct Try.underlying27 (by kernel_rfl) (opensAt_cons (by kernel_rfl) (by kernel_rfl) (opens_int Try.underlying3) (opensAt_cons (by kernel_rfl) (by kernel_rfl) (opens_int Try.underlying3) (opensAt_cons (by kernel_rfl) (by kernel_rfl) (opens_int Try.underlying3) (opensAt_cons (by kernel_rfl) (by kernel_rfl) (opens_int Try.underlying3) (opensAt_cons (by kernel_rfl) (by kernel_rfl) (opens_int Try.underlying3) (opensAt_cons (by kernel_rfl) (by kernel_rfl) (opens_int Try.underlying3) (opensAt_cons (by kernel_rfl) (by kernel_rfl) (opens_int Try.underlying3) (opensAt_cons (by kernel_rfl) (by kernel_rfl) (opens_int Try.underlying3) (opensAt_cons (by kernel_rfl) (by kernel_rfl) (opens_int Try.underlying3) (opensAt_cons (by kernel_rfl) (by kernel_rfl) (opens_bool Try.underlying4) (opensAt_cons (by kernel_rfl) (by kernel_rfl) (opens_struct Try.underlying23 (by kernel_rfl) (opensAt_cons (by kernel_rfl) (by kernel_rfl) (opens_int Try.underlying3) (opensAt_one (by kernel_rfl) (by kernel_rfl) (opens_int Try.underlying3)))) (opensAt_cons (by kernel_rfl) (by kernel_rfl) (opens_slice Try.underlying24 (by kernel_rfl) (opens_int Try.underlying3)) (opensAt_cons (by kernel_rfl) (by kernel_rfl) (opens_slice Try.underlying24 (by kernel_rfl) (opens_int Try.underlying3)) (opensAt_one (by kernel_rfl) (by kernel_rfl) (opens_slice Try.underlying25 (by kernel_rfl) (opens_int Try.underlying5)))))))))))))))))
noncomputable def kd25 := (Kd.slice 5 (Kd.int .u8))
theorem opens25 : Opens Try.prog 25 kd25 (fun xs => xs.length ≤ maxLen ∧ ∀ x ∈ xs, (fun n => (Lit.int .u8 n).wf = true) x) := (opens_slice Try.underlying25 (by kernel_rfl) (opens_int Try.underlying5))
set_option maxRecDepth 100000 in
theorem lifted (os : Os) (started : os.Started) (H : Type) (enc : TypeId × Value → H) :
    ReturnsInHanded {} Try.checked os 8 .any (Rows.wireCodesSpec.pre6 enc Try.prog Try.f8 Rows.wireCodesRow.domain false) (Rows.wireCodesSpec.post enc Try.prog Try.f8 false true false false) := by
  refine returnsInHanded_of_change (C := Try.checked) own started (by kernel_rfl) Try.func8
    (ChangeSpec.witness6 (enc := enc) (C := Try.checked) false ⟨#[], #[.agg #[.int .i64 0, .int .i64 0, .int .i64 0, .int .i64 0, .int .i64 0, .int .i64 0, .int .i64 0, .int .i64 0, .int .i64 0, .bool false, .int .i64 0, .int .i64 0, .slice none 0 0, .slice none 0 0, .slice none 0 0], .agg #[.int .i64 0, .int .i64 0, .int .i64 0, .int .i64 0, .int .i64 0, .int .i64 0, .int .i64 0, .int .i64 0, .int .i64 0, .bool false, .int .i64 0, .int .i64 0, .slice none 0 0, .slice none 0 0, .slice none 0 0], .slice none 0 0], []⟩ 8 (by kernel_rfl) (by kernel_rfl) (by kernel_rfl) (by kernel_rfl)) ?_
  intro W base args ds gs before hval0 hW hcnd _
  have hval : ∀ (j : Nat) t v, Try.f8.params[j]? = some t → args[j]? = some v → Value.okWide Try.prog W .any base t v := hval0
  have hW' := hW
  obtain ⟨p, q, hA0, hV, rfl, hfz, hnd⟩ := hW
  have hA : DataW.TrodAll enc Try.prog W 0 (fun _ => true) true Try.f8.params.toList args.toList ds p := hA0
  rw [Try.params8] at hA hval
  obtain ⟨v0, vs0, d0, ds0, p0, q0, hargs, rfl, rfl, h0, r0⟩ := trodAll_cons hA
  obtain ⟨v1, vs1, d1, ds1, p1, q1, rfl, rfl, rfl, h1, r1⟩ := trodAll_cons r0
  obtain ⟨v2, vs2, d2, ds2, p2, q2, rfl, rfl, rfl, h2, r2⟩ := trodAll_cons r1
  obtain ⟨rfl, rfl, rfl⟩ := trodAll_nil r2
  obtain rfl : args = #[v0, v1, v2] := by cases args; simp_all
  obtain ⟨rfl, rfl⟩ := trodVars_none hV
  have k0 := h0
  have lt0 : ∀ x ∈ p0, x.block < W.heap.size := by obtain ⟨m, hm⟩ := k0; exact DataW.trod_lt m _ _ _ hm
  obtain ⟨⟨a0_0, ⟨a0_1, ⟨a0_2, ⟨a0_3, ⟨a0_4, ⟨a0_5, ⟨a0_6, ⟨a0_7, ⟨a0_8, ⟨a0_9, ⟨⟨a0_10, a0_11⟩, ⟨l0_12, ⟨l0_13, l0_14⟩⟩⟩⟩⟩⟩⟩⟩⟩⟩⟩⟩⟩, cs0, rfl, hK0, ⟨ok0_0, ⟨ok0_1, ⟨ok0_2, ⟨ok0_3, ⟨ok0_4, ⟨ok0_5, ⟨ok0_6, ⟨ok0_7, ⟨ok0_8, ⟨ok0_9, ⟨⟨ok0_10, ok0_11⟩, ⟨ok0_12, ⟨ok0_13, ok0_14⟩⟩⟩⟩⟩⟩⟩⟩⟩⟩⟩⟩⟩⟩ := open_agg opens27 Try.underlying27 (hval 0 27 v0 rfl rfl) h0
  obtain ⟨cs0⟩ := cs0
  have hK0 : kd27.K W _ cs0 := hK0
  unfold kd27 at hK0
  obtain ⟨_, _, rfl, rfl, ⟨_, _, rfl, rfl, ⟨_, _, rfl, rfl, ⟨_, _, rfl, rfl, ⟨_, _, rfl, rfl, ⟨_, _, rfl, rfl, ⟨_, _, rfl, rfl, ⟨_, _, rfl, rfl, ⟨_, _, rfl, rfl, ⟨_, _, rfl, rfl, ⟨_, _, rfl, ⟨_, _, rfl, rfl, rfl⟩, ⟨_, _, rfl, ⟨A0_12, c0_12, rfl, hc0_12, hr0_12⟩, ⟨_, _, rfl, ⟨A0_13, c0_13, rfl, hc0_13, hr0_13⟩, ⟨A0_14, c0_14, rfl, hc0_14, hr0_14⟩⟩⟩⟩⟩⟩⟩⟩⟩⟩⟩⟩⟩⟩ := hK0
  have k1 := h1
  have lt1 : ∀ x ∈ p1, x.block < W.heap.size := by obtain ⟨m, hm⟩ := k1; exact DataW.trod_lt m _ _ _ hm
  obtain ⟨⟨a1_0, ⟨a1_1, ⟨a1_2, ⟨a1_3, ⟨a1_4, ⟨a1_5, ⟨a1_6, ⟨a1_7, ⟨a1_8, ⟨a1_9, ⟨⟨a1_10, a1_11⟩, ⟨l1_12, ⟨l1_13, l1_14⟩⟩⟩⟩⟩⟩⟩⟩⟩⟩⟩⟩⟩, cs1, rfl, hK1, ⟨ok1_0, ⟨ok1_1, ⟨ok1_2, ⟨ok1_3, ⟨ok1_4, ⟨ok1_5, ⟨ok1_6, ⟨ok1_7, ⟨ok1_8, ⟨ok1_9, ⟨⟨ok1_10, ok1_11⟩, ⟨ok1_12, ⟨ok1_13, ok1_14⟩⟩⟩⟩⟩⟩⟩⟩⟩⟩⟩⟩⟩⟩ := open_agg opens27 Try.underlying27 (hval 1 27 v1 rfl rfl) h1
  obtain ⟨cs1⟩ := cs1
  have hK1 : kd27.K W _ cs1 := hK1
  unfold kd27 at hK1
  obtain ⟨_, _, rfl, rfl, ⟨_, _, rfl, rfl, ⟨_, _, rfl, rfl, ⟨_, _, rfl, rfl, ⟨_, _, rfl, rfl, ⟨_, _, rfl, rfl, ⟨_, _, rfl, rfl, ⟨_, _, rfl, rfl, ⟨_, _, rfl, rfl, ⟨_, _, rfl, rfl, ⟨_, _, rfl, ⟨_, _, rfl, rfl, rfl⟩, ⟨_, _, rfl, ⟨A1_12, c1_12, rfl, hc1_12, hr1_12⟩, ⟨_, _, rfl, ⟨A1_13, c1_13, rfl, hc1_13, hr1_13⟩, ⟨A1_14, c1_14, rfl, hc1_14, hr1_14⟩⟩⟩⟩⟩⟩⟩⟩⟩⟩⟩⟩⟩⟩ := hK1
  have k2 := h2
  have lt2 : ∀ x ∈ p2, x.block < W.heap.size := by obtain ⟨m, hm⟩ := k2; exact DataW.trod_lt m _ _ _ hm
  obtain ⟨l2, A2, c2, rfl, hc2, hr2, ok2⟩ := open_sl opens25 Try.underlying25 (hval 2 25 v2 rfl rfl) h2
  clear hA0 hval0
  refine (WalkWireCodes.walk a0_0 a0_1 a0_2 a0_3 a0_4 a0_5 a0_6 a0_7 a0_8 a0_9 a0_10 a0_11 A0_12 c0_12 l0_12 A0_13 c0_13 l0_13 A0_14 c0_14 l0_14 a1_0 a1_1 a1_2 a1_3 a1_4 a1_5 a1_6 a1_7 a1_8 a1_9 a1_10 a1_11 A1_12 c1_12 l1_12 A1_13 c1_13 l1_13 A1_14 c1_14 l1_14 A2 c2 l2 W hr0_12 hc0_12 hr0_13 hc0_13 hr0_14 hc0_14 hr1_12 hc1_12 hr1_13 hc1_13 hr1_14 hc1_14 hr2 hc2 (GKPe.bytesL_wf ok0_14.2) (GKPe.bytesL_wf ok1_14.2) (GKPe.bytesL_wf ok2.2)).mono fun e W' ⟨he, bel0⟩ => ?_
  have bel : Below W.heap.size W W' := bel0
  subst he
  exact ⟨_, rfl, _, _, _, [], _, [], hW', trodAll_mk1 (shut_bool Try.underlying4 _), (trodAll_cons_mk (Below.trod laidOut (by kernel_rfl) (of_decide_eq_true (by kernel_rfl)) k0 bel lt0) (trodAll_cons_mk (Below.trod laidOut (by kernel_rfl) (of_decide_eq_true (by kernel_rfl)) k1 bel lt1) (trodAll_cons_mk (Below.trod laidOut (by kernel_rfl) (of_decide_eq_true (by kernel_rfl)) k2 bel lt2) trodAll_mk0))), rfl, bel.frame _, fun h => by cases h⟩
theorem over : Rows.wireCodesRow.holds Try.pinned (OpenSpec.ofChange Rows.wireCodesSpec) :=
  OpenClaim.holds_of_wide 8 Try.f8 rfl rfl rfl rfl rfl rfl rfl ⟨rfl, rfl, rfl, rfl, rfl⟩ rfl rfl rfl rfl rfl (by kernel_rfl) Try.func8 (by kernel_rfl)
    (of_decide_eq_true (by kernel_rfl)) (by unfold Func.isWrapper; first | (rw [if_pos (by decide +kernel)]; kernel_rfl) | (rw [if_neg (by decide +kernel)]; exact ⟨rfl, rfl⟩))
    (fun os started H enc _ => lifted os started H enc)
theorem proved : Rows.WireCodesSaid := over
#print axioms proved
end Go.Proofs.Ytleljfmhefobeaa.wireCodes
namespace Go.Proofs.Ytleljfmhefobeaa
theorem wireCodes_holds : Rows.WireCodesSaid := wireCodes.proved
end Go.Proofs.Ytleljfmhefobeaa
