/- The law CalHomes, proved: for every input it returns true and leaves its arguments alone. No condition. -/
import Derived.Test.YtohpimfanplloaaGreatRows
import Derived.Test.YtohpimfanplloaaGreatCalR
import Derived.Test.YtohpimfanplloaaGreatOpen
import Derived.WalkKit
import Derived.ProofKit
import Derived.OpenShut
import Derived.ShutString
import Derived.ChangeOld
import Derived.Below
import Derived.Carry
set_option linter.unusedVariables false
set_option linter.unusedSimpArgs false
namespace Go.Proofs.YtohpimfanplloaaGreat.calHomes
open Go.ChangeShapes Go.WideShapes Go.ChangeAt Go.RowKit Go.Proofs.YtohpimfanplloaaGreat.Opn Go.Proofs.YtohpimfanplloaaGreatW.PrintWords
open Go.ChangeMaps (open_string shut_string)
theorem own : ownKnob Tryz.prog.godebug = none := by kernel_rfl
theorem laidOut : laidOutB Tryz.prog = true := by kernel_rfl
noncomputable def kd24 := (Kd.pair (Kd.int .i64) (Kd.pair (Kd.int .i64) (Kd.pair (Kd.slice 75 (Kd.pair (Kd.int .i64) (Kd.pair (Kd.slice 115 (Kd.pair (Kd.int .i64) (Kd.int .i64))) (Kd.pair (Kd.slice 119 (Kd.pair (Kd.int .i64) (Kd.pair (Kd.int .i64) (Kd.pair (Kd.int .i64) (Kd.pair (Kd.int .i64) (Kd.int .i64)))))) (Kd.int .i64))))) (Kd.pair (Kd.int .i64) (Kd.int .i64)))))
set_option maxRecDepth 100000 in
theorem opens24 : Opens Tryz.prog 24 kd24 (fun p => (fun n => (Lit.int .i64 n).wf = true) p.1 ∧ (fun p => (fun n => (Lit.int .i64 n).wf = true) p.1 ∧ (fun p => (fun xs => xs.length ≤ maxLen ∧ ∀ x ∈ xs, (fun p => (fun n => (Lit.int .i64 n).wf = true) p.1 ∧ (fun p => (fun xs => xs.length ≤ maxLen ∧ ∀ x ∈ xs, (fun p => (fun n => (Lit.int .i64 n).wf = true) p.1 ∧ (fun n => (Lit.int .i64 n).wf = true) p.2) x) p.1 ∧ (fun p => (fun xs => xs.length ≤ maxLen ∧ ∀ x ∈ xs, (fun p => (fun n => (Lit.int .i64 n).wf = true) p.1 ∧ (fun p => (fun n => (Lit.int .i64 n).wf = true) p.1 ∧ (fun p => (fun n => (Lit.int .i64 n).wf = true) p.1 ∧ (fun p => (fun n => (Lit.int .i64 n).wf = true) p.1 ∧ (fun n => (Lit.int .i64 n).wf = true) p.2) p.2) p.2) p.2) x) p.1 ∧ (fun n => (Lit.int .i64 n).wf = true) p.2) p.2) p.2) x) p.1 ∧ (fun p => (fun n => (Lit.int .i64 n).wf = true) p.1 ∧ (fun n => (Lit.int .i64 n).wf = true) p.2) p.2) p.2) p.2) := (opens_struct Tryz.underlying24 (by kernel_rfl) (opensAt_cons (by kernel_rfl) (by kernel_rfl) (opens_int Tryz.underlying3) (opensAt_cons (by kernel_rfl) (by kernel_rfl) (opens_int Tryz.underlying3) (opensAt_cons (by kernel_rfl) (by kernel_rfl) (opens_slice Tryz.underlying22 (by kernel_rfl) (opens_struct Tryz.underlying75 (by kernel_rfl) (opensAt_cons (by kernel_rfl) (by kernel_rfl) (opens_int Tryz.underlying3) (opensAt_cons (by kernel_rfl) (by kernel_rfl) (opens_slice Tryz.underlying72 (by kernel_rfl) (opens_struct Tryz.underlying115 (by kernel_rfl) (opensAt_cons (by kernel_rfl) (by kernel_rfl) (opens_int Tryz.underlying3) (opensAt_one (by kernel_rfl) (by kernel_rfl) (opens_int Tryz.underlying3))))) (opensAt_cons (by kernel_rfl) (by kernel_rfl) (opens_slice Tryz.underlying73 (by kernel_rfl) (opens_struct Tryz.underlying119 (by kernel_rfl) (opensAt_cons (by kernel_rfl) (by kernel_rfl) (opens_int Tryz.underlying3) (opensAt_cons (by kernel_rfl) (by kernel_rfl) (opens_int Tryz.underlying3) (opensAt_cons (by kernel_rfl) (by kernel_rfl) (opens_int Tryz.underlying3) (opensAt_cons (by kernel_rfl) (by kernel_rfl) (opens_int Tryz.underlying3) (opensAt_one (by kernel_rfl) (by kernel_rfl) (opens_int Tryz.underlying3)))))))) (opensAt_one (by kernel_rfl) (by kernel_rfl) (opens_int Tryz.underlying3))))))) (opensAt_cons (by kernel_rfl) (by kernel_rfl) (opens_int Tryz.underlying3) (opensAt_one (by kernel_rfl) (by kernel_rfl) (opens_int Tryz.underlying3)))))))
set_option maxRecDepth 100000 in
theorem lifted (os : Os) (started : os.Started) (H : Type) (enc : TypeId × Value → H) :
    ReturnsInHanded {} Tryz.checked os 3 .any (Rows.calHomesSpec.pre6 enc Tryz.prog Tryz.f3 Rows.calHomesRow.domain false) (Rows.calHomesSpec.post enc Tryz.prog Tryz.f3 false true false false) := by
  refine returnsInHanded_of_change (C := Tryz.checked) own started (by kernel_rfl) Tryz.func3
    (ChangeSpec.witness6 (enc := enc) (C := Tryz.checked) false ⟨#[], #[.agg #[.int .i64 0, .int .i64 0, .slice none 0 0, .int .i64 0, .int .i64 0], .int .i64 0], []⟩ 8 (by kernel_rfl) (by kernel_rfl) (by kernel_rfl) (by kernel_rfl)) ?_
  intro W base args ds gs before hval0 hW hcnd _
  have hval : ∀ (j : Nat) t v, Tryz.f3.params[j]? = some t → args[j]? = some v → Value.okWide Tryz.prog W .any base t v := hval0
  have hW' := hW
  obtain ⟨p, q, hA0, hV, rfl, hfz, hnd⟩ := hW
  have hA : DataW.TrodAll enc Tryz.prog W 0 (fun _ => true) true Tryz.f3.params.toList args.toList ds p := hA0
  rw [Tryz.params3] at hA hval
  obtain ⟨v0, vs0, d0, ds0, p0, q0, hargs, rfl, rfl, h0, r0⟩ := trodAll_cons hA
  obtain ⟨v1, vs1, d1, ds1, p1, q1, rfl, rfl, rfl, h1, r1⟩ := trodAll_cons r0
  obtain ⟨rfl, rfl, rfl⟩ := trodAll_nil r1
  obtain rfl : args = #[v0, v1] := by cases args; simp_all
  obtain ⟨rfl, rfl⟩ := trodVars_none hV
  have k0 := h0
  have lt0 : ∀ x ∈ p0, x.block < W.heap.size := by obtain ⟨m, hm⟩ := k0; exact DataW.trod_lt m _ _ _ hm
  obtain ⟨⟨a0_0, ⟨a0_1, ⟨l0_2, ⟨a0_3, a0_4⟩⟩⟩⟩, cs0, rfl, hK0, ⟨ok0_0, ⟨ok0_1, ⟨ok0_2, ⟨ok0_3, ok0_4⟩⟩⟩⟩⟩ := open_agg opens24 Tryz.underlying24 (hval 0 24 v0 rfl rfl) h0
  obtain ⟨cs0⟩ := cs0
  have hK0 : kd24.K W _ cs0 := hK0
  unfold kd24 at hK0
  obtain ⟨_, _, rfl, rfl, ⟨_, _, rfl, rfl, ⟨_, _, rfl, ⟨A0_2, c0_2, rfl, hc0_2, hr0_2⟩, ⟨_, _, rfl, rfl, rfl⟩⟩⟩⟩ := hK0
  obtain ⟨a1, rfl, rfl, rfl, ok1⟩ := open_int Tryz.underlying3 (hval 1 3 v1 rfl rfl) h1
  clear hA0 hval0
  refine (CalR.walk a0_0 a0_1 A0_2 c0_2 l0_2 a0_3 a0_4 a1 W hr0_2 hc0_2 ).mono fun e W' ⟨he, bel0⟩ => ?_
  have bel : Below W.heap.size W W' := bel0
  subst he
  exact ⟨_, rfl, _, _, _, [], _, [], hW', trodAll_mk1 (shut_bool Tryz.underlying4 _), (trodAll_cons_mk (Below.trod laidOut (by kernel_rfl) (of_decide_eq_true (by kernel_rfl)) k0 bel lt0) (trodAll_cons_mk (shut_int Tryz.underlying3 ok1) trodAll_mk0)), rfl, bel.frame _, fun h => by cases h⟩
theorem over : Rows.calHomesRow.holds Tryz.pinned (OpenSpec.ofChange Rows.calHomesSpec) :=
  OpenClaim.holds_of_wide 3 Tryz.f3 rfl rfl rfl rfl rfl rfl rfl ⟨rfl, rfl, rfl, rfl, rfl⟩ rfl rfl rfl rfl rfl (by kernel_rfl) Tryz.func3 (by kernel_rfl)
    (of_decide_eq_true (by kernel_rfl)) (by unfold Func.isWrapper; first | (rw [if_pos (by decide +kernel)]; kernel_rfl) | (rw [if_neg (by decide +kernel)]; exact ⟨rfl, rfl⟩))
    (fun os started H enc _ => lifted os started H enc)
theorem proved : Rows.CalHomesSaid := over
#print axioms proved
end Go.Proofs.YtohpimfanplloaaGreat.calHomes
namespace Go.Proofs.YtohpimfanplloaaGreat
theorem calHomes_holds : Rows.CalHomesSaid := calHomes.proved
end Go.Proofs.YtohpimfanplloaaGreat
