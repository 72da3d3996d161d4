/- The law CalApart, proved: for every input it returns true and leaves its arguments alone. No condition. -/
import Derived.Test.YtohpimfanplloaaGreatRows
import Derived.Test.YtohpimfanplloaaGreatZCalY
import Derived.Test.YtohpimfanplloaaGreatZOpen
import Derived.WalkKit
import Derived.ProofKit
import Derived.OpenShut
import Derived.ShutString
import Derived.ChangeOld
import Derived.Below
import Derived.Carry
set_option linter.unusedVariables false
set_option linter.unusedSimpArgs false
namespace Go.Proofs.YtohpimfanplloaaGreat.calApart
open Go.ChangeShapes Go.WideShapes Go.ChangeAt Go.RowKit Go.Proofs.YtohpimfanplloaaGreat.Opn Go.Proofs.YtohpimfanplloaaGreatW.PrintWords
open Go.ChangeMaps (open_string shut_string)
theorem own : ownKnob Tryz.prog.godebug = none := by kernel_rfl
theorem laidOut : laidOutB Tryz.prog = true := by kernel_rfl
noncomputable def kd24 := (Kd.pair (Kd.int .i64) (Kd.pair (Kd.int .i64) (Kd.pair (Kd.slice 75 (Kd.pair (Kd.int .i64) (Kd.pair (Kd.slice 115 (Kd.pair (Kd.int .i64) (Kd.int .i64))) (Kd.pair (Kd.slice 119 (Kd.pair (Kd.int .i64) (Kd.pair (Kd.int .i64) (Kd.pair (Kd.int .i64) (Kd.pair (Kd.int .i64) (Kd.int .i64)))))) (Kd.int .i64))))) (Kd.pair (Kd.int .i64) (Kd.int .i64)))))
set_option maxRecDepth 100000 in
theorem opens24 : Opens Tryz.prog 24 kd24 (fun p => (fun n => (Lit.int .i64 n).wf = true) p.1 ∧ (fun p => (fun n => (Lit.int .i64 n).wf = true) p.1 ∧ (fun p => (fun xs => xs.length ≤ maxLen ∧ ∀ x ∈ xs, (fun p => (fun n => (Lit.int .i64 n).wf = true) p.1 ∧ (fun p => (fun xs => xs.length ≤ maxLen ∧ ∀ x ∈ xs, (fun p => (fun n => (Lit.int .i64 n).wf = true) p.1 ∧ (fun n => (Lit.int .i64 n).wf = true) p.2) x) p.1 ∧ (fun p => (fun xs => xs.length ≤ maxLen ∧ ∀ x ∈ xs, (fun p => (fun n => (Lit.int .i64 n).wf = true) p.1 ∧ (fun p => (fun n => (Lit.int .i64 n).wf = true) p.1 ∧ (fun p => (fun n => (Lit.int .i64 n).wf = true) p.1 ∧ (fun p => (fun n => (Lit.int .i64 n).wf = true) p.1 ∧ (fun n => (Lit.int .i64 n).wf = true) p.2) p.2) p.2) p.2) x) p.1 ∧ (fun n => (Lit.int .i64 n).wf = true) p.2) p.2) p.2) x) p.1 ∧ (fun p => (fun n => (Lit.int .i64 n).wf = true) p.1 ∧ (fun n => (Lit.int .i64 n).wf = true) p.2) p.2) p.2) p.2) := (opens_struct Tryz.underlying24 (by kernel_rfl) (opensAt_cons (by kernel_rfl) (by kernel_rfl) (opens_int Tryz.underlying3) (opensAt_cons (by kernel_rfl) (by kernel_rfl) (opens_int Tryz.underlying3) (opensAt_cons (by kernel_rfl) (by kernel_rfl) (opens_slice Tryz.underlying22 (by kernel_rfl) (opens_struct Tryz.underlying75 (by kernel_rfl) (opensAt_cons (by kernel_rfl) (by kernel_rfl) (opens_int Tryz.underlying3) (opensAt_cons (by kernel_rfl) (by kernel_rfl) (opens_slice Tryz.underlying72 (by kernel_rfl) (opens_struct Tryz.underlying115 (by kernel_rfl) (opensAt_cons (by kernel_rfl) (by kernel_rfl) (opens_int Tryz.underlying3) (opensAt_one (by kernel_rfl) (by kernel_rfl) (opens_int Tryz.underlying3))))) (opensAt_cons (by kernel_rfl) (by kernel_rfl) (opens_slice Tryz.underlying73 (by kernel_rfl) (opens_struct Tryz.underlying119 (by kernel_rfl) (opensAt_cons (by kernel_rfl) (by kernel_rfl) (opens_int Tryz.underlying3) (opensAt_cons (by kernel_rfl) (by kernel_rfl) (opens_int Tryz.underlying3) (opensAt_cons (by kernel_rfl) (by kernel_rfl) (opens_int Tryz.underlying3) (opensAt_cons (by kernel_rfl) (by kernel_rfl) (opens_int Tryz.underlying3) (opensAt_one (by kernel_rfl) (by kernel_rfl) (opens_int Tryz.underlying3)))))))) (opensAt_one (by kernel_rfl) (by kernel_rfl) (opens_int Tryz.underlying3))))))) (opensAt_cons (by kernel_rfl) (by kernel_rfl) (opens_int Tryz.underlying3) (opensAt_one (by kernel_rfl) (by kernel_rfl) (opens_int Tryz.underlying3)))))))
noncomputable def kd53 := (Kd.slice 61 (Kd.pair (Kd.int .i64) (Kd.pair (Kd.int .i64) (Kd.pair (Kd.int .i64) (Kd.pair (Kd.slice 3 (Kd.int .i64)) (Kd.slice 42 (Kd.pair (Kd.int .i64) (Kd.int .i64))))))))
set_option maxRecDepth 100000 in
theorem opens53 : Opens Tryz.prog 53 kd53 (fun xs => xs.length ≤ maxLen ∧ ∀ x ∈ xs, (fun p => (fun n => (Lit.int .i64 n).wf = true) p.1 ∧ (fun p => (fun n => (Lit.int .i64 n).wf = true) p.1 ∧ (fun p => (fun n => (Lit.int .i64 n).wf = true) p.1 ∧ (fun p => (fun xs => xs.length ≤ maxLen ∧ ∀ x ∈ xs, (fun n => (Lit.int .i64 n).wf = true) x) p.1 ∧ (fun xs => xs.length ≤ maxLen ∧ ∀ x ∈ xs, (fun p => (fun n => (Lit.int .i64 n).wf = true) p.1 ∧ (fun n => (Lit.int .i64 n).wf = true) p.2) x) p.2) p.2) p.2) p.2) x) := (opens_slice Tryz.underlying53 (by kernel_rfl) (opens_struct Tryz.underlying61 (by kernel_rfl) (opensAt_cons (by kernel_rfl) (by kernel_rfl) (opens_int Tryz.underlying3) (opensAt_cons (by kernel_rfl) (by kernel_rfl) (opens_int Tryz.underlying3) (opensAt_cons (by kernel_rfl) (by kernel_rfl) (opens_int Tryz.underlying3) (opensAt_cons (by kernel_rfl) (by kernel_rfl) (opens_slice Tryz.underlying39 (by kernel_rfl) (opens_int Tryz.underlying3)) (opensAt_one (by kernel_rfl) (by kernel_rfl) (opens_slice Tryz.underlying33 (by kernel_rfl) (opens_struct Tryz.underlying42 (by kernel_rfl) (opensAt_cons (by kernel_rfl) (by kernel_rfl) (opens_int Tryz.underlying3) (opensAt_one (by kernel_rfl) (by kernel_rfl) (opens_int Tryz.underlying3))))))))))))
noncomputable def kd39 := (Kd.slice 3 (Kd.int .i64))
set_option maxRecDepth 100000 in
theorem opens39 : Opens Tryz.prog 39 kd39 (fun xs => xs.length ≤ maxLen ∧ ∀ x ∈ xs, (fun n => (Lit.int .i64 n).wf = true) x) := (opens_slice Tryz.underlying39 (by kernel_rfl) (opens_int Tryz.underlying3))
noncomputable def kd33 := (Kd.slice 42 (Kd.pair (Kd.int .i64) (Kd.int .i64)))
set_option maxRecDepth 100000 in
theorem opens33 : Opens Tryz.prog 33 kd33 (fun xs => xs.length ≤ maxLen ∧ ∀ x ∈ xs, (fun p => (fun n => (Lit.int .i64 n).wf = true) p.1 ∧ (fun n => (Lit.int .i64 n).wf = true) p.2) x) := (opens_slice Tryz.underlying33 (by kernel_rfl) (opens_struct Tryz.underlying42 (by kernel_rfl) (opensAt_cons (by kernel_rfl) (by kernel_rfl) (opens_int Tryz.underlying3) (opensAt_one (by kernel_rfl) (by kernel_rfl) (opens_int Tryz.underlying3)))))
set_option maxRecDepth 100000 in
theorem lifted (os : Os) (started : os.Started) (H : Type) (enc : TypeId × Value → H) :
    ReturnsInHanded {} Tryz.checked os 7 .any (Rows.calApartSpec.pre6 enc Tryz.prog Tryz.f7 Rows.calApartRow.domain false) (Rows.calApartSpec.post enc Tryz.prog Tryz.f7 false true false false) := by
  refine returnsInHanded_of_change (C := Tryz.checked) own started (by kernel_rfl) Tryz.func7
    (ChangeSpec.witness6 (enc := enc) (C := Tryz.checked) false ⟨#[], #[.agg #[.int .i64 0, .int .i64 0, .slice none 0 0, .int .i64 0, .int .i64 0], .int .i64 0, .slice none 0 0, .int .i64 0, .slice none 0 0, .slice none 0 0], []⟩ 8 (by kernel_rfl) (by kernel_rfl) (by kernel_rfl) (by kernel_rfl)) ?_
  intro W base args ds gs before hval0 hW hcnd _
  have hval : ∀ (j : Nat) t v, Tryz.f7.params[j]? = some t → args[j]? = some v → Value.okWide Tryz.prog W .any base t v := hval0
  have hW' := hW
  obtain ⟨p, q, hA0, hV, rfl, hfz, hnd⟩ := hW
  have hA : DataW.TrodAll enc Tryz.prog W 0 (fun _ => true) true Tryz.f7.params.toList args.toList ds p := hA0
  rw [Tryz.params7] at hA hval
  obtain ⟨v0, vs0, d0, ds0, p0, q0, hargs, rfl, rfl, h0, r0⟩ := trodAll_cons hA
  obtain ⟨v1, vs1, d1, ds1, p1, q1, rfl, rfl, rfl, h1, r1⟩ := trodAll_cons r0
  obtain ⟨v2, vs2, d2, ds2, p2, q2, rfl, rfl, rfl, h2, r2⟩ := trodAll_cons r1
  obtain ⟨v3, vs3, d3, ds3, p3, q3, rfl, rfl, rfl, h3, r3⟩ := trodAll_cons r2
  obtain ⟨v4, vs4, d4, ds4, p4, q4, rfl, rfl, rfl, h4, r4⟩ := trodAll_cons r3
  obtain ⟨v5, vs5, d5, ds5, p5, q5, rfl, rfl, rfl, h5, r5⟩ := trodAll_cons r4
  obtain ⟨rfl, rfl, rfl⟩ := trodAll_nil r5
  obtain rfl : args = #[v0, v1, v2, v3, v4, v5] := by cases args; simp_all
  obtain ⟨rfl, rfl⟩ := trodVars_none hV
  have k0 := h0
  have lt0 : ∀ x ∈ p0, x.block < W.heap.size := by obtain ⟨m, hm⟩ := k0; exact DataW.trod_lt m _ _ _ hm
  obtain ⟨⟨a0_0, ⟨a0_1, ⟨l0_2, ⟨a0_3, a0_4⟩⟩⟩⟩, cs0, rfl, hK0, ⟨ok0_0, ⟨ok0_1, ⟨ok0_2, ⟨ok0_3, ok0_4⟩⟩⟩⟩⟩ := open_agg opens24 Tryz.underlying24 (hval 0 24 v0 rfl rfl) h0
  obtain ⟨cs0⟩ := cs0
  have hK0 : kd24.K W _ cs0 := hK0
  unfold kd24 at hK0
  obtain ⟨_, _, rfl, rfl, ⟨_, _, rfl, rfl, ⟨_, _, rfl, ⟨A0_2, c0_2, rfl, hc0_2, hr0_2⟩, ⟨_, _, rfl, rfl, rfl⟩⟩⟩⟩ := hK0
  obtain ⟨a1, rfl, rfl, rfl, ok1⟩ := open_int Tryz.underlying3 (hval 1 3 v1 rfl rfl) h1
  have k2 := h2
  have lt2 : ∀ x ∈ p2, x.block < W.heap.size := by obtain ⟨m, hm⟩ := k2; exact DataW.trod_lt m _ _ _ hm
  obtain ⟨l2, A2, c2, rfl, hc2, hr2, ok2⟩ := open_sl opens53 Tryz.underlying53 (hval 2 53 v2 rfl rfl) h2
  obtain ⟨a3, rfl, rfl, rfl, ok3⟩ := open_int Tryz.underlying3 (hval 3 3 v3 rfl rfl) h3
  have k4 := h4
  have lt4 : ∀ x ∈ p4, x.block < W.heap.size := by obtain ⟨m, hm⟩ := k4; exact DataW.trod_lt m _ _ _ hm
  obtain ⟨l4, A4, c4, rfl, hc4, hr4, ok4⟩ := open_sl opens39 Tryz.underlying39 (hval 4 39 v4 rfl rfl) h4
  have k5 := h5
  have lt5 : ∀ x ∈ p5, x.block < W.heap.size := by obtain ⟨m, hm⟩ := k5; exact DataW.trod_lt m _ _ _ hm
  obtain ⟨l5, A5, c5, rfl, hc5, hr5, ok5⟩ := open_sl opens33 Tryz.underlying33 (hval 5 33 v5 rfl rfl) h5
  clear hA0 hval0
  refine (CalY.walk a0_0 a0_1 A0_2 c0_2 l0_2 a0_3 a0_4 a1 A2 c2 l2 a3 A4 c4 l4 A5 c5 l5 W hr0_2 hc0_2 hr2 hc2 hr4 hc4 hr5 hc5 ).mono fun e W' ⟨he, bel0⟩ => ?_
  have bel : Below W.heap.size W W' := bel0
  subst he
  exact ⟨_, rfl, _, _, _, [], _, [], hW', trodAll_mk1 (shut_bool Tryz.underlying4 _), (trodAll_cons_mk (Below.trod laidOut (by kernel_rfl) (of_decide_eq_true (by kernel_rfl)) k0 bel lt0) (trodAll_cons_mk (shut_int Tryz.underlying3 ok1) (trodAll_cons_mk (Below.trod laidOut (by kernel_rfl) (of_decide_eq_true (by kernel_rfl)) k2 bel lt2) (trodAll_cons_mk (shut_int Tryz.underlying3 ok3) (trodAll_cons_mk (Below.trod laidOut (by kernel_rfl) (of_decide_eq_true (by kernel_rfl)) k4 bel lt4) (trodAll_cons_mk (Below.trod laidOut (by kernel_rfl) (of_decide_eq_true (by kernel_rfl)) k5 bel lt5) trodAll_mk0)))))), rfl, bel.frame _, fun h => by cases h⟩
theorem over : Rows.calApartRow.holds Tryz.pinned (OpenSpec.ofChange Rows.calApartSpec) :=
  OpenClaim.holds_of_wide 7 Tryz.f7 rfl rfl rfl rfl rfl rfl rfl ⟨rfl, rfl, rfl, rfl, rfl⟩ rfl rfl rfl rfl rfl (by kernel_rfl) Tryz.func7 (by kernel_rfl)
    (of_decide_eq_true (by kernel_rfl)) (by unfold Func.isWrapper; first | (rw [if_pos (by decide +kernel)]; kernel_rfl) | (rw [if_neg (by decide +kernel)]; exact ⟨rfl, rfl⟩))
    (fun os started H enc _ => lifted os started H enc)
theorem proved : Rows.CalApartSaid := over
#print axioms proved
end Go.Proofs.YtohpimfanplloaaGreat.calApart
namespace Go.Proofs.YtohpimfanplloaaGreat
theorem calApart_holds : Rows.CalApartSaid := calApart.proved
end Go.Proofs.YtohpimfanplloaaGreat
