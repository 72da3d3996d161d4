/- The law ScriptCuts, proved: for every input it returns true and leaves its arguments alone; the listed variables read as the row says; the card. -/
import Derived.Test.YtohpimfanplloaaGreatDoorRows
import Derived.Test.YtohpimfanplloaaGreatDoorZCutsR
import Derived.Test.YtohpimfanplloaaGreatDoorZOpen
import Derived.WalkKit
import Derived.ProofKit
import Derived.OpenShut
import Derived.ShutString
import Derived.ChangeOld
import Derived.Below
import Derived.Carry
import Derived.Test.YtohpimfanplloaaGreatDoorTie
import Derived.Test.YtohpimfanplloaaGreatDoorCards
import Derived.Lay
import Derived.LaidOnce
import Derived.SevenTiedAt
import Derived.HandedShaped
import Derived.Shelf.Vars
import Derived.Stop.LaidErr
import Derived.Lib.LaidTab
import Derived.Lib.LaidU8
set_option linter.unusedVariables false
set_option linter.unusedSimpArgs false
namespace Go.Proofs.YtohpimfanplloaaGreatDoor.scriptCuts
open Go.ChangeShapes Go.WideShapes Go.ChangeAt Go.RowKit Go.Proofs.YtohpimfanplloaaGreatDoor.Opn Go.Proofs.YtohpimfanplloaaGreatDoorW.PrintWords
open Go.ChangeMaps (open_string shut_string)
theorem own : ownKnob Tryz.prog.godebug = none := by kernel_rfl
theorem laidOut : laidOutB Tryz.prog = true := by kernel_rfl
noncomputable def kd28 := (Kd.pair (Kd.pair (Kd.int .i64) (Kd.pair (Kd.int .i64) (Kd.pair (Kd.slice 68 (Kd.pair (Kd.int .i64) (Kd.pair (Kd.slice 92 (Kd.pair (Kd.int .i64) (Kd.int .i64))) (Kd.pair (Kd.slice 72 (Kd.pair (Kd.int .i64) (Kd.pair (Kd.int .i64) (Kd.pair (Kd.int .i64) (Kd.pair (Kd.int .i64) (Kd.int .i64)))))) (Kd.int .i64))))) (Kd.pair (Kd.int .i64) (Kd.int .i64))))) (Kd.pair (Kd.pair (Kd.int .i64) (Kd.pair (Kd.int .i64) (Kd.pair (Kd.int .i64) (Kd.int .i64)))) (Kd.pair (Kd.int .i64) (Kd.int .i64))))
set_option maxRecDepth 100000 in
theorem opens28 : Opens Tryz.prog 28 kd28 (fun p => (fun p => (fun n => (Lit.int .i64 n).wf = true) p.1 ∧ (fun p => (fun n => (Lit.int .i64 n).wf = true) p.1 ∧ (fun p => (fun xs => xs.length ≤ maxLen ∧ ∀ x ∈ xs, (fun p => (fun n => (Lit.int .i64 n).wf = true) p.1 ∧ (fun p => (fun xs => xs.length ≤ maxLen ∧ ∀ x ∈ xs, (fun p => (fun n => (Lit.int .i64 n).wf = true) p.1 ∧ (fun n => (Lit.int .i64 n).wf = true) p.2) x) p.1 ∧ (fun p => (fun xs => xs.length ≤ maxLen ∧ ∀ x ∈ xs, (fun p => (fun n => (Lit.int .i64 n).wf = true) p.1 ∧ (fun p => (fun n => (Lit.int .i64 n).wf = true) p.1 ∧ (fun p => (fun n => (Lit.int .i64 n).wf = true) p.1 ∧ (fun p => (fun n => (Lit.int .i64 n).wf = true) p.1 ∧ (fun n => (Lit.int .i64 n).wf = true) p.2) p.2) p.2) p.2) x) p.1 ∧ (fun n => (Lit.int .i64 n).wf = true) p.2) p.2) p.2) x) p.1 ∧ (fun p => (fun n => (Lit.int .i64 n).wf = true) p.1 ∧ (fun n => (Lit.int .i64 n).wf = true) p.2) p.2) p.2) p.2) p.1 ∧ (fun p => (fun p => (fun n => (Lit.int .i64 n).wf = true) p.1 ∧ (fun p => (fun n => (Lit.int .i64 n).wf = true) p.1 ∧ (fun p => (fun n => (Lit.int .i64 n).wf = true) p.1 ∧ (fun n => (Lit.int .i64 n).wf = true) p.2) p.2) p.2) p.1 ∧ (fun p => (fun n => (Lit.int .i64 n).wf = true) p.1 ∧ (fun n => (Lit.int .i64 n).wf = true) p.2) p.2) p.2) := (opens_struct Tryz.underlying28 (by kernel_rfl) (opensAt_cons (by kernel_rfl) (by kernel_rfl) (opens_struct Tryz.underlying24 (by kernel_rfl) (opensAt_cons (by kernel_rfl) (by kernel_rfl) (opens_int Tryz.underlying3) (opensAt_cons (by kernel_rfl) (by kernel_rfl) (opens_int Tryz.underlying3) (opensAt_cons (by kernel_rfl) (by kernel_rfl) (opens_slice Tryz.underlying22 (by kernel_rfl) (opens_struct Tryz.underlying68 (by kernel_rfl) (opensAt_cons (by kernel_rfl) (by kernel_rfl) (opens_int Tryz.underlying3) (opensAt_cons (by kernel_rfl) (by kernel_rfl) (opens_slice Tryz.underlying65 (by kernel_rfl) (opens_struct Tryz.underlying92 (by kernel_rfl) (opensAt_cons (by kernel_rfl) (by kernel_rfl) (opens_int Tryz.underlying3) (opensAt_one (by kernel_rfl) (by kernel_rfl) (opens_int Tryz.underlying3))))) (opensAt_cons (by kernel_rfl) (by kernel_rfl) (opens_slice Tryz.underlying66 (by kernel_rfl) (opens_struct Tryz.underlying72 (by kernel_rfl) (opensAt_cons (by kernel_rfl) (by kernel_rfl) (opens_int Tryz.underlying3) (opensAt_cons (by kernel_rfl) (by kernel_rfl) (opens_int Tryz.underlying3) (opensAt_cons (by kernel_rfl) (by kernel_rfl) (opens_int Tryz.underlying3) (opensAt_cons (by kernel_rfl) (by kernel_rfl) (opens_int Tryz.underlying3) (opensAt_one (by kernel_rfl) (by kernel_rfl) (opens_int Tryz.underlying3)))))))) (opensAt_one (by kernel_rfl) (by kernel_rfl) (opens_int Tryz.underlying3))))))) (opensAt_cons (by kernel_rfl) (by kernel_rfl) (opens_int Tryz.underlying3) (opensAt_one (by kernel_rfl) (by kernel_rfl) (opens_int Tryz.underlying3))))))) (opensAt_cons (by kernel_rfl) (by kernel_rfl) (opens_struct Tryz.underlying26 (by kernel_rfl) (opensAt_cons (by kernel_rfl) (by kernel_rfl) (opens_int Tryz.underlying3) (opensAt_cons (by kernel_rfl) (by kernel_rfl) (opens_int Tryz.underlying3) (opensAt_cons (by kernel_rfl) (by kernel_rfl) (opens_int Tryz.underlying3) (opensAt_one (by kernel_rfl) (by kernel_rfl) (opens_int Tryz.underlying3)))))) (opensAt_cons (by kernel_rfl) (by kernel_rfl) (opens_int Tryz.underlying3) (opensAt_one (by kernel_rfl) (by kernel_rfl) (opens_int Tryz.underlying3))))))
noncomputable def kd29 := (Kd.slice 5 (Kd.int .u8))
set_option maxRecDepth 100000 in
theorem opens29 : Opens Tryz.prog 29 kd29 (fun xs => xs.length ≤ maxLen ∧ ∀ x ∈ xs, (fun n => (Lit.int .u8 n).wf = true) x) := (opens_slice Tryz.underlying29 (by kernel_rfl) (opens_int Tryz.underlying5))
theorem cell_iface {P : Program} {w : World} {l : List (String × DataW Unit)} {n nm : String} {d : DataW Unit} {g : Nat} {t : TypeId} {ms : Array (String × TypeId)}
    (hL : laidMet P l w) (hm : (n, DataW.iface nm d) ∈ l) (hg : P.globalNamed n = some g) (hty : (P.globals[g]?).map (·.type) = some t) (hi : P.underlying t = some (.interface ms)) :
    ∃ v, w.cell? ⟨g, 0, none⟩ = some v ∧ (v = .nilIface ∨ ∃ te pe, v = .iface te pe) := by
  obtain ⟨g', t', cs, fuel, p, h1, h2, h3, h4⟩ := Lib.laidMet.reads hL hm
  obtain rfl := Option.some.inj (hg.symm.trans h1)
  obtain rfl := Option.some.inj (hty.symm.trans h2)
  obtain ⟨f1, u, v, e, _, _⟩ := iface_of_trod hi h4
  have hc := World.var?_cell hg h3 0
  have hcs : cs[0]? = some (.iface u v) := by rw [← Array.getElem?_toList, e]; rfl
  exact ⟨.iface u v, hc.trans hcs, Or.inr ⟨_, _, rfl⟩⟩

section
variable {H : Type} {enc : TypeId × Value → H}
/-- The plain wrap for a row that lists variables, the world's shape kept. -/
theorem wrap {a : Assume} {C : Checked} {os : Os} {f : FuncId} {fn : Func} {s : ChangeSpec} {conds : List PathCond} {apart fresh handsOn again : Bool} {X : World → Array Value → Prop}
    (hX : ∀ (w w' : World) (args : Array Value), w.heap = w'.heap → X w args → X w' args)
    (own : ownKnob C.prog.godebug = none) (started : os.Started) (noInit : C.prog.inits.idxOf? f = none) (hfn : C.prog.funcs[f]? = some fn)
    (witness : ∃ (w : World) (tape : Tape) (i : Input), w.os = os ∧ (w.forCall tape i).Shaped C.prog ∧ i.vars = [] ∧ Input.okWide C.prog (w.forCall tape i) .any w.heap.size f i ∧
      ((s.pre enc C.prog fn conds apart (w.forCall tape i).memory i.args ∧ X (w.forCall tape i).memory i.args) ∧ sizedMet enc C.prog fn (OpenSpec.ofChange s) apart (w.forCall tape i).memory i.args) ∧ a.holds C.prog (lone (Frame.enter C.prog f i.args .normal) [] (w.forCall tape i)))
    (contract : ∀ (W : World) (base : Nat) (args : Array Value) (ds gs : List (DataW H)) (before : List MemPlace),
      (∀ (j : Nat) t v, fn.params[j]? = some t → args[j]? = some v → Value.okWide C.prog W .any base t v) →
      DataW.Whole enc C.prog fn.params.toList s.vars apart W args.toList ds gs before →
      X W args → W.ShapedOpen C.prog →
      Calls C.prog f args W fun e W' => ∃ v, e = .returned v ∧ s.post enc C.prog fn apart fresh handsOn again W args v W') :
    ReturnsInHanded a C os f .any (fun w args => (s.pre enc C.prog fn conds apart w args ∧ X w args) ∧ sizedMet enc C.prog fn (OpenSpec.ofChange s) apart w args) (s.post enc C.prog fn apart fresh handsOn again) := by
  refine returnsInHanded_of_calls own started noInit witness ?_
  intro w tape i _ hsh _ hok hpre hholds
  obtain ⟨_, _, _, fn', hfn', _, _, _, _, hval⟩ := hok
  have e : fn' = fn := Option.some.inj (hfn'.symm.trans hfn)
  subst e
  obtain ⟨⟨⟨ds, gs, before, hw, hc⟩, hx⟩, hz⟩ := hpre
  have hw' := DataW.Whole.of_heap (w' := w.forCall tape i) (by rfl) hw
  refine (contract (w.forCall tape i) w.heap.size i.args ds gs before hval hw' (hX _ _ _ (by rfl) hx) hsh).mono fun e W' ⟨v, he, hp⟩ => ?_
  subst he
  exact ChangeSpec.post_blind hp
end

theorem tab_eq : (Rows.laid_internal_strconv_uint64pow10 : DataW Unit) = Lib.tabData .u64 Lib.pow10Tab := by rfl
theorem glob {W : World} (hL : laidMet Tryz.prog Rows.scriptCutsRow.laid W) (hsh : W.ShapedOpen Tryz.prog) : GC.Glob W := by
  refine ⟨?_, ?_, ?_, ?_⟩
  · exact cell_of_shapedOpen_int (P := Tryz.prog) (g := 0) (t := 3) (zero := #[.int .i64 0]) hsh (of_decide_eq_true (by kernel_rfl)) (by kernel_rfl) rfl (by kernel_rfl) (by kernel_rfl) Tryz.underlying3
  · exact cell_iface (n := "strconv.ErrSyntax") (nm := "*errors.errorString") hL (by unfold Rows.scriptCutsRow; exact .tail _ (.tail _ (.tail _ (.tail _ (.tail _ (.head _)))))) (by kernel_rfl) (by kernel_rfl) Tryz.underlying131
  · exact cell_iface (n := "strconv.ErrRange") (nm := "*errors.errorString") hL (by unfold Rows.scriptCutsRow; exact .tail _ (.tail _ (.tail _ (.tail _ (.head _))))) (by kernel_rfl) (by kernel_rfl) Tryz.underlying131
  · have h2 := hL.tail.tail
    rw [tab_eq] at h2
    exact Lib.tabIs_of_head (g := 1) (t := 176) (e := 155) (n := 20) (by kernel_rfl) (by kernel_rfl) Tryz.underlying176 Tryz.underlying155 (by kernel_rfl) (by kernel_rfl) h2
set_option maxRecDepth 100000 in
theorem lifted (os : Os) (started : os.Started) (H : Type) (enc : TypeId × Value → H) :
    ReturnsInHanded {} Tryz.checked os 3 .any (fun w args => (Rows.scriptCutsSpec.pre enc Tryz.prog Tryz.f3 Rows.scriptCutsRow.domain false w args ∧ laidMetH Tryz.prog Rows.scriptCutsRow.laid w) ∧ sizedMet enc Tryz.prog Tryz.f3 (OpenSpec.ofChange Rows.scriptCutsSpec) false w args)
      (Rows.scriptCutsSpec.post enc Tryz.prog Tryz.f3 false true false false) := by
  refine wrap (C := Tryz.checked) (X := fun w _ => laidMetH Tryz.prog Rows.scriptCutsRow.laid w) (fun _ _ _ hh h => h.of_heap hh) own started (by kernel_rfl) Tryz.func3
    (ChangeSpec.witness_shaped (enc := enc) (C := Tryz.checked) (os := os) (X := fun w _ => laidMetH Tryz.prog Rows.scriptCutsRow.laid w) false (World.laidAll Tryz.prog os Rows.scriptCutsRow.laid) #[.agg #[.int .i64 0, .int .i64 0, .slice none 0 0, .int .i64 0, .int .i64 0, .int .i64 0, .int .i64 0, .int .i64 0, .int .i64 0, .int .i64 0, .int .i64 0], .slice none 0 0, .int .i64 0] 8 (World.laidAll_os _ _ _)
      (World.shaped_of_ZipB (by kernel_rfl) (by kernel_rfl)) (by kernel_rfl) (by kernel_rfl) (by kernel_rfl)
      (by rw [MakeChecks.laidMetH_plain _ _ _ (by kernel_rfl)]; exact laidMet_laidAll _ (by kernel_rfl) (by kernel_rfl))) ?_
  intro W base args ds gs before hval0 hW hL hsh
  have hval : ∀ (j : Nat) t v, Tryz.f3.params[j]? = some t → args[j]? = some v → Value.okWide Tryz.prog W .any base t v := hval0
  have hW' := hW
  obtain ⟨p, q, hA0, hV, rfl, hfz, hnd⟩ := hW
  have hA : DataW.TrodAll enc Tryz.prog W 0 (fun _ => true) true Tryz.f3.params.toList args.toList ds p := hA0
  rw [Tryz.params3] at hA hval
  obtain ⟨v0, vs0, d0, ds0, p0, q0, hargs, rfl, rfl, h0, r0⟩ := trodAll_cons hA
  obtain ⟨v1, vs1, d1, ds1, p1, q1, rfl, rfl, rfl, h1, r1⟩ := trodAll_cons r0
  obtain ⟨v2, vs2, d2, ds2, p2, q2, rfl, rfl, rfl, h2, r2⟩ := trodAll_cons r1
  obtain ⟨rfl, rfl, rfl⟩ := trodAll_nil r2
  obtain rfl : args = #[v0, v1, v2] := by cases args; simp_all
  obtain ⟨rfl, rfl⟩ := trodVars_none hV
  have k0 := h0
  have lt0 : ∀ x ∈ p0, x.block < W.heap.size := by obtain ⟨m, hm⟩ := k0; exact DataW.trod_lt m _ _ _ hm
  obtain ⟨⟨⟨a0_0, ⟨a0_1, ⟨l0_2, ⟨a0_3, a0_4⟩⟩⟩⟩, ⟨⟨a0_5, ⟨a0_6, ⟨a0_7, a0_8⟩⟩⟩, ⟨a0_9, a0_10⟩⟩⟩, cs0, rfl, hK0, ⟨⟨ok0_0, ⟨ok0_1, ⟨ok0_2, ⟨ok0_3, ok0_4⟩⟩⟩⟩, ⟨⟨ok0_5, ⟨ok0_6, ⟨ok0_7, ok0_8⟩⟩⟩, ⟨ok0_9, ok0_10⟩⟩⟩⟩ := open_agg opens28 Tryz.underlying28 (hval 0 28 v0 rfl rfl) h0
  obtain ⟨cs0⟩ := cs0
  have hK0 : kd28.K W _ cs0 := hK0
  unfold kd28 at hK0
  obtain ⟨_, _, rfl, ⟨_, _, rfl, rfl, ⟨_, _, rfl, rfl, ⟨_, _, rfl, ⟨A0_2, c0_2, rfl, hc0_2, hr0_2⟩, ⟨_, _, rfl, rfl, rfl⟩⟩⟩⟩, ⟨_, _, rfl, ⟨_, _, rfl, rfl, ⟨_, _, rfl, rfl, ⟨_, _, rfl, rfl, rfl⟩⟩⟩, ⟨_, _, rfl, rfl, rfl⟩⟩⟩ := hK0
  have k1 := h1
  have lt1 : ∀ x ∈ p1, x.block < W.heap.size := by obtain ⟨m, hm⟩ := k1; exact DataW.trod_lt m _ _ _ hm
  obtain ⟨l1, A1, c1, rfl, hc1, hr1, ok1⟩ := open_sl opens29 Tryz.underlying29 (hval 1 29 v1 rfl rfl) h1
  obtain ⟨a2, rfl, rfl, rfl, ok2⟩ := open_int Tryz.underlying3 (hval 2 3 v2 rfl rfl) h2
  clear hA0 hval0
  rw [MakeChecks.laidMetH_plain _ _ _ (by kernel_rfl)] at hL
  have hG := glob hL hsh
  have wb : ∀ {n : Int}, (Lit.int .u8 n).wf = true → 0 ≤ n ∧ n ≤ 255 := fun h => by
    simp [Lit.wf, IntKind.min, IntKind.max, IntKind.signed, IntKind.bits] at h
    omega
  refine (CutsR.walk a0_0 a0_1 A0_2 c0_2 l0_2 a0_3 a0_4 a0_5 a0_6 a0_7 a0_8 a0_9 a0_10 A1 c1 l1 a2 W hr0_2 hc0_2 hr1 hc1 hG (fun y hy => wb (ok1.2 y hy))).mono fun e W' ⟨he, bel0⟩ => ?_
  have bel : Below W.heap.size W W' := bel0
  subst he
  exact ⟨_, rfl, _, _, _, [], _, [], hW', trodAll_mk1 (shut_bool Tryz.underlying4 _), (trodAll_cons_mk (Below.trod laidOut (by kernel_rfl) (of_decide_eq_true (by kernel_rfl)) k0 bel lt0) (trodAll_cons_mk (Below.trod laidOut (by kernel_rfl) (of_decide_eq_true (by kernel_rfl)) k1 bel lt1) (trodAll_cons_mk (shut_int Tryz.underlying3 ok2) trodAll_mk0))), rfl, bel.frame _, fun h => by cases h⟩
theorem over : Rows.scriptCutsRow.holds Tryz.pinned (OpenSpec.ofChange Rows.scriptCutsSpec) :=
  OpenClaim.holds_of_wide 3 Tryz.f3 rfl rfl rfl rfl rfl rfl rfl ⟨rfl, rfl, rfl, rfl, rfl⟩ rfl rfl rfl rfl rfl (by kernel_rfl) Tryz.func3 (by kernel_rfl)
    (of_decide_eq_true (by kernel_rfl)) (by unfold Func.isWrapper; first | (rw [if_pos (by decide +kernel)]; kernel_rfl) | (rw [if_neg (by decide +kernel)]; exact ⟨rfl, rfl⟩))
    (fun os started H enc _ => lifted os started H enc)
theorem proved : Rows.ScriptCutsCardSaid :=
  Claim7.holds_tied_plain_at .later [] [.data, .data, .data, .data, .sentinel, .sentinel, .pinned] true (true, "b207dfe95b185bf69560f5ed3e27591f1b8ee8162961fce4ff5f080458c58600") true over (fun _ h => by cases h) (by kernel_rfl) (fun _ h => by cases h) scriptCuts_row_tie rfl ⟨rfl, rfl⟩ (by kernel_rfl) rfl
    (fun f fn hf hfn => by
      obtain rfl : f = 3 := Option.some.inj ((show Tryz.prog.funcNamed "convoker/voklaw26.ScriptCuts" = some 3 by kernel_rfl).symm.trans hf) |>.symm
      obtain rfl : fn = Tryz.f3 := (Option.some.inj (Tryz.func3.symm.trans hfn)).symm
      exact ⟨by kernel_rfl, fun j t ht => by
        rw [Tryz.params3] at ht
        have hm : t ∈ [28, 29, 3] := by simpa using Array.mem_of_getElem? ht
        have hall : ([28, 29, 3].all fun u => !Tryz.prog.wantsStandIn u) = true := by kernel_rfl
        exact (show Tryz.prog.wantsStandIn t = false by simpa using List.all_eq_true.1 hall t hm)⟩)
    (by kernel_rfl)
#print axioms proved
end Go.Proofs.YtohpimfanplloaaGreatDoor.scriptCuts
namespace Go.Proofs.YtohpimfanplloaaGreatDoor
theorem scriptCutsCard_holds : Rows.ScriptCutsCardSaid := scriptCuts.proved
end Go.Proofs.YtohpimfanplloaaGreatDoor
