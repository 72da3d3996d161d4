/- Remove: slices.DeleteFunc over a set's row. -/
import Derived.Test.YtohpimfanplloaaGreatZIvE
import Derived.WalkKit
import Derived.WalkSpells
import Derived.Lib.Hide
import Derived.Lib.SliceRun
import Derived.Shelf.SlicesE.DeleteFunc
import Derived.Test.YtohpimfanplloaaGreatZIvLay
set_option linter.unusedVariables false
set_option linter.unusedSimpArgs false
namespace Go.Proofs.YtohpimfanplloaaGreat.IvF
open Go.RowKit Go.Proofs.YtohpimfanplloaaGreatW.PrintWords Go.Proofs.YtohpimfanplloaaGreatW.PrintLast Go.Proofs.YtohpimfanplloaaGreatW.PrintMore Go.Proofs.YtohpimfanplloaaGreat.PureI1 Go.Proofs.YtohpimfanplloaaGreat.PureI2 Go.Proofs.YtohpimfanplloaaGreat.IvA Go.Proofs.YtohpimfanplloaaGreat.IvB Go.Proofs.YtohpimfanplloaaGreat.IvC Go.Proofs.YtohpimfanplloaaGreat.IvD Go.Proofs.YtohpimfanplloaaGreat.IvE

theorem cell_alloc_old {w : World} {a : Addr} {v : Value} (o : Obj) (h : w.cell? a = some v) : (w.alloc o).cell? a = some v := Lib.cell?_alloc_some o h
theorem own_take {W : World} {base : Nat} {e : TypeId} {size n g c : Nat} {xs : List Value} (h : W.ownsRow base e size (.slice (some ⟨g, 0, none⟩) n c) n xs) (i : Nat) (hi : i ≤ n) :
    W.ownsRow base e size (.slice (some ⟨g, 0, none⟩) i c) i (xs.take (i * size)) := by
  have hle : i * size ≤ n * size := Nat.mul_le_mul_right size hi
  rcases h.2 with ⟨h, _⟩ | ⟨g', cap, cur, hv, hb, hg, hn, hm, hs, ht⟩
  · cases h
  · cases hv
    refine ⟨by rw [List.length_take, h.1]; omega, .inr ⟨g, c, cur, rfl, hb, hg, by omega, hm, hs, ?_⟩⟩
    rw [← ht, List.take_take, Nat.min_eq_left hle]
theorem own_far {W : World} {base : Nat} {e : TypeId} {size i g c : Nat} {xs : List Value} (h : W.ownsRow base e size (.slice (some ⟨g, 0, none⟩) i c) i xs) (j : Nat) (u : Value) (hj : xs.length ≤ j) :
    (W.setCell ⟨g, j, none⟩ u).ownsRow base e size (.slice (some ⟨g, 0, none⟩) i c) i xs := by
  rcases h.2 with ⟨h, _⟩ | ⟨g', cap, cur, hv, hb, hg, hn, hm, hs, ht⟩
  · cases h
  · cases hv
    refine ⟨h.1, .inr ⟨g, c, cur.setIfInBounds j u, rfl, hb, blk_set hg j u, hn, hm, by simpa using hs, ?_⟩⟩
    have hl := h.1
    rw [Array.toList_setIfInBounds, List.take_set, List.set_eq_of_length_le (by rw [ht]; exact hj), ht]
theorem grown_one (W : World) (g j : Nat) (u : Value) : W.grownBy (W.setCell ⟨g, j, none⟩ u) (some g) := ⟨rfl, rfl, rfl, by simp [World.setCell], fun k _ hk => Below.heap_setCell W ⟨g, j, none⟩ u k (fun he => hk (by rw [he]))⟩
theorem grown_set {W W1 : World} {g : Nat} (h : W.grownBy W1 (some g)) (j : Nat) (u : Value) : W.grownBy (W1.setCell ⟨g, j, none⟩ u) (some g) := h.trans (grown_one W1 g j u)
theorem own_cells : ∀ (cs : List Value) {W : World} {base : Nat} {e : TypeId} {size i g c : Nat} {xs : List Value} (h : W.ownsRow base e size (.slice (some ⟨g, 0, none⟩) i c) i xs) (j : Nat) (hj : xs.length ≤ j),
    (W.setCells g j cs).ownsRow base e size (.slice (some ⟨g, 0, none⟩) i c) i xs ∧ W.grownBy (W.setCells g j cs) (some g) := by
  intro cs
  induction cs with
  | nil => intro W base e size i g c xs h j hj; exact ⟨h, ⟨rfl, rfl, rfl, Nat.le_refl _, fun _ _ _ => rfl⟩⟩
  | cons u cs ih =>
    intro W base e size i g c xs h j hj
    obtain ⟨h1, h2⟩ := ih (own_far h j u hj) (j + 1) (by omega)
    exact ⟨h1, (grown_one W g j u).trans h2⟩
theorem grown_below {W W1 W2 : World} {r : Option Nat} (h : W.grownBy W1 r) (hb : Below W1.heap.size W1 W2) : W.grownBy W2 r := h.trans (grown_of_below hb r)
theorem flat_set3 : ∀ (X : List Tg) (i : Nat) (t : Tg), i < X.length → (((X.flatMap encT).set (i * 3) (.int .i64 t.1.1)).set (i * 3 + 1) (.int .i64 t.1.2)).set (i * 3 + 2) (.int .i64 t.2) = (X.set i t).flatMap encT := by
  intro X
  induction X with
  | nil => intro i t h; simp at h
  | cons x X ih =>
    intro i t h
    cases i with
    | zero => simp [List.flatMap_cons, encT]
    | succ i =>
      have e : (i + 1) * 3 = i * 3 + 3 := by omega
      rw [List.set_cons_succ, List.flatMap_cons, List.flatMap_cons, ← ih i t (by simpa using h), e]
      simp [encT]
theorem zero_tg : ∀ w : World, (zeroValue 46).run Tryz.prog w = .ok (.agg #[.int .i64 0, .int .i64 0, .int .i64 0]) w := fun _ => by kernel_rfl
theorem zeroCells3 (n : Nat) : (Builtin.zeroCells #[.int .i64 0, .int .i64 0, .int .i64 0] n).toList = List.replicate (n * 3) (.int .i64 0) := by
  simp only [Builtin.zeroCells]
  apply List.ext_getElem
  · simp
  · intro i h1 h2
    have hi : i % 3 < 3 := Nat.mod_lt _ (by decide)
    simp only [List.getElem_replicate]
    rcases (by omega : i % 3 = 0 ∨ i % 3 = 1 ∨ i % 3 = 2) with h | h | h <;> simp [h]
theorem run_clear3 (w : World) (ty : TypeId) (b o n c : Nat) (hn : 0 < n)
    (hc : ∀ j, j < n * 3 → (w.cell? ⟨b, o + j, none⟩).isSome = true) (hf : ∀ j, j < n * 3 → w.frozen? ⟨b, o + j, none⟩ = false) :
    (Builtin.clear_ #[120] ty #[.slice (some ⟨b, o, none⟩) n c]).run Tryz.prog w = .ok (.tuple #[]) (w.setCells b o (List.replicate (n * 3) (.int .i64 0))) := by
  have hst := run_storeCells_cells (P := Tryz.prog) b o (List.replicate (n * 3) (.int .i64 0)) 0 w (by simpa using hc) (by simpa using hf) (by intro v hv'; rw [List.eq_of_mem_replicate hv']; rfl)
  simp only [Nat.add_zero] at hst
  obtain ⟨m, rfl⟩ : ∃ m, n = m + 1 := ⟨n - 1, by omega⟩
  simp [Builtin.clear_, run_underlying Tryz.underlying120, zero_tg, Value.cells, zeroCells3, hst]
theorem remove_snoc (L : List Tg) (t : Tg) (o : Int) : remove (L ++ [t]) o = if mine o t = true then remove L o else remove L o ++ [t] := by
  unfold remove mine
  rw [List.filter_append]
  by_cases h : t.2 = o <;> simp [h]

def DelIs (W : World) (base : Nat) (v : Value) (L : List Tg) (o : Int) (e : Ending) (w' : World) : Prop :=
  ∃ v', e = .returned v' ∧ RowT w' base v' (remove L o) ∧ v'.ownBlock = v.ownBlock ∧ W.grownBy w' v.ownBlock
def DelAt (W : World) (base g c : Nat) (L : List Tg) (o : Int) (i j : Nat) (wr : World) : Prop :=
  ∃ X : List Tg, X.length = L.length ∧ i = (remove (L.take j) o).length ∧ X.take i = remove (L.take j) o ∧ X.drop j = L.drop j ∧
    wr.ownsRow base 46 3 (.slice (some ⟨g, 0, none⟩) L.length c) L.length (X.flatMap encT) ∧ W.grownBy wr (some g)
theorem drop_next {X L : List Tg} {j : Nat} (h : X.drop j = L.drop j) : X.drop (j + 1) = L.drop (j + 1) := by
  rw [← List.drop_drop, ← List.drop_drop, h]
theorem get_of_drop {X L : List Tg} {j : Nat} (h : X.drop j = L.drop j) : rdT X j = rdT L j := by
  have : (X.drop j)[0]? = (L.drop j)[0]? := by rw [h]
  simp only [List.getElem?_drop, Nat.add_zero] at this
  simp [rdT, List.getD_eq_getElem?_getD, this]
theorem DelAt.skip {W wr w1 : World} {base g c : Nat} {L : List Tg} {o : Int} {i j : Nat} (h : DelAt W base g c L o i j wr) (hj : j < L.length) (hm : mine o (rdT L j) = true) (hb : Below wr.heap.size wr w1) : DelAt W base g c L o i (j + 1) w1 := by
  obtain ⟨X, h1, h2, h3, h4, h5, h6⟩ := h
  have e : remove (L.take (j + 1)) o = remove (L.take j) o := by rw [take_snoc' L j hj ((0, 0), 0), show L.getD j ((0, 0), 0) = rdT L j from rfl, remove_snoc, if_pos hm]
  exact ⟨X, h1, by rw [e]; exact h2, by rw [e]; exact h3, drop_next h4, pw_own_below h5 hb, grown_below h6 hb⟩
theorem DelAt.keep {W wr w1 : World} {base g c : Nat} {L : List Tg} {o : Int} {i j : Nat} (h : DelAt W base g c L o i j wr) (hij : i < j) (hj : j < L.length) (t : Tg) (ht : rdT L j = t) (hm : mine o t = false) (hb : Below wr.heap.size wr w1) :
    DelAt W base g c L o (i + 1) (j + 1) (((w1.setCell ⟨g, i * 3, none⟩ (.int .i64 t.1.1)).setCell ⟨g, i * 3 + 1, none⟩ (.int .i64 t.1.2)).setCell ⟨g, i * 3 + 2, none⟩ (.int .i64 t.2)) := by
  obtain ⟨X, h1, h2, h3, h4, h5, h6⟩ := h
  have e : remove (L.take (j + 1)) o = remove (L.take j) o ++ [t] := by
    rw [take_snoc' L j hj ((0, 0), 0), show L.getD j ((0, 0), 0) = t from ht, remove_snoc, if_neg (by rw [hm]; decide)]
  have hi : i < X.length := by omega
  have hl : (X.flatMap encT).length = X.length * 3 := encT_len X
  have g1 := pw_own_below h5 hb
  have g2 := own_set g1 (i * 3) (.int .i64 t.1.1) (by omega)
  have g3 := own_set g2 (i * 3 + 1) (.int .i64 t.1.2) (by rw [List.length_set]; omega)
  have g4 := own_set g3 (i * 3 + 2) (.int .i64 t.2) (by rw [List.length_set, List.length_set]; omega)
  rw [flat_set3 X i t hi] at g4
  refine ⟨X.set i t, by rw [List.length_set]; exact h1, by rw [e, List.length_append]; simp; exact h2, ?_, ?_, g4, grown_set (grown_set (grown_set (grown_below h6 hb) _ _) _ _) _ _⟩
  · rw [e, ← h3, List.take_succ_eq_append_getElem (by rw [List.length_set]; exact hi), List.getElem_set_self, List.take_set, List.set_eq_of_length_le (by rw [List.length_take]; omega)]
  · rw [List.drop_set_of_lt (by omega)]
    exact drop_next h4
theorem del_nil (fv : Value) (W : World) : Calls Tryz.prog 74 #[.slice none 0 0, fv] W fun e w' => e = .returned (.slice none 0 0) ∧ w' = W := by
  go_enter Tryz.func74, Tryz.ntmps74
  go_wp2_with fail
  refine (index_nil _ _).mono ?_
  rintro e w' ⟨rfl, rfl⟩
  go_wp2
  go_ret
  exact ⟨rfl, rfl⟩
theorem remove_all {L : List Tg} {o : Int} (h : ∀ j, j < L.length → mine o L[j]! = false) : remove L o = L := by
  unfold remove
  rw [List.filter_eq_self]
  intro t ht
  obtain ⟨j, hj, rfl⟩ := List.getElem_of_mem ht
  have := h j hj
  rw [getElem!_pos L j hj] at this
  simpa [mine] using this
set_option maxHeartbeats 2000000 in
set_option maxRecDepth 100000 in
theorem del_any (base : Nat) (v : Value) (L : List Tg) (o : Int) (B : Nat) (W : World) (hr : RowT W base v L) (hm : L.length ≤ 1099511627776) (hc : W.cell? ⟨B, 0, none⟩ = some (.int .i64 o)) (hB : v.ownBlock ≠ some B) :
    Calls Tryz.prog 74 #[v, .func (.func 75) #[] #[.pointer (some ⟨B, 0, none⟩)]] W (DelIs W base v L o) := by
  rcases row_slice hr with ⟨rfl, h0⟩ | ⟨g, c, rfl, hn, hb, hg⟩
  · have hL : L = [] := List.length_eq_zero_iff.1 h0
    subst hL
    refine (del_nil _ W).mono ?_
    rintro e w' ⟨rfl, rfl⟩
    exact ⟨_, rfl, hr, rfl, ⟨rfl, rfl, rfl, Nat.le_refl _, fun _ _ _ => rfl⟩⟩
  · have eg : ∀ args w, (callFunc 75 args).run Tryz.prog w = .ok (.enter 75 args) w := enters_of Tryz.func75 (by kernel_rfl) rfl
    have hIF := AnyQ.slices_IndexFunc Tryz.indexT 3 Tryz.isAgg46 Tryz.sizeOf46 encT (fun _ => rfl) (mine o) 75 #[.pointer (some ⟨B, 0, none⟩)] eg g 0 L.length c L W (predR o B W hc) (Nat.le_refl _) (by omega) hg (row_hc hr)
    change Calls Tryz.prog 96 _ _ _ at hIF
    rw [List.take_length] at hIF
    have hBg : B ≠ g := fun h => hB (by rw [h]; rfl)
    have HR := Lib.hid hr
    have HC := Lib.hid hc
    have HIF := Lib.hid hIF
    have HBg := Lib.hid hBg
    clear hr hc hIF hB hBg
    rcases idxByFrom_spec (fun _ y => mine o y) default L 0 with ⟨e1, hall⟩ | ⟨k0, hk0, e1, ht, hall⟩
    · have e2 : Lib.idxBy (fun _ y => mine o y) L default = -1 := e1
      have HF : Hid (remove L o = L) := remove_all hall
      rw [e2] at HIF
      clear hall e1 e2
      go_enter Tryz.func74, Tryz.ntmps74
      go_wp2_with fail
      refine HIF.out.mono ?_
      rintro e w1 ⟨rfl, hb1⟩
      go_wp2
      go_ret
      exact ⟨_, rfl, by rw [HF.out]; exact pw_own_below HR.out hb1, rfl, grown_of_below hb1 _⟩
    · have e2 : Lib.idxBy (fun _ y => mine o y) L default = (k0 : Int) := by unfold Lib.idxBy; rw [e1]; simp
      rw [e2] at HIF
      have hne1 : ((k0 : Int) == -1) = false := beq_eq_false_iff_ne.2 (by omega)
      have hpre : remove (L.take k0) o = L.take k0 := remove_all (fun j hj => by
        rw [List.length_take] at hj
        have := hall j (by omega)
        rw [getElem!_pos L j (by omega)] at this
        rw [getElem!_pos _ j (by rw [List.length_take]; omega), List.getElem_take]
        exact this)
      have hpre2 : remove (L.take (k0 + 1)) o = L.take k0 := by
        rw [take_snoc' L k0 hk0 ((0, 0), 0), remove_snoc, if_pos ?_, hpre]
        rw [getElem!_pos L k0 hk0] at ht
        simpa [List.getD_eq_getElem?_getD, List.getElem?_eq_getElem hk0] using ht
      have HP := Lib.hid hpre2
      clear hall ht e1 e2 hpre hpre2
      go_enter Tryz.func74, Tryz.ntmps74
      go_wp2_with fail
      refine HIF.out.mono ?_
      rintro e w1 ⟨rfl, hb1⟩
      have HA0 : Hid (DelAt W base g c L o k0 (k0 + 1) w1) := Lib.hid ⟨L, rfl, by rw [HP.out, List.length_take]; omega, by rw [HP.out], rfl, pw_own_below HR.out hb1, grown_of_below hb1 _⟩
      clear HP hb1 HIF
      go_wp2_with fail
      go_loopg [5, 6, 7] L.length (fun gg s5 s6 _ wr => ∃ i j : Nat, s5 = .int .i64 i ∧ s6 = .int .i64 j ∧ i < j ∧ j ≤ L.length ∧ L.length - j ≤ gg ∧ Hid (DelAt W base g c L o i j wr))
      case atStart => exact ⟨k0, k0 + 1, rfl, by go_num, by omega, by omega, by omega, HA0⟩
      case round =>
        clear HA0
        obtain ⟨i, j, rfl, rfl, hij, hj, hgg, HA⟩ := hrel
        have hsz := HA.out.choose_spec.2.2.2.2.2.size
        have hgr := HA.out.choose_spec.2.2.2.2.2
        have hBlt : B < W.heap.size := World.block_lt_of_cell? W _ HC.out
        have cB : wr.cell? ⟨B, 0, none⟩ = some (.int .i64 o) := hgr.cell HC.out (by have := HBg.out; simpa using this)
        have hgl : g < wr.heap.size := by omega
        have hng : wr.heap.size ≠ g := by omega
        clear hgr
        by_cases hlt : j < L.length
        · obtain ⟨X, h1, h2, h3, h4, h5, h6⟩ := HA.out
          obtain ⟨c0, c1, c2, _⟩ := tg_cells (c := c) (n := L.length) h5 j (by omega)
          obtain ⟨d0, d1, d2, f0, f1, f2⟩ := tg_cells (c := c) (n := L.length) h5 i (by omega)
          rw [get_of_drop h4] at c0 c1 c2
          generalize hy : rdT L j = y at c0 c1 c2
          generalize rdT X i = old at d0 d1 d2
          have HY := Lib.hid hy
          clear h1 h2 h3 h4 h5 h6 hy
          have hcall := remC_any o B y (wr.alloc (.cells #[.int .i64 y.1.1, .int .i64 y.1.2, .int .i64 y.2] 46)) (cell_alloc_old _ cB)
          have HCall := Lib.hid hcall
          clear hcall
          cases hq : mine o y with
          | true =>
            rw [hq] at HCall
            have HQ := Lib.hid hq
            clear hq d0 d1 d2 f0 f1 f2
            go_wp2_with (go_at_fn 75; refine HCall.out.mono ?_; rintro e w2 ⟨rfl, hb2⟩)
            go_roundg (L.length - (j + 1))
            case measure => omega
            case rel => exact ⟨i, j + 1, rfl, by go_num, by omega, by omega, Nat.le_refl _, Lib.hid (HA.out.skip hlt (by rw [HY.out]; exact HQ.out) (below_then (below_alloc (Below.refl _ _) _) (by simp) hb2))⟩
          | false =>
            rw [hq] at HCall
            have HQ := Lib.hid hq
            clear hq
            go_wp2_with fail
            refine HCall.out.mono ?_
            rintro e w2 ⟨rfl, hb2⟩
            have hb3 : Below wr.heap.size wr w2 := below_then (below_alloc (Below.refl _ _) _) (by simp) hb2
            have y0 : w2.cell? ⟨wr.heap.size, 0, none⟩ = some (.int .i64 y.1.1) := (hb2.cell (p := ⟨wr.heap.size, 0, none⟩) (by simp)).trans (blk_cell (newAt wr _ _ rfl) 0)
            have y1 : w2.cell? ⟨wr.heap.size, 1, none⟩ = some (.int .i64 y.1.2) := (hb2.cell (p := ⟨wr.heap.size, 1, none⟩) (by simp)).trans (blk_cell (newAt wr _ _ rfl) 1)
            have y2 : w2.cell? ⟨wr.heap.size, 2, none⟩ = some (.int .i64 y.2) := (hb2.cell (p := ⟨wr.heap.size, 2, none⟩) (by simp)).trans (blk_cell (newAt wr _ _ rfl) 2)
            replace d0 := (hb3.cell (p := ⟨g, i * 3, none⟩) hgl).trans d0
            replace d1 := (hb3.cell (p := ⟨g, i * 3 + 1, none⟩) hgl).trans d1
            replace d2 := (hb3.cell (p := ⟨g, i * 3 + 2, none⟩) hgl).trans d2
            replace f0 := (hb3.frozen (p := ⟨g, i * 3, none⟩) hgl).trans f0
            replace f1 := (hb3.frozen (p := ⟨g, i * 3 + 1, none⟩) hgl).trans f1
            replace f2 := (hb3.frozen (p := ⟨g, i * 3 + 2, none⟩) hgl).trans f2
            have HB3 := Lib.hid hb3
            clear hb3 hb2 c0 c1 c2 cB
            go_wp2
            go_roundg (L.length - (j + 1))
            case measure => omega
            case rel => exact ⟨i + 1, j + 1, by go_num, by go_num, by omega, by omega, Nat.le_refl _, Lib.hid (HA.out.keep hij hlt y HY.out HQ.out HB3.out)⟩
        · obtain rfl : j = L.length := by omega
          obtain ⟨X, h1, h2, h3, h4, h5, h6⟩ := HA.out
          rw [List.take_length] at h2 h3
          have hic : i < c := by omega
          have hcl : ∀ ty, (Builtin.clear_ #[120] ty #[.slice (some ⟨g, i * 3, none⟩) (L.length - i) (c - i)]).run Tryz.prog wr = .ok (.tuple #[]) (wr.setCells g (i * 3) (List.replicate ((L.length - i) * 3) (.int .i64 0))) := fun ty =>
            run_clear3 wr ty g (i * 3) _ _ (by omega)
              (fun q hq => by
                have hl : (X.flatMap encT).length = L.length * 3 := by rw [encT_len, h1]
                have := row_cells h5 (i * 3 + q) _ (List.getElem?_eq_getElem (by omega))
                rw [this.1]; rfl)
              (fun q hq => by
                have hl : (X.flatMap encT).length = L.length * 3 := by rw [encT_len, h1]
                exact (row_cells h5 (i * 3 + q) _ (List.getElem?_eq_getElem (by omega))).2)
          have hfin := own_cells (List.replicate ((L.length - i) * 3) (.int .i64 0)) (own_take h5 i (by omega)) (i * 3) (by rw [List.length_take]; omega)
          have hflat : (X.flatMap encT).take (i * 3) = (remove L o).flatMap encT := by
            rw [← h3]
            conv => lhs; rw [← List.take_append_drop i X, List.flatMap_append]
            rw [List.take_append_of_le_length (by rw [encT_len, List.length_take]; omega), List.take_of_length_le (by rw [encT_len, List.length_take]; omega)]
          rw [hflat] at hfin
          have HFin : Hid (DelIs W base (.slice (some ⟨g, 0, none⟩) L.length c) L o (.returned (.slice (some ⟨g, 0, none⟩) i c)) (wr.setCells g (i * 3) (List.replicate ((L.length - i) * 3) (.int .i64 0)))) :=
            ⟨_, rfl, by unfold RowT; rw [← h2]; exact hfin.1, rfl, h6.trans hfin.2⟩
          clear hfin hflat h1 h2 h3 h4 h5 h6 HA cB
          go_wp2
          go_ret
          exact HFin.out
end Go.Proofs.YtohpimfanplloaaGreat.IvF
