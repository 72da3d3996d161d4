/- Stores and loads of many cells of a block that is known whole. -/
import Derived.Test.YtohpimfanplloaaGreatDoorZGCx0
import Derived.WalkKit
import Derived.Deep.MidRow
set_option linter.unusedVariables false
set_option linter.unusedSimpArgs false
namespace Go.Proofs.YtohpimfanplloaaGreatDoor.StM
open Go.RowKit Go.Proofs.YtohpimfanplloaaGreatDoorW.PrintWords Go.Proofs.YtohpimfanplloaaGreatDoorW.PrintLast Go.Proofs.YtohpimfanplloaaGreatDoorW.PrintMore
/-- The cells, with a list laid over them from a place on. -/
def putL (cs : Array Value) (o : Nat) : List Value → Array Value
  | [] => cs
  | v :: r => putL (cs.setIfInBounds o v) (o + 1) r
theorem putL_eq : ∀ (vs : List Value) (o : Nat) (cs : Array Value), o + vs.length ≤ cs.size → putL cs o vs = (cs.toList.take o ++ (vs ++ cs.toList.drop (o + vs.length))).toArray
  | [], o, cs, _ => by
    apply Array.ext'
    simp [putL]
  | v :: r, o, cs, h => by
    have h' : o < cs.toList.length := by simp at h ⊢; omega
    rw [putL, putL_eq r (o + 1) _ (by simp at h ⊢; omega)]
    apply Array.ext'
    simp only [Array.toList_setIfInBounds, List.length_cons]
    rw [List.take_set, List.take_succ_eq_append_getElem h', List.set_append_right _ _ (by simp; omega), List.drop_set_of_lt (by omega)]
    have e1 : (List.take o cs.toList).length = o := by rw [List.length_take]; omega
    rw [e1]
    simp [show o + 1 + r.length = o + (r.length + 1) by omega]
theorem blk_setCells {g : Nat} {t : TypeId} : ∀ (vs : List Value) (o : Nat) {w : World} {cs : Array Value}, w.heap[g]? = some (.cells cs t (0, 0)) → (w.setCells g o vs).heap[g]? = some (.cells (putL cs o vs) t (0, 0))
  | [], _, _, _, h => h
  | v :: r, o, _, _, h => blk_setCells r (o + 1) (blk_put h o v rfl)
theorem grown_setCells {g : Nat} : ∀ (vs : List Value) (o : Nat) {w w0 : World}, w0.grownBy w (some g) → w0.grownBy (w.setCells g o vs) (some g)
  | [], _, _, _, h => h
  | v :: r, o, w, w0, h => by
    refine grown_setCells r (o + 1) (h.trans ⟨rfl, rfl, rfl, by simp [World.setCell], fun k _ hk => Below.heap_setCell w ⟨g, o, none⟩ v k (fun he => hk (by rw [he]))⟩)
theorem there_blk {w : World} {g : Nat} {t : TypeId} {cs : Array Value} (hb : w.heap[g]? = some (.cells cs t (0, 0))) (o n : Nat) (h : o + n ≤ cs.size) : w.there g o n := fun j hj =>
  ⟨by rw [blk_cell hb, Array.getElem?_eq_getElem (by omega)]; rfl, blk_frozen hb _⟩
theorem wpList_store_blk {P : Program} {ops : Array Oper} {rest : List Oper} {op : Oper} {a : Act} {w : World} {Q : Exit → Act → World → Prop} (hgd : op.guard = none) (ty : TypeId) (x y : Operand) (ho : op.op = .store ty x y)
    (g o : Nat) (cells : Array Value) (hx : a.eval x = .pointer (some ⟨g, o, none⟩)) (hy : a.eval y = .agg cells) (old new : Array Value) (t : TypeId) (hb : w.heap[g]? = some (.cells old t (0, 0))) (hle : o + cells.size ≤ old.size) (hn : (old.toList.take o ++ (cells.toList ++ old.toList.drop (o + cells.toList.length))).toArray = new)
    (hi : (P.info? ty).map (·.size) = some cells.size) (h1 : cells.toList.all (fun v => v.oneCell') = true)
    (h : ∀ w1, w1.heap[g]? = some (.cells new t (0, 0)) → w.grownBy w1 (some g) → wpList P ops Q rest (a.put op.dst undef) w1) : wpList P ops Q (op :: rest) a w :=
  wpList_store_mid hgd ty x y ho g o cells hx hy (there_blk hb o _ hle) hi (Array.all_eq_true_iff_forall_mem.2 (fun v hv => List.all_eq_true.1 h1 v (by simpa using hv))) (h _ (by rw [← hn, ← putL_eq cells.toList o old (by simpa using hle)]; exact blk_setCells cells.toList o hb) (grown_setCells _ _ ⟨rfl, rfl, rfl, Nat.le_refl _, fun _ _ _ => rfl⟩))
theorem wpList_load_blk {P : Program} {ops : Array Oper} {rest : List Oper} {op : Oper} {a : Act} {w : World} {Q : Exit → Act → World → Prop} (hgd : op.guard = none) (ty : TypeId) (x : Operand) (ho : op.op = .load ty x)
    (g o : Nat) (hx : a.eval x = .pointer (some ⟨g, o, none⟩)) (n : Nat) (old cs : Array Value) (t : TypeId) (hb : w.heap[g]? = some (.cells old t (0, 0))) (hcs : old.extract o (o + n) = cs) (d : TypeDesc)
    (hu : P.underlying ty = some d) (hd : d.isRow = true) (hi : (P.info? ty).map (·.size) = some n) (hn : cs.size = n)
    (h : wpList P ops Q rest (a.put op.dst (.agg cs)) w) : wpList P ops Q (op :: rest) a w := by
  subst hcs
  exact wpList_load_mid hgd ty x ho g o hx (old.extract o (o + n)).toList d (World.rangeAt_of_block hb o n) hu hd (by rw [hi]; exact congrArg some hn.symm) h
end Go.Proofs.YtohpimfanplloaaGreatDoor.StM
