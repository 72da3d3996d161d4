/- Arguments of any readable type, opened: what a datum of a type reads as, type by type. -/
import Derived.Test.YtohpimfanplloaaGreatDoorProg
import Derived.WalkKit
import Derived.ProofKit
import Derived.ChangeArms
import Derived.Deep.Slices
import Derived.Carry
import Derived.Test.YtohpimfanplloaaGreatDoorZV
set_option linter.unusedVariables false
namespace Go.Proofs.YtohpimfanplloaaGreatDoor.Opn
open Go.ChangeShapes Go.WideShapes Go.ChangeAt Go.RowKit Go.Deep Go.Proofs.YtohpimfanplloaaGreatDoorW.PrintWords

structure Opens {α : Type} (P : Program) (t : TypeId) (d : Kd α) (ok : α → Prop) : Prop where
  out : ∀ {H : Type} {enc : TypeId × Value → H} {w : World} {base : Nat} {spare : Nat → Bool} {held : Bool} {fuel : Nat} {cs : List Value} {x : DataW H × List MemPlace},
    DataW.trod enc P w base spare held fuel t cs = some x → ∃ a, d.K w a cs ∧ ok a

theorem opens_int {P : Program} {t : TypeId} {k : IntKind} (ht : P.underlying t = some (.int k)) : Opens P t (Kd.int k) (fun n => (Lit.int k n).wf = true) :=
  ⟨fun h => by
    obtain ⟨n, rfl, _, hw⟩ := DataW.trod_int ht h
    exact ⟨n, rfl, hw⟩⟩
theorem opens_bool {P : Program} {t : TypeId} (ht : P.underlying t = some .bool) : Opens P t Kd.bool (fun _ => True) :=
  ⟨fun h => by
    obtain ⟨n, rfl, _⟩ := DataW.trod_bool ht h
    exact ⟨n, rfl, trivial⟩⟩
theorem opens_string {P : Program} {t : TypeId} (ht : P.underlying t = some .string) : Opens P t Kd.string (fun s => s.size ≤ maxLen) :=
  ⟨fun h => by
    obtain ⟨n, rfl, _, hw⟩ := DataW.trod_string ht h
    exact ⟨n, rfl, hw⟩⟩

theorem exists_list {α : Type} {Q : Nat → α → Prop} : ∀ n, (∀ i, i < n → ∃ y, Q i y) → ∃ xs : List α, xs.length = n ∧ ∀ i y, xs[i]? = some y → Q i y := by
  intro n
  induction n with
  | zero => intro _; exact ⟨[], rfl, fun i y h => by simp at h⟩
  | succ n ih =>
    intro h
    obtain ⟨xs, hl, hx⟩ := ih (fun i hi => h i (Nat.lt_succ_of_lt hi))
    obtain ⟨y, hy⟩ := h n (Nat.lt_succ_self n)
    refine ⟨xs ++ [y], by simp [hl], fun i z hz => ?_⟩
    by_cases hi : i < xs.length
    · rw [List.getElem?_append_left hi] at hz
      exact hx i z hz
    · have hi2 : i < (xs ++ [y]).length := (List.getElem?_eq_some_iff.1 hz).1
      have : i = n := by simp at hi2; omega
      subst this
      rw [List.getElem?_append_right (by omega), hl] at hz
      simp at hz
      subst hz
      exact hy

theorem opens_slice {α : Type} {P : Program} {t e : TypeId} {d : Kd α} {ok : α → Prop} (ht : P.underlying t = some (.slice e)) (hs : d.sz = P.cellsOf e) (he : Opens P e d ok) :
    Opens P t (Kd.slice e d) (fun xs => xs.length ≤ maxLen ∧ ∀ x ∈ xs, ok x) :=
  ⟨fun {H enc w base spare held fuel cs x} h => by
    rcases open_slice ht h with ⟨rfl, _⟩ | ⟨a, len, cap, m, n, D, Pl, rfl, hb, hl, hm, hmm, _, hi⟩
    · exact ⟨[], ⟨none, 0, rfl, Nat.le_refl _, rfl, by simp, fun h => absurd h (by simp)⟩, by simp, by simp⟩
    · have hle : len ≤ m := by rw [hmm]; split <;> omega
      obtain ⟨xs, hxl, hx⟩ := exists_list (Q := fun i (y : α) => ok y ∧ ∃ c, c.length = d.sz ∧ d.K w y c ∧ ∀ j u, c[j]? = some u → w.cell? (a.add (i * d.sz + j)) = some u) len (fun i hil => by
        obtain ⟨cs', hc, htr⟩ := hi i (by omega)
        obtain ⟨y, hy, hok⟩ := he.out htr
        obtain ⟨_, hcl, hat⟩ := World.cells?_some hc
        refine ⟨y, hok, cs', by rw [hcl, hs], hy, fun j u hu => ?_⟩
        have hj := (List.getElem?_eq_some_iff.1 hu).1
        have h2 := hat j (by omega)
        rw [hu] at h2
        rw [← h2, Go.Deep.add_add, hs])
      have hm' : len ≤ 9223372036854775807 := by unfold maxLen at hm; omega
      refine ⟨xs, ⟨some a, cap, by rw [hxl], by omega, rfl, by omega, fun _ => ⟨a, rfl, fun j p hp => ?_⟩⟩, by omega, fun x hxm => ?_⟩
      · exact (hx j p hp).2
      · obtain ⟨i, hi⟩ := List.getElem?_of_mem hxm
        exact (hx i x hi).1⟩

def OpensAt {α : Type} (P : Program) (fs : List Field) (off : Nat) (d : Kd α) (ok : α → Prop) : Prop :=
  ∀ {H : Type} {enc : TypeId × Value → H} {w : World} {base : Nat} {spare : Nat → Bool} {held : Bool} {n : Nat} {cs : List Value},
    (∀ f ∈ fs, ∃ x, DataW.trod enc P w base spare held n f.type ((cs.drop f.offset).take (P.cellsOf f.type)) = some x) → cs.length = off + d.sz → ∃ a, d.K w a (cs.drop off) ∧ ok a

theorem opensAt_one {α : Type} {P : Program} {f : Field} {off : Nat} {d : Kd α} {ok : α → Prop} (hoff : f.offset = off) (hsz : d.sz = P.cellsOf f.type) (h : Opens P f.type d ok) : OpensAt P [f] off d ok := by
  intro H enc w base spare held n cs hf hl
  obtain ⟨x, hx⟩ := hf f (by simp)
  obtain ⟨a, ha, hok⟩ := h.out hx
  refine ⟨a, ?_, hok⟩
  rw [hoff, List.take_of_length_le (by rw [List.length_drop]; omega)] at ha
  exact ha
theorem opensAt_cons {α β : Type} {P : Program} {f : Field} {fs : List Field} {off : Nat} {d : Kd α} {d' : Kd β} {ok : α → Prop} {ok' : β → Prop} (hoff : f.offset = off) (hsz : d.sz = P.cellsOf f.type)
    (h : Opens P f.type d ok) (hr : OpensAt P fs (off + d.sz) d' ok') : OpensAt P (f :: fs) off (Kd.pair d d') (fun p => ok p.1 ∧ ok' p.2) := by
  intro H enc w base spare held n cs hf hl
  obtain ⟨x, hx⟩ := hf f (by simp)
  obtain ⟨a, ha, hok⟩ := h.out hx
  have hl' : cs.length = off + (d.sz + d'.sz) := hl
  obtain ⟨b, hb, hok'⟩ := hr (fun g hg => hf g (by simp [hg])) (by omega)
  refine ⟨(a, b), ⟨(cs.drop off).take d.sz, cs.drop (off + d.sz), ?_, ?_, hb⟩, hok, hok'⟩
  · rw [← List.drop_drop, List.take_append_drop]
  · rw [hoff, ← hsz] at ha
    exact ha
theorem opens_struct {α : Type} {P : Program} {t : TypeId} {fs : List Field} {d : Kd α} {ok : α → Prop} (ht : P.underlying t = some (.struct fs.toArray)) (hc : P.cellsOf t = d.sz) (h : OpensAt P fs 0 d ok) : Opens P t d ok :=
  ⟨fun {H enc w base spare held fuel cs x} hx => by
    obtain ⟨xs, n, _, _, hl, hxs, hf⟩ := DataW.trod_struct ht hx
    obtain ⟨a, ha, hok⟩ := h (enc := enc) (w := w) (base := base) (spare := spare) (held := held) (n := n) (cs := cs) (fun f hfm => by
      obtain ⟨i, hi⟩ := List.getElem?_of_mem hfm
      have h2 := hf i f (by simpa using hi)
      have hi' := (List.getElem?_eq_some_iff.1 hi).1
      have : i < xs.length := by rw [hxs]; simpa using hi'
      exact ⟨xs[i], by rw [h2, List.getElem?_eq_getElem this]⟩) (by rw [hl, hc]; omega)
    exact ⟨a, by simpa using ha, hok⟩⟩

theorem K_pair {α β : Type} {a : Kd α} {b : Kd β} {w : World} {x : α × β} {cs : List Value} : (Kd.pair a b).K w x cs ↔ ∃ c0 c1, cs = c0 ++ c1 ∧ a.K w x.1 c0 ∧ b.K w x.2 c1 := Iff.rfl
theorem K_int {k : IntKind} {w : World} {x : Int} {cs : List Value} : (Kd.int k).K w x cs ↔ cs = [.int k x] := Iff.rfl
theorem K_bool {w : World} {x : Bool} {cs : List Value} : Kd.bool.K w x cs ↔ cs = [.bool x] := Iff.rfl
theorem K_string {w : World} {x : ByteArray} {cs : List Value} : Kd.string.K w x cs ↔ cs = [.string x] := Iff.rfl
theorem K_slice {α : Type} {d : Kd α} {e : Nat} {w : World} {x : List α} {cs : List Value} : (Kd.slice e d).K w x cs ↔ ∃ A c, cs = [.slice A x.length c] ∧ x.length ≤ c ∧ d.C w A x.length x := Iff.rfl

/-- An argument of a struct type. -/
theorem open_agg {α : Type} {H : Type} {enc : TypeId × Value → H} {P : Program} {t : TypeId} {fs : Array Field} {d : Kd α} {ok : α → Prop} {w : World} {r : Reach} {base b0 : Nat} {spare : Nat → Bool} {held : Bool} {v : Value} {dd : DataW H} {p : List MemPlace}
    (ho : Opens P t d ok) (ht : P.underlying t = some (.struct fs)) (hv : Value.okWide P w r b0 t v) (h : DataW.Trod enc P w base spare held t v dd p) :
    ∃ a cs, v = .agg cs ∧ d.K w a cs.toList ∧ ok a := by
  obtain ⟨cs, rfl, _⟩ := okWide_struct ht hv
  obtain ⟨fuel, hf⟩ := h
  obtain ⟨a, ha, hok⟩ := ho.out hf
  exact ⟨a, cs, rfl, ha, hok⟩
/-- An argument that is a slice. -/
theorem open_sl {α : Type} {H : Type} {enc : TypeId × Value → H} {P : Program} {t e : TypeId} {d : Kd α} {ok : List α → Prop} {w : World} {r : Reach} {base b0 : Nat} {spare : Nat → Bool} {held : Bool} {v : Value} {dd : DataW H} {p : List MemPlace}
    (ho : Opens P t (Kd.slice e d) ok) (ht : P.underlying t = some (.slice e)) (hv : Value.okWide P w r b0 t v) (h : DataW.Trod enc P w base spare held t v dd p) :
    ∃ xs A c, v = .slice A xs.length c ∧ xs.length ≤ c ∧ d.C w A xs.length xs ∧ ok xs := by
  obtain ⟨A, len, cap, rfl⟩ := okWide_slice ht hv
  obtain ⟨fuel, hf⟩ := h
  obtain ⟨xs, ⟨A', c', he, hle, hC⟩, hok⟩ := ho.out hf
  simp only [Value.cells, List.cons.injEq, Value.slice.injEq, and_true] at he
  obtain ⟨rfl, rfl, rfl⟩ := he
  exact ⟨xs, A, cap, rfl, hle, hC, hok⟩
end Go.Proofs.YtohpimfanplloaaGreatDoor.Opn
