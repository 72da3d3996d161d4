/- The library's functions that package script calls, in the printed form: their contracts off the shelf. -/
import Derived.Test.YtohpimfanplloaaGreatDoorZGCx0
import Derived.Test.YtohpimfanplloaaGreatDoorZShelf
import Derived.WalkKit
import Derived.WalkSpells
import Derived.Lib.Hide
import Derived.Lib.SplitLaws
set_option linter.unusedVariables false
set_option linter.unusedSimpArgs false
namespace Go.Proofs.YtohpimfanplloaaGreatDoor.GC
open Go.RowKit Go.Proofs.YtohpimfanplloaaGreatDoorW.PrintWords Go.Proofs.YtohpimfanplloaaGreatDoorW.PrintLast Go.Proofs.YtohpimfanplloaaGreatDoorW.PrintMore

/-- An operation of a region that draws, run in the world at hand. -/
theorem run_ {P : Program} {ops : Array Oper} {Q : Exit → Act → World → Prop} {oi : Oper} {N : Option Tmp} {a : Act} {w : World} {K : Act → World → Prop} (v : Value) (hw : Region.wanted oi (yielded ops a.tmps) = true) (hN : oi.dst = N) (hrun : (execOp a.eval oi).run P w = .ok (.value v) w)
    (h : K (a.put N v) w) : if Region.wanted oi (yielded ops a.tmps) = true then Oper.wp P oi a w K Q else K (a.put N undef) w := by
  rw [if_pos hw]
  subst hN
  unfold Oper.wp
  rw [hrun]
  exact h
/-- What the walks ask of the library's variables. -/
structure Glob (w : World) : Prop where
  m : ∃ m : Int, w.cell? ⟨0, 0, none⟩ = some (.int .i64 m)
  s : ∃ v, w.cell? ⟨4, 0, none⟩ = some v ∧ (v = .nilIface ∨ ∃ te pe, v = .iface te pe)
  r : ∃ v, w.cell? ⟨5, 0, none⟩ = some v ∧ (v = .nilIface ∨ ∃ te pe, v = .iface te pe)
  t : Lib.TabIs Tryz.prog w "internal/strconv.uint64pow10" .u64 Lib.pow10Tab
theorem glob_n : Tryz.prog.globalNamed "internal/strconv.uint64pow10" = some 1 := by kernel_rfl
theorem tab_below {n : String} {g : Nat} {k : IntKind} {zs : List Int} {w w' : World} (hg : Tryz.prog.globalNamed n = some g) (h : Lib.TabIs Tryz.prog w n k zs) (hb : Below w.heap.size w w') : Lib.TabIs Tryz.prog w' n k zs := by
  unfold Lib.TabIs World.var? at h ⊢
  rw [hg] at h ⊢
  simp only [Option.bind_some] at h ⊢
  have hlt : g < w.heap.size := by
    rcases Nat.lt_or_ge g w.heap.size with h' | h'
    · exact h'
    · rw [Array.getElem?_eq_none h'] at h; cases h
  rw [hb.block g hlt]
  exact h
theorem Glob.below {w w' : World} (h : Glob w) (hb : Below w.heap.size w w') : Glob w' := by
  obtain ⟨⟨m, hm⟩, ⟨v, hv, hs⟩, ⟨u, hu, hr⟩, ht⟩ := h
  exact ⟨⟨m, (hb.cell (World.block_lt_of_cell? w _ hm)).trans hm⟩, ⟨v, (hb.cell (World.block_lt_of_cell? w _ hv)).trans hv, hs⟩, ⟨u, (hb.cell (World.block_lt_of_cell? w _ hu)).trans hu, hr⟩, tab_below glob_n ht hb⟩
theorem Glob.step {w0 w : World} (h : Glob w0) (hb : Below w0.heap.size w0 w) : Glob w := h.below hb

def strings_Split.f (a0 a1 : ByteArray) : Option (List ByteArray) := if a0.size < 4294967281 ∧ 1 ≤ a1.size then some (Lib.splitB a1 0 (Lib.countB a0 a1) a0) else none
theorem R_strs (w : World) (e : Nat) (l : List ByteArray) (hl : l.length ≤ maxLen) :
    Kd.R Kd.string e (w.alloc (.cells (l.map Value.string).toArray e)) w.heap.size (fun _ => True) (.slice (some ⟨w.heap.size, 0, none⟩) l.length l.length) l := by
  refine Kd.R_of_own ?_ (fun _ _ => trivial)
  have h2 := World.ownsRow_lit (base := w.heap.size) (e := e) (size := 1) w (l.map Value.string).toArray l.length (Nat.le_refl _) hl (by simp)
  simpa [encs] using h2
theorem strings_Split.calls (a0 a1 : ByteArray) (r : List ByteArray) (w : World) (hG : Glob w) (h : strings_Split.f a0 a1 = some r) :
    Calls Tryz.prog 32 #[.string a0, .string a1] w fun e w' => ∃ v0_ : Value, e = .returned (v0_) ∧ Kd.R Kd.string 9 w' w.heap.size (fun _ => True) v0_ r ∧ Below w.heap.size w w' := by
  unfold strings_Split.f at h
  by_cases c : a0.size < 4294967281 ∧ 1 ≤ a1.size
  · rw [if_pos c] at h
    obtain rfl := Option.some.inj h
    obtain ⟨m, hm⟩ := hG.m
    refine (Tryz.strings_Split a0 a1 m w c.1 hm c.2).mono ?_
    rintro e w' ⟨rfl, rfl⟩
    have hl : (Lib.splitB a1 0 (Lib.countB a0 a1) a0).length = Lib.countB a0 a1 + 1 := Lib.splitB_all a1 c.2 0 _ a0 rfl
    have hle := Lib.countB_le a1 c.2 a0.size a0 (Nat.le_refl _)
    refine ⟨_, rfl, ?_, (Below.refl _ _).alloc (Nat.le_refl _) _⟩
    have hR := R_strs w 9 (Lib.splitB a1 0 (Lib.countB a0 a1) a0) (by rw [hl]; unfold maxLen; omega)
    rw [hl] at hR
    exact hR
  · rw [if_neg c] at h; cases h

def strs (l : List ByteArray) : List (List UInt8) := l.map (fun x => x.data.toList)
def strings_Join.f (l : List ByteArray) (s : ByteArray) : Option ByteArray := if (Lib.join (strs l) s.data.toList).length ≤ 140737488355328 ∧ l.length ≤ 140737488355328 then some ⟨(Lib.join (strs l) s.data.toList).toArray⟩ else none
theorem strings_Join.calls (A0 : Option Addr) (c0 : Nat) (l0 : List ByteArray) (a1 : ByteArray) (r : ByteArray) (w : World) (hr0 : Kd.C Kd.string w A0 l0.length l0) (hc0 : l0.length ≤ c0) (hG : Glob w) (h : strings_Join.f l0 a1 = some r) :
    Calls Tryz.prog 60 #[.slice A0 l0.length c0, .string a1] w fun e w' => e = .returned (.string r) ∧ Below w.heap.size w w' := by
  unfold strings_Join.f at h
  by_cases c : (Lib.join (strs l0) a1.data.toList).length ≤ 140737488355328 ∧ l0.length ≤ 140737488355328
  · rw [if_pos c] at h
    obtain rfl := Option.some.inj h
    cases l0 with
    | nil =>
      refine (Tryz.strings_Join_none A0 c0 a1 w).mono ?_
      rintro e w' ⟨rfl, rfl⟩
      exact ⟨rfl, Below.refl _ _⟩
    | cons x t =>
      obtain ⟨ad, rfl, hx⟩ := Kd.at_string hr0 (0 : Int) (by omega) (by simp only [List.length_cons]; omega)
      have hx0 : w.cell? ad = some (.string (rdOf ByteArray.empty (x :: t) 0)) := by simpa [Addr.add] using hx
      have hsp : ad.spot = none := by
        unfold World.cell? at hx0
        split at hx0
        · by_cases hs : ad.spot.isSome
          · rw [if_pos hs] at hx0; cases hx0
          · simpa using hs
        · cases hx0
      obtain ⟨b, o, sp⟩ := ad
      simp only at hsp
      subst hsp
      refine (Tryz.strings_Join b o c0 (x :: t) a1 w ?_ (World.block_lt_of_cell? w _ hx0) c.2 hc0 c.1).mono ?_
      · intro j y hj
        obtain ⟨hlt, hy⟩ := List.getElem?_eq_some_iff.1 hj
        obtain ⟨ad, he, hc⟩ := Kd.at_string hr0 (j : Int) (by omega) (by omega)
        cases he
        rw [Int.toNat_natCast] at hc
        have e1 : Addr.add ⟨b, o, none⟩ j = ⟨b, o + j, none⟩ := by
          unfold Addr.add
          by_cases h0 : j = 0
          · subst h0; rw [if_pos rfl]; rfl
          · rw [if_neg h0]
        rw [e1] at hc
        rw [hc]
        simp [rdOf, hj]
      · rintro e w' ⟨rfl, hb⟩
        exact ⟨rfl, hb⟩
  · rw [if_neg c] at h; cases h

def strconv_Itoa.f (a0 : Int) : Option ByteArray := if -9223372036854775808 ≤ a0 ∧ a0 ≤ 9223372036854775807 then some ⟨(Lib.itoa a0).toArray⟩ else none
theorem below_grown_own (w : World) (q : Nat) (os : Array Obj) : Below w.heap.size w (Sort.grow (w.drewN q) os) :=
  ⟨rfl, rfl, rfl, by first | (simp [Sort.grow]; done) | (simp [Sort.grow]; omega), fun i hi => by
    show ((w.drewN q).heap ++ os)[i]? = _
    rw [Array.getElem?_append_left (by show i < w.heap.size; omega)]
    rfl⟩
theorem strconv_Itoa.calls (a0 : Int) (r : ByteArray) (w : World) (hG : Glob w) (h : strconv_Itoa.f a0 = some r) :
    Calls Tryz.prog 44 #[.int .i64 a0] w fun e w' => e = .returned (.string r) ∧ Below w.heap.size w w' := by
  unfold strconv_Itoa.f at h
  by_cases c : -9223372036854775808 ≤ a0 ∧ a0 ≤ 9223372036854775807
  · rw [if_pos c] at h
    obtain rfl := Option.some.inj h
    refine (Tryz.strconv_Itoa a0 c.1 c.2 w hG.t).mono ?_
    rintro e w' ⟨rfl, k, os, rfl⟩
    exact ⟨rfl, below_grown_own w k os⟩
  · rw [if_neg c] at h; cases h

/-- What Atoi answers for a number, whatever the error. -/
def atoiN (s : ByteArray) : Int := match Lib.atoiAll s.data.toList with
  | .ok v => v
  | .range => Lib.atoiSat s.data.toList
  | _ => 0
def script_number.f (a0 : ByteArray) : Option Int := if a0.size ≤ 281474976710656 then some (atoiN a0) else none
set_option maxHeartbeats 400000 in
theorem script_number.calls (a0 : ByteArray) (r : Int) (w : World) (hG : Glob w) (h : script_number.f a0 = some r) :
    Calls Tryz.prog 56 #[.string a0] w fun e w' => e = .returned (.int .i64 r) ∧ Below w.heap.size w w' := by
  unfold script_number.f at h
  by_cases c : a0.size ≤ 281474976710656
  · rw [if_pos c] at h
    obtain rfl := Option.some.inj h
    have HC : ∃ (q : Int) (v : Value), atoiN a0 = q ∧ Calls Tryz.prog 95 #[.string a0] w (fun e w' => ∃ v : Value, e = .returned (.tuple #[.int .i64 q, v]) ∧ Below w.heap.size w w') := by
      unfold atoiN
      cases ha : Lib.atoiAll a0.data.toList with
      | ok v =>
        refine ⟨v, .nilIface, rfl, (Tryz.strconv_Atoi_ok a0 (by omega) v ha w).mono ?_⟩
        rintro e w' ⟨rfl, hw⟩
        refine ⟨_, rfl, ?_⟩
        rcases hw with rfl | ⟨t, rfl⟩
        · exact Below.refl _ _
        · exact bytes_below (Below.refl _ _) (Nat.le_refl _) 5 t
      | range =>
        obtain ⟨ev, h1, h2⟩ := hG.r
        refine ⟨_, .nilIface, rfl, (Tryz.strconv_Atoi_range a0 c ha ev w h1 h2).mono ?_⟩
        rintro e w' ⟨N, rfl, _, _, hb⟩
        exact ⟨_, rfl, hb⟩
      | _ =>
        obtain ⟨ev, h1, h2⟩ := hG.s
        refine ⟨_, .nilIface, rfl, (Tryz.strconv_Atoi_syntax a0 c (ha.trans rfl) ev w h1 h2).mono ?_⟩
        rintro e w' ⟨N, rfl, _, _, hb⟩
        exact ⟨_, rfl, hb⟩
    obtain ⟨q, _, hq, hc⟩ := HC
    rw [hq]
    clear hq
    have HC := Lib.hid hc
    clear hc hG
    go_enter Tryz.func56, Tryz.ntmps56
    go_wp2_with (go_at_call 95; refine HC.out.mono ?_; rintro e w' ⟨v, rfl, hb⟩)
    go_ret
    exact ⟨rfl, hb⟩
  · rw [if_neg c] at h; cases h

def strings_IndexByte.f (a0 : ByteArray) (a1 : Int) : Option Int := some (Lib.indexByte a0.data.toList a1.toNat.toUInt8)
theorem strings_IndexByte.calls (a0 : ByteArray) (a1 : Int) (r : Int) (w : World) (h : strings_IndexByte.f a0 a1 = some r) :
    Calls Tryz.prog 96 #[.string a0, .int .u8 a1] w fun e w' => e = .returned (.int .i64 r) ∧ Drawn0 w w' := by
  obtain rfl := Option.some.inj h
  refine (Tryz.strings_IndexByte a0 a1 w).mono ?_
  rintro e w' ⟨rfl, rfl⟩
  exact ⟨rfl, Drawn0.refl _⟩
end Go.Proofs.YtohpimfanplloaaGreatDoor.GC
