/- meet.Print at small meetings. -/
import Derived.Test.YtohpimfanplloaaGreatDoorZGCx0
import Derived.Laws.EntriesVeiled
import Derived.Says
import Derived.Outline
import Derived.WalkKit
import Derived.WalkSpells
import Derived.Lib.Hide
import Derived.Deep.RegionHeld3
import Derived.Deep.MidRow
import Derived.Deep.Cut
import Derived.Deep.QuietTactic
import Derived.BigQuiet
set_option linter.unusedVariables false
set_option linter.unusedSimpArgs false
namespace Go.Proofs.YtohpimfanplloaaGreatDoor.MP
open Go.RowKit Go.Proofs.YtohpimfanplloaaGreatDoorW.PrintWords Go.Proofs.YtohpimfanplloaaGreatDoorW.PrintLast Go.Proofs.YtohpimfanplloaaGreatDoorW.PrintMore Go.Proofs.YtohpimfanplloaaGreatDoor.GC
structure MB (w : World) (g : Nat) (vals : Array Value) (wc : World) : Prop where
  box : wc.heap[g]? = some (.cells vals 81)
  bel : Below w.heap.size w wc
theorem MB.next {w : World} {g : Nat} {vals : Array Value} {wc wd : World} (h : MB w g vals wc) (hb : Below wc.heap.size wc wd) : MB w g vals wd := ⟨blk_below h.box hb, h.bel.trans (hb.mono h.bel.size)⟩
theorem MB.drew {w : World} {g : Nat} {vals : Array Value} {wc : World} (h : MB w g vals wc) : MB w g vals wc.drew := h.next (below_drew (Below.refl _ _))
theorem MB.alloc {w : World} {g : Nat} {vals : Array Value} {wc : World} (h : MB w g vals wc) (o : Obj) : MB w g vals (wc.alloc o) := ⟨blk_alloc h.box o, h.bel.alloc h.bel.size o⟩
theorem MB.cg {w : World} {g : Nat} {vals : Array Value} {wc : World} (h : MB w g vals wc) (i : Nat) (v : Value) (hi : vals[i]? = some v) : wc.cell? ⟨g, i, none⟩ = some v := (blk_cell h.box i).trans hi
def JPost (r1 : List Int) (r2 : Int) (w : World) (e : Ending) (w' : World) : Prop := ∃ v0_ : Value, e = .returned (.tuple #[v0_, .int .i64 r2]) ∧ Kd.R (Kd.int .u8) 5 w' w.heap.size (fun _ => True) v0_ r1 ∧ Below w.heap.size w w'
def Ret (v : Value) (w : World) (e : Ending) (w' : World) : Prop := e = .returned v ∧ Below w.heap.size w w'
theorem two_R {w : World} {q base : Nat} {a b : ByteArray} (h : w.heap[q]? = some (.cells #[.string a, .string b] 9 (0, 0))) (hq : base ≤ q) : Kd.R Kd.string 9 w base (fun _ => True) (.slice (some ⟨q, 0, none⟩) 2 2) [a, b] :=
  Kd.R_of_own (enc := Value.string) (xs := [a, b]) ⟨rfl, .inr ⟨q, 2, _, rfl, hq, h, Nat.le_refl _, by decide, rfl, rfl⟩⟩ (fun _ _ => trivial)
theorem info9' : (Tryz.prog.info? 9).map (fun i => (i.zero, i.size, i.bytes)) = some (some (Value.string ⟨#[]⟩), 1, 16) := by kernel_rfl

set_option maxRecDepth 100000 in
set_option maxHeartbeats 4000000 in
theorem mprint_zero (zone start dur fr iv cn un wk : Int) (en : Bool) (A1 : Option Addr) (c1 : Nat) (A2 : Option Addr) (c2 : Nat) (A3 : Option Addr) (c3 : Nat) (A4 : Option Addr) (c4 : Nat) (A5 : Option Addr) (c5 : Nat) (A6 : Option Addr) (c6 : Nat) (A7 : Option Addr) (c7 : Nat) (A8 : Option Addr) (c8 : Nat) (A9 : Option Addr) (c9 : Nat) (A10 : Option Addr) (c10 : Nat) (A11 : Option Addr) (c11 : Nat) (w : World) (G : World → Prop) (hG : ∀ W, Below w.heap.size w W → G W) (f0 f1 f2 z t d rt : ByteArray) (tr : Int) (r1 : List Int) (r2 : Int)
    (hm : ∀ W, Calls Tryz.prog 40 #[.agg #[.int .i64 zone, .int .i64 start, .int .i64 dur, .bool false, .int .i64 fr, .int .i64 iv, .int .i64 cn, .int .i64 un, .int .i64 wk, .bool en, .slice A1 0 c1, .slice A2 0 c2, .slice A3 0 c3, .slice A4 0 c4, .slice A5 0 c5, .slice A6 0 c6, .slice A7 0 c7, .slice A8 0 c8, .slice A9 0 c9, .slice A10 0 c10, .slice A11 0 c11]] W (Ret (.bool true) W)) (ht : ∀ W, G W → Calls Tryz.prog 41 #[.int .i64 start] W (Ret (.tuple #[.string t, .int .i64 tr]) W)) (hd : ∀ W, G W → Calls Tryz.prog 42 #[.int .i64 dur] W (Ret (.tuple #[.string d, .int .i64 0]) W))
    (hi : ∀ W, G W → Calls Tryz.prog 44 #[.int .i64 zone] W (Ret (.string z) W)) (hf0 : ∀ W, Calls Tryz.prog 43 #[.int .i64 0] W (Ret (.string f0) W)) (hf1 : ∀ W, Calls Tryz.prog 43 #[.int .i64 1] W (Ret (.string f1) W))
    (hj : ∀ W A c, Kd.C Kd.string W A 2 [f0 ++ z ++ ⟨#[58]⟩ ++ t, f1 ++ d] → 2 ≤ c → Calls Tryz.prog 47 #[.slice A 2 c] W (JPost r1 r2 W)) (s0 : f0.size ≤ 100) (s1 : f1.size ≤ 100) (s2 : z.size ≤ 100) (s3 : t.size ≤ 100) (s4 : d.size ≤ 100) :
    Calls Tryz.prog 29 #[.agg #[.int .i64 zone, .int .i64 start, .int .i64 dur, .bool false, .int .i64 fr, .int .i64 iv, .int .i64 cn, .int .i64 un, .int .i64 wk, .bool en, .slice A1 0 c1, .slice A2 0 c2, .slice A3 0 c3, .slice A4 0 c4, .slice A5 0 c5, .slice A6 0 c6, .slice A7 0 c7, .slice A8 0 c8, .slice A9 0 c9, .slice A10 0 c10, .slice A11 0 c11]] w (JPost r1 r2 w) := by
  have HM := Lib.hid hm
  clear hm
  have HT := Lib.hid ht
  clear ht
  have HDu := Lib.hid hd
  clear hd
  have HI := Lib.hid hi
  clear hi
  have HF0 := Lib.hid hf0
  clear hf0
  have HF1 := Lib.hid hf1
  clear hf1
  have HJ := Lib.hid hj
  clear hj
  have HG := Lib.hid hG
  clear hG
  have HB := Lib.hid (show MB w w.heap.size #[.int .i64 zone, .int .i64 start, .int .i64 dur, .bool false, .int .i64 fr, .int .i64 iv, .int .i64 cn, .int .i64 un, .int .i64 wk, .bool en, .slice A1 0 c1, .slice A2 0 c2, .slice A3 0 c3, .slice A4 0 c4, .slice A5 0 c5, .slice A6 0 c6, .slice A7 0 c7, .slice A8 0 c8, .slice A9 0 c9, .slice A10 0 c10, .slice A11 0 c11] (w.alloc (.cells #[.int .i64 zone, .int .i64 start, .int .i64 dur, .bool false, .int .i64 fr, .int .i64 iv, .int .i64 cn, .int .i64 un, .int .i64 wk, .bool en, .slice A1 0 c1, .slice A2 0 c2, .slice A3 0 c3, .slice A4 0 c4, .slice A5 0 c5, .slice A6 0 c6, .slice A7 0 c7, .slice A8 0 c8, .slice A9 0 c9, .slice A10 0 c10, .slice A11 0 c11] 81)) from ⟨blk_new w (.cells #[.int .i64 zone, .int .i64 start, .int .i64 dur, .bool false, .int .i64 fr, .int .i64 iv, .int .i64 cn, .int .i64 un, .int .i64 wk, .bool en, .slice A1 0 c1, .slice A2 0 c2, .slice A3 0 c3, .slice A4 0 c4, .slice A5 0 c5, .slice A6 0 c6, .slice A7 0 c7, .slice A8 0 c8, .slice A9 0 c9, .slice A10 0 c10, .slice A11 0 c11] 81), (Below.refl w.heap.size w).alloc (Nat.le_refl _) _⟩)
  go_enter Tryz.func29, Tryz.ntmps29
  obtain ⟨g, hg⟩ : ∃ g, g = w.heap.size := ⟨_, rfl⟩
  have Hg := Lib.hid hg
  rw [← hg] at HB
  clear hg
  go_upto_region 1 with (fail)
  rw [← Hg.out]
  generalize World.alloc w _ = W at HB ⊢
  go_wp2_with (refine wpList_load_row rfl 81 _ rfl g rfl 81 _ _ _ HB.out.box Tryz.underlying81 rfl (by kernel_rfl) ?_)
  refine (HM.out _).mono ?_
  rintro e w1 ⟨rfl, hb⟩
  have HB' := Lib.hid (HB.out.next hb)
  clear HB hb 
  have HB := HB'
  clear HB'
  have k1 := HB.out.cg 1 _ rfl
  go_wp2_with fail
  refine (HT.out _ (HG.out _ HB.out.bel)).mono ?_
  rintro e w1 ⟨rfl, hb⟩
  have HB' := Lib.hid (HB.out.next hb)
  clear HB hb k1
  have HB := HB'
  clear HB'
  have k2 := HB.out.cg 2 _ rfl
  go_wp2_with fail
  refine (HDu.out _ (HG.out _ HB.out.bel)).mono ?_
  rintro e w1 ⟨rfl, hb⟩
  have HB' := Lib.hid (HB.out.next hb)
  clear HB hb k2
  have HB := HB'
  clear HB'
  go_wp2_with fail
  go_cut [8] (fun v8 wc => ∃ q : Nat, v8 = .slice (some ⟨q, 0, none⟩) 2 2 ∧ Hid (MB w g #[.int .i64 zone, .int .i64 start, .int .i64 dur, .bool false, .int .i64 fr, .int .i64 iv, .int .i64 cn, .int .i64 un, .int .i64 wk, .bool en, .slice A1 0 c1, .slice A2 0 c2, .slice A3 0 c3, .slice A4 0 c4, .slice A5 0 c5, .slice A6 0 c6, .slice A7 0 c7, .slice A8 0 c8, .slice A9 0 c9, .slice A10 0 c10, .slice A11 0 c11] wc ∧ w.heap.size ≤ q ∧ wc.heap[q]? = some (.cells #[.string (f0 ++ z ++ ⟨#[58]⟩ ++ t), .string (f1 ++ d)] 9 (0, 0))))
  case first =>
    have k0 := HB.out.cg 0 _ rfl
    have b0 : (9223372036854775807 < f0.size + z.size) = False := by simp only [eq_iff_iff, iff_false]; omega
    have b1 : (9223372036854775807 < f0.size + z.size + 1) = False := by simp only [eq_iff_iff, iff_false]; omega
    have b2 : (9223372036854775807 < f0.size + z.size + 1 + t.size) = False := by simp only [eq_iff_iff, iff_false]; omega
    have b3 : (9223372036854775807 < f1.size + d.size) = False := by simp only [eq_iff_iff, iff_false]; omega
    have c1 : (9223372036854775807 < (f0 ++ z).size + 1) = False := by simp only [ByteArray.size_append, eq_iff_iff, iff_false]; omega
    have c2 : (9223372036854775807 < (f0 ++ z ++ ⟨#[58]⟩).size + t.size) = False := by simp only [ByteArray.size_append, eq_iff_iff, iff_false, show (⟨#[58]⟩ : ByteArray).size = 1 from rfl]; omega
    have HIw := Lib.hid (fun W hb => HI.out W (HG.out _ (HB.out.next hb).bel))
    go_region_held3 (fun w' => w'.cell? ⟨g, 0, none⟩ = some (.int .i64 zone)) (((try dsimp only); (repeat' apply And.intro) <;> first | (with_reducible assumption) | go_keep)) (first | (go_at_call 44; refine (HI.out _ (HG.out _ (by first | exact m6.out.bel | exact m6.out.drew.bel | exact m6.out.drew.drew.bel | exact m6.out.drew.drew.drew.bel))).mono ?_; rintro e w5 ⟨rfl, hb5⟩; (have m5 := Lib.hid (MB.next (by first | exact m6.out | exact m6.out.drew | exact m6.out.drew.drew | exact m6.out.drew.drew.drew) hb5)); (have k5 := m5.out.cg 0 _ rfl)) | (go_at_call 43; (with_reducible refine (HF0.out _).mono ?_); rintro e w6 ⟨rfl, hb6⟩; (have m6 := Lib.hid (MB.next (by first | exact HB.out | exact HB.out.drew | exact HB.out.drew.drew | exact HB.out.drew.drew.drew) hb6)); (have k6 := m6.out.cg 0 _ rfl)) | (go_at_call 43; (with_reducible refine (HF1.out _).mono ?_); rintro e w7 ⟨rfl, hb7⟩; (have m7 := Lib.hid (MB.next (by first | exact m5.out | exact m5.out.drew | exact m5.out.drew.drew | exact m5.out.drew.drew.drew) hb7)); (have k7 := m7.out.cg 0 _ rfl)))
    all_goals
      go_wp2_with fail
      go_meet
      exact ⟨_, rfl, Lib.hid ⟨m7.out.alloc _, m7.out.bel.size, blk_new _ _⟩⟩
  case rest =>
    clear HB
    obtain ⟨q, rfl, HC⟩ := hcut
    have HB := Lib.hid HC.out.1
    have HQ := Lib.hid (two_R HC.out.2.2 HC.out.2.1)
    clear HC
    have k3 := HB.out.cg 3 _ rfl
    have k19 := HB.out.cg 19 _ rfl
    have k20 := HB.out.cg 20 _ rfl
    go_wp2_with fail
    refine (HJ.out _ _ _ (Kd.R_reads' HQ.out).2.2 (by decide)).mono ?_
    rintro e w2 ⟨v0, rfl, hv, hb⟩
    have HV := Lib.hid hv
    have HE := Lib.hid (HB.out.bel.trans (hb.mono HB.out.bel.size))
    clear hv hb k3 k19 k20
    go_wp2
    first | go_ret2 | go_ret | skip
    exact ⟨_, rfl, Kd.R_lower HV.out HB.out.bel.size, HE.out⟩
set_option maxRecDepth 100000 in
set_option maxHeartbeats 4000000 in
theorem mprint_rec (zone start dur fr iv cn un wk : Int) (en : Bool) (A1 : Option Addr) (c1 : Nat) (A2 : Option Addr) (c2 : Nat) (A3 : Option Addr) (c3 : Nat) (A4 : Option Addr) (c4 : Nat) (A5 : Option Addr) (c5 : Nat) (A6 : Option Addr) (c6 : Nat) (A7 : Option Addr) (c7 : Nat) (A8 : Option Addr) (c8 : Nat) (A9 : Option Addr) (c9 : Nat) (A10 : Option Addr) (c10 : Nat) (A11 : Option Addr) (c11 : Nat) (w : World) (G : World → Prop) (hG : ∀ W, Below w.heap.size w W → G W) (f0 f1 f2 z t d rt : ByteArray) (tr : Int) (r1 : List Int) (r2 : Int)
    (hm : ∀ W, Calls Tryz.prog 40 #[.agg #[.int .i64 zone, .int .i64 start, .int .i64 dur, .bool true, .int .i64 fr, .int .i64 iv, .int .i64 cn, .int .i64 un, .int .i64 wk, .bool en, .slice A1 0 c1, .slice A2 0 c2, .slice A3 0 c3, .slice A4 0 c4, .slice A5 0 c5, .slice A6 0 c6, .slice A7 0 c7, .slice A8 0 c8, .slice A9 0 c9, .slice A10 0 c10, .slice A11 0 c11]] W (Ret (.bool true) W)) (ht : ∀ W, G W → Calls Tryz.prog 41 #[.int .i64 start] W (Ret (.tuple #[.string t, .int .i64 tr]) W)) (hd : ∀ W, G W → Calls Tryz.prog 42 #[.int .i64 dur] W (Ret (.tuple #[.string d, .int .i64 0]) W))
    (hi : ∀ W, G W → Calls Tryz.prog 44 #[.int .i64 zone] W (Ret (.string z) W)) (hf0 : ∀ W, Calls Tryz.prog 43 #[.int .i64 0] W (Ret (.string f0) W)) (hf1 : ∀ W, Calls Tryz.prog 43 #[.int .i64 1] W (Ret (.string f1) W)) (hr : ∀ W, G W → Calls Tryz.prog 45 #[.agg #[.int .i64 fr, .int .i64 iv, .int .i64 cn, .int .i64 un, .int .i64 wk, .bool en, .slice A1 0 c1, .slice A2 0 c2, .slice A3 0 c3, .slice A4 0 c4, .slice A5 0 c5, .slice A6 0 c6, .slice A7 0 c7, .slice A8 0 c8, .slice A9 0 c9]] W (Ret (.tuple #[.string rt, .int .i64 0]) W)) (hf2 : ∀ W, Calls Tryz.prog 43 #[.int .i64 2] W (Ret (.string f2) W)) (s5 : rt.size ≤ 100) (s6 : f2.size ≤ 100)
    (hj : ∀ W A c, Kd.C Kd.string W A 3 [f0 ++ z ++ ⟨#[58]⟩ ++ t, f1 ++ d, f2 ++ rt] → 3 ≤ c → Calls Tryz.prog 47 #[.slice A 3 c] W (JPost r1 r2 W)) (s0 : f0.size ≤ 100) (s1 : f1.size ≤ 100) (s2 : z.size ≤ 100) (s3 : t.size ≤ 100) (s4 : d.size ≤ 100) :
    Calls Tryz.prog 29 #[.agg #[.int .i64 zone, .int .i64 start, .int .i64 dur, .bool true, .int .i64 fr, .int .i64 iv, .int .i64 cn, .int .i64 un, .int .i64 wk, .bool en, .slice A1 0 c1, .slice A2 0 c2, .slice A3 0 c3, .slice A4 0 c4, .slice A5 0 c5, .slice A6 0 c6, .slice A7 0 c7, .slice A8 0 c8, .slice A9 0 c9, .slice A10 0 c10, .slice A11 0 c11]] w (JPost r1 r2 w) := by
  have HM := Lib.hid hm
  clear hm
  have HT := Lib.hid ht
  clear ht
  have HDu := Lib.hid hd
  clear hd
  have HI := Lib.hid hi
  clear hi
  have HF0 := Lib.hid hf0
  clear hf0
  have HF1 := Lib.hid hf1
  clear hf1
  have HJ := Lib.hid hj
  clear hj
  have HG := Lib.hid hG
  clear hG
  have HR := Lib.hid hr
  clear hr
  have HF2 := Lib.hid hf2
  clear hf2
  have HB := Lib.hid (show MB w w.heap.size #[.int .i64 zone, .int .i64 start, .int .i64 dur, .bool true, .int .i64 fr, .int .i64 iv, .int .i64 cn, .int .i64 un, .int .i64 wk, .bool en, .slice A1 0 c1, .slice A2 0 c2, .slice A3 0 c3, .slice A4 0 c4, .slice A5 0 c5, .slice A6 0 c6, .slice A7 0 c7, .slice A8 0 c8, .slice A9 0 c9, .slice A10 0 c10, .slice A11 0 c11] (w.alloc (.cells #[.int .i64 zone, .int .i64 start, .int .i64 dur, .bool true, .int .i64 fr, .int .i64 iv, .int .i64 cn, .int .i64 un, .int .i64 wk, .bool en, .slice A1 0 c1, .slice A2 0 c2, .slice A3 0 c3, .slice A4 0 c4, .slice A5 0 c5, .slice A6 0 c6, .slice A7 0 c7, .slice A8 0 c8, .slice A9 0 c9, .slice A10 0 c10, .slice A11 0 c11] 81)) from ⟨blk_new w (.cells #[.int .i64 zone, .int .i64 start, .int .i64 dur, .bool true, .int .i64 fr, .int .i64 iv, .int .i64 cn, .int .i64 un, .int .i64 wk, .bool en, .slice A1 0 c1, .slice A2 0 c2, .slice A3 0 c3, .slice A4 0 c4, .slice A5 0 c5, .slice A6 0 c6, .slice A7 0 c7, .slice A8 0 c8, .slice A9 0 c9, .slice A10 0 c10, .slice A11 0 c11] 81), (Below.refl w.heap.size w).alloc (Nat.le_refl _) _⟩)
  go_enter Tryz.func29, Tryz.ntmps29
  obtain ⟨g, hg⟩ : ∃ g, g = w.heap.size := ⟨_, rfl⟩
  have Hg := Lib.hid hg
  rw [← hg] at HB
  clear hg
  go_upto_region 1 with (fail)
  rw [← Hg.out]
  generalize World.alloc w _ = W at HB ⊢
  go_wp2_with (refine wpList_load_row rfl 81 _ rfl g rfl 81 _ _ _ HB.out.box Tryz.underlying81 rfl (by kernel_rfl) ?_)
  refine (HM.out _).mono ?_
  rintro e w1 ⟨rfl, hb⟩
  have HB' := Lib.hid (HB.out.next hb)
  clear HB hb 
  have HB := HB'
  clear HB'
  have k1 := HB.out.cg 1 _ rfl
  go_wp2_with fail
  refine (HT.out _ (HG.out _ HB.out.bel)).mono ?_
  rintro e w1 ⟨rfl, hb⟩
  have HB' := Lib.hid (HB.out.next hb)
  clear HB hb k1
  have HB := HB'
  clear HB'
  have k2 := HB.out.cg 2 _ rfl
  go_wp2_with fail
  refine (HDu.out _ (HG.out _ HB.out.bel)).mono ?_
  rintro e w1 ⟨rfl, hb⟩
  have HB' := Lib.hid (HB.out.next hb)
  clear HB hb k2
  have HB := HB'
  clear HB'
  go_wp2_with fail
  go_cut [8] (fun v8 wc => ∃ q : Nat, v8 = .slice (some ⟨q, 0, none⟩) 2 2 ∧ Hid (MB w g #[.int .i64 zone, .int .i64 start, .int .i64 dur, .bool true, .int .i64 fr, .int .i64 iv, .int .i64 cn, .int .i64 un, .int .i64 wk, .bool en, .slice A1 0 c1, .slice A2 0 c2, .slice A3 0 c3, .slice A4 0 c4, .slice A5 0 c5, .slice A6 0 c6, .slice A7 0 c7, .slice A8 0 c8, .slice A9 0 c9, .slice A10 0 c10, .slice A11 0 c11] wc ∧ w.heap.size ≤ q ∧ wc.heap[q]? = some (.cells #[.string (f0 ++ z ++ ⟨#[58]⟩ ++ t), .string (f1 ++ d)] 9 (0, 0))))
  case first =>
    have k0 := HB.out.cg 0 _ rfl
    have b0 : (9223372036854775807 < f0.size + z.size) = False := by simp only [eq_iff_iff, iff_false]; omega
    have b1 : (9223372036854775807 < f0.size + z.size + 1) = False := by simp only [eq_iff_iff, iff_false]; omega
    have b2 : (9223372036854775807 < f0.size + z.size + 1 + t.size) = False := by simp only [eq_iff_iff, iff_false]; omega
    have b3 : (9223372036854775807 < f1.size + d.size) = False := by simp only [eq_iff_iff, iff_false]; omega
    have c1 : (9223372036854775807 < (f0 ++ z).size + 1) = False := by simp only [ByteArray.size_append, eq_iff_iff, iff_false]; omega
    have c2 : (9223372036854775807 < (f0 ++ z ++ ⟨#[58]⟩).size + t.size) = False := by simp only [ByteArray.size_append, eq_iff_iff, iff_false, show (⟨#[58]⟩ : ByteArray).size = 1 from rfl]; omega
    have HIw := Lib.hid (fun W hb => HI.out W (HG.out _ (HB.out.next hb).bel))
    go_region_held3 (fun w' => w'.cell? ⟨g, 0, none⟩ = some (.int .i64 zone)) (((try dsimp only); (repeat' apply And.intro) <;> first | (with_reducible assumption) | go_keep)) (first | (go_at_call 44; refine (HI.out _ (HG.out _ (by first | exact m6.out.bel | exact m6.out.drew.bel | exact m6.out.drew.drew.bel | exact m6.out.drew.drew.drew.bel))).mono ?_; rintro e w5 ⟨rfl, hb5⟩; (have m5 := Lib.hid (MB.next (by first | exact m6.out | exact m6.out.drew | exact m6.out.drew.drew | exact m6.out.drew.drew.drew) hb5)); (have k5 := m5.out.cg 0 _ rfl)) | (go_at_call 43; (with_reducible refine (HF0.out _).mono ?_); rintro e w6 ⟨rfl, hb6⟩; (have m6 := Lib.hid (MB.next (by first | exact HB.out | exact HB.out.drew | exact HB.out.drew.drew | exact HB.out.drew.drew.drew) hb6)); (have k6 := m6.out.cg 0 _ rfl)) | (go_at_call 43; (with_reducible refine (HF1.out _).mono ?_); rintro e w7 ⟨rfl, hb7⟩; (have m7 := Lib.hid (MB.next (by first | exact m5.out | exact m5.out.drew | exact m5.out.drew.drew | exact m5.out.drew.drew.drew) hb7)); (have k7 := m7.out.cg 0 _ rfl)))
    all_goals
      go_wp2_with fail
      go_meet
      exact ⟨_, rfl, Lib.hid ⟨m7.out.alloc _, m7.out.bel.size, blk_new _ _⟩⟩
  case rest =>
    clear HB
    obtain ⟨q, rfl, HC⟩ := hcut
    have HB := Lib.hid HC.out.1
    have HQ := Lib.hid (two_R HC.out.2.2 HC.out.2.1)
    clear HC
    have k3 := HB.out.cg 3 _ rfl
    have k19 := HB.out.cg 19 _ rfl
    have k20 := HB.out.cg 20 _ rfl
    have hra : wc.rangeAt g 4 [.int .i64 fr, .int .i64 iv, .int .i64 cn, .int .i64 un, .int .i64 wk, .bool en, .slice A1 0 c1, .slice A2 0 c2, .slice A3 0 c3, .slice A4 0 c4, .slice A5 0 c5, .slice A6 0 c6, .slice A7 0 c7, .slice A8 0 c8, .slice A9 0 c9] := fun j v hv => (blk_cell HB.out.box (4 + j)).trans (by
      have hj : j < 15 := (List.getElem?_eq_some_iff.1 hv).1
      rw [← hv]
      rcases j with _ | _ | _ | _ | _ | _ | _ | _ | _ | _ | _ | _ | _ | _ | _ | j <;> first | rfl | omega)
    have HRA := Lib.hid hra
    clear hra
    go_wp2_with (refine wpList_load_mid rfl 79 _ rfl g 4 rfl _ _ HRA.out Tryz.underlying79 rfl (by kernel_rfl) ?_)
    refine (HR.out _ (HG.out _ HB.out.bel)).mono ?_
    rintro e w2 ⟨rfl, hb⟩
    have HB' := Lib.hid (HB.out.next hb)
    have HQ' := Lib.hid (Kd.R_below HQ.out hb)
    clear HB HQ hb HRA k3 k19 k20
    have HB := HB'
    have HQ := HQ'
    clear HB' HQ'
    have b5 : (9223372036854775807 < f2.size + rt.size) = False := by simp only [eq_iff_iff, iff_false]; omega
    go_wp2_with fail
    refine (HF2.out _).mono ?_
    rintro e w3 ⟨rfl, hb⟩
    have HB' := Lib.hid (HB.out.next hb)
    have HQ' := Lib.hid (Kd.R_below HQ.out hb)
    clear HB HQ hb 
    have HB := HB'
    have HQ := HQ'
    clear HB' HQ'
    go_wp2_with ((with_reducible refine gate_builtin (b := .append) (xs := #[.tmp 46, .tmp 50]) rfl ?_); at_builtin; refine Kd.R_append Kd.string (w0 := w) w.heap.size rfl (.tmp 46) (.tmp 50) 85 9 (.string ⟨#[]⟩) 16 rfl Tryz.underlying85 info9' rfl (by decide) (by omega) (.slice (some ⟨q, 0, none⟩) 2 2) [f0 ++ z ++ ⟨#[58]⟩ ++ t, f1 ++ d] (f2 ++ rt) [.string (f2 ++ rt)] (fun _ => True) (fun _ => False) rfl rfl ?aP (fun _ hk => hk.elim) ?aF ?aO ?aB ?aS ?aL ?_; (case aP => exact rfl); (case aB => exact HB.out.bel); (case aF => exact (fun _ _ => trivial)); (case aO => exact HQ.out); (case aS => exact HB.out.bel.size); (case aL => simp); intro v1 w4 ho hb hg hat; (have HO := Lib.hid ho); (have HE := Lib.hid hb); (have HX := Lib.hid (blk_grown HB.out.box hg (Kd.R_ne HQ.out HB.out.box (by decide)))); (have k19 := (blk_cell HX.out 19).trans rfl); (have k20 := (blk_cell HX.out 20).trans rfl); (have hq := Kd.R_slice ho); clear HB HQ ho hb hg hat)
    obtain ⟨A9, c9, rfl⟩ := hq
    go_wp2_with fail
    refine (HJ.out _ _ _ (Kd.R_reads' HO.out).2.2 (Kd.R_reads' HO.out).2.1).mono ?_
    rintro e w5 ⟨v0, rfl, hv, hb⟩
    have HV := Lib.hid hv
    have HF := Lib.hid (HE.out.trans (hb.mono HE.out.size))
    clear hv hb k19 k20
    go_wp2
    first | go_ret2 | go_ret | skip
    exact ⟨_, rfl, Kd.R_lower HV.out HE.out.size, HF.out⟩
end Go.Proofs.YtohpimfanplloaaGreatDoor.MP
