/- What the chapter's examples fix: first answers true. -/
import Derived.Test.YtohpimfanplloaaGreatDoorZPureS4
import Derived.Test.YtohpimfanplloaaGreatDoorZGCx10
import Derived.WalkKit
import Derived.WalkSpells
import Derived.Lib.Hide
set_option linter.unusedVariables false
set_option linter.unusedSimpArgs false
namespace Go.Proofs.YtohpimfanplloaaGreatDoor.FirstS
open Go Go.RowKit Go.Proofs.YtohpimfanplloaaGreatDoorW.PrintWords Go.Proofs.YtohpimfanplloaaGreatDoorW.PrintLast Go.Proofs.YtohpimfanplloaaGreatDoorW.PrintMore Go.Proofs.YtohpimfanplloaaGreatDoor.GC Go.Proofs.YtohpimfanplloaaGreatDoor.PureS1 Go.Proofs.YtohpimfanplloaaGreatDoor.PureS2 Go.Proofs.YtohpimfanplloaaGreatDoor.PureS3 Go.Proofs.YtohpimfanplloaaGreatDoor.PureS4

theorem px (s : ByteArray) (x : A8) (e : Int) (hs : s.size ≤ 99999) (h : parse (L s) = (x, e)) : script_Parse.f 3000000 s = some (x.k, x.a, x.b, x.id, x.op, x.old, x.us, x.tx, e) := by
  rw [parse_f 3000000 s hs (by omega), h]
  rfl
set_option maxRecDepth 100000 in
set_option maxHeartbeats 4000000 in
theorem first_any (w : World) (hG : Glob w) : Calls Tryz.prog 5 #[] w (fun e w' => e = .returned (.bool true) ∧ Below w.heap.size w w') := by
  have hu := Tryz.underlying38
  have hu2 := Tryz.underlying36
  have HG := Lib.hid hG
  clear hG
  have P1 := Lib.hid (px (⟨#[116, 105, 99, 107, 32, 49, 32, 48]⟩ : ByteArray) tick10 0 (by decide) ex1)
  have P2 := Lib.hid (px (⟨#[116, 105, 99, 107]⟩ : ByteArray) a0 2 (by decide) ex2)
  have P3 := Lib.hid (px (⟨#[103, 111, 32, 49]⟩ : ByteArray) a0 6 (by decide) ex3)
  have P4 := Lib.hid (px (⟨#[116, 105, 99, 107, 32, 48, 49, 32, 48]⟩ : ByteArray) a0 4 (by decide) ex4)
  have HB0 := Lib.hid (Below.refl w.heap.size w)
  go_enter Tryz.func5, Tryz.ntmps5
  go_wp2_with fail
  refine (script_Parse.calls 3000000 _ 5 1 0 0 0 0 [] [] 0 _ (HG.out.below HB0.out) P1.out).mono ?_
  rintro e w1 ⟨v6, v7, rfl, h6, h7, hb⟩
  obtain ⟨A6, c6, rfl⟩ := Kd.R_slice h6
  obtain ⟨A7, c7, rfl⟩ := Kd.R_slice h7
  have hB := HB0.out.trans (hb.mono HB0.out.size)
  have HB1 := Lib.hid (hB.alloc hB.size (.cells #[.int .i64 5, .int .i64 1, .int .i64 0, .int .i64 0, .int .i64 0, .int .i64 0, .slice A6 0 c6, .slice A7 0 c7] 38))
  have HA := Lib.hid (blk_new w1 (.cells #[.int .i64 5, .int .i64 1, .int .i64 0, .int .i64 0, .int .i64 0, .int .i64 0, .slice A6 0 c6, .slice A7 0 c7] 38))
  clear h6 h7 hb hB HB0
  go_wp2_with fail
  generalize w1.alloc (.cells #[.int .i64 5, .int .i64 1, .int .i64 0, .int .i64 0, .int .i64 0, .int .i64 0, .slice A6 0 c6, .slice A7 0 c7] 38) = W1 at *
  generalize w1.heap.size = g at *
  refine (script_Parse.calls 3000000 _ 0 0 0 0 0 0 [] [] 2 _ (HG.out.below HB1.out) P2.out).mono ?_
  rintro e w2 ⟨v6, v7, rfl, h6, h7, hb⟩
  obtain ⟨A6, c6, rfl⟩ := Kd.R_slice h6
  obtain ⟨A7, c7, rfl⟩ := Kd.R_slice h7
  have hB := HB1.out.trans (hb.mono HB1.out.size)
  have HB2 := Lib.hid (hB.alloc hB.size (.cells #[.int .i64 0, .int .i64 0, .int .i64 0, .int .i64 0, .int .i64 0, .int .i64 0, .slice A6 0 c6, .slice A7 0 c7] 38))
  have HA' := Lib.hid (blk_alloc (blk_below HA.out hb) (.cells #[.int .i64 0, .int .i64 0, .int .i64 0, .int .i64 0, .int .i64 0, .int .i64 0, .slice A6 0 c6, .slice A7 0 c7] 38))
  clear HA
  have HA := HA'
  clear HA'
  clear h6 h7 hb hB HB1
  go_wp2_with fail
  generalize w2.alloc (.cells #[.int .i64 0, .int .i64 0, .int .i64 0, .int .i64 0, .int .i64 0, .int .i64 0, .slice A6 0 c6, .slice A7 0 c7] 38) = W2 at *
  refine (script_Parse.calls 3000000 _ 0 0 0 0 0 0 [] [] 6 _ (HG.out.below HB2.out) P3.out).mono ?_
  rintro e w3 ⟨v6, v7, rfl, h6, h7, hb⟩
  obtain ⟨A6, c6, rfl⟩ := Kd.R_slice h6
  obtain ⟨A7, c7, rfl⟩ := Kd.R_slice h7
  have hB := HB2.out.trans (hb.mono HB2.out.size)
  have HB3 := Lib.hid (hB.alloc hB.size (.cells #[.int .i64 0, .int .i64 0, .int .i64 0, .int .i64 0, .int .i64 0, .int .i64 0, .slice A6 0 c6, .slice A7 0 c7] 38))
  have HA' := Lib.hid (blk_alloc (blk_below HA.out hb) (.cells #[.int .i64 0, .int .i64 0, .int .i64 0, .int .i64 0, .int .i64 0, .int .i64 0, .slice A6 0 c6, .slice A7 0 c7] 38))
  clear HA
  have HA := HA'
  clear HA'
  clear h6 h7 hb hB HB2
  go_wp2_with fail
  generalize w3.alloc (.cells #[.int .i64 0, .int .i64 0, .int .i64 0, .int .i64 0, .int .i64 0, .int .i64 0, .slice A6 0 c6, .slice A7 0 c7] 38) = W3 at *
  refine (script_Parse.calls 3000000 _ 0 0 0 0 0 0 [] [] 4 _ (HG.out.below HB3.out) P4.out).mono ?_
  rintro e w4 ⟨v6, v7, rfl, h6, h7, hb⟩
  obtain ⟨A6, c6, rfl⟩ := Kd.R_slice h6
  obtain ⟨A7, c7, rfl⟩ := Kd.R_slice h7
  have hB := HB3.out.trans (hb.mono HB3.out.size)
  have HB4 := Lib.hid (hB.alloc hB.size (.cells #[.int .i64 0, .int .i64 0, .int .i64 0, .int .i64 0, .int .i64 0, .int .i64 0, .slice A6 0 c6, .slice A7 0 c7] 38))
  have HA' := Lib.hid (blk_alloc (blk_below HA.out hb) (.cells #[.int .i64 0, .int .i64 0, .int .i64 0, .int .i64 0, .int .i64 0, .int .i64 0, .slice A6 0 c6, .slice A7 0 c7] 38))
  clear HA
  have HA := HA'
  clear HA'
  clear h6 h7 hb hB HB3
  have c0 := (blk_cell HA.out 0).trans rfl
  have c1 := (blk_cell HA.out 1).trans rfl
  go_wp2
  go_ret
  exact ⟨rfl, HB4.out⟩
end Go.Proofs.YtohpimfanplloaaGreatDoor.FirstS
