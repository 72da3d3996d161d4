/- voklaw17.one: fixed options. -/
import Derived.Test.YtohpimfanplloaaGreatZCalI
import Derived.Test.YtohpimfanplloaaGreatZGIx4
import Derived.Test.YtohpimfanplloaaGreatZV
import Derived.WalkKit
import Derived.WalkSpells
import Derived.Lib.Hide
import Derived.Deep.RegionHeld3
set_option linter.unusedVariables false
set_option linter.unusedSimpArgs false
namespace Go.Proofs.YtohpimfanplloaaGreat.CalJ
open Go.RowKit Go.Proofs.YtohpimfanplloaaGreatW.PrintWords Go.Proofs.YtohpimfanplloaaGreatW.PrintLast Go.Proofs.YtohpimfanplloaaGreatW.PrintMore Go.Proofs.YtohpimfanplloaaGreat.PureI1 Go.Proofs.YtohpimfanplloaaGreat.PureI2 Go.Proofs.YtohpimfanplloaaGreat.IvA Go.Proofs.YtohpimfanplloaaGreat.IvC Go.Proofs.YtohpimfanplloaaGreat.IvG Go.Proofs.YtohpimfanplloaaGreat.CalB Go.Proofs.YtohpimfanplloaaGreat.CalD Go.Proofs.YtohpimfanplloaaGreat.CalG Go.Proofs.YtohpimfanplloaaGreat.CalH Go.Proofs.YtohpimfanplloaaGreat.GI Go.Proofs.YtohpimfanplloaaGreat.CalI
def oneZ : List S75 := [⟨0, [], [], 0⟩, ⟨3600, [], [⟨3, 5, 6, 3600, 7200⟩, ⟨10, 5, 6, 3600, 3600⟩], 2000⟩]
theorem opts_f : vokref25_Opts.f 60 [] = some (1, 4, oneZ, 1767225600, 1772409600, 2, 2, 2, 4, 20000, 200) := by kernel_rfl
theorem one_may : cal_May.f 100 1 2 oneZ 1767225600 1772409600 = some true := by kernel_rfl
def OneIs (Z : List S75) (lo hi : Int) (w : World) (e : Ending) (w' : World) : Prop := ∃ A c, e = .returned (.agg #[.int .i64 1, .int .i64 2, .slice A Z.length c, .int .i64 lo, .int .i64 hi]) ∧ Z.length ≤ c ∧ Kd.C k75 w' A Z.length Z ∧ Below w.heap.size w w'
theorem fld (v lo hi : Value) (w1 : World) (h : ∃ A m c, v = .slice A m c) (h2 : ∃ x, lo = .int .i64 x) (h3 : ∃ x, hi = .int .i64 x) : (Sem.run Tryz.prog (Instr.field 91 (.agg #[.int .i64 1, .int .i64 4, v, lo, hi, .int .i64 2, .int .i64 2, .int .i64 2, .int .i64 4, .int .i64 20000, .int .i64 200]) 0) w1) = .ok (.agg #[.int .i64 1, .int .i64 4, v, lo, hi]) w1 := by
  obtain ⟨A, m, c, rfl⟩ := h
  obtain ⟨x, rfl⟩ := h2
  obtain ⟨y, rfl⟩ := h3
  kernel_rfl
set_option maxHeartbeats 1000000 in
set_option maxRecDepth 100000 in
theorem one_gen (Z : List S75) (lo hi : Int) (hopt : vokref25_Opts.f 60 [] = some (1, 4, Z, lo, hi, 2, 2, 2, 4, 20000, 200)) (w : World) : Calls Tryz.prog 14 #[] w (OneIs Z lo hi w) := by
  have HO := Lib.hid (fun w1 => vokref25_Opts.calls 60 none 0 [] _ _ _ _ _ _ _ _ _ _ _ w1 (Kd.C_nil _ _) (Nat.le_refl _) hopt)
  have hu91 := Tryz.underlying91
  have hu58 := Tryz.underlying58
  have hu24 := Tryz.underlying24
  clear hopt
  go_enter Tryz.func14, Tryz.ntmps14
  go_wp2_with fail
  refine (HO.out _).mono ?_
  rintro e w1 ⟨v, rfl, hN, hb⟩
  obtain ⟨A, c, rfl, hc, _⟩ := Kd.N_reads hN
  generalize hzl : Z.length = zl at *
  have HR := Lib.hid hN
  have hb0 := hb.size
  have HB := Lib.hid (((Below.refl w.heap.size w).alloc (Nat.le_refl _) (.cells #[.int .i64 0, .int .i64 0, .slice none 0 0, .int .i64 0, .int .i64 0] 24)).trans (hb.mono (by simp)))
  have hbx : w1.heap[w.heap.size]? = some (.cells #[.int .i64 0, .int .i64 0, .slice none 0 0, .int .i64 0, .int .i64 0] 24 (0, 0)) := (hb.block _ (by simp)).trans (newAt w _ _ rfl)
  have q0 : w1.cell? ⟨w.heap.size, 0, none⟩ = some (.int .i64 0) := blk_cell hbx 0
  have q1 : w1.cell? ⟨w.heap.size, 1, none⟩ = some (.int .i64 0) := blk_cell hbx 1
  have q2 : w1.cell? ⟨w.heap.size, 2, none⟩ = some (.slice none 0 0) := blk_cell hbx 2
  have q3 : w1.cell? ⟨w.heap.size, 3, none⟩ = some (.int .i64 0) := blk_cell hbx 3
  have q4 : w1.cell? ⟨w.heap.size, 4, none⟩ = some (.int .i64 0) := blk_cell hbx 4
  have e0 := blk_frozen hbx 0
  have e1 := blk_frozen hbx 1
  have e2 := blk_frozen hbx 2
  have e3 := blk_frozen hbx 3
  have e4 := blk_frozen hbx 4
  have hws := blk_lt hbx
  have hwn : w1.heap.size ≠ w.heap.size := by omega
  have hwn2 : w.heap.size ≠ w1.heap.size := by omega
  have HBx := Lib.hid hbx
  clear hN HO hb hbx
  go_wp2_with fail
  rw [fld _ _ _ _ ⟨_, _, _, rfl⟩ ⟨_, rfl⟩ ⟨_, rfl⟩]
  go_wp2_with fail
  refine bodyPost_ret (results_cell_row rfl _ _ w.heap.size 24 #[.int .i64 1, .int .i64 2, .slice A zl c, .int .i64 lo, .int .i64 hi] (0, 0) _ rfl (blk_alloc (blk5 HBx.out _ _ _ _ _) _) Tryz.underlying24 rfl size_opts) rfl ?_
  have hN2 := Kd.N_alloc (Kd.N_far (Kd.N_far (Kd.N_far (Kd.N_far (Kd.N_far HR.out (p := ⟨w.heap.size, 0, none⟩) (fun k hk => by simp at hk; dsimp only; omega) (.int .i64 1)) (p := ⟨w.heap.size, 1, none⟩) (fun k hk => by simp at hk; dsimp only; omega) (.int .i64 2)) (p := ⟨w.heap.size, 2, none⟩) (fun k hk => by simp at hk; dsimp only; omega) (.slice A zl c)) (p := ⟨w.heap.size, 3, none⟩) (fun k hk => by simp at hk; dsimp only; omega) (.int .i64 lo)) (p := ⟨w.heap.size, 4, none⟩) (fun k hk => by simp at hk; dsimp only; omega) (.int .i64 hi)) (.cells #[.int .i64 1, .int .i64 4, .slice A zl c, .int .i64 lo, .int .i64 hi] 58)
  subst hzl
  exact ⟨A, c, rfl, hc, (Kd.N_reads' hN2).2.2, below_alloc ((((((HB.out).setCell (by dsimp only; omega) _).setCell (by dsimp only; omega) _).setCell (by dsimp only; omega) _).setCell (by dsimp only; omega) _).setCell (by dsimp only; omega) _) _⟩
theorem one_any (w : World) : Calls Tryz.prog 14 #[] w (OneIs oneZ 1767225600 1772409600 w) := one_gen oneZ _ _ opts_f w
end Go.Proofs.YtohpimfanplloaaGreat.CalJ
