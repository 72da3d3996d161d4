/- iv.Norm: spans put in order, and together. -/
import Derived.Test.YtohpimfanplloaaGreatZIvA
import Derived.Test.YtohpimfanplloaaGreatZIvS
import Derived.WalkKit
import Derived.WalkSpells
import Derived.Lib.Hide
import Derived.Maps.AppendAt
import Derived.Deep.QuietTactic
import Derived.BigQuiet
import Derived.BigRegion
set_option linter.unusedVariables false
set_option linter.unusedSimpArgs false
namespace Go.Proofs.YtohpimfanplloaaGreat.IvB
open Go.RowKit Go.Proofs.YtohpimfanplloaaGreatW.PrintWords Go.Proofs.YtohpimfanplloaaGreatW.PrintLast Go.Proofs.YtohpimfanplloaaGreatW.PrintMore Go.Proofs.YtohpimfanplloaaGreat.PureI1 Go.Proofs.YtohpimfanplloaaGreat.PureI2 Go.Proofs.YtohpimfanplloaaGreat.IvA Go.Proofs.YtohpimfanplloaaGreat.IvS

theorem new_ne' (w : World) {a : Addr} {u : Value} (h : w.cell? a = some u) : w.heap.size ≠ a.block := Nat.ne_of_gt (World.block_lt_of_cell? w a h)
def MerIs (w2 : World) (ys : List Sp) (k : Nat) (v : Value) (wr : World) : Prop := RowS wr w2.heap.size v (merged (ys.take k)) ∧ Below w2.heap.size w2 wr
attribute [local go_sem] max2_int max_two
theorem below_alloc' {B : Nat} {a w : World} (h : Below B a w) (hB : B ≤ w.heap.size) (o : Obj) : Below B a (w.alloc o) := h.alloc hB o
theorem norm_any' {l d : List Sp} (hp : d.Perm (inc l)) (hs : SortedLo d) : merged d = norm l := PureI1.norm_any hp hs
theorem merged_snoc (l : List Sp) (s : Sp) : merged (l ++ [s]) = PureI1.step (merged l) s := by simp [merged]
theorem mer_le (l : List Sp) (k : Nat) : (merged (l.take k)).length ≤ l.length := Nat.le_trans (merged_len _) (by rw [List.length_take]; omega)
def IncIs (w : World) (l : List Sp) (k : Nat) (v : Value) (wr : World) : Prop := RowS wr w.heap.size v (inc (l.take k)) ∧ Below w.heap.size w wr
def NormIs (w : World) (l : List Sp) (e : Ending) (w' : World) : Prop := ∃ v, e = .returned v ∧ RowS w' w.heap.size v (norm l) ∧ Below w.heap.size w w'

theorem inc_le (l : List Sp) (k : Nat) : (inc (l.take k)).length ≤ l.length := Nat.le_trans (List.length_filter_le _ _) (by rw [List.length_take]; omega)
set_option maxHeartbeats 1000000 in
set_option maxRecDepth 100000 in
theorem norm_any (A : Option Addr) (c : Nat) (l : List Sp) (w : World) (hr : Kd.C kSp w A l.length l) (hc : l.length ≤ c) (hm : l.length ≤ 1099511627776) :
    Calls Tryz.prog 67 #[.slice A l.length c] w (NormIs w l) := by
  obtain ⟨i0, hi, hz0, hz1, hz2⟩ := info_parts info_sp
  have HR := Lib.hid hr
  clear hr
  go_enter Tryz.func67, Tryz.ntmps67
  go_wp2
  go_loopw [3, 12] (fun v i wr => ∃ (k : Nat) (v0 : Value), v0 = v ∧ k ≤ l.length ∧ i = .int .i64 k ∧ Hid (IncIs w l k v0 wr)) (fun _ i _ => l.length - (intOf i).toNat)
  case atStart => exact ⟨0, _, rfl, Nat.zero_le _, rfl, Lib.hid ⟨own_nil _ _ _ _, Below.refl _ _⟩⟩
  case round =>
    obtain ⟨k, v, rfl, hk, rfl, HI⟩ := hrel
    by_cases hlt : k < l.length
    · obtain ⟨ad, rfl, hc0, hc1⟩ := at_Sp (Kd.C_below HR.out HI.out.2) (k : Int) (by omega) (by omega)
      rw [Int.toNat_natCast] at hc0 hc1
      generalize hx : rdS l k = x at hc0 hc1
      have Hx := Lib.hid hx
      clear hx
      have n0 := new_ne' wr hc0
      have n1 := new_ne' wr hc1
      by_cases hx : x.1 < x.2
      · have hinc : inc (l.take (k + 1)) = inc (l.take k) ++ [x] := by
          rw [take_snoc' l k hlt (0, 0), inc_snoc, show l.getD k (0, 0) = x from Hx.out, if_pos hx]
        have hle := inc_le l k
        have HInc := Lib.hid hinc
        clear hinc
        generalize hxs : inc (l.take k) = xs at *
        have hown : RowS wr w.heap.size v xs := by have := HI.out.1; rwa [hxs] at this
        have hB : Below w.heap.size w wr := HI.out.2
        have hbs := hB.size
        clear hxs
        have HO := Lib.hid hown
        have HBl := Lib.hid hB
        clear hown hB
        go_wp2_with (at_builtin; refine wpList_append_own_at _ rfl _ _ 33 rfl w.heap.size 42 i0 (.agg #[.int .i64 0, .int .i64 0]) 2 16 Tryz.underlying33 hi hz0 hz1 hz2 rfl (by decide) _ xs.length _ rfl ((HO.out.alloc _).alloc _) ⟨wr.heap.size + 1, 0, none⟩ 1 1 (Go.Proofs.YtohpimfanplloaaGreat.IvA.encS x) rfl rfl (news_of (new2 _ _ _)) (oneS1 x) (by unfold maxLen; omega) (by omega) (by simp; omega) ?_; intro v' w1 hown' hgrow _ hat)
        go_roundw
        case measure => simp [intOf]; omega
        case rel =>
          refine ⟨k + 1, v', rfl, by omega, by go_num, Lib.hid ⟨?_, ?_⟩⟩
          · rw [HInc.out]
            have := hown'
            simpa [RowS, List.flatMap_append] using this
          · exact ((HBl.out.alloc hbs _).alloc (by simp; omega) _).grown hgrow (by simp; omega) (fun k hk => (HO.out.lt k hk).1)
      · have hinc : inc (l.take (k + 1)) = inc (l.take k) := by
          rw [take_snoc' l k hlt (0, 0), inc_snoc, show l.getD k (0, 0) = x from Hx.out, if_neg hx]
        have HInc := Lib.hid hinc
        clear hinc
        have hB : Below w.heap.size w wr := HI.out.2
        have hbs := hB.size
        have HBl := Lib.hid hB
        clear hB
        go_wp2
        go_roundw
        case measure => simp [intOf]; omega
        case rel =>
          refine ⟨k + 1, v, rfl, by omega, by go_num, Lib.hid ⟨?_, ?_⟩⟩
          · rw [HInc.out]
            exact HI.out.1.alloc _
          · exact HBl.out.alloc hbs _
    · obtain rfl : k = l.length := by omega
      have hown : RowS wr w.heap.size v (inc l) := by have := HI.out.1; rwa [List.take_length] at this
      have hB : Below w.heap.size w wr := HI.out.2
      have HO := Lib.hid hown
      have HBl := Lib.hid hB
      clear hown hB
      have hle := inc_le l l.length
      rw [List.take_length] at hle
      go_wp2_with fail
      refine (sortS_any w.heap.size v (inc l) _ HO.out (by omega)).mono ?_
      rintro e w2 ⟨rfl, ys, hp, hs, hrow, hgr⟩
      have hlen : ys.length ≤ 1099511627776 := by rw [hp.length_eq]; omega
      have hN := norm_any' hp hs
      have hB2 := HBl.out.grown hgr HBl.out.size (fun k hk => (HO.out.lt k hk).1)
      have HN := Lib.hid hN
      have HR2 := Lib.hid hrow
      have HB2 := Lib.hid hB2
      obtain ⟨A2, c2, rfl, hc2, hC2⟩ := row_readsS hrow (by omega)
      have HC2 := Lib.hid hC2
      clear hN hrow hB2 hC2 hp hs hgr hle HO HBl HI
      go_wp2
      go_loopw [4, 30] (fun v i wr => ∃ (k : Nat) (v0 : Value), v0 = v ∧ k ≤ ys.length ∧ i = .int .i64 k ∧ Hid (MerIs w2 ys k v0 wr)) (fun _ i _ => ys.length - (intOf i).toNat)
      case atStart => exact ⟨0, _, rfl, Nat.zero_le _, rfl, Lib.hid ⟨own_nil _ _ _ _, Below.refl _ _⟩⟩
      case round =>
        obtain ⟨k, v, rfl, hk, rfl, HI⟩ := hrel
        by_cases hlt : k < ys.length
        · obtain ⟨ad, rfl, hc0, hc1⟩ := at_Sp (Kd.C_below HC2.out HI.out.2) (k : Int) (by omega) (by omega)
          rw [Int.toNat_natCast] at hc0 hc1
          generalize hx : rdS ys k = x at hc0 hc1
          have Hx := Lib.hid hx
          have hmer : merged (ys.take (k + 1)) = PureI1.step (merged (ys.take k)) x := by
            rw [take_snoc' ys k hlt (0, 0), merged_snoc, show ys.getD k (0, 0) = x from Hx.out]
          clear hx
          have n0 := new_ne' wr hc0
          have n1 := new_ne' wr hc1
          have hle := mer_le ys k
          have hB : Below w2.heap.size w2 wr := HI.out.2
          have hbs := hB.size
          have HO : Hid (RowS wr w2.heap.size v (merged (ys.take k))) := HI.out.1
          have HMer := Lib.hid hmer
          have HBl := Lib.hid hB
          clear hmer hB HI
          generalize merged (ys.take k) = xs at *
          rcases nil_or_snoc xs with rfl | ⟨i, p, rfl⟩
          · obtain ⟨A, c, rfl⟩ := own_slice HO.out
            rw [List.length_nil] at *
            have HMer2 : Hid (merged (ys.take (k + 1)) = [] ++ [x]) := by rw [HMer.out]; rfl
            go_wp2
            go_quiet (fail)
            go_wp2_with (at_builtin; refine wpList_append_own_at _ rfl _ _ 33 rfl w2.heap.size 42 i0 (.agg #[.int .i64 0, .int .i64 0]) 2 16 Tryz.underlying33 hi hz0 hz1 hz2 rfl (by decide) _ 0 _ rfl (pw_own_below HO.out (below_alloc (pw_below_drewN (below_alloc (Below.refl _ _) _) _) _)) ⟨wr.heap.size + 1, 0, none⟩ 1 1 (Go.Proofs.YtohpimfanplloaaGreat.IvA.encS x) rfl rfl (news_of (newAt _ _ _ (by simp))) (oneS1 x) (by unfold maxLen; omega) (by omega) (by simp; omega) ?_; intro v' w1 hown' hgrow _ hat)
            go_roundw
            case measure => simp [intOf]; omega
            case rel =>
              refine ⟨k + 1, v', rfl, by omega, by go_num, Lib.hid ⟨?_, ?_⟩⟩
              · rw [HMer2.out]
                simpa [RowS, List.flatMap_append] using hown'
              · exact ((below_alloc' (pw_below_drewN (HBl.out.alloc hbs _) _) (by simp; omega) _)).grown hgrow (by simp; omega) (fun k hk => (HO.out.lt k hk).1)
          · obtain ⟨A, c, rfl⟩ := own_slice HO.out
            obtain ⟨_, h0⟩ | ⟨g, c', hv, hcn, hbg, hgl⟩ := row_slice HO.out
            · simp at h0
            cases hv
            have hlen2 : (i ++ [p]).length = i.length + 1 := by simp
            have e1 := encS_get (i ++ [p]) i.length 1 (by simp) (by decide)
            have e2 : (i ++ [p]).getD i.length (0, 0) = p := by simp
            rw [e2] at e1
            have hcell := row_cells HO.out _ _ (e1.trans rfl)
            have hgc : wr.cell? ⟨g, i.length * 2 + 1, none⟩ = some (.int .i64 p.2) := hcell.1
            have hgf : wr.frozen? ⟨g, i.length * 2 + 1, none⟩ = false := hcell.2
            have hng : wr.heap.size ≠ g := by omega
            clear e1 e2 hcell
            have HO1 : Hid (wr.ownsRow w2.heap.size 42 2 (.slice (some ⟨g, 0, none⟩) (i.length + 1) c) (i.length + 1) ((i ++ [p]).flatMap Go.Proofs.YtohpimfanplloaaGreat.IvA.encS)) := by
              have := HO.out
              unfold RowS at this
              rwa [hlen2] at this
            rw [hlen2] at hle hcn ⊢
            have HL := Lib.hid hlen2
            clear hlen2 HO
            have HO := HO1
            clear HO1
            by_cases hx : x.1 ≤ p.2
            · have d1 : decide (x.1 ≤ p.2) = true := decide_eq_true hx
              have b1 : (0 : Int) ≤ (i.length : Int) := by omega
              have b2 : (i.length : Int) < (i.length : Int) + 1 := by omega
              have b3 : decide ((0 : Int) < (i.length : Int) + 1) = true := by simp
              have e1 : IntKind.i64.wrap ((i.length : Int) + 1 - 1) = (i.length : Int) := by rw [IntKind.wrap_i64]; omega
              have e2 : IntKind.i64.wrap (i.length : Int) = (i.length : Int) := by rw [IntKind.wrap_i64]; omega
              generalize hn : i.length = n at *
              have Hn := Lib.hid hn
              clear hn
              go_wp2
              go_quiet (fail)
              go_wp2
              go_region
              go_wp2
              go_roundw
              case measure => simp [intOf]; omega
              case rel =>
                refine ⟨k + 1, _, rfl, by omega, by go_num, Lib.hid ⟨?_, ?_⟩⟩
                · rw [HMer.out, step_snoc, if_pos hx]
                  have h0 := pw_own_below HO.out (pw_below_drewN (below_alloc (Below.refl wr.heap.size wr) (.cells #[.int .i64 x.1, .int .i64 x.2] 42)) (nq + 1))
                  have h1 := own_set h0 (n * 2 + 1) (.int .i64 (if p.2 < x.2 then x.2 else p.2)) (by rw [encS_len, HL.out]; omega)
                  have hl2 : (i ++ [(p.1, max p.2 x.2)]).length = n + 1 := by have := Hn.out; simp; omega
                  have hs : ((i ++ [p]).flatMap Go.Proofs.YtohpimfanplloaaGreat.IvA.encS).set (n * 2 + 1) (.int .i64 (if p.2 < x.2 then x.2 else p.2)) = (i ++ [(p.1, max p.2 x.2)]).flatMap Go.Proofs.YtohpimfanplloaaGreat.IvA.encS := by
                    rw [List.flatMap_append, List.flatMap_append, List.set_append_right _ _ (by rw [encS_len, Hn.out]; omega), encS_len, Hn.out, show n * 2 + 1 - n * 2 = 1 by omega]
                    congr 1
                    simp only [List.flatMap_cons, List.flatMap_nil, Go.Proofs.YtohpimfanplloaaGreat.IvA.encS, List.append_nil, List.set_cons_succ, List.set_cons_zero]
                    rw [show max p.2 x.2 = if p.2 < x.2 then x.2 else p.2 by rw [Int.max_def]; split <;> split <;> omega]
                  rw [hs] at h1
                  simpa [RowS, hl2, HL.out] using h1
                · exact (pw_below_drewN (HBl.out.alloc hbs _) _).setCell hbg _
            · have d1 : decide (x.1 ≤ p.2) = false := decide_eq_false hx
              have b1 : (0 : Int) ≤ (i.length : Int) := by omega
              have b2 : (i.length : Int) < (i.length : Int) + 1 := by omega
              have b3 : decide ((0 : Int) < (i.length : Int) + 1) = true := by simp
              have e1 : IntKind.i64.wrap ((i.length : Int) + 1 - 1) = (i.length : Int) := by rw [IntKind.wrap_i64]; omega
              have e2 : IntKind.i64.wrap (i.length : Int) = (i.length : Int) := by rw [IntKind.wrap_i64]; omega
              generalize hn : i.length = n at *
              have Hn := Lib.hid hn
              clear hn
              go_wp2
              go_quiet (fail)
              go_wp2_with (at_builtin; refine wpList_append_own_at _ rfl _ _ 33 rfl w2.heap.size 42 i0 (.agg #[.int .i64 0, .int .i64 0]) 2 16 Tryz.underlying33 hi hz0 hz1 hz2 rfl (by decide) _ (n + 1) _ rfl (pw_own_below HO.out (below_alloc (pw_below_drewN (below_alloc (Below.refl _ _) _) _) _)) ⟨wr.heap.size + 1, 0, none⟩ 1 1 (Go.Proofs.YtohpimfanplloaaGreat.IvA.encS x) rfl rfl (news_of (newAt _ _ _ (by simp))) (oneS1 x) (by unfold maxLen; omega) (by omega) (by simp; omega) ?_; intro v' w1 hown' hgrow _ hat)
              go_roundw
              case measure => simp [intOf]; omega
              case rel =>
                refine ⟨k + 1, v', rfl, by omega, by go_num, Lib.hid ⟨?_, ?_⟩⟩
                · rw [HMer.out, step_snoc, if_neg (show ¬ x.1 ≤ p.2 by omega)]
                  have hl2 : (i ++ [p] ++ [x]).length = n + 1 + 1 := by have := Hn.out; simp; omega
                  rw [show ((i ++ [p]).flatMap Go.Proofs.YtohpimfanplloaaGreat.IvA.encS) ++ Go.Proofs.YtohpimfanplloaaGreat.IvA.encS x = (i ++ [p] ++ [x]).flatMap Go.Proofs.YtohpimfanplloaaGreat.IvA.encS by simp [List.flatMap_append]] at hown'
                  unfold RowS
                  rw [hl2]
                  exact hown'
                · exact ((below_alloc' (pw_below_drewN (HBl.out.alloc hbs _) _) (by simp; omega) _)).grown hgrow (by simp; omega) (fun k hk => (HO.out.lt k hk).1)
        · obtain rfl : k = ys.length := by omega
          have h1 := HI.out.1
          rw [List.take_length] at h1
          have h3 := HB2.out.trans (HI.out.2.mono HB2.out.size)
          have HF : Hid (RowS wr w.heap.size v (norm l) ∧ Below w.heap.size w wr) := ⟨by rw [← HN.out]; exact own_weaken h1 HB2.out.size, h3⟩
          clear h1 h3
          go_wp2
          go_ret
          exact ⟨v, rfl, HF.out⟩
end Go.Proofs.YtohpimfanplloaaGreat.IvB
