/- Reserve, Settle, Remove, Free, Check, Busy, Owners for a calendar that is new since an elder world; voklaw17.cut. -/
import Derived.Test.YtohpimfanplloaaGreatZCalK
import Derived.Test.YtohpimfanplloaaGreatZCalM
import Derived.Test.YtohpimfanplloaaGreatZCalQ
import Derived.Test.YtohpimfanplloaaGreatZPureK
import Derived.WalkKit
import Derived.WalkSpells
import Derived.Lib.Hide
import Derived.Deep.QuietTactic
import Derived.Deep.RegionHeldLaw
import Derived.Deep.AppendLies
import Derived.Maps.AppendAt
import Derived.BigQuiet
set_option linter.unusedVariables false
set_option linter.unusedSimpArgs false
namespace Go.Proofs.YtohpimfanplloaaGreat.CalO
open Go.RowKit Go.Proofs.YtohpimfanplloaaGreatW.PrintWords Go.Proofs.YtohpimfanplloaaGreatW.PrintLast Go.Proofs.YtohpimfanplloaaGreatW.PrintMore Go.Proofs.YtohpimfanplloaaGreat.PureI1 Go.Proofs.YtohpimfanplloaaGreat.PureI2 Go.Proofs.YtohpimfanplloaaGreat.PureJ Go.Proofs.YtohpimfanplloaaGreat.IvA Go.Proofs.YtohpimfanplloaaGreat.IvS Go.Proofs.YtohpimfanplloaaGreat.IvB Go.Proofs.YtohpimfanplloaaGreat.IvC Go.Proofs.YtohpimfanplloaaGreat.IvG Go.Proofs.YtohpimfanplloaaGreat.CalA Go.Proofs.YtohpimfanplloaaGreat.CalB Go.Proofs.YtohpimfanplloaaGreat.CalC Go.Proofs.YtohpimfanplloaaGreat.CalD Go.Proofs.YtohpimfanplloaaGreat.CalE Go.Proofs.YtohpimfanplloaaGreat.CalF Go.Proofs.YtohpimfanplloaaGreat.CalG Go.Proofs.YtohpimfanplloaaGreat.CalH Go.Proofs.YtohpimfanplloaaGreat.CalI Go.Proofs.YtohpimfanplloaaGreat.CalJ Go.Proofs.YtohpimfanplloaaGreat.CalK Go.Proofs.YtohpimfanplloaaGreat.CalM Go.Proofs.YtohpimfanplloaaGreat.CalQ Go.Proofs.YtohpimfanplloaaGreat.AppN Go.Proofs.YtohpimfanplloaaGreat.PureK
theorem settle_len (tx : Int) (p : Pr) : (settleP tx p).1.length + (settleP tx p).2.length ≤ p.1.length + p.2.length := by
  unfold settleP
  have h1 : (add p.1 (fresh p tx) tx).length ≤ p.1.length + (fresh p tx).length := add_len _ _ _
  have h2 : (fresh p tx).length ≤ (ofo p.2 tx).length := List.length_filter_le _ _
  have h3 : (ofo p.2 tx).length + (remove p.2 tx).length = p.2.length := by
    unfold ofo remove
    rw [List.length_map]
    generalize p.2 = L
    induction L with
    | nil => rfl
    | cons t L ih =>
      by_cases h : t.2 = tx
      · simp [h]; omega
      · simp [h]; omega
  show (add p.1 (fresh p tx) tx).length + (remove p.2 tx).length ≤ _
  omega
theorem Small_settle {us : Us} {N : Nat} (h : Small us N) (tx : Int) : Small (PureI2.settle us tx) N := fun p hp => by
  obtain ⟨q, hq, he⟩ := List.mem_map.1 hp
  cases q with
  | none => cases he
  | some q =>
    obtain rfl : settleP tx q = p := by simpa using he
    exact Nat.le_trans (settle_len tx q) (h q hq)
theorem Small_reserve {us : Us} {N : Nat} (h : Small us N) (tx : Int) (users : List Int) (l : List Sp) (but : Int) : Small (reserve us tx users l but) (N + users.length * l.length) := by
  unfold reserve
  split
  · exact Small_resAll users h
  · exact Small_mono h (by omega)
/-- Reserve for users that were built just now, of spans that lie in the elder world. -/
theorem res_arg (w0 w2 W : World) (us : Us) (c ub : Nat) (cells : List Value) (N : Nat) (tx : Int) (users : List Int) (A2 : Option Addr) (c2 : Nat) (l : List Sp) (but : Int) (g1 : Nat) (hCF : CF w0 us c ub cells w2) (hS : Small us N) (hb : Below w2.heap.size w2 W)
    (hul : users.length ≤ 100) (hll : l.length ≤ 1000) (hN : N ≤ 549755813888) (hg1 : w2.heap.size ≤ g1) (hl1 : g1 < W.heap.size)
    (h1 : ∀ W', W'.heap[g1]? = W.heap[g1]? → Kd.C (Kd.int .i64) W' (some ⟨g1, 0, none⟩) users.length users) (h2 : Kd.C kSp w0 A2 l.length l) (hc2 : l.length ≤ c2) :
    Calls Tryz.prog 15 #[.pointer (some ⟨c, 0, none⟩), .int .i64 tx, .slice (some ⟨g1, 0, none⟩) users.length users.length, .slice A2 l.length c2, .int .i64 but] W (fun e w' => e = .returned (.bool (mayRes us tx users l but)) ∧ CF w0 (reserve us tx users l but) c ub cells w') := by
  obtain ⟨own, k1, k2, k3⟩ := hCF
  have z : ∀ g, w2.heap.size ≤ g → ¬ 2 ≤ own g := fun g hg hk => by have := k1.dom g (by omega); omega
  have hmul : users.length * l.length ≤ 100 * 1000 := Nat.mul_le_mul hul hll
  have hb0 := k3.trans (hb.mono k3.size)
  refine (reserve_any own c ub cells us N tx (some ⟨g1, 0, none⟩) users.length users A2 c2 l but W (k1.below hb) hS (by omega) (fun w' hk => h1 w' (hk.2 g1 hl1 (z g1 hg1))) (Nat.le_refl _) (by omega) (fun w' hk => Kd.C_below h2 (hk.elder hb0 (fun k h => k2 k (by omega)))) hc2 (by omega)).mono ?_
  rintro e w' ⟨rfl, hL⟩
  exact ⟨rfl, cf_left k2 hb0 hL⟩
theorem settle_arg (w0 W : World) (us : Us) (c ub : Nat) (cells : List Value) (N : Nat) (tx : Int) (hCF : CF w0 us c ub cells W) (hS : Small us N) (hN : N ≤ 549755813888) :
    Calls Tryz.prog 17 #[.pointer (some ⟨c, 0, none⟩), .int .i64 tx] W (fun e w' => e = .returned (.tuple #[]) ∧ CF w0 (PureI2.settle us tx) c ub cells w') := by
  obtain ⟨own, k1, k2, k3⟩ := hCF
  refine (settle_any own c ub cells us N tx W k1 hS (by omega)).mono ?_
  rintro e w' ⟨rfl, hL⟩
  exact ⟨rfl, cf_left k2 k3 hL⟩
theorem small_z0 : Small z0 0 := fun p hp => by simp [z0] at hp; subst hp; simp
theorem new_z0 : newAll 1 0 2 = z0 := by rfl
theorem remove_le (L : List Tg) (o : Int) : (remove L o).length ≤ L.length := List.length_filter_le _ _
theorem Small_removeC {us : Us} {N : Nat} (h : Small us N) (tx : Int) : Small (removeC us tx) N := fun p hp => by
  obtain ⟨q, hq, he⟩ := List.mem_map.1 hp
  cases q with
  | none => cases he
  | some q =>
    obtain rfl : (remove q.1 tx, q.2) = p := by simpa using he
    have := h q hq
    have := remove_le q.1 tx
    show (remove q.1 tx).length + q.2.length ≤ N
    omega
theorem Small_free {us : Us} {N : Nat} (h : Small us N) (tx : Int) : Small (PureI2.free us tx) N := fun p hp => by
  obtain ⟨q, hq, he⟩ := List.mem_map.1 hp
  cases q with
  | none => cases he
  | some q =>
    obtain rfl : (q.1, remove q.2 tx) = p := by simpa using he
    have := h q hq
    have := remove_le q.2 tx
    show q.1.length + (remove q.2 tx).length ≤ N
    omega
theorem rem_arg (w0 W : World) (us : Us) (c ub : Nat) (cells : List Value) (N : Nat) (tx : Int) (hCF : CF w0 us c ub cells W) (hS : Small us N) (hN : N ≤ 549755813888) :
    Calls Tryz.prog 19 #[.pointer (some ⟨c, 0, none⟩), .int .i64 tx] W (fun e w' => e = .returned (.tuple #[]) ∧ CF w0 (removeC us tx) c ub cells w') := by
  obtain ⟨own, k1, k2, k3⟩ := hCF
  refine (remcal_any own c ub cells us N tx W k1 hS (by omega)).mono ?_
  rintro e w' ⟨rfl, hL⟩
  exact ⟨rfl, cf_left k2 k3 hL⟩
theorem free_arg (w0 W : World) (us : Us) (c ub : Nat) (cells : List Value) (N : Nat) (tx : Int) (hCF : CF w0 us c ub cells W) (hS : Small us N) (hN : N ≤ 549755813888) :
    Calls Tryz.prog 28 #[.pointer (some ⟨c, 0, none⟩), .int .i64 tx] W (fun e w' => e = .returned (.tuple #[]) ∧ CF w0 (PureI2.free us tx) c ub cells w') := by
  obtain ⟨own, k1, k2, k3⟩ := hCF
  refine (free_any own c ub cells us N tx W k1 hS (by omega)).mono ?_
  rintro e w' ⟨rfl, hL⟩
  exact ⟨rfl, cf_left k2 k3 hL⟩
theorem busy_arg (w0 W : World) (us : Us) (c ub : Nat) (cells : List Value) (N : Nat) (u lo hi : Int) (hCF : CF w0 us c ub cells W) (hS : Small us N) (hN : N ≤ 549755813888) :
    Calls Tryz.prog 13 #[.pointer (some ⟨c, 0, none⟩), .int .i64 u, .int .i64 lo, .int .i64 hi] W (fun e w' => BusyIs W us u lo hi e w' ∧ CF w0 us c ub cells w') := by
  have h := hCF
  obtain ⟨own, k1, k2, k3⟩ := h
  exact (busy_any own c ub cells us N u lo hi W k1 hS (by omega)).mono fun e w' hB => ⟨hB, by obtain ⟨v, _, _, hb⟩ := hB; exact hCF.below hb⟩
theorem own_arg (w0 W : World) (us : Us) (c ub : Nat) (cells : List Value) (N : Nat) (u : Int) (hCF : CF w0 us c ub cells W) (hS : Small us N) (hN : N ≤ 549755813888) :
    Calls Tryz.prog 20 #[.pointer (some ⟨c, 0, none⟩), .int .i64 u] W (fun e w' => OwnCIs W us u e w' ∧ CF w0 us c ub cells w') := by
  have h := hCF
  obtain ⟨own, k1, k2, k3⟩ := h
  exact (ownersC_any own c ub cells us N u W k1 hS (by omega)).mono fun e w' hB => ⟨hB, by obtain ⟨v, _, _, _, _, hb⟩ := hB; exact hCF.below hb⟩
theorem resC_form (o : Option (Tg × Int)) : ∃ (t : Tg) (u : Int), resC o = .tuple #[tgV t, .int .i64 u, .bool o.isSome] := by
  rcases o with _ | ⟨t, u⟩
  · exact ⟨_, _, rfl⟩
  · exact ⟨_, _, rfl⟩
theorem check_arg (w0 W : World) (us : Us) (c ub : Nat) (cells : List Value) (N : Nat) (A A2 : Option Addr) (ca c2 : Nat) (users : List Int) (l : List Sp) (but : Int) (hCF : CF w0 us c ub cells W) (hS : Small us N) (hN : N ≤ 549755813888) (hul : users.length ≤ 1000) (hll : l.length ≤ 1000)
    (h1 : Kd.C (Kd.int .i64) W A users.length users) (hca : users.length ≤ ca) (h2 : Kd.C kSp W A2 l.length l) (hc2 : l.length ≤ c2) :
    Calls Tryz.prog 18 #[.pointer (some ⟨c, 0, none⟩), .slice A users.length ca, .slice A2 l.length c2, .int .i64 but] W (fun e w' => (∃ (t : Tg) (u : Int), e = .returned (.tuple #[tgV t, .int .i64 u, .bool (check us users l but).isSome])) ∧ Below W.heap.size W w' ∧ CF w0 us c ub cells w') := by
  have h := hCF
  obtain ⟨own, k1, k2, k3⟩ := h
  refine (check_any own c ub cells us N A ca users A2 c2 l but W k1 hS (by omega) h1 hca (by omega) h2 hc2 (by omega)).mono ?_
  rintro e w' ⟨he, hb⟩
  obtain ⟨t, u, hr⟩ := resC_form (check us users l but)
  exact ⟨⟨t, u, by rw [he, hr]⟩, hb, hCF.below hb⟩
def clips (l : List Sp) : List Sp := l.map (clip (-1125899906842624) 1125899906842624)
def ClipAt (w : World) (l : List Sp) (k : Nat) (v : Value) (wr : World) : Prop := RowS wr w.heap.size v (clips (l.take k)) ∧ Below w.heap.size w wr
def Cut17Is (w : World) (l : List Sp) (e : Ending) (w' : World) : Prop := ∃ v, e = .returned v ∧ RowS w' w.heap.size v (norm (clips l)) ∧ Below w.heap.size w w'
set_option maxHeartbeats 1000000 in
set_option maxRecDepth 100000 in
theorem cut17_any (A : Option Addr) (c : Nat) (l : List Sp) (w : World) (hr : Kd.C kSp w A l.length l) (hc : l.length ≤ c) (hm : l.length ≤ 1000000) :
    Calls Tryz.prog 22 #[.slice A l.length c] w (Cut17Is w l) := by
  obtain ⟨i0, hi, hz0, hz1, hz2⟩ := info_parts info_sp
  have HR := Lib.hid hr
  clear hr
  go_enter Tryz.func22, Tryz.ntmps22
  go_wp2
  go_loopw [3, 4] (fun v i wr => ∃ (k : Nat) (v0 : Value), v0 = v ∧ k ≤ l.length ∧ i = .int .i64 k ∧ Hid (ClipAt w l k v0 wr)) (fun _ i _ => l.length - (intOf i).toNat)
  case atStart => exact ⟨0, _, rfl, Nat.zero_le _, rfl, Lib.hid ⟨own_nil _ _ _ _, Below.refl _ _⟩⟩
  case round =>
    obtain ⟨k, v, rfl, hk, rfl, HI⟩ := hrel
    have hB : Below w.heap.size w wr := HI.out.2
    have hbs := hB.size
    have HBl := Lib.hid hB
    have HO : Hid (RowS wr w.heap.size v (clips (l.take k))) := HI.out.1
    have hle : (clips (l.take k)).length ≤ l.length := by unfold clips; rw [List.length_map, List.length_take]; omega
    clear hB HI
    by_cases hlt : k < l.length
    · obtain ⟨ad, rfl, hc0, hc1⟩ := at_Sp HR.out (k : Int) (by omega) (by omega)
      rw [Int.toNat_natCast] at hc0 hc1
      have hlt0 := World.block_lt_of_cell? w _ hc0
      have hcw0 := hc0
      have hcw1 := hc1
      replace hc0 := (HBl.out.cell hlt0).trans hc0
      replace hc1 := (HBl.out.cell (p := ⟨(ad.add (k * 2)).block, (ad.add (k * 2)).off + 1, none⟩) hlt0).trans hc1
      have hn : clips (l.take (k + 1)) = clips (l.take k) ++ [(max (rdS l k).1 (-1125899906842624), min (rdS l k).2 1125899906842624)] := by
        unfold clips
        rw [take_snoc' l k hlt (0, 0), List.map_append]
        rfl
      generalize hx : rdS l k = x at hc0 hc1 hcw0 hcw1 hn
      clear hx
      have HN := Lib.hid hn
      clear hn
      generalize clips (l.take k) = xs at *
      obtain ⟨A1, c1, rfl, hc1', _⟩ := row_readsS HO.out (by omega)
      go_wp2
      go_region_held_law (fun w' => w'.cell? (ad.add (k * 2)) = some (.int .i64 x.1) ∧ w'.cell? ⟨(ad.add (k * 2)).block, (ad.add (k * 2)).off + 1, none⟩ = some (.int .i64 x.2)) (((repeat' apply And.intro) <;> first | (with_reducible assumption) | go_keep))
        (first
          | ((refine step_append_more (by rfl) (.tmp 11) (.tmp 25) 33 (by rfl) w.heap.size 42 i0 (.agg #[.int .i64 0, .int .i64 0]) 2 16 Tryz.underlying33 hi hz0 hz1 hz2 (by rfl) (by decide) A1 xs.length c1 (xs.flatMap Go.Proofs.YtohpimfanplloaaGreat.IvA.encS) hc1' (by rfl) (pw_own_below HO.out (below_alloc (below_drew (Below.refl _ wr)) _)) (some ⟨wr.heap.size, 0, none⟩) 1 1 (Go.Proofs.YtohpimfanplloaaGreat.IvA.encS (max x.1 (-1125899906842624), min x.2 1125899906842624)) (by rfl) (by rfl) (.inr ⟨_, rfl, news_of (newAt _ _ _ (by simp))⟩) (oneS1 _) (by unfold maxLen; omega) (by omega) (by simp; omega) ?_); intro v2 w2 hown2 hgrow2; (have hw2 : Below w.heap.size w w2 := (HBl.out.trans ((below_alloc (below_drew (Below.refl wr.heap.size wr)) _).mono hbs)).grown hgrow2 (by simp; omega) (fun q hq => (HO.out.lt q hq).1)); (have hk2 : w2.cell? (ad.add (k * 2)) = some (.int .i64 x.1) := (hw2.cell hlt0).trans hcw0); (have hk3 : w2.cell? ⟨(ad.add (k * 2)).block, (ad.add (k * 2)).off + 1, none⟩ = some (.int .i64 x.2) := (hw2.cell (p := ⟨(ad.add (k * 2)).block, (ad.add (k * 2)).off + 1, none⟩) hlt0).trans hcw1))
          | fail)
      all_goals
        go_wp2
        go_roundw
        case measure => simp [intOf]; omega
        case rel =>
          refine ⟨k + 1, v2, rfl, by omega, by go_num, Lib.hid ⟨?_, hw2⟩⟩
          rw [HN.out]
          simpa [RowS, List.flatMap_append] using hown2
    · obtain rfl : k = l.length := by omega
      rw [List.take_length] at HO hle
      obtain ⟨A1, c1, rfl, hc1', hC1⟩ := row_readsS HO.out (by omega)
      have HNm := Lib.hid (refnorm_any A1 c1 (clips l) wr hC1 hc1' (by omega))
      clear hC1
      go_wp2_with fail
      refine HNm.out.mono ?_
      rintro e w1 ⟨v, rfl, hrow, hb⟩
      have HF := Lib.hid (And.intro (own_weaken hrow hbs) (HBl.out.trans (hb.mono hbs)))
      clear hrow hb
      go_wp2
      go_ret
      exact ⟨v, rfl, HF.out⟩
end Go.Proofs.YtohpimfanplloaaGreat.CalO
