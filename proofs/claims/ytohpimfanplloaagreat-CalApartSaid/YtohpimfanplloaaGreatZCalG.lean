/- cal.Copy: options with lists of their own. -/
import Derived.Test.YtohpimfanplloaaGreatZCalF
import Derived.Test.YtohpimfanplloaaGreatZMayS
import Derived.WalkKit
import Derived.WalkSpells
import Derived.Lib.Hide
import Derived.Maps.AppendAt
import Derived.Deep.RegionHeld3
import Derived.Deep.RegionWith
import Derived.Deep.DeepCutAuto
set_option linter.unusedVariables false
set_option linter.unusedSimpArgs false
namespace Go.Proofs.YtohpimfanplloaaGreat.CalG
open Go.RowKit Go.Proofs.YtohpimfanplloaaGreatW.PrintWords Go.Proofs.YtohpimfanplloaaGreatW.PrintLast Go.Proofs.YtohpimfanplloaaGreatW.PrintMore Go.Proofs.YtohpimfanplloaaGreat.PureI1 Go.Proofs.YtohpimfanplloaaGreat.IvA Go.Proofs.YtohpimfanplloaaGreat.GI

theorem C_news {α : Type} {d : Kd α} {w : World} {ad : Addr} {n : Nat} {xs : List α} (h : Kd.C d w (some ad) n xs) (enc : α → List Value) (hk : ∀ x, (enc x).length = d.sz) (henc : ∀ w x cs, d.K w x cs → cs = enc x) (hp : 0 < d.sz) :
    (xs.flatMap enc).length = n * d.sz ∧ ∀ j u, (xs.flatMap enc)[j]? = some u → w.cell? (ad.add j) = some u := by
  have hlen : ∀ l : List α, (l.flatMap enc).length = l.length * d.sz := by
    intro l
    induction l with
    | nil => simp
    | cons x l ih => rw [List.flatMap_cons, List.length_append, ih, hk, List.length_cons, Nat.succ_mul]; omega
  have hget : ∀ (l : List α) (i j : Nat) (x : α), l[i]? = some x → j < d.sz → (l.flatMap enc)[i * d.sz + j]? = (enc x)[j]? := by
    intro l
    induction l with
    | nil => intro i j x h; simp at h
    | cons y l ih =>
      intro i j x h hj
      rw [List.flatMap_cons]
      cases i with
      | zero =>
        simp at h
        subst h
        rw [List.getElem?_append_left (by rw [hk]; omega)]
        simp
      | succ i =>
        rw [List.getElem?_append_right (by rw [hk, Nat.succ_mul]; omega), show (i + 1) * d.sz + j - (enc y).length = i * d.sz + j by rw [hk, Nat.succ_mul]; omega]
        exact ih i j x (by simpa using h) hj
  refine ⟨by rw [hlen, Kd.C_len h], fun j u hj => ?_⟩
  have hjl : j < n * d.sz := by have := (List.getElem?_eq_some_iff.1 hj).1; rw [hlen, Kd.C_len h] at this; exact this
  have hd : j / d.sz < n := Nat.div_lt_of_lt_mul (by rwa [Nat.mul_comm] at hjl)
  have hm := Nat.mod_lt j hp
  have e : j / d.sz * d.sz + j % d.sz = j := by rw [Nat.mul_comm]; exact Nat.div_add_mod j d.sz
  obtain ⟨ad', he, hc⟩ := h.2.2 (Nat.lt_of_le_of_lt (Nat.zero_le _) hd)
  cases he
  have hx : xs[j / d.sz]? = some (xs[j / d.sz]'(by rw [Kd.C_len h]; exact hd)) := List.getElem?_eq_getElem _
  obtain ⟨c, hcl, hR, hcell⟩ := hc (j / d.sz) _ hx
  rw [henc _ _ _ hR] at hcell
  have h1 := hget xs (j / d.sz) (j % d.sz) _ hx hm
  rw [e] at h1
  rw [h1] at hj
  have := hcell (j % d.sz) u hj
  rwa [e] at this
def AnySl (W : World) (e : Ending) (w' : World) : Prop := ∃ A n c, e = .returned (.slice A n c) ∧ Below W.heap.size W w'
theorem own_any {w : World} {base n : Nat} {e : TypeId} {size : Nat} {v : Value} {xs : List Value} (h : w.ownsRow base e size v n xs) : ∃ A c, v = .slice A n c := own_slice h
theorem info_sh : (Tryz.prog.info? 115).map (fun i => (i.zero, i.size, i.bytes)) = some (some (Value.agg #[.int .i64 0, .int .i64 0]), 2, 16) := by kernel_rfl
theorem info_ye : (Tryz.prog.info? 119).map (fun i => (i.zero, i.size, i.bytes)) = some (some (Value.agg #[.int .i64 0, .int .i64 0, .int .i64 0, .int .i64 0, .int .i64 0]), 5, 40) := by kernel_rfl
theorem info_zo : (Tryz.prog.info? 75).map (fun i => (i.zero, i.size, i.bytes)) = some (some (Value.agg #[.int .i64 0, .slice none 0 0, .slice none 0 0, .int .i64 0]), 4, 64) := by kernel_rfl
set_option maxHeartbeats 1000000 in
set_option maxRecDepth 100000 in
theorem cloneSh_any (A : Option Addr) (c : Nat) (l : List S115) (w : World) (hr : Kd.C k115 w A l.length l) (hc : l.length ≤ c) (hm : l.length ≤ 1099511627776) :
    Calls Tryz.prog 65 #[.slice A l.length c] w (AnySl w) := by
  obtain ⟨i0, hi, hz0, hz1, hz2⟩ := info_parts info_sh
  have q22 : ∀ (w : World) (a : Option Addr) (n c n' c' : Nat), (binOp .eql 72 (.slice a n c) (.slice none n' c')).run Tryz.prog w = .ok (.bool a.isNone) w := fun w a n c n' c' => Lib.run_eql_slice_nil w _ _ a n c n' c' Tryz.underlying72
  cases A with
  | none =>
    clear hr
    go_enter Tryz.func65, Tryz.ntmps65
    go_wp2
    go_ret
    exact ⟨none, 0, 0, rfl, Below.refl _ _⟩
  | some ad =>
    obtain ⟨h1, h2⟩ := C_news hr (fun x => [.int .i64 x.f0, .int .i64 x.f1]) (fun _ => rfl) (fun _ _ _ h => k115_open h) (by decide)
    have H2 := Lib.hid h2
    have H1 := Lib.hid h1
    have hone : ∀ u ∈ l.flatMap (fun x : S115 => [Value.int .i64 x.f0, Value.int .i64 x.f1]), u.oneCell' = true := fun u hu => by
      obtain ⟨x, _, hx⟩ := List.mem_flatMap.1 hu
      simp at hx
      rcases hx with rfl | rfl <;> rfl
    have HOne := Lib.hid hone
    clear hr h1 h2 hone
    go_enter Tryz.func65, Tryz.ntmps65
    go_wp2_with (at_builtin; refine wpList_append_own _ rfl _ _ 72 rfl w.heap.size 115 i0 (.agg #[.int .i64 0, .int .i64 0]) 2 16 Tryz.underlying72 hi hz0 hz1 hz2 rfl (by decide) (.slice (some ⟨w.heap.size, 0, none⟩) 0 0) 0 [] rfl (World.ownsRow_made w #[] 0 (Nat.le_refl _) (Nat.zero_le _) (by simp)) ad l.length c _ rfl H1.out (fun j u hj => Lib.cell?_alloc_some _ (H2.out j u hj)) HOne.out (by unfold maxLen; omega) (by omega) (by simp) ?_; intro v' w1 hown hgrow hnil)
    obtain ⟨A', c', rfl⟩ := own_any hown
    have HB := Lib.hid (((Below.refl _ w).alloc (Nat.le_refl _) (.cells #[] 115)).grown hgrow (by simp) (by intro k hk; simp [Value.ownBlock] at hk; omega))
    clear hown hgrow hnil
    go_wp2
    go_ret
    exact ⟨A', _, c', rfl, HB.out⟩
set_option maxHeartbeats 1000000 in
set_option maxRecDepth 100000 in
theorem cloneYe_any (A : Option Addr) (c : Nat) (l : List S119) (w : World) (hr : Kd.C k119 w A l.length l) (hc : l.length ≤ c) (hm : l.length ≤ 1099511627776) :
    Calls Tryz.prog 66 #[.slice A l.length c] w (AnySl w) := by
  obtain ⟨i0, hi, hz0, hz1, hz2⟩ := info_parts info_ye
  have q22 : ∀ (w : World) (a : Option Addr) (n c n' c' : Nat), (binOp .eql 73 (.slice a n c) (.slice none n' c')).run Tryz.prog w = .ok (.bool a.isNone) w := fun w a n c n' c' => Lib.run_eql_slice_nil w _ _ a n c n' c' Tryz.underlying73
  cases A with
  | none =>
    clear hr
    go_enter Tryz.func66, Tryz.ntmps66
    go_wp2
    go_ret
    exact ⟨none, 0, 0, rfl, Below.refl _ _⟩
  | some ad =>
    obtain ⟨h1, h2⟩ := C_news hr (fun x => [.int .i64 x.f0, .int .i64 x.f1, .int .i64 x.f2, .int .i64 x.f3, .int .i64 x.f4]) (fun _ => rfl) (fun _ _ _ h => k119_open h) (by decide)
    have H2 := Lib.hid h2
    have H1 := Lib.hid h1
    have hone : ∀ u ∈ l.flatMap (fun x : S119 => [Value.int .i64 x.f0, Value.int .i64 x.f1, Value.int .i64 x.f2, Value.int .i64 x.f3, Value.int .i64 x.f4]), u.oneCell' = true := fun u hu => by
      obtain ⟨x, _, hx⟩ := List.mem_flatMap.1 hu
      simp at hx
      rcases hx with rfl | rfl | rfl | rfl | rfl <;> rfl
    have HOne := Lib.hid hone
    clear hr h1 h2 hone
    go_enter Tryz.func66, Tryz.ntmps66
    go_wp2_with (at_builtin; refine wpList_append_own _ rfl _ _ 73 rfl w.heap.size 119 i0 (.agg #[.int .i64 0, .int .i64 0, .int .i64 0, .int .i64 0, .int .i64 0]) 5 40 Tryz.underlying73 hi hz0 hz1 hz2 rfl (by decide) (.slice (some ⟨w.heap.size, 0, none⟩) 0 0) 0 [] rfl (World.ownsRow_made w #[] 0 (Nat.le_refl _) (Nat.zero_le _) (by simp)) ad l.length c _ rfl H1.out (fun j u hj => Lib.cell?_alloc_some _ (H2.out j u hj)) HOne.out (by unfold maxLen; omega) (by omega) (by simp) ?_; intro v' w1 hown hgrow hnil)
    obtain ⟨A', c', rfl⟩ := own_any hown
    have HB := Lib.hid (((Below.refl _ w).alloc (Nat.le_refl _) (.cells #[] 119)).grown hgrow (by simp) (by intro k hk; simp [Value.ownBlock] at hk; omega))
    clear hown hgrow hnil
    go_wp2
    go_ret
    exact ⟨A', _, c', rfl, HB.out⟩

theorem z_12 {w : World} {g : Nat} {t : TypeId} {a b c d : Value} (h : w.heap[g]? = some (.cells #[a, b, c, d] t (0, 0))) (x y : Value) : ((w.setCell ⟨g, 1, none⟩ x).setCell ⟨g, 2, none⟩ y).heap[g]? = some (.cells #[a, x, y, d] t (0, 0)) := by
  have := blk_set (blk_set h 1 x) 2 y
  simpa using this
theorem z_21 {w : World} {g : Nat} {t : TypeId} {a b c d : Value} (h : w.heap[g]? = some (.cells #[a, b, c, d] t (0, 0))) (x y : Value) : ((w.setCell ⟨g, 2, none⟩ y).setCell ⟨g, 1, none⟩ x).heap[g]? = some (.cells #[a, x, y, d] t (0, 0)) := by
  have := blk_set (blk_set h 2 y) 1 x
  simpa using this
theorem opts_ne {W : World} {base b n : Nat} {v : Value} {cs : Array Value} {xs : List Value} (h : W.ownsRow base 75 4 v n xs) (hb : W.heap[b]? = some (.cells cs 24 (0, 0))) : v.ownBlock ≠ some b := by
  intro he
  rcases h.2 with ⟨rfl, _⟩ | ⟨g, cap, cur, rfl, _, hg, _⟩
  · cases he
  · cases he
    rw [hb] at hg
    cases hg
theorem size_opts : (Tryz.prog.info? 24).map (·.size) = some 5 := by kernel_rfl
theorem blk5 {w : World} {g : Nat} {t : TypeId} {x0 x1 x2 x3 x4 : Value} (h : w.heap[g]? = some (.cells #[x0, x1, x2, x3, x4] t (0, 0))) (a b c d e : Value) :
    (((((w.setCell ⟨g, 0, none⟩ a).setCell ⟨g, 1, none⟩ b).setCell ⟨g, 2, none⟩ c).setCell ⟨g, 3, none⟩ d).setCell ⟨g, 4, none⟩ e).heap[g]? = some (.cells #[a, b, c, d, e] t (0, 0)) := by
  have := blk_set (blk_set (blk_set (blk_set (blk_set h 0 a) 1 b) 2 c) 3 d) 4 e
  simpa using this
def ZoneAt (wr : World) (f0 f3 : Int) (wc : World) : Prop := Below wr.heap.size wr wc ∧ ∃ A1 n1 c1 A2 n2 c2, wc.heap[wr.heap.size]? = some (.cells #[.int .i64 f0, .slice A1 n1 c1, .slice A2 n2 c2, .int .i64 f3] 75 (0, 0))
def CopyAt (w : World) (B : Nat) (l : List S75) (k : Nat) (v : Value) (wr : World) : Prop := (∃ xs : List Value, wr.ownsRow B 75 4 v k xs) ∧ Below w.heap.size w wr
def OptsAt (w : World) (B : Nat) (n u lo hi : Int) (A : Option Addr) (m c : Nat) (wr : World) : Prop :=
  wr.heap[w.heap.size]? = some (.cells #[.int .i64 n, .int .i64 u, .slice A m c, .int .i64 lo, .int .i64 hi] 24 (0, 0)) ∧
  wr.heap[w.heap.size + 1]? = some (.cells #[.int .i64 0, .int .i64 0, .slice none 0 0, .int .i64 0, .int .i64 0] 24 (0, 0))
def CopyIs (w : World) (n u lo hi : Int) (e : Ending) (w' : World) : Prop := ∃ A m c, e = .returned (.agg #[.int .i64 n, .int .i64 u, .slice A m c, .int .i64 lo, .int .i64 hi]) ∧ Below w.heap.size w w'
set_option maxHeartbeats 2000000 in
set_option maxRecDepth 100000 in
theorem copyo_any (n u : Int) (A : Option Addr) (c : Nat) (l : List S75) (lo hi : Int) (w : World) (hr : Kd.C k75 w A l.length l) (hc : l.length ≤ c) (hm : l.length ≤ 1099511627776)
    (hz : ∀ z ∈ l, z.f1.length ≤ 1099511627776 ∧ z.f2.length ≤ 1099511627776) :
    Calls Tryz.prog 39 #[.agg #[.int .i64 n, .int .i64 u, .slice A l.length c, .int .i64 lo, .int .i64 hi]] w (CopyIs w n u lo hi) := by
  obtain ⟨i0, hinf, hz0, hz1, hz2⟩ := info_parts info_zo
  have HR := Lib.hid hr
  have HZ := Lib.hid hz
  clear hr hz
  go_enter Tryz.func39, Tryz.ntmps39
  go_wp2
  have HL0 : ∀ W1, W1 = ((w.alloc (.cells #[.int .i64 n, .int .i64 u, .slice A l.length c, .int .i64 lo, .int .i64 hi] 24)).alloc (.cells #[.int .i64 0, .int .i64 0, .slice none 0 0, .int .i64 0, .int .i64 0] 24)) → Hid (CopyAt w w.heap.size l 0 (.slice none 0 0) W1 ∧ OptsAt w w.heap.size n u lo hi A l.length c W1) := fun W1 h => by
    subst h
    exact ⟨⟨⟨[], own_nil _ _ _ _⟩, (below_alloc (below_alloc (Below.refl _ _) _) _)⟩, blk_alloc (newAt w _ _ rfl) _, new2 _ _ _⟩
  go_loopw [3, 9] (fun v i wr => ∃ (k : Nat) (v0 : Value), v0 = v ∧ i = .int .i64 k ∧ k ≤ l.length ∧ Hid (CopyAt w w.heap.size l k v0 wr ∧ OptsAt w w.heap.size n u lo hi A l.length c wr)) (fun _ i _ => l.length - (intOf i).toNat)
  case atStart => exact ⟨0, _, rfl, by go_num, Nat.zero_le _, HL0 _ rfl⟩
  case round =>
    clear HL0
    obtain ⟨k, v, rfl, rfl, hk, HA⟩ := hrel
    have hbw := HA.out.1.2.size
    by_cases hlt : k < l.length
    · obtain ⟨ad, A1, c1, A2, c2, rfl, e0, e1, e2, e3, hl1, hC1, hl2, hC2⟩ := at_T75 (Kd.C_below HR.out HA.out.1.2) (k : Int) (by omega) (by omega)
      rw [Int.toNat_natCast] at e0 e1 e2 e3
      have hzz := HZ.out (rd_T75 l (k : Int)) (by
        have : rd_T75 l (k : Int) = l[k] := by simp [rd_T75, hlt]
        rw [this]; exact List.getElem_mem hlt)
      generalize rd_T75 l (k : Int) = z at *
      have hm1 := hzz.1
      have hm2 := hzz.2
      have HC1 := Lib.hid hC1
      have HC2 := Lib.hid hC2
      have n0 : wr.heap.size ≠ (ad.add (k * 4)).block := Nat.ne_of_gt (World.block_lt_of_cell? wr _ e0)
      have n1 : (ad.add (k * 4)).block < wr.heap.size := World.block_lt_of_cell? wr _ e0
      have n2 : (ad.add (k * 4)).block ≠ wr.heap.size := by omega
      clear hzz hC1 hC2
      go_wp2_with fail
      go_cut [15] (fun v15 wc => ∃ x15 : Value, x15 = v15 ∧ Hid (ZoneAt wr z.f0 z.f3 wc))
      case first =>
        go_region_with ((first | (go_at_call 65; refine (cloneSh_any A1 c1 z.f1 _ (Kd.C_below HC1.out ?hb9) hl1 hm1).mono ?_; (case hb9 => (first | (with_reducible assumption) | (repeat (first | (with_reducible exact Below.refl _ _) | (with_reducible refine below_alloc ?_ _) | (with_reducible refine below_drew ?_))))); rintro e w5 ⟨Ax, nx, cx, rfl, hb5⟩; (have hz6 : Below wr.heap.size wr w5 := below_then (by (first | (with_reducible assumption) | (repeat (first | (with_reducible exact Below.refl _ _) | (with_reducible refine below_alloc ?_ _) | (with_reducible refine below_drew ?_))))) (by first | (simp; done) | omega | (simp; omega)) hb5); (have hx6 : w5.heap[wr.heap.size]? = some (.cells #[.int .i64 z.f0, .slice A1 z.f1.length c1, .slice A2 z.f2.length c2, .int .i64 z.f3] 75 (0, 0)) := (hb5.block wr.heap.size (by first | (simp; done) | omega | (simp; omega))).trans (by (first | (with_reducible assumption) | (repeat (first | ((with_reducible refine newAt _ _ _ ?_); (first | (simp; done) | rfl)) | (with_reducible refine blk_alloc ?_ _) | (with_reducible refine blk_drew ?_)))))); (have k0 : w5.cell? ⟨wr.heap.size, 0, none⟩ = some (.int .i64 z.f0) := blk_cell hx6 0); (have k1 : w5.cell? ⟨wr.heap.size, 1, none⟩ = some (.slice A1 z.f1.length c1) := blk_cell hx6 1); (have k2 : w5.cell? ⟨wr.heap.size, 2, none⟩ = some (.slice A2 z.f2.length c2) := blk_cell hx6 2); (have j1 : w5.frozen? ⟨wr.heap.size, 1, none⟩ = false := blk_frozen hx6 1); (have j2 : w5.frozen? ⟨wr.heap.size, 2, none⟩ = false := blk_frozen hx6 2); (have hlt6 : wr.heap.size < w5.heap.size := blk_lt hx6)) | (go_at_call 66; refine (cloneYe_any A2 c2 z.f2 _ (Kd.C_below HC2.out ?hb9) hl2 hm2).mono ?_; (case hb9 => (first | (with_reducible assumption) | (repeat (first | (with_reducible exact Below.refl _ _) | (with_reducible refine below_alloc ?_ _) | (with_reducible refine below_drew ?_))))); rintro e w5 ⟨Ax, nx, cx, rfl, hb5⟩; (have hz6 : Below wr.heap.size wr w5 := below_then (by (first | (with_reducible assumption) | (repeat (first | (with_reducible exact Below.refl _ _) | (with_reducible refine below_alloc ?_ _) | (with_reducible refine below_drew ?_))))) (by first | (simp; done) | omega | (simp; omega)) hb5); (have hx6 : w5.heap[wr.heap.size]? = some (.cells #[.int .i64 z.f0, .slice A1 z.f1.length c1, .slice A2 z.f2.length c2, .int .i64 z.f3] 75 (0, 0)) := (hb5.block wr.heap.size (by first | (simp; done) | omega | (simp; omega))).trans (by (first | (with_reducible assumption) | (repeat (first | ((with_reducible refine newAt _ _ _ ?_); (first | (simp; done) | rfl)) | (with_reducible refine blk_alloc ?_ _) | (with_reducible refine blk_drew ?_)))))); (have k0 : w5.cell? ⟨wr.heap.size, 0, none⟩ = some (.int .i64 z.f0) := blk_cell hx6 0); (have k1 : w5.cell? ⟨wr.heap.size, 1, none⟩ = some (.slice A1 z.f1.length c1) := blk_cell hx6 1); (have k2 : w5.cell? ⟨wr.heap.size, 2, none⟩ = some (.slice A2 z.f2.length c2) := blk_cell hx6 2); (have j1 : w5.frozen? ⟨wr.heap.size, 1, none⟩ = false := blk_frozen hx6 1); (have j2 : w5.frozen? ⟨wr.heap.size, 2, none⟩ = false := blk_frozen hx6 2); (have hlt6 : wr.heap.size < w5.heap.size := blk_lt hx6))))
        all_goals
          go_wp2_with fail
          go_meet
          refine ⟨_, rfl, Lib.hid ⟨?_, ?_⟩⟩
          · (repeat (first | (with_reducible exact hz6) | (with_reducible refine below_drew ?_) | refine Below.setCell ?_ (by dsimp only; omega) _))
          · first | exact ⟨_, _, _, _, _, _, z_12 hx6 _ _⟩ | exact ⟨_, _, _, _, _, _, z_21 hx6 _ _⟩
      case rest =>
        obtain ⟨x15, rfl, HZo⟩ := hcut
        obtain ⟨hzb, B1, m1, d1, B2, m2, d2, hzx⟩ := HZo.out
        have g0 : wc.cell? ⟨wr.heap.size, 0, none⟩ = some (.int .i64 z.f0) := blk_cell hzx 0
        have g1 : wc.cell? ⟨wr.heap.size, 1, none⟩ = some (.slice B1 m1 d1) := blk_cell hzx 1
        have g2 : wc.cell? ⟨wr.heap.size, 2, none⟩ = some (.slice B2 m2 d2) := blk_cell hzx 2
        have g3 : wc.cell? ⟨wr.heap.size, 3, none⟩ = some (.int .i64 z.f3) := blk_cell hzx 3
        have hwl := blk_lt hzx
        obtain ⟨xs, hown⟩ := HA.out.1.1
        have HO := Lib.hid (pw_own_below hown hzb)
        have HBz := Lib.hid hzb
        clear hown hzb hzx
        go_wp2_with (at_builtin; refine wpList_append_own_at _ rfl _ _ 22 rfl w.heap.size 75 i0 (.agg #[.int .i64 0, .slice none 0 0, .slice none 0 0, .int .i64 0]) 4 64 Tryz.underlying22 hinf hz0 hz1 hz2 rfl (by decide) _ k _ rfl (HO.out.alloc _) ⟨wc.heap.size, 0, none⟩ 1 1 [.int .i64 z.f0, .slice B1 m1 d1, .slice B2 m2 d2, .int .i64 z.f3] rfl rfl (news_of (newAt _ _ _ rfl)) (by intro u hu; simp at hu; rcases hu with rfl | rfl | rfl | rfl <;> rfl) (by unfold maxLen; omega) (by omega) (by simp; omega) ?_; intro v' w6 hown' hgrow _ hat)
        go_roundw
        case measure => simp [intOf]; omega
        case rel =>
          refine ⟨k + 1, v', rfl, by go_num, by omega, Lib.hid ⟨⟨⟨_, hown'⟩, ?_⟩, ?_, ?_⟩⟩
          · exact ((HA.out.1.2.trans (HBz.out.mono hbw)).alloc (by omega) _).grown hgrow (by simp; omega) (fun q hq => (HO.out.lt q hq).1)
          · have hb1 := blk_alloc (blk_below HA.out.2.1 HBz.out) (.cells #[.int .i64 z.f0, .slice B1 m1 d1, .slice B2 m2 d2, .int .i64 z.f3] 75)
            exact (hgrow.block _ (blk_lt hb1) (fun he => opts_ne HO.out (blk_below HA.out.2.1 HBz.out) he.symm)).trans hb1
          · have hb1 := blk_alloc (blk_below HA.out.2.2 HBz.out) (.cells #[.int .i64 z.f0, .slice B1 m1 d1, .slice B2 m2 d2, .int .i64 z.f3] 75)
            exact (hgrow.block _ (blk_lt hb1) (fun he => opts_ne HO.out (blk_below HA.out.2.2 HBz.out) he.symm)).trans hb1
    · obtain rfl : k = l.length := by omega
      obtain ⟨xs, hown⟩ := HA.out.1.1
      obtain ⟨A', c', rfl⟩ := own_any hown
      have b0 := HA.out.2.1
      have b1 := HA.out.2.2
      have p0 : wr.cell? ⟨w.heap.size, 0, none⟩ = some (.int .i64 n) := blk_cell b0 0
      have p1 : wr.cell? ⟨w.heap.size, 1, none⟩ = some (.int .i64 u) := blk_cell b0 1
      have p2 : wr.cell? ⟨w.heap.size, 2, none⟩ = some (.slice A l.length c) := blk_cell b0 2
      have p3 : wr.cell? ⟨w.heap.size, 3, none⟩ = some (.int .i64 lo) := blk_cell b0 3
      have p4 : wr.cell? ⟨w.heap.size, 4, none⟩ = some (.int .i64 hi) := blk_cell b0 4
      have f2 := blk_frozen b0 2
      have q0 : wr.cell? ⟨w.heap.size + 1, 0, none⟩ = some (.int .i64 0) := blk_cell b1 0
      have q1 : wr.cell? ⟨w.heap.size + 1, 1, none⟩ = some (.int .i64 0) := blk_cell b1 1
      have q2 : wr.cell? ⟨w.heap.size + 1, 2, none⟩ = some (.slice none 0 0) := blk_cell b1 2
      have q3 : wr.cell? ⟨w.heap.size + 1, 3, none⟩ = some (.int .i64 0) := blk_cell b1 3
      have q4 : wr.cell? ⟨w.heap.size + 1, 4, none⟩ = some (.int .i64 0) := blk_cell b1 4
      have e0 := blk_frozen b1 0
      have e1 := blk_frozen b1 1
      have e2 := blk_frozen b1 2
      have e3 := blk_frozen b1 3
      have e4 := blk_frozen b1 4
      have HB0 := Lib.hid b0
      have HB1 := Lib.hid b1
      clear b0 b1 hown
      go_wp2
      refine bodyPost_ret (results_cell_row rfl _ _ (w.heap.size + 1) 24 #[.int .i64 n, .int .i64 u, .slice A' l.length c', .int .i64 lo, .int .i64 hi] (0, 0) _ rfl (by exact blk5 (blk_far HB1.out (by dsimp only; omega) _) _ _ _ _ _) Tryz.underlying24 rfl size_opts) rfl ?_
      refine ⟨A', l.length, c', rfl, ?_⟩
      exact (((((HA.out.1.2.setCell (by dsimp only; omega) _).setCell (by dsimp only; omega) _).setCell (by dsimp only; omega) _).setCell (by dsimp only; omega) _).setCell (by dsimp only; omega) _).setCell (by dsimp only; omega) _
end Go.Proofs.YtohpimfanplloaaGreat.CalG
