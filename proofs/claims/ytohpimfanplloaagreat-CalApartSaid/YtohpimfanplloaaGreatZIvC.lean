/- The search in a set of spans with owners: slices.BinarySearchFunc, meets, clash, Clash, Has. -/
import Derived.Test.YtohpimfanplloaaGreatZIvB
import Derived.WalkKit
import Derived.WalkSpells
import Derived.Lib.Hide
import Derived.Deep.QuietTactic
import Derived.BigQuiet
import Derived.Deep.RegionHeld3
import Derived.Test.YtohpimfanplloaaGreatZIvLay
set_option linter.unusedVariables false
set_option linter.unusedSimpArgs false
namespace Go.Proofs.YtohpimfanplloaaGreat.IvC
open Go.RowKit Go.Proofs.YtohpimfanplloaaGreatW.PrintWords Go.Proofs.YtohpimfanplloaaGreatW.PrintLast Go.Proofs.YtohpimfanplloaaGreatW.PrintMore Go.Proofs.YtohpimfanplloaaGreat.PureI1 Go.Proofs.YtohpimfanplloaaGreat.PureI2 Go.Proofs.YtohpimfanplloaaGreat.IvA Go.Proofs.YtohpimfanplloaaGreat.IvB

def rdT (L : List Tg) (i : Nat) : Tg := L.getD i ((0, 0), 0)
/-- The three cells of a row's element. -/
theorem tg_cells {W : World} {base g c n : Nat} {L : List Tg} (h : W.ownsRow base 46 3 (.slice (some ⟨g, 0, none⟩) n c) n (L.flatMap encT)) (i : Nat) (hi : i < L.length) :
    W.cell? ⟨g, i * 3, none⟩ = some (.int .i64 (rdT L i).1.1) ∧ W.cell? ⟨g, i * 3 + 1, none⟩ = some (.int .i64 (rdT L i).1.2) ∧ W.cell? ⟨g, i * 3 + 2, none⟩ = some (.int .i64 (rdT L i).2) ∧
    W.frozen? ⟨g, i * 3, none⟩ = false ∧ W.frozen? ⟨g, i * 3 + 1, none⟩ = false ∧ W.frozen? ⟨g, i * 3 + 2, none⟩ = false := by
  have h0 := row_cells h _ _ ((encT_get L i 0 hi (by decide)).trans rfl)
  have h1 := row_cells h _ _ ((encT_get L i 1 hi (by decide)).trans rfl)
  have h2 := row_cells h _ _ ((encT_get L i 2 hi (by decide)).trans rfl)
  exact ⟨h0.1, h1.1, h2.1, h0.2, h1.2, h2.2⟩
theorem rdT_eq {L : List Tg} {i : Nat} (h : i < L.length) : rdT L i = L[i] := by simp [rdT, h]

theorem meetsC_any (t : Tg) (lo : Int) (W : World) : Calls Tryz.prog 119 #[.agg #[.int .i64 t.1.1, .int .i64 t.1.2, .int .i64 t.2], .int .i64 lo] W fun e w' => e = .returned (.int .i64 (if before lo t = true then -1 else 1)) ∧ Below W.heap.size W w' := by
  unfold before
  by_cases h : t.1.2 ≤ lo
  · have d : decide (t.1.2 ≤ lo) = true := decide_eq_true h
    rw [d]
    go_enter Tryz.func119, Tryz.ntmps119
    go_wp2
    go_ret
    exact ⟨rfl, (Below.refl _ _).alloc (Nat.le_refl _) _⟩
  · have d : decide (t.1.2 ≤ lo) = false := decide_eq_false h
    rw [d]
    go_enter Tryz.func119, Tryz.ntmps119
    go_wp2
    go_ret
    exact ⟨rfl, (Below.refl _ _).alloc (Nat.le_refl _) _⟩

def BinIs (W : World) (L : List Tg) (lo : Int) (e : Ending) (w' : World) : Prop := e = .returned (.tuple #[.int .i64 (L.countP (before lo) : Nat), .bool false]) ∧ Below W.heap.size W w'
def BinAt (W : World) (L : List Tg) (lo : Int) (i j : Nat) (wr : World) : Prop := (∀ a, a < i → before lo (rdT L a) = true) ∧ (∀ a, j ≤ a → a < L.length → before lo (rdT L a) = false) ∧ Below W.heap.size W wr
theorem count_at {L : List Tg} {lo : Int} {i : Nat} (hi : i ≤ L.length) {W wr : World} (h : BinAt W L lo i i wr) : L.countP (before lo) = i :=
  count_mono (before lo) L i hi (fun a ha h1 => by rw [← rdT_eq ha]; exact h.1 a h1) (fun a ha h1 => by rw [← rdT_eq ha]; exact h.2.1 a h1 ha)

set_option maxHeartbeats 1000000 in
set_option maxRecDepth 100000 in
theorem bin_any (base : Nat) (v : Value) (L : List Tg) (lo : Int) (W : World) (hr : RowT W base v L) (hI : Inv L) (hm : L.length ≤ 1099511627776) :
    Calls Tryz.prog 118 #[v, .int .i64 lo, .func (.func 119) #[] #[]] W (BinIs W L lo) := by
  have eg : ∀ args w, (callFunc 119 args).run Tryz.prog w = .ok (.enter 119 args) w := enters_of Tryz.func119 (by kernel_rfl) rfl
  rcases row_slice hr with ⟨rfl, h0⟩ | ⟨g, c, rfl, hn, hb, hg⟩
  · have hL : L = [] := List.length_eq_zero_iff.1 h0
    subst hL
    clear hr hI
    go_enter Tryz.func118, Tryz.ntmps118
    go_wp2
    go_loopg [9, 10] 0 (fun kx s9 s10 wr => s9 = .int .i64 (0 : Nat) ∧ s10 = .int .i64 (0 : Nat) ∧ Hid (Below W.heap.size W wr))
    case atStart => exact ⟨by go_num, by go_num, Lib.hid (Below.refl _ _)⟩
    case round =>
      obtain ⟨rfl, rfl, HB⟩ := hrel
      go_wp2
      go_ret2
      exact ⟨rfl, HB.out⟩
  · have HR := Lib.hid hr
    have HM := Lib.hid hI
    clear hr hI
    go_enter Tryz.func118, Tryz.ntmps118
    go_wp2
    go_loopg [9, 10] L.length (fun kx s9 s10 wr => ∃ i j : Nat, s9 = .int .i64 i ∧ s10 = .int .i64 j ∧ i ≤ j ∧ j ≤ L.length ∧ j - i ≤ kx ∧ Hid (BinAt W L lo i j wr))
    case atStart => exact ⟨0, L.length, by go_num, rfl, Nat.zero_le _, Nat.le_refl _, by omega, Lib.hid ⟨fun a h => absurd h (Nat.not_lt_zero _), fun a h1 h2 => by omega, Below.refl _ _⟩⟩
    case round =>
      obtain ⟨i, j, rfl, rfl, hij, hj, hk, HA⟩ := hrel
      by_cases hlt : i < j
      · obtain ⟨c0, c1, c2, _⟩ := tg_cells (pw_own_below HR.out HA.out.2.2) ((i + j) / 2) (by omega)
        generalize hy : rdT L ((i + j) / 2) = y at c0 c1 c2
        have HY := Lib.hid hy
        have HC := Lib.hid (fun W => meetsC_any y lo W)
        clear hy
        have hmid : (i + j) / 2 < L.length := by omega
        by_cases hb : before lo y = true
        · rw [hb] at HC
          go_wp2_with (go_at_fn 119; refine (HC.out _).mono ?_; rintro e w' ⟨rfl, hbl⟩)
          go_roundg (j - ((i + j) / 2 + 1))
          case measure => omega
          case rel =>
            refine ⟨(i + j) / 2 + 1, j, by rw [show ((i : Int) + (j : Int)) / 2 + 1 = (((i + j) / 2 + 1 : Nat) : Int) by omega], rfl, by omega, hj, Nat.le_refl _, Lib.hid ⟨fun a ha => ?_, HA.out.2.1, HA.out.2.2.trans (hbl.mono HA.out.2.2.size)⟩⟩
            rw [rdT_eq (by omega)]
            refine before_mono HM.out lo (b := (i + j) / 2) (by omega) hmid ?_
            rw [← rdT_eq hmid, HY.out]
            exact hb
        · have hb : before lo y = false := by simpa using hb
          rw [hb] at HC
          go_wp2_with (go_at_fn 119; refine (HC.out _).mono ?_; rintro e w' ⟨rfl, hbl⟩)
          go_roundg ((i + j) / 2 - i)
          case measure => omega
          case rel =>
            refine ⟨i, (i + j) / 2, rfl, by rw [show ((i : Int) + (j : Int)) / 2 = (((i + j) / 2 : Nat) : Int) by omega], by omega, by omega, Nat.le_refl _, Lib.hid ⟨HA.out.1, fun a h1 h2 => ?_, HA.out.2.2.trans (hbl.mono HA.out.2.2.size)⟩⟩
            cases hq : before lo (rdT L a) with
            | false => rfl
            | true =>
              rw [rdT_eq h2] at hq
              have := before_mono HM.out lo (a := (i + j) / 2) h1 h2 hq
              rw [← rdT_eq hmid, HY.out, hb] at this
              cases this
      · obtain rfl : j = i := by omega
        have hc := count_at hj HA.out
        have HCn := Lib.hid hc
        clear hc
        by_cases hn : j < L.length
        · obtain ⟨c0, c1, c2, _⟩ := tg_cells (pw_own_below HR.out HA.out.2.2) j hn
          generalize hy : rdT L j = y at c0 c1 c2
          have hb : before lo y = false := by rw [← hy]; exact HA.out.2.1 j (Nat.le_refl _) hn
          have hcall := fun W => meetsC_any y lo W
          rw [hb] at hcall
          have HC := Lib.hid hcall
          clear hy hcall
          go_wp2_with (go_at_fn 119; refine (HC.out _).mono ?_; rintro e w' ⟨rfl, hbl⟩)
          go_ret2
          exact ⟨by rw [HCn.out]; rfl, HA.out.2.2.trans (hbl.mono HA.out.2.2.size)⟩
        · go_wp2
          go_ret2
          exact ⟨by rw [HCn.out]; simp [hn], HA.out.2.2⟩

/-! ### meets, clash, Clash -/
/-- At block b lies a set that holds L; what it leads to lies in F. -/
def SetAt (W : World) (F : Nat → Prop) (b : Nat) (L : List Tg) : Prop :=
  F b ∧ Inv L ∧ ∃ v, W.heap[b]? = some (.cells #[v] 122 (0, 0)) ∧ RowT W 0 v L ∧ ∀ k, v.ownBlock = some k → F k
theorem SetAt.keep {W W1 : World} {F : Nat → Prop} {b : Nat} {L : List Tg} (h : SetAt W F b L) (hk : ∀ k, F k → k < W.heap.size → W1.heap[k]? = W.heap[k]?) : SetAt W1 F b L := by
  obtain ⟨h1, h2, v, h3, h4, h5⟩ := h
  refine ⟨h1, h2, v, (hk b h1 (blk_lt h3)).trans h3, ?_, h5⟩
  refine ⟨h4.1, ?_⟩
  rcases h4.2 with h | ⟨g, cap, cur, hv, hb, hg, hr⟩
  · exact .inl h
  · exact .inr ⟨g, cap, cur, hv, hb, (hk g (h5 g (by rw [hv]; rfl)) (blk_lt hg)).trans hg, hr⟩
theorem SetAt.below {W W1 : World} {F : Nat → Prop} {b : Nat} {L : List Tg} (h : SetAt W F b L) (hb : Below W.heap.size W W1) : SetAt W1 F b L := h.keep fun k _ hlt => hb.block k hlt
theorem SetAt.kept {W W1 : World} {F S : Nat → Prop} {b : Nat} {L : List Tg} (h : SetAt W F b L) (hk : Kept W W1 S) (hd : ∀ k, F k → ¬ S k) : SetAt W1 F b L := h.keep fun k hF hlt => hk.2 k hlt (hd k hF)
theorem SetAt.mono {W : World} {F F' : Nat → Prop} {b : Nat} {L : List Tg} (h : SetAt W F b L) (hF : ∀ k, F k → F' k) : SetAt W F' b L := by
  obtain ⟨h1, h2, v, h3, h4, h5⟩ := h
  exact ⟨hF b h1, h2, v, h3, h4, fun k hk => hF k (h5 k hk)⟩
theorem SetAt.inv {W : World} {F : Nat → Prop} {b : Nat} {L : List Tg} (h : SetAt W F b L) : Inv L := h.2.1
theorem SetAt.lt {W : World} {F : Nat → Prop} {b : Nat} {L : List Tg} (h : SetAt W F b L) : b < W.heap.size := by
  obtain ⟨h1, h2, v, h3, h4, h5⟩ := h
  exact blk_lt h3
theorem blk3 {w : World} {g : Nat} {t : TypeId} {x y z : Value} (h : w.heap[g]? = some (.cells #[x, y, z] t (0, 0))) (a b c : Value) :
    (((w.setCell ⟨g, 0, none⟩ a).setCell ⟨g, 1, none⟩ b).setCell ⟨g, 2, none⟩ c).heap[g]? = some (.cells #[a, b, c] t (0, 0)) := by
  have := blk_set (blk_set (blk_set h 0 a) 1 b) 2 c
  simpa using this
theorem size_tg : (Tryz.prog.info? 46).map (·.size) = some 3 := by kernel_rfl
def tgV (t : Tg) : Value := .agg #[.int .i64 t.1.1, .int .i64 t.1.2, .int .i64 t.2]
def resT : Option Tg → Value
  | some t => .tuple #[tgV t, .bool true]
  | none => .tuple #[tgV ((0, 0), 0), .bool false]
def ResIs (W : World) (o : Option Tg) (e : Ending) (w' : World) : Prop := e = .returned (resT o) ∧ Below W.heap.size W w'
def MeetAt (W : World) (L : List Tg) (x : Sp) (but : Int) (i : Nat) (wr : World) : Prop := scan x but (L.drop i) = meets L x but ∧ wr.heap[W.heap.size]? = some (.cells #[.int .i64 x.1, .int .i64 x.2] 42 (0, 0)) ∧ wr.heap[W.heap.size + 1]? = some (.cells #[.int .i64 0, .int .i64 0, .int .i64 0] 46 (0, 0)) ∧ Below W.heap.size W wr

set_option maxHeartbeats 1000000 in
set_option maxRecDepth 100000 in
theorem meets_any (F : Nat → Prop) (b : Nat) (L : List Tg) (x : Sp) (but : Int) (W : World) (hS : SetAt W F b L) (hm : L.length ≤ 1099511627776) :
    Calls Tryz.prog 94 #[.pointer (some ⟨b, 0, none⟩), .agg #[.int .i64 x.1, .int .i64 x.2], .int .i64 but] W (ResIs W (meets L x but)) := by
  obtain ⟨_, hI, v, hblk, hrow, _⟩ := hS
  have hsc := scan_meets x but L hI
  obtain ⟨A, c, rfl⟩ := own_slice hrow
  have HB := Lib.hid hblk
  have HBK := Lib.hid hblk
  have HR := Lib.hid hrow
  have HSc := Lib.hid hsc
  have hcnt : L.countP (before x.1) ≤ L.length := List.countP_le_length
  have HI := Lib.hid hI
  have hbn := blk_lt hblk
  have c0 : W.cell? ⟨b, 0, none⟩ = some (.slice A L.length c) := blk_cell hblk 0
  clear hblk hrow hsc hI
  go_enter Tryz.func94, Tryz.ntmps94
  go_wp2_with fail
  have HBW : Below W.heap.size W ((W.alloc (.cells #[.int .i64 x.1, .int .i64 x.2] 42)).alloc (.cells #[.int .i64 0, .int .i64 0, .int .i64 0] 46)) := below_alloc (below_alloc (Below.refl _ _) _) _
  go_region_held3 (fun w' => w'.cell? ⟨b, 0, none⟩ = some (.slice A L.length c) ∧ w'.cell? ⟨W.heap.size, 0, none⟩ = some (.int .i64 x.1) ∧ Below W.heap.size W w') (((try dsimp only); (repeat' apply And.intro) <;> first | assumption | exact Below.drew (by assumption) | go_keep))
    ((go_at_call 118; refine (bin_any 0 _ L x.1 _ (pw_own_below HR.out (below_drew HBW)) HI.out hm).mono ?_; rintro e w1 ⟨rfl, hbl⟩; have hz := below_then (below_drew HBW) (by simp; omega) hbl; have hz0 := hz.cell (p := ⟨b, 0, none⟩) hbn; have hz1 := hbl.cell (p := ⟨W.heap.size, 0, none⟩) (by simp; omega); (try simp at hz1)))
  have B4 : w1.heap[W.heap.size]? = some (.cells #[.int .i64 x.1, .int .i64 x.2] 42 (0, 0)) := by
    rw [hbl.block W.heap.size (by simp; omega)]
    exact blk_drew (blk_alloc (newAt W _ _ rfl) _)
  have B6 : w1.heap[W.heap.size + 1]? = some (.cells #[.int .i64 0, .int .i64 0, .int .i64 0] 46 (0, 0)) := by
    rw [hbl.block (W.heap.size + 1) (by simp)]
    exact blk_drew (new2 _ _ _)
  have HM0 : Hid (MeetAt W L x but (L.countP (before x.1)) w1) := Lib.hid ⟨HSc.out, B4, B6, hz⟩
  generalize L.countP (before x.1) = i0 at *
  clear B4 B6 hz0 hz1 hz hbl HBW HSc c0 HB
  go_wp2_with fail
  go_loopw [8] (fun i wr => ∃ k : Nat, i = .int .i64 k ∧ k ≤ L.length ∧ Hid (MeetAt W L x but k wr)) (fun i _ => L.length - (intOf i).toNat)
  case atStart => exact ⟨i0, rfl, hcnt, HM0⟩
  case round =>
    clear HM0 hcnt
    obtain ⟨k, rfl, hk, HA⟩ := hrel
    have hblk := HBK.out
    have c0 : wr.cell? ⟨b, 0, none⟩ = some (.slice A L.length c) := (HA.out.2.2.2.cell (p := ⟨b, 0, none⟩) hbn).trans (blk_cell hblk 0)
    have x0 : wr.cell? ⟨W.heap.size, 0, none⟩ = some (.int .i64 x.1) := blk_cell HA.out.2.1 0
    have x1 : wr.cell? ⟨W.heap.size, 1, none⟩ = some (.int .i64 x.2) := blk_cell HA.out.2.1 1
    have r0 : wr.cell? ⟨W.heap.size + 1, 0, none⟩ = some (.int .i64 0) := blk_cell HA.out.2.2.1 0
    have r1 : wr.cell? ⟨W.heap.size + 1, 1, none⟩ = some (.int .i64 0) := blk_cell HA.out.2.2.1 1
    have r2 : wr.cell? ⟨W.heap.size + 1, 2, none⟩ = some (.int .i64 0) := blk_cell HA.out.2.2.1 2
    have f0 := blk_frozen HA.out.2.2.1 0
    have f1 := blk_frozen HA.out.2.2.1 1
    have f2 := blk_frozen HA.out.2.2.1 2
    clear hblk
    have hsz := HA.out.2.2.2.size
    by_cases hlt : k < L.length
    · obtain ⟨_, h0⟩ | ⟨g, c', hv, _, _, hg⟩ := row_slice HR.out
      · omega
      cases hv
      obtain ⟨t0, t1, t2, _⟩ := tg_cells (pw_own_below HR.out HA.out.2.2.2) k hlt
      have hdrop : L.drop k = rdT L k :: L.drop (k + 1) := by rw [rdT_eq hlt]; exact List.drop_eq_getElem_cons hlt
      generalize hy : rdT L k = y at t0 t1 t2 hdrop
      clear hy
      have b1 : (0 : Int) ≤ (k : Int) := by omega
      have b2 : (k : Int) < (L.length : Int) := by omega
      have b3 : decide ((k : Int) < (L.length : Int)) = true := decide_eq_true b2
      have HD := Lib.hid hdrop
      clear hdrop
      by_cases hx : y.1.1 < x.2
      · have d1 : decide (y.1.1 < x.2) = true := decide_eq_true hx
        by_cases hb : y.2 = but
        · have d2 : (y.2 != but) = false := by simp [hb]
          have H1 : Hid (scan x but (L.drop (k + 1)) = meets L x but) := by
            have := HA.out.1
            rw [HD.out, scan, if_pos hx, if_pos hb] at this
            exact this
          go_wp2_with fail
          go_quiet (fail)
          go_wp2
          go_roundw
          case measure => simp [intOf]; omega
          case rel => exact ⟨k + 1, by go_num, by omega, Lib.hid ⟨H1.out, HA.out.2.1, HA.out.2.2.1, pw_below_drewN HA.out.2.2.2 _⟩⟩
        · have d2 : (y.2 != but) = true := by simp [hb]
          have H1 : Hid (meets L x but = some y) := by
            have := HA.out.1
            rw [HD.out, scan, if_pos hx, if_neg hb] at this
            exact this.symm
          go_wp2_with fail
          go_quiet (fail)
          go_wp2
          exact bodyPost_ret (results_ct rfl _ _ (W.heap.size + 1) 46 #[.int .i64 y.1.1, .int .i64 y.1.2, .int .i64 y.2] (0, 0) _ rfl (by exact blk3 (blk_drewN HA.out.2.2.1 _) _ _ _) Tryz.underlying46 rfl size_tg) rfl ⟨by rw [H1.out]; rfl, (by (repeat (first | exact HA.out.2.2.2 | (refine Below.setCell ?_ (by show _ ≤ _; simp) _) | (refine pw_below_drewN ?_ _) | (refine below_drew ?_))))⟩
      · have d1 : decide (y.1.1 < x.2) = false := decide_eq_false hx
        have H1 : Hid (scan x but (L.drop k) = none) := by
          rw [HD.out, scan, if_neg hx]
          exact rfl
        go_wp2_with fail
        go_quiet (fail)
        go_wp2
        exact bodyPost_ret (results_ct rfl _ _ (W.heap.size + 1) 46 #[.int .i64 0, .int .i64 0, .int .i64 0] (0, 0) _ rfl (by exact blk3 (blk_drewN HA.out.2.2.1 _) _ _ _) Tryz.underlying46 rfl size_tg) rfl ⟨by rw [← HA.out.1, H1.out]; rfl, (by (repeat (first | exact HA.out.2.2.2 | (refine Below.setCell ?_ (by show _ ≤ _; simp) _) | (refine pw_below_drewN ?_ _) | (refine below_drew ?_))))⟩
    · obtain rfl : k = L.length := by omega
      have b3 : decide ((L.length : Int) < (L.length : Int)) = false := by simp
      have H1 : Hid (scan x but (L.drop L.length) = none) := by
        rw [List.drop_length]
        exact rfl
      go_wp2_with fail
      go_quiet (fail)
      go_wp2
      exact bodyPost_ret (results_ct rfl _ _ (W.heap.size + 1) 46 #[.int .i64 0, .int .i64 0, .int .i64 0] (0, 0) _ rfl (by exact blk3 (blk_drewN HA.out.2.2.1 _) _ _ _) Tryz.underlying46 rfl size_tg) rfl ⟨by rw [← HA.out.1, H1.out]; rfl, (by (repeat (first | exact HA.out.2.2.2 | (refine Below.setCell ?_ (by show _ ≤ _; simp) _) | (refine pw_below_drewN ?_ _) | (refine below_drew ?_))))⟩
end Go.Proofs.YtohpimfanplloaaGreat.IvC
