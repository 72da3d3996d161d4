/- The reference's order by insertion, and that its merged spans are the same. An append of a slice, empty or not, onto a row of the call's own: one step of a region. vokref6.Norm: the reference's spans in order and together. -/
import Derived.Test.YtohpimfanplloaaGreatZPureI2
import Derived.Test.YtohpimfanplloaaGreatZIvA
import Derived.Deep.AppendLies
import Derived.Deep.Upon
import Derived.Maps.AppendAt
import Derived.Test.YtohpimfanplloaaGreatZCalG
import Derived.WalkKit
import Derived.WalkSpells
import Derived.Lib.Hide
import Derived.Deep.QuietTactic
import Derived.Deep.RegionLaw
import Derived.Deep.RegionHeldLaw
import Derived.BigQuiet
import Derived.BigRegion
import Derived.Deep.RegionHeld3
set_option linter.unusedVariables false
set_option linter.unusedSimpArgs false
namespace Go.Proofs.YtohpimfanplloaaGreat.PureI3
open Go.Proofs.YtohpimfanplloaaGreat.PureI1 Go.Proofs.YtohpimfanplloaaGreat.PureI2
/-- Where x goes: sought from behind. -/
def pos (out : List Sp) (x : Int) : Nat → Nat
  | 0 => 0
  | k + 1 => if x < (out.getD k (0, 0)).1 then pos out x k else k + 1
def insertS (out : List Sp) (x : Sp) : List Sp := out.take (pos out x.1 out.length) ++ x :: out.drop (pos out x.1 out.length)
def ordered (l : List Sp) : List Sp := (inc l).foldl insertS []
theorem pos_le (out : List Sp) (x : Int) : ∀ k, pos out x k ≤ k
  | 0 => Nat.le_refl _
  | k + 1 => by
    unfold pos
    split
    · exact Nat.le_succ_of_le (pos_le out x k)
    · exact Nat.le_refl _
theorem pos_behind (out : List Sp) (x : Int) : ∀ k j, pos out x k ≤ j → j < k → x < (out.getD j (0, 0)).1
  | 0, j, h1, h2 => by omega
  | k + 1, j, h1, h2 => by
    unfold pos at h1
    split at h1
    · rename_i h
      by_cases hj : j = k
      · rw [hj]; exact h
      · exact pos_behind out x k j h1 (by omega)
    · omega
theorem pos_before (out : List Sp) (x : Int) : ∀ k, 0 < pos out x k → (out.getD (pos out x k - 1) (0, 0)).1 ≤ x
  | 0, h => by simp [pos] at h
  | k + 1, h => by
    unfold pos at h ⊢
    split
    · rename_i h2
      rw [if_pos h2] at h
      exact pos_before out x k h
    · rename_i h2
      simp only [Nat.add_sub_cancel]
      omega
theorem insert_perm (out : List Sp) (x : Sp) : (insertS out x).Perm (x :: out) := by
  unfold insertS
  refine List.perm_middle.trans ?_
  rw [List.take_append_drop]
theorem insert_len (out : List Sp) (x : Sp) : (insertS out x).length = out.length + 1 := by simpa using (insert_perm out x).length_eq
theorem insert_sorted {out : List Sp} (h : SortedLo out) (x : Sp) : SortedLo (insertS out x) := by
  have hb := pos_behind out x.1 out.length
  have ha := pos_before out x.1 out.length
  have hl := pos_le out x.1 out.length
  unfold insertS SortedLo
  generalize pos out x.1 out.length = k at *
  have hd : ∀ s ∈ out.drop k, x.1 < s.1 := fun s hs => by
    obtain ⟨j, hj⟩ := List.getElem?_of_mem hs
    rw [List.getElem?_drop] at hj
    obtain ⟨hj2, rfl⟩ := List.getElem?_eq_some_iff.1 hj
    have := hb (k + j) (by omega) hj2
    simpa [hj2] using this
  have ht : ∀ s ∈ out.take k, s.1 ≤ x.1 := fun s hs => by
    obtain ⟨j, hj⟩ := List.getElem?_of_mem hs
    obtain ⟨hj2, rfl⟩ := List.getElem?_eq_some_iff.1 hj
    rw [List.length_take] at hj2
    have hk : k - 1 < out.length := by omega
    have h0 := ha (by omega)
    rw [List.getElem_take]
    have h1 : out.getD (k - 1) (0, 0) = out[k - 1] := by simp [hk]
    rw [h1] at h0
    by_cases he : j = k - 1
    · subst he; exact h0
    · have := List.pairwise_iff_getElem.1 h j (k - 1) (by omega) hk (by omega)
      omega
  rw [List.pairwise_append]
  refine ⟨List.Pairwise.sublist (List.take_sublist _ _) h, List.pairwise_cons.2 ⟨fun s hs => by have := hd s hs; omega, List.Pairwise.sublist (List.drop_sublist _ _) h⟩, fun a ha2 b hb2 => ?_⟩
  rcases List.mem_cons.1 hb2 with rfl | hb2
  · exact ht a ha2
  · have h1 := ht a ha2
    have h2 := hd b hb2
    omega
theorem fold_ins : ∀ (l out : List Sp), SortedLo out → SortedLo (l.foldl insertS out) ∧ (l.foldl insertS out).Perm (out ++ l)
  | [], out, h => ⟨h, by simp⟩
  | x :: l, out, h => by
    obtain ⟨h1, h2⟩ := fold_ins l (insertS out x) (insert_sorted h x)
    refine ⟨h1, h2.trans ?_⟩
    have := (insert_perm out x).append_right l
    refine this.trans ?_
    simpa using (List.perm_middle (l₁ := out) (l₂ := l) (a := x)).symm
theorem ordered_norm (l : List Sp) : merged (ordered l) = norm l := by
  obtain ⟨h1, h2⟩ := fold_ins (inc l) [] List.Pairwise.nil
  exact norm_any (by show (List.foldl insertS [] (inc l)).Perm (inc l); simpa using h2) h1
theorem ordered_len (l : List Sp) : (ordered l).length ≤ l.length := by
  obtain ⟨h1, h2⟩ := fold_ins (inc l) [] List.Pairwise.nil
  have := h2.length_eq
  unfold ordered
  rw [this]
  simpa [inc] using List.length_filter_le (fun s : Sp => decide (s.1 < s.2)) l
end Go.Proofs.YtohpimfanplloaaGreat.PureI3
namespace Go.Proofs.YtohpimfanplloaaGreat.AppN
open Go Go.RowKit Go.Deep Go.Proofs.YtohpimfanplloaaGreatW.PrintWords
/-- Of m elements, m = 0 among them (then a nil slice too). -/
theorem step_append_more {P : Program} {w : World} {ops : Array Oper} {o : Oper} {a : Act} {K : Act → World → Prop} {Q : Exit → Act → World → Prop} {E : Prop} (hgd : o.guard = none) (s x : Operand) (t : TypeId)
    (ho : o.op = .call { callee := .builtin .append, args := #[s, x], argTypes := #[t, t] })
    (base : Nat) (e : TypeId) (i : TypeInfo) (z : Value) (size bytes : Nat) (ht : P.underlying t = some (.slice e)) (hi : P.info? e = some i) (hz : i.zero = some z)
    (hsize : i.size = size) (hby : i.bytes = bytes) (hzs : z.cells.size = size) (hsz : 0 < size)
    (A : Option Addr) (n c1 : Nat) (xs : List Value) (hn : n ≤ c1) (hs : a.eval s = .slice A n c1) (hown : w.ownsRow base e size (.slice A n c1) n xs)
    (xa : Option Addr) (m c : Nat) (news : List Value) (hx : a.eval x = .slice xa m c) (hl : news.length = m * size) (hnews : (xa = none ∧ m = 0) ∨ ∃ ad, xa = some ad ∧ ∀ j u, news[j]? = some u → w.cell? (ad.add j) = some u) (h1 : ∀ u ∈ news, u.oneCell' = true)
    (h63 : n + m ≤ maxLen) (hbytes : (n + m) * bytes ≤ 140737488355328) (hbase : base ≤ w.heap.size)
    (h : ∀ v' w', w'.ownsRow base e size v' (n + m) (xs ++ news) → w.grownBy w' (Value.slice A n c1).ownBlock → K (a.put o.dst v') w') :
    if Region.wanted o (yielded ops a.tmps) = true then Oper.wp P o a w K Q else E := by
  have hw : Region.wanted o (yielded ops a.tmps) = true := by simp [Region.wanted, hgd]
  rw [if_pos hw]
  rcases hnews with ⟨rfl, rfl⟩ | ⟨ad, rfl, hnews⟩
  · have hnn : news = [] := by cases news with | nil => rfl | cons _ _ => simp at hl
    subst hnn
    have hrun := run_append_nothing (P := P) w t t o.type e i ht hi A n c1 hn (.slice none 0 c) (by exact Src.ofNil w ht c)
    unfold Oper.wp
    simp [execOp, ho, resolve, invoke, builtin, hs, hx, hrun, Result.andThen]
    exact h _ _ (by simpa using hown) ⟨rfl, rfl, rfl, Nat.le_refl _, fun _ _ _ => rfl⟩
  · obtain ⟨v', w', hrun, h2, h3, _, _⟩ := run_append_own_at (P := P) w base t o.type e i z size bytes ht hi hz hsize hby hzs hsz (.slice A n c1) n xs hown ad m c news hl hnews h1 h63 hbytes hbase
    unfold Oper.wp
    simp [execOp, ho, resolve, invoke, builtin, hs, hx, hrun, Result.andThen]
    exact h _ _ h2 h3
/-- The first k elements of an own row are an own row. -/
theorem own_take {W : World} {base g n cap k size : Nat} {e : TypeId} {xs : List Value} (h : W.ownsRow base e size (.slice (some ⟨g, 0, none⟩) n cap) n xs) (hk : k ≤ n) : W.ownsRow base e size (.slice (some ⟨g, 0, none⟩) k cap) k (xs.take (k * size)) := by
  obtain ⟨h1, h2⟩ := h
  have hks : k * size ≤ n * size := Nat.mul_le_mul_right _ hk
  refine ⟨by rw [List.length_take]; omega, ?_⟩
  rcases h2 with ⟨he, _⟩ | ⟨g', cap', cur, he, hb, hg, hn, hc, hs, ht⟩
  · cases he
  · cases he
    refine .inr ⟨g, cap, cur, rfl, hb, hg, by omega, hc, hs, ?_⟩
    rw [← ht, List.take_take, Nat.min_eq_left hks]
end Go.Proofs.YtohpimfanplloaaGreat.AppN
namespace Go.Proofs.YtohpimfanplloaaGreat.CalM
open Go.RowKit Go.Proofs.YtohpimfanplloaaGreatW.PrintWords Go.Proofs.YtohpimfanplloaaGreatW.PrintLast Go.Proofs.YtohpimfanplloaaGreatW.PrintMore Go.Proofs.YtohpimfanplloaaGreat.PureI1 Go.Proofs.YtohpimfanplloaaGreat.PureI2 Go.Proofs.YtohpimfanplloaaGreat.PureI3 Go.Proofs.YtohpimfanplloaaGreat.IvA Go.Proofs.YtohpimfanplloaaGreat.IvS Go.Proofs.YtohpimfanplloaaGreat.IvB Go.Proofs.YtohpimfanplloaaGreat.AppN Go.Proofs.YtohpimfanplloaaGreat.CalG
def ordK (l : List Sp) (k : Nat) : List Sp := (inc (l.take k)).foldl insertS []
theorem ordK_yes {l : List Sp} {k : Nat} (h : k < l.length) {x : Sp} (hx : l.getD k (0, 0) = x) (hi : x.1 < x.2) : ordK l (k + 1) = insertS (ordK l k) x := by
  unfold ordK
  rw [take_snoc' l k h (0, 0), inc_snoc, hx, if_pos hi, List.foldl_append]
  rfl
theorem ordK_no {l : List Sp} {k : Nat} (h : k < l.length) {x : Sp} (hx : l.getD k (0, 0) = x) (hi : ¬ x.1 < x.2) : ordK l (k + 1) = ordK l k := by
  unfold ordK
  rw [take_snoc' l k h (0, 0), inc_snoc, hx, if_neg hi]
theorem ordK_len (l : List Sp) (k : Nat) : (ordK l k).length ≤ k := Nat.le_trans (ordered_len (l.take k)) (by rw [List.length_take]; omega)
theorem ordK_all (l : List Sp) : ordK l l.length = ordered l := by unfold ordK ordered; rw [List.take_length]
theorem own_taken {W : World} {base n cap k size : Nat} {e : TypeId} {A : Option Addr} {xs : List Value} (h : W.ownsRow base e size (.slice A n cap) n xs) (hk : k ≤ n) : W.ownsRow base e size (.slice A k cap) k (xs.take (k * size)) := by
  rcases row_slice h with ⟨hv, h0⟩ | ⟨g, c', hv, _⟩
  · cases hv
    obtain rfl : k = 0 := by omega
    simpa using World.ownsRow_nil W base e size
  · cases hv
    exact AppN.own_take h hk
theorem news_C {W : World} {A : Option Addr} {m : Nat} {ys : List Sp} (h : Kd.C kSp W A m ys) : (A = none ∧ m = 0) ∨ ∃ ad, A = some ad ∧ ∀ j u, (ys.flatMap Go.Proofs.YtohpimfanplloaaGreat.IvA.encS)[j]? = some u → W.cell? (ad.add j) = some u := by
  cases A with
  | none =>
    refine .inl ⟨rfl, ?_⟩
    obtain ⟨_, _, h3⟩ := h
    rcases Nat.eq_zero_or_pos m with h0 | h0
    · exact h0
    · obtain ⟨ad, he, _⟩ := h3 h0
      cases he
  | some ad => exact .inr ⟨ad, rfl, (C_news h Go.Proofs.YtohpimfanplloaaGreat.IvA.encS (fun _ => rfl) (fun _ _ _ h => kSp_open h) (by decide)).2⟩
theorem flat_take (xs : List Sp) (k : Nat) : (xs.take k).flatMap Go.Proofs.YtohpimfanplloaaGreat.IvA.encS = (xs.flatMap Go.Proofs.YtohpimfanplloaaGreat.IvA.encS).take (k * 2) := by
  induction xs generalizing k with
  | nil => simp
  | cons a r ih =>
    cases k with
    | zero => simp
    | succ k =>
      rw [List.take_succ_cons, List.flatMap_cons, ih, List.flatMap_cons, Nat.add_mul, show k * 2 + 1 * 2 = k * 2 + 1 + 1 by omega]
      rfl
theorem form2 {W : World} {base n : Nat} {e : TypeId} {size : Nat} {v : Value} {xs : List Value} (h : W.ownsRow base e size v n xs) (hn : 0 < n) : ∃ g c, v = .slice (some ⟨g, 0, none⟩) n c ∧ n ≤ c ∧ base ≤ g ∧ g < W.heap.size := by
  rcases row_slice h with ⟨_, h0⟩ | ⟨g, c', hv, hcn, hbg, hgl⟩
  · omega
  · exact ⟨g, c', hv, hcn, hbg, hgl⟩
def OrdAt (w : World) (l : List Sp) (k : Nat) (v : Value) (wr : World) : Prop := RowS wr w.heap.size v (ordK l k) ∧ Below w.heap.size w wr
set_option maxHeartbeats 1000000 in
set_option maxRecDepth 100000 in
theorem refnorm_any (A : Option Addr) (c : Nat) (l : List Sp) (w : World) (hr : Kd.C kSp w A l.length l) (hc : l.length ≤ c) (hm : l.length ≤ 1099511627776) :
    Calls Tryz.prog 16 #[.slice A l.length c] w (NormIs w l) := by
  obtain ⟨i0, hi, hz0, hz1, hz2⟩ := info_parts info_sp
  have HR := Lib.hid hr
  clear hr
  go_enter Tryz.func16, Tryz.ntmps16
  go_wp2
  go_loopw [3, 4] (fun v i wr => ∃ (k : Nat) (v0 : Value), v0 = v ∧ k ≤ l.length ∧ i = .int .i64 k ∧ Hid (OrdAt w l k v0 wr)) (fun _ i _ => l.length - (intOf i).toNat)
  case atStart => exact ⟨0, _, rfl, Nat.zero_le _, rfl, Lib.hid ⟨own_nil _ _ _ _, Below.refl _ _⟩⟩
  case round =>
    obtain ⟨k, v, rfl, hk, rfl, HI⟩ := hrel
    by_cases hlt : k < l.length
    · obtain ⟨ad, rfl, hc0, hc1⟩ := at_Sp HR.out (k : Int) (by omega) (by omega)
      rw [Int.toNat_natCast] at hc0 hc1
      have hlt0 := World.block_lt_of_cell? w _ hc0
      have hcw0 := hc0
      have hcw1 := hc1
      replace hc0 := (HI.out.2.cell hlt0).trans hc0
      replace hc1 := (HI.out.2.cell (p := ⟨(ad.add (k * 2)).block, (ad.add (k * 2)).off + 1, none⟩) hlt0).trans hc1
      generalize hx : rdS l k = x at hc0 hc1 hcw0 hcw1
      have Hx := Lib.hid hx
      clear hx
      have n0 := new_ne' wr hc0
      have n1 := new_ne' wr hc1
      by_cases hx : x.1 < x.2
      · have hinc := ordK_yes hlt (show l.getD k (0, 0) = x from Hx.out) hx
        have hle := ordK_len l k
        have HInc := Lib.hid hinc
        clear hinc
        have d0 : decide (x.2 ≤ x.1) = false := decide_eq_false (by omega)
        generalize hxs : ordK l k = xs at *
        have hown : RowS wr w.heap.size v xs := by have := HI.out.1; rwa [hxs] at this
        have hB : Below w.heap.size w wr := HI.out.2
        have hbs := hB.size
        clear hxs
        have HO := Lib.hid hown
        have HBl := Lib.hid hB
        obtain ⟨A1, c1, rfl, hc1', hC1⟩ := row_readsS hown (by omega)
        have HC1 := Lib.hid hC1
        clear hown hB hC1 HI
        go_wp2
        go_quiet (fail)
        go_wp2
        obtain ⟨wo, rfl⟩ : ∃ wo : World, wo = wr := ⟨_, rfl⟩
        go_loopw [5] (fun i wr => ∃ j : Nat, i = .int .i64 j ∧ j ≤ xs.length ∧ Hid (pos xs x.1 j = pos xs x.1 xs.length ∧ Below wo.heap.size wo wr)) (fun i _ => (intOf i).toNat)
        case atStart => exact ⟨xs.length, by go_num, Nat.le_refl _, Lib.hid ⟨rfl, by first | exact Below.refl _ _ | exact pw_below_drewN (Below.refl _ _) _⟩⟩
        case round =>
          obtain ⟨j, rfl, hj, HJ⟩ := hrel
          have hcr0 := (HJ.out.2).cell (World.block_lt_of_cell? wo _ hc0)
          have hq0 : wr.cell? (ad.add (k * 2)) = some (.int .i64 x.1) := hcr0.trans hc0
          have hq1 : wr.cell? ⟨(ad.add (k * 2)).block, (ad.add (k * 2)).off + 1, none⟩ = some (.int .i64 x.2) := ((HJ.out.2).cell (p := ⟨(ad.add (k * 2)).block, (ad.add (k * 2)).off + 1, none⟩) (World.block_lt_of_cell? wo _ hc1)).trans hc1
          have hq2 := World.block_lt_of_cell? wr _ hq0
          clear hcr0
          by_cases hgo : pos xs x.1 j = j
          · have hps : j = pos xs x.1 xs.length := hgo.symm.trans HJ.out.1
            have Hps := Lib.hid hps
            have hgo' := hgo
            have Hgo := Lib.hid hgo
            clear hps hgo
            have hlow := hj
            have HD0 := Kd.C_drop (Kd.C_below HC1.out HJ.out.2) hlow hc1'
            have hcut1 := cut_to 33 42 .i64 Tryz.underlying33 hi A1 xs.length c1 (j : Int) (by omega) (by omega) hc1'
            have hcut2 := cut_from 33 42 .i64 Tryz.underlying33 hi 2 hz1 A1 xs.length c1 (j : Int) (by omega) (by omega)
            simp only [Int.toNat_natCast] at hcut1 hcut2
            have hHD : Kd.C kSp wr (if c1 = j then A1 else A1.map (·.add (j * 2))) (xs.drop j).length (xs.drop j) := HD0
            rw [List.length_drop] at hHD
            clear HD0
            generalize (if c1 = j then A1 else A1.map (·.add (j * 2))) = A2 at hHD hcut2
            have HD := Lib.hid hHD
            have HO2 : Hid (wr.ownsRow w.heap.size 42 2 (.slice A1 j c1) j ((xs.take j).flatMap Go.Proofs.YtohpimfanplloaaGreat.IvA.encS)) := Lib.hid (by rw [flat_take]; exact own_taken (pw_own_below HO.out HJ.out.2) hlow)
            have HBr := Lib.hid (HBl.out.trans (HJ.out.2.mono HBl.out.size))
            have hbr := HBr.out.size
            have hadw := hlt0
            clear hHD
            rcases Nat.eq_zero_or_pos j with h0 | h0
            · have b3 : decide ((0 : Int) < (j : Int)) = false := decide_eq_false (by omega)
              have b4 : decide (0 < j) = false := decide_eq_false (by omega)
              clear h0 hgo'
              go_wp2
              go_quiet (fail)
              go_wp2
              go_region_held_law (fun w' => w'.cell? (ad.add (k * 2)) = some (.int .i64 x.1) ∧ w'.cell? ⟨(ad.add (k * 2)).block, (ad.add (k * 2)).off + 1, none⟩ = some (.int .i64 x.2)) (((repeat' apply And.intro) <;> first | (with_reducible assumption) | exact hq0 | exact hq1 | go_keep))
                (first
                  | ((refine step_append_more (by rfl) (.tmp 53) (.tmp 56) 33 (by rfl) wr.heap.size 42 i0 (.agg #[.int .i64 0, .int .i64 0]) 2 16 Tryz.underlying33 hi hz0 hz1 hz2 (by rfl) (by decide) (some ⟨wr.heap.size, 0, none⟩) 1 1 (Go.Proofs.YtohpimfanplloaaGreat.IvA.encS x) (Nat.le_refl _) (by rfl) ?aO A2 (xs.length - j) (c1 - j) ((xs.drop j).flatMap Go.Proofs.YtohpimfanplloaaGreat.IvA.encS) (by rfl) ?aL ?aN (oneS _) (by unfold maxLen; omega) (by omega) ?aB ?_); (case aO => exact World.ownsRow_lit _ _ 1 (Nat.le_refl _) (by decide) (by rfl)); (case aL => rw [encS_len, List.length_drop]); (case aN => exact news_C (Kd.C_below HD.out (below_alloc (below_drew (pw_below_drewN (Below.refl _ wr) nq)) _))); (case aB => simp); intro v1 w1 hown1 hgrow1; (obtain ⟨g1, d1, rfl, hg1, hg2, hg3⟩ := form2 hown1 (by omega)); (have hw1 : Below wr.heap.size wr w1 := (below_alloc (below_drew (pw_below_drewN (Below.refl _ wr) nq)) _).grown hgrow1 (by simp) (by intro k hk; simp [Value.ownBlock] at hk; omega)); (have hk0 : w1.cell? (ad.add (k * 2)) = some (.int .i64 x.1) := (hw1.cell hq2).trans hq0); (have hk1 : w1.cell? ⟨(ad.add (k * 2)).block, (ad.add (k * 2)).off + 1, none⟩ = some (.int .i64 x.2) := (hw1.cell (p := ⟨(ad.add (k * 2)).block, (ad.add (k * 2)).off + 1, none⟩) hq2).trans hq1))
                  | ((refine step_append_more (by rfl) (.tmp 48) (.tmp 57) 33 (by rfl) w.heap.size 42 i0 (.agg #[.int .i64 0, .int .i64 0]) 2 16 Tryz.underlying33 hi hz0 hz1 hz2 (by rfl) (by decide) A1 j c1 ((xs.take j).flatMap Go.Proofs.YtohpimfanplloaaGreat.IvA.encS) (Nat.le_trans hlow hc1') (by rfl) (pw_own_below HO2.out hw1) (some ⟨g1, 0, none⟩) (1 + (xs.length - j)) d1 (Go.Proofs.YtohpimfanplloaaGreat.IvA.encS x ++ (xs.drop j).flatMap Go.Proofs.YtohpimfanplloaaGreat.IvA.encS) (by rfl) hown1.1 (.inr ⟨_, rfl, hown1.cells (by rfl)⟩) ?bO (by unfold maxLen; omega) (by omega) (by omega) ?_); (case bO => intro u hu; rcases List.mem_append.1 hu with hu | hu <;> first | exact oneS1 x u hu | exact oneS _ u hu); intro v2 w2 hown2 hgrow2; (have hw2 : Below w.heap.size w w2 := (HBr.out.trans (hw1.mono hbr)).grown hgrow2 (by omega) (fun q hq => (HO2.out.lt q hq).1)); (have hk2 : w2.cell? (ad.add (k * 2)) = some (.int .i64 x.1) := (hw2.cell hlt0).trans hcw0); (have hk3 : w2.cell? ⟨(ad.add (k * 2)).block, (ad.add (k * 2)).off + 1, none⟩ = some (.int .i64 x.2) := (hw2.cell (p := ⟨(ad.add (k * 2)).block, (ad.add (k * 2)).off + 1, none⟩) hlt0).trans hcw1))
                  | fail)
              go_wp2
              go_roundw
              case measure => simp [intOf]; omega
              case rel =>
                refine ⟨k + 1, v2, rfl, by omega, by go_num, Lib.hid ⟨?_, hw2⟩⟩
                rw [HInc.out]
                have hl2 : (insertS xs x).length = j + (1 + (xs.length - j)) := by rw [insert_len]; omega
                have hf : (insertS xs x).flatMap Go.Proofs.YtohpimfanplloaaGreat.IvA.encS = (xs.take j).flatMap Go.Proofs.YtohpimfanplloaaGreat.IvA.encS ++ (Go.Proofs.YtohpimfanplloaaGreat.IvA.encS x ++ (xs.drop j).flatMap Go.Proofs.YtohpimfanplloaaGreat.IvA.encS) := by
                  unfold insertS
                  rw [← Hps.out, List.flatMap_append, List.flatMap_cons]
                unfold RowS
                rw [hl2, hf]
                exact hown2
            · obtain ⟨i, hji⟩ : ∃ i, j = i + 1 := ⟨j - 1, by omega⟩
              obtain ⟨ad1, hA1, hj0, hj1⟩ := at_Sp (Kd.C_below HC1.out HJ.out.2) (i : Int) (by omega) (by omega)
              rw [Int.toNat_natCast] at hj0 hj1
              have hle2 : (rdS xs i).1 ≤ x.1 := by
                have := pos_before xs x.1 j (by rw [hgo']; omega)
                rw [hgo', hji] at this
                simpa [rdS] using this
              subst hA1
              have b3 : decide ((0 : Int) < (j : Int)) = true := decide_eq_true (by omega)
              have b4 : decide (0 < j) = true := decide_eq_true (by omega)
              have e1 : IntKind.i64.wrap ((j : Int) - 1) = (i : Int) := by rw [IntKind.wrap_i64]; omega
              have e2 : IntKind.i64.wrap (i : Int) = (i : Int) := by rw [IntKind.wrap_i64]; omega
              have e3 : (j : Int) - 1 = (i : Int) := by omega
              have p1 : (0 : Int) ≤ (i : Int) := by omega
              have p2 : (i : Int) < (xs.length : Int) := by omega
              have d2 : decide (x.1 < (rdS xs i).1) = false := decide_eq_false (by omega)
              generalize rdS xs i = y at *
              have Hji := Lib.hid hji
              clear hji h0 hle2 hgo'
              go_wp2
              go_quiet (fail)
              clear e1 e2 e3
              go_wp2
              go_region_held_law (fun w' => w'.cell? (ad.add (k * 2)) = some (.int .i64 x.1) ∧ w'.cell? ⟨(ad.add (k * 2)).block, (ad.add (k * 2)).off + 1, none⟩ = some (.int .i64 x.2)) (((repeat' apply And.intro) <;> first | (with_reducible assumption) | exact hq0 | exact hq1 | go_keep))
                (first
                  | ((refine step_append_more (by rfl) (.tmp 53) (.tmp 56) 33 (by rfl) wr.heap.size 42 i0 (.agg #[.int .i64 0, .int .i64 0]) 2 16 Tryz.underlying33 hi hz0 hz1 hz2 (by rfl) (by decide) (some ⟨wr.heap.size, 0, none⟩) 1 1 (Go.Proofs.YtohpimfanplloaaGreat.IvA.encS x) (Nat.le_refl _) (by rfl) ?aO A2 (xs.length - j) (c1 - j) ((xs.drop j).flatMap Go.Proofs.YtohpimfanplloaaGreat.IvA.encS) (by rfl) ?aL ?aN (oneS _) (by unfold maxLen; omega) (by omega) ?aB ?_); (case aO => exact World.ownsRow_lit _ _ 1 (Nat.le_refl _) (by decide) (by rfl)); (case aL => rw [encS_len, List.length_drop]); (case aN => exact news_C (Kd.C_below HD.out (below_alloc (below_drew (pw_below_drewN (Below.refl _ wr) nq)) _))); (case aB => simp); intro v1 w1 hown1 hgrow1; (obtain ⟨g1, d1, rfl, hg1, hg2, hg3⟩ := form2 hown1 (by omega)); (have hw1 : Below wr.heap.size wr w1 := (below_alloc (below_drew (pw_below_drewN (Below.refl _ wr) nq)) _).grown hgrow1 (by simp) (by intro k hk; simp [Value.ownBlock] at hk; omega)); (have hk0 : w1.cell? (ad.add (k * 2)) = some (.int .i64 x.1) := (hw1.cell hq2).trans hq0); (have hk1 : w1.cell? ⟨(ad.add (k * 2)).block, (ad.add (k * 2)).off + 1, none⟩ = some (.int .i64 x.2) := (hw1.cell (p := ⟨(ad.add (k * 2)).block, (ad.add (k * 2)).off + 1, none⟩) hq2).trans hq1))
                  | ((refine step_append_more (by rfl) (.tmp 48) (.tmp 57) 33 (by rfl) w.heap.size 42 i0 (.agg #[.int .i64 0, .int .i64 0]) 2 16 Tryz.underlying33 hi hz0 hz1 hz2 (by rfl) (by decide) (some ad1) j c1 ((xs.take j).flatMap Go.Proofs.YtohpimfanplloaaGreat.IvA.encS) (Nat.le_trans hlow hc1') (by rfl) (pw_own_below HO2.out hw1) (some ⟨g1, 0, none⟩) (1 + (xs.length - j)) d1 (Go.Proofs.YtohpimfanplloaaGreat.IvA.encS x ++ (xs.drop j).flatMap Go.Proofs.YtohpimfanplloaaGreat.IvA.encS) (by rfl) hown1.1 (.inr ⟨_, rfl, hown1.cells (by rfl)⟩) ?bO (by unfold maxLen; omega) (by omega) (by omega) ?_); (case bO => intro u hu; rcases List.mem_append.1 hu with hu | hu <;> first | exact oneS1 x u hu | exact oneS _ u hu); intro v2 w2 hown2 hgrow2; (have hw2 : Below w.heap.size w w2 := (HBr.out.trans (hw1.mono hbr)).grown hgrow2 (by omega) (fun q hq => (HO2.out.lt q hq).1)); (have hk2 : w2.cell? (ad.add (k * 2)) = some (.int .i64 x.1) := (hw2.cell hlt0).trans hcw0); (have hk3 : w2.cell? ⟨(ad.add (k * 2)).block, (ad.add (k * 2)).off + 1, none⟩ = some (.int .i64 x.2) := (hw2.cell (p := ⟨(ad.add (k * 2)).block, (ad.add (k * 2)).off + 1, none⟩) hlt0).trans hcw1))
                  | fail)
              go_wp2
              go_roundw
              case measure => simp [intOf]; omega
              case rel =>
                refine ⟨k + 1, v2, rfl, by omega, by go_num, Lib.hid ⟨?_, hw2⟩⟩
                rw [HInc.out]
                have hl2 : (insertS xs x).length = j + (1 + (xs.length - j)) := by rw [insert_len]; omega
                have hf : (insertS xs x).flatMap Go.Proofs.YtohpimfanplloaaGreat.IvA.encS = (xs.take j).flatMap Go.Proofs.YtohpimfanplloaaGreat.IvA.encS ++ (Go.Proofs.YtohpimfanplloaaGreat.IvA.encS x ++ (xs.drop j).flatMap Go.Proofs.YtohpimfanplloaaGreat.IvA.encS) := by
                  unfold insertS
                  rw [← Hps.out, List.flatMap_append, List.flatMap_cons]
                unfold RowS
                rw [hl2, hf]
                exact hown2
          · obtain ⟨j, rfl⟩ : ∃ j', j = j' + 1 := by
              cases j with
              | zero => exact absurd rfl hgo
              | succ j => exact ⟨j, rfl⟩
            obtain ⟨ad1, hA1, hj0, hj1⟩ := at_Sp (Kd.C_below HC1.out HJ.out.2) (j : Int) (by omega) (by omega)
            rw [Int.toNat_natCast] at hj0 hj1
            have hgt : x.1 < (rdS xs j).1 := by
              by_cases h9 : x.1 < (xs.getD j (0, 0)).1
              · exact h9
              · exact absurd (by unfold pos; rw [if_neg h9]) hgo
            have hps : pos xs x.1 j = pos xs x.1 xs.length := by
              rw [← HJ.out.1]
              show _ = (if x.1 < (xs.getD j (0, 0)).1 then pos xs x.1 j else j + 1)
              rw [if_pos (show x.1 < (xs.getD j (0, 0)).1 from hgt)]
            subst hA1
            have HJ2 := Lib.hid (And.intro hps HJ.out.2)
            have e1 : IntKind.i64.wrap ((j : Int) + 1 - 1) = (j : Int) := by rw [IntKind.wrap_i64]; omega
            have e2 : IntKind.i64.wrap (j : Int) = (j : Int) := by rw [IntKind.wrap_i64]; omega
            have b1 : (0 : Int) ≤ (j : Int) := by omega
            have b2 : (j : Int) < (xs.length : Int) := by omega
            have b3 : decide ((0 : Int) < (j : Int) + 1) = true := decide_eq_true (by omega)
            have b4 : decide (x.1 < (rdS xs j).1) = true := decide_eq_true hgt
            generalize rdS xs j = y at *
            clear hgt hps hgo HJ
            go_wp2
            go_quiet (fail)
            go_wp2
            go_roundw
            case measure => simp [intOf]
            case rel => exact ⟨j, by go_num, by omega, Lib.hid ⟨HJ2.out.1, pw_below_drewN HJ2.out.2 _⟩⟩
      · have hinc := ordK_no hlt (show l.getD k (0, 0) = x from Hx.out) hx
        have HInc := Lib.hid hinc
        clear hinc
        have d0 : decide (x.2 ≤ x.1) = true := decide_eq_true (by omega)
        have hB : Below w.heap.size w wr := HI.out.2
        have HBl := Lib.hid hB
        clear hB
        go_wp2
        go_quiet (fail)
        go_wp2
        go_roundw
        case measure => simp [intOf]; omega
        case rel =>
          refine ⟨k + 1, v, rfl, by omega, by go_num, Lib.hid ⟨?_, ?_⟩⟩
          · rw [HInc.out]
            exact pw_own_below HI.out.1 (pw_below_drewN (Below.refl _ _) _)
          · exact pw_below_drewN HBl.out _
    · obtain rfl : k = l.length := by omega
      have hown : RowS wr w.heap.size v (ordered l) := by have := HI.out.1; rwa [ordK_all] at this
      have HB2 := Lib.hid HI.out.2
      have HN := Lib.hid (ordered_norm l)
      have hle := ordered_len l
      generalize ordered l = ys at *
      have hlen : ys.length ≤ 1099511627776 := by omega
      obtain ⟨A2, c2, rfl, hc2, hC2⟩ := row_readsS hown (by omega)
      have HC2 := Lib.hid hC2
      clear hown hC2 hle HI
      obtain ⟨w2, rfl⟩ : ∃ w2 : World, w2 = wr := ⟨_, rfl⟩
      go_wp2
      go_loopw [6, 7] (fun v i wr => ∃ (k : Nat) (v0 : Value), v0 = v ∧ k ≤ ys.length ∧ i = .int .i64 k ∧ Hid (MerIs w2 ys k v0 wr)) (fun _ i _ => ys.length - (intOf i).toNat)
      case atStart => exact ⟨0, _, rfl, Nat.zero_le _, rfl, Lib.hid ⟨own_nil _ _ _ _, Below.refl _ _⟩⟩
      case round =>
        obtain ⟨k, v, rfl, hk, rfl, HI⟩ := hrel
        by_cases hlt : k < ys.length
        · obtain ⟨ad, rfl, hc0, hc1⟩ := at_Sp (Kd.C_below HC2.out HI.out.2) (k : Int) (by omega) (by omega)
          rw [Int.toNat_natCast] at hc0 hc1
          generalize hx : rdS ys k = x at hc0 hc1
          have Hx := Lib.hid hx
          have hmer : merged (ys.take (k + 1)) = PureI1.step (merged (ys.take k)) x := by
            rw [take_snoc' ys k hlt (0, 0), merged_snoc, show ys.getD k (0, 0) = x from Hx.out]
          clear hx
          have n0 := new_ne' wr hc0
          have n1 := new_ne' wr hc1
          have hle := mer_le ys k
          have hB : Below w2.heap.size w2 wr := HI.out.2
          have hbs := hB.size
          have HO : Hid (RowS wr w2.heap.size v (merged (ys.take k))) := HI.out.1
          have HMer := Lib.hid hmer
          have HBl := Lib.hid hB
          clear hmer hB HI
          generalize merged (ys.take k) = xs at *
          rcases nil_or_snoc xs with rfl | ⟨i, p, rfl⟩
          · obtain ⟨A, c, rfl⟩ := own_slice HO.out
            rw [List.length_nil] at *
            have HMer2 : Hid (merged (ys.take (k + 1)) = [] ++ [x]) := by rw [HMer.out]; rfl
            go_wp2
            go_quiet (fail)
            go_wp2_with (at_builtin; refine wpList_append_own_at _ rfl _ _ 33 rfl w2.heap.size 42 i0 (.agg #[.int .i64 0, .int .i64 0]) 2 16 Tryz.underlying33 hi hz0 hz1 hz2 rfl (by decide) _ 0 _ rfl (pw_own_below HO.out (below_alloc (pw_below_drewN (Below.refl _ _) _) _)) ⟨wr.heap.size, 0, none⟩ 1 1 (Go.Proofs.YtohpimfanplloaaGreat.IvA.encS x) rfl rfl (news_of (newAt _ _ _ (by simp))) (oneS1 x) (by unfold maxLen; omega) (by omega) (by simp; omega) ?_; intro v' w1 hown' hgrow _ hat)
            go_roundw
            case measure => simp [intOf]; omega
            case rel =>
              refine ⟨k + 1, v', rfl, by omega, by go_num, Lib.hid ⟨?_, ?_⟩⟩
              · rw [HMer2.out]
                simpa [RowS, List.flatMap_append] using hown'
              · exact ((below_alloc' (pw_below_drewN HBl.out _) (by simp; omega) _)).grown hgrow (by simp; omega) (fun k hk => (HO.out.lt k hk).1)
          · obtain ⟨A, c, rfl⟩ := own_slice HO.out
            obtain ⟨_, h0⟩ | ⟨g, c', hv, hcn, hbg, hgl⟩ := row_slice HO.out
            · simp at h0
            cases hv
            have hlen2 : (i ++ [p]).length = i.length + 1 := by simp
            have e1 := encS_get (i ++ [p]) i.length 1 (by simp) (by decide)
            have e2 : (i ++ [p]).getD i.length (0, 0) = p := by simp
            rw [e2] at e1
            have hcell := row_cells HO.out _ _ (e1.trans rfl)
            have hgc : wr.cell? ⟨g, i.length * 2 + 1, none⟩ = some (.int .i64 p.2) := hcell.1
            have hgf : wr.frozen? ⟨g, i.length * 2 + 1, none⟩ = false := hcell.2
            have hng : wr.heap.size ≠ g := by omega
            clear e1 e2 hcell
            have HO1 : Hid (wr.ownsRow w2.heap.size 42 2 (.slice (some ⟨g, 0, none⟩) (i.length + 1) c) (i.length + 1) ((i ++ [p]).flatMap Go.Proofs.YtohpimfanplloaaGreat.IvA.encS)) := by
              have := HO.out
              unfold RowS at this
              rwa [hlen2] at this
            rw [hlen2] at hle hcn ⊢
            have HL := Lib.hid hlen2
            clear hlen2 HO
            have HO := HO1
            clear HO1
            by_cases hx : x.1 ≤ p.2
            · have d1 : decide (x.1 ≤ p.2) = true := decide_eq_true hx
              have b1 : (0 : Int) ≤ (i.length : Int) := by omega
              have b2 : (i.length : Int) < (i.length : Int) + 1 := by omega
              have b3 : decide ((0 : Int) < (i.length : Int) + 1) = true := by simp
              have e1 : IntKind.i64.wrap ((i.length : Int) + 1 - 1) = (i.length : Int) := by rw [IntKind.wrap_i64]; omega
              have e2 : IntKind.i64.wrap (i.length : Int) = (i.length : Int) := by rw [IntKind.wrap_i64]; omega
              generalize hn : i.length = n at *
              have Hn := Lib.hid hn
              clear hn
              go_wp2
              go_quiet (fail)
              go_wp2
              go_region
              go_wp2
              go_roundw
              case measure => simp [intOf]; omega
              case rel =>
                refine ⟨k + 1, _, rfl, by omega, by go_num, Lib.hid ⟨?_, ?_⟩⟩
                · rw [HMer.out, step_snoc, if_pos hx]
                  have h0 := pw_own_below HO.out (pw_below_drewN (Below.refl wr.heap.size wr) (nq + 1))
                  have h1 := own_set h0 (n * 2 + 1) (.int .i64 (max p.2 x.2)) (by rw [encS_len, HL.out]; omega)
                  have hl2 : (i ++ [(p.1, max p.2 x.2)]).length = n + 1 := by have := Hn.out; simp; omega
                  have hs : ((i ++ [p]).flatMap Go.Proofs.YtohpimfanplloaaGreat.IvA.encS).set (n * 2 + 1) (.int .i64 (max p.2 x.2)) = (i ++ [(p.1, max p.2 x.2)]).flatMap Go.Proofs.YtohpimfanplloaaGreat.IvA.encS := by
                    rw [List.flatMap_append, List.flatMap_append, List.set_append_right _ _ (by rw [encS_len, Hn.out]; omega), encS_len, Hn.out, show n * 2 + 1 - n * 2 = 1 by omega]
                    congr 1
                  rw [hs] at h1
                  simpa [RowS, hl2, HL.out] using h1
                · exact (pw_below_drewN HBl.out _).setCell hbg _
            · have d1 : decide (x.1 ≤ p.2) = false := decide_eq_false hx
              have b1 : (0 : Int) ≤ (i.length : Int) := by omega
              have b2 : (i.length : Int) < (i.length : Int) + 1 := by omega
              have b3 : decide ((0 : Int) < (i.length : Int) + 1) = true := by simp
              have e1 : IntKind.i64.wrap ((i.length : Int) + 1 - 1) = (i.length : Int) := by rw [IntKind.wrap_i64]; omega
              have e2 : IntKind.i64.wrap (i.length : Int) = (i.length : Int) := by rw [IntKind.wrap_i64]; omega
              generalize hn : i.length = n at *
              have Hn := Lib.hid hn
              clear hn
              go_wp2
              go_quiet (fail)
              go_wp2_with (at_builtin; refine wpList_append_own_at _ rfl _ _ 33 rfl w2.heap.size 42 i0 (.agg #[.int .i64 0, .int .i64 0]) 2 16 Tryz.underlying33 hi hz0 hz1 hz2 rfl (by decide) _ (n + 1) _ rfl (pw_own_below HO.out (below_alloc (pw_below_drewN (Below.refl _ _) _) _)) ⟨wr.heap.size, 0, none⟩ 1 1 (Go.Proofs.YtohpimfanplloaaGreat.IvA.encS x) rfl rfl (news_of (newAt _ _ _ (by simp))) (oneS1 x) (by unfold maxLen; omega) (by omega) (by simp; omega) ?_; intro v' w1 hown' hgrow _ hat)
              go_roundw
              case measure => simp [intOf]; omega
              case rel =>
                refine ⟨k + 1, v', rfl, by omega, by go_num, Lib.hid ⟨?_, ?_⟩⟩
                · rw [HMer.out, step_snoc, if_neg (show ¬ x.1 ≤ p.2 by omega)]
                  have hl2 : (i ++ [p] ++ [x]).length = n + 1 + 1 := by have := Hn.out; simp; omega
                  rw [show ((i ++ [p]).flatMap Go.Proofs.YtohpimfanplloaaGreat.IvA.encS) ++ Go.Proofs.YtohpimfanplloaaGreat.IvA.encS x = (i ++ [p] ++ [x]).flatMap Go.Proofs.YtohpimfanplloaaGreat.IvA.encS by simp [List.flatMap_append]] at hown'
                  unfold RowS
                  rw [hl2]
                  exact hown'
                · exact ((below_alloc' (pw_below_drewN HBl.out _) (by simp; omega) _)).grown hgrow (by simp; omega) (fun k hk => (HO.out.lt k hk).1)
        · obtain rfl : k = ys.length := by omega
          have h1 := HI.out.1
          rw [List.take_length] at h1
          have h3 := HB2.out.trans (HI.out.2.mono HB2.out.size)
          have HF : Hid (RowS wr w.heap.size v (norm l) ∧ Below w.heap.size w wr) := ⟨by rw [← HN.out]; exact own_weaken h1 HB2.out.size, h3⟩
          clear h1 h3
          go_wp2
          go_ret
          exact ⟨v, rfl, HF.out⟩
end Go.Proofs.YtohpimfanplloaaGreat.CalM
