/- A calendar's Reserve, Remove, Free. -/
import Derived.Test.YtohpimfanplloaaGreatZCalC
import Derived.Test.YtohpimfanplloaaGreatZV
import Derived.WalkKit
import Derived.WalkSpells
import Derived.Lib.Hide
set_option linter.unusedVariables false
set_option linter.unusedSimpArgs false
namespace Go.Proofs.YtohpimfanplloaaGreat.CalD
open Go.RowKit Go.Proofs.YtohpimfanplloaaGreatW.PrintWords Go.Proofs.YtohpimfanplloaaGreatW.PrintLast Go.Proofs.YtohpimfanplloaaGreatW.PrintMore Go.Proofs.YtohpimfanplloaaGreat.PureI1 Go.Proofs.YtohpimfanplloaaGreat.PureI2 Go.Proofs.YtohpimfanplloaaGreat.IvA Go.Proofs.YtohpimfanplloaaGreat.IvB Go.Proofs.YtohpimfanplloaaGreat.IvC Go.Proofs.YtohpimfanplloaaGreat.IvD Go.Proofs.YtohpimfanplloaaGreat.IvE Go.Proofs.YtohpimfanplloaaGreat.IvG Go.Proofs.YtohpimfanplloaaGreat.IvH Go.Proofs.YtohpimfanplloaaGreat.CalA Go.Proofs.YtohpimfanplloaaGreat.CalB Go.Proofs.YtohpimfanplloaaGreat.CalC

theorem SetAt_bound {W : World} {F : Nat → Prop} {b : Nat} {L : List Tg} (h : SetAt W F b L) : SetAt W (fun k => F k ∧ k < W.heap.size) b L := by
  obtain ⟨h1, h2, v, h3, h4, h5⟩ := h
  exact ⟨⟨h1, blk_lt h3⟩, h2, v, h3, h4, fun k hk => ⟨h5 k hk, (h4.lt k hk).2⟩⟩
/-- One user's pair is another. -/
theorem put {W W1 : World} {own own' : Nat → Nat} {c ub : Nat} {cells : List Value} {us : Us} (h : CalIn W own c ub cells us) {n : Nat} {p p' : Pr} (hn : us[n]? = some (some p)) {sb s r : Nat}
    (hc : cells.getD n undef = .pointer (some ⟨sb, 0, none⟩)) (hsb : W.heap[sb]? = some (.cells #[.pointer (some ⟨s, 0, none⟩), .pointer (some ⟨r, 0, none⟩)] 85 (0, 0))) (hos : own sb = 1)
    (ho : ∀ k, k < W.heap.size → own' k = own k) (hz : ∀ k, own' k ≠ 0 → k < W1.heap.size)
    (hk : Kept5 W W1 (fun k => own k = 2 * n + 2 ∨ own k = 2 * n + 3)) (h2 : SetAt W1 (fun k => own' k = 2 * n + 2) s p'.1) (h3 : SetAt W1 (fun k => own' k = 2 * n + 3) r p'.2) :
    CalIn W1 own' c ub cells (us.set n (some p')) := by
  obtain ⟨x0, x1, x2, x3, x4, x5, hb⟩ := h.blk
  have e1 : own' c = 1 := by rw [ho c (blk_lt hb)]; exact h.oc
  have e2 : own' ub = 1 := by rw [ho ub (blk_lt h.arr)]; exact h.ou
  have k1 : ∀ {g : Nat} {o : Obj}, own g = 1 → W.heap[g]? = some o → W1.heap[g]? = some o := fun ho hg => blk_kept5 hg hk (by rw [ho]; omega)
  refine ⟨⟨x0, x1, x2, x3, x4, x5, by rw [List.length_set]; exact k1 h.oc hb⟩, e1, k1 h.ou h.arr, e2, by rw [List.length_set]; exact h.len, by rw [List.length_set]; exact h.pos, by rw [List.length_set]; exact h.small, fun i q hq => ?_, hz⟩
  have hlt : n < us.length := (List.getElem?_eq_some_iff.1 hn).1
  by_cases hi : n = i
  · subst hi
    rw [List.getElem?_set_self hlt] at hq
    cases hq
    exact ⟨sb, s, r, hc, k1 hos hsb, by rw [ho sb (blk_lt hsb)]; exact hos, h2, h3⟩
  · rw [List.getElem?_set_ne hi] at hq
    have he := h.each i q hq
    cases q with
    | none => exact he
    | some q =>
      obtain ⟨sb', s', r', f1, f2, f3, f4, f5⟩ := he
      refine ⟨sb', s', r', f1, k1 f3 f2, by rw [ho sb' (blk_lt f2)]; exact f3, ?_, ?_⟩
      · exact (f4.kept hk.kept (fun k hk1 => by rw [hk1]; omega)).mono (fun k hk1 => by rw [ho k (h.dom k (by rw [hk1]; omega))]; exact hk1)
      · exact (f5.kept hk.kept (fun k hk1 => by rw [hk1]; omega)).mono (fun k hk1 => by rw [ho k (h.dom k (by rw [hk1]; omega))]; exact hk1)
/-- The map of owners behind a call that made blocks for one set. -/
def own1 (own : Nat → Nat) (W W1 : World) (m : Nat) (k : Nat) : Nat := if k < W.heap.size then own k else if k < W1.heap.size then m else 0
theorem own1_old {own : Nat → Nat} {W W1 : World} {m k : Nat} (h : k < W.heap.size) : own1 own W W1 m k = own k := by unfold own1; rw [if_pos h]
theorem own1_dom {own : Nat → Nat} {W W1 : World} {m k : Nat} (hs : W.heap.size ≤ W1.heap.size) (h : own1 own W W1 m k ≠ 0) : k < W1.heap.size := by
  unfold own1 at h
  by_cases h1 : k < W.heap.size
  · omega
  · rw [if_neg h1] at h
    by_cases h2 : k < W1.heap.size
    · exact h2
    · rw [if_neg h2] at h; exact absurd rfl h
theorem own1_set {own : Nat → Nat} {W W1 : World} {m b : Nat} {L : List Tg} (h : SetAt W1 (fun k => own k = m ∨ W.heap.size ≤ k) b L) : SetAt W1 (fun k => own1 own W W1 m k = m) b L :=
  (SetAt_bound h).mono (fun k hk => by
    unfold own1
    by_cases h1 : k < W.heap.size
    · rw [if_pos h1]
      rcases hk.1 with h | h
      · exact h
      · omega
    · rw [if_neg h1, if_pos hk.2])
theorem own1_keep {own : Nat → Nat} {W W1 : World} {m m' b : Nat} {L : List Tg} (h : SetAt W (fun k => own k = m') b L) (hk : Kept5 W W1 (fun k => own k = m)) (hne : m' ≠ m) : SetAt W1 (fun k => own1 own W W1 m k = m') b L :=
  ((SetAt_bound h).kept hk.kept (fun k hk1 => by rw [hk1.1]; exact hne)).mono (fun k hk1 => by rw [own1_old hk1.2]; exact hk1.1)
/-- What a call on a calendar leaves. -/
def LeftC (W : World) (own : Nat → Nat) (c ub : Nat) (cells : List Value) (us : Us) (w' : World) : Prop :=
  ∃ own', CalIn w' own' c ub cells us ∧ (∀ k, k < W.heap.size → own' k = own k) ∧ Kept5 W w' (fun k => 2 ≤ own k)
theorem LeftC.refl {W : World} {own : Nat → Nat} {c ub : Nat} {cells : List Value} {us : Us} (h : CalIn W own c ub cells us) : LeftC W own c ub cells us W := ⟨own, h, fun _ _ => rfl, Kept5.refl _ _⟩
theorem LeftC.below {W w' w2 : World} {own : Nat → Nat} {c ub : Nat} {cells : List Value} {us : Us} (h : LeftC W own c ub cells us w') (hb : Below w'.heap.size w' w2) : LeftC W own c ub cells us w2 := by
  obtain ⟨o, h1, h2, h3⟩ := h
  exact ⟨o, h1.below hb, h2, h3.below hb⟩
theorem LeftC.then_ {W w1 w2 : World} {own own1 : Nat → Nat} {c ub : Nat} {cells : List Value} {us' : Us} (h2 : ∀ k, k < W.heap.size → own1 k = own k) (h3 : Kept5 W w1 (fun k => 2 ≤ own k)) (h : LeftC w1 own1 c ub cells us' w2) : LeftC W own c ub cells us' w2 := by
  obtain ⟨o, k1, k2, k3⟩ := h
  refine ⟨o, k1, fun k hk => by rw [k2 k (Nat.lt_of_lt_of_le hk h3.1), h2 k hk], h3.then_ k3 (fun k hk => ?_)⟩
  by_cases hlt : k < W.heap.size
  · rw [h2 k hlt] at hk; exact .inl hk
  · exact .inr (by omega)
theorem put_r {W W1 : World} {own : Nat → Nat} {c ub : Nat} {cells : List Value} {us : Us} (h : CalIn W own c ub cells us) {n : Nat} {p : Pr} (hn : us[n]? = some (some p)) {sb s r : Nat} {L : List Tg}
    (hc : cells.getD n undef = .pointer (some ⟨sb, 0, none⟩)) (hsb : W.heap[sb]? = some (.cells #[.pointer (some ⟨s, 0, none⟩), .pointer (some ⟨r, 0, none⟩)] 85 (0, 0))) (hos : own sb = 1)
    (h2 : SetAt W (fun k => own k = 2 * n + 2) s p.1) (h3 : SetAt W1 (fun k => own k = 2 * n + 3 ∨ W.heap.size ≤ k) r L) (hk : Kept5 W W1 (fun k => own k = 2 * n + 3)) :
    LeftC W own c ub cells (us.set n (some (p.1, L))) W1 :=
  ⟨own1 own W W1 (2 * n + 3), put h (p' := (p.1, L)) hn hc hsb hos (fun k hk => own1_old hk) (fun k hk1 => own1_dom hk.1 hk1) (hk.mono (fun k hk => .inr hk)) (own1_keep h2 hk (by omega)) (own1_set h3), fun k hk => own1_old hk, hk.mono (fun k hk => by rw [hk]; omega)⟩
theorem put_s {W W1 : World} {own : Nat → Nat} {c ub : Nat} {cells : List Value} {us : Us} (h : CalIn W own c ub cells us) {n : Nat} {p : Pr} (hn : us[n]? = some (some p)) {sb s r : Nat} {L : List Tg}
    (hc : cells.getD n undef = .pointer (some ⟨sb, 0, none⟩)) (hsb : W.heap[sb]? = some (.cells #[.pointer (some ⟨s, 0, none⟩), .pointer (some ⟨r, 0, none⟩)] 85 (0, 0))) (hos : own sb = 1)
    (h3 : SetAt W (fun k => own k = 2 * n + 3) r p.2) (h2 : SetAt W1 (fun k => own k = 2 * n + 2 ∨ W.heap.size ≤ k) s L) (hk : Kept5 W W1 (fun k => own k = 2 * n + 2)) :
    LeftC W own c ub cells (us.set n (some (L, p.2))) W1 :=
  ⟨own1 own W W1 (2 * n + 2), put h (p' := (L, p.2)) hn hc hsb hos (fun k hk => own1_old hk) (fun k hk1 => own1_dom hk.1 hk1) (hk.mono (fun k hk => .inl hk)) (own1_set h2) (own1_keep h3 hk (by omega)), fun k hk => own1_old hk, hk.mono (fun k hk => by rw [hk]; omega)⟩

theorem add_len (L : List Tg) (l : List Sp) (o : Int) : (add L l o).length ≤ L.length + l.length := by
  unfold add
  split
  · unfold addL
    rw [(List.mergeSort_perm _ _).length_eq, List.length_append, List.length_map]
    have := norm_len l
    omega
  · omega
theorem resOne_none {us : Us} {tx u : Int} {l : List Sp} (h : ofU us u = none) : resOne tx l us u = us := by
  unfold resOne
  unfold ofU at h
  by_cases h0 : u < 0
  · rw [if_pos h0]
  · rw [if_neg h0]
    rw [if_neg h0] at h
    apply List.ext_getElem?
    intro i
    rw [List.getElem?_modify]
    by_cases hi : u.toNat = i
    · subst hi
      cases hq : us[u.toNat]? with
      | none => simp
      | some q =>
        rw [hq] at h
        simp only [Option.getD_some] at h
        subst h
        simp
    · simp [hi]
theorem resOne_some {us : Us} {tx : Int} {l : List Sp} {n : Nat} {p : Pr} (h : us[n]? = some (some p)) : resOne tx l us (n : Nat) = us.set n (some (p.1, add p.2 l tx)) := by
  unfold resOne
  rw [if_neg (by omega), Int.toNat_natCast]
  apply List.ext_getElem?
  intro i
  have hlt : n < us.length := (List.getElem?_eq_some_iff.1 h).1
  rw [List.getElem?_modify]
  by_cases hi : n = i
  · subst hi
    rw [h, List.getElem?_set_self hlt]
    simp
  · rw [List.getElem?_set_ne hi]
    simp [hi]
theorem Small_set {us : Us} {N M : Nat} (h : Small us N) {n : Nat} {p : Pr} (hp : p.1.length + p.2.length ≤ M) (hM : N ≤ M) : Small (us.set n (some p)) M := fun q hq => by
  rcases List.mem_or_eq_of_mem_set hq with h1 | h1
  · exact Nat.le_trans (h q h1) hM
  · cases h1; exact hp
theorem Small_mono {us : Us} {N M : Nat} (h : Small us N) (hM : N ≤ M) : Small us M := fun q hq => Nat.le_trans (h q hq) hM
theorem Small_resOne {us : Us} {N : Nat} (h : Small us N) (tx u : Int) (l : List Sp) : Small (resOne tx l us u) (N + l.length) := by
  by_cases h0 : u < 0
  · unfold PureI2.resOne; rw [if_pos h0]; exact Small_mono h (by omega)
  · obtain ⟨n, rfl⟩ := Int.eq_ofNat_of_zero_le (show 0 ≤ u by omega)
    cases hq : us[n]? with
    | none => rw [resOne_none (by unfold ofU; rw [if_neg h0, Int.toNat_natCast, hq]; rfl)]; exact Small_mono h (by omega)
    | some q =>
      cases q with
      | none => rw [resOne_none (by unfold ofU; rw [if_neg h0, Int.toNat_natCast, hq]; rfl)]; exact Small_mono h (by omega)
      | some p =>
        rw [resOne_some hq]
        have h1 := h p (List.mem_of_getElem? hq)
        have h2 := add_len p.2 l tx
        exact Small_set h (by simp only; omega) (by omega)
theorem Small_resAll {tx : Int} {l : List Sp} : ∀ (users : List Int) {us : Us} {N : Nat}, Small us N → Small (resAll us tx users l) (N + users.length * l.length) := by
  intro users
  induction users with
  | nil => intro us N h; exact Small_mono h (by omega)
  | cons u r ih =>
    intro us N h
    refine Small_mono (ih (Small_resOne h tx u l)) ?_
    rw [List.length_cons, Nat.succ_mul]
    omega
theorem resAll_snoc (us : Us) (tx : Int) (users : List Int) (l : List Sp) (u : Int) : resAll us tx (users ++ [u]) l = resOne tx l (resAll us tx users l) u := by
  unfold resAll
  rw [List.foldl_append]
  rfl
def ResIs (W : World) (own : Nat → Nat) (c ub : Nat) (cells : List Value) (us : Us) (tx : Int) (users : List Int) (l : List Sp) (but : Int) (e : Ending) (w' : World) : Prop :=
  e = .returned (.bool (mayRes us tx users l but)) ∧ LeftC W own c ub cells (reserve us tx users l but) w'
set_option maxHeartbeats 2000000 in
set_option maxRecDepth 100000 in
theorem reserve_any (own : Nat → Nat) (c ub : Nat) (cells : List Value) (us : Us) (N : Nat) (tx : Int) (A : Option Addr) (ca : Nat) (users : List Int) (A2 : Option Addr) (c2 : Nat) (l : List Sp) (but : Int) (W : World)
    (hC : CalIn W own c ub cells us) (hN : Small us N) (hm : N + users.length * l.length ≤ 1099511627776) (hu : ∀ w', Kept5 W w' (fun k => 2 ≤ own k) → Kd.C (Kd.int .i64) w' A users.length users) (hca : users.length ≤ ca) (hum : users.length ≤ 1099511627776)
    (hl : ∀ w', Kept5 W w' (fun k => 2 ≤ own k) → Kd.C kSp w' A2 l.length l) (hc2 : l.length ≤ c2) (hlm : l.length ≤ 1099511627776) :
    Calls Tryz.prog 15 #[.pointer (some ⟨c, 0, none⟩), .int .i64 tx, .slice A users.length ca, .slice A2 l.length c2, .int .i64 but] W (ResIs W own c ub cells us tx users l but) := by
  have hN2 : N ≤ 1099511627776 := by have := Nat.zero_le (users.length * l.length); omega
  have HCh := Lib.hid (check_any own c ub cells us N A ca users A2 c2 l but W hC hN hN2 (hu W (Kept5.refl _ _)) hca hum (hl W (Kept5.refl _ _)) hc2 hlm)
  have HC := Lib.hid hC
  have HN := Lib.hid hN
  have HU := Lib.hid hu
  have HL := Lib.hid hl
  have HM := Lib.hid hm
  clear hC hN hu hl hm
  have stay : mayRes us tx users l but = false → ∀ w', Below W.heap.size W w' → ResIs W own c ub cells us tx users l but (.returned (.bool false)) w' := fun hf w' hb =>
    ⟨by rw [hf], by unfold reserve; rw [hf]; exact (LeftC.refl HC.out).below hb⟩
  have HSt := Lib.hid stay
  clear stay
  cases hck : check us users l but with
  | some r =>
    obtain ⟨t, u⟩ := r
    rw [hck] at HCh
    have HF : Hid (mayRes us tx users l but = false) := Lib.hid (by simp [mayRes, hck])
    clear hck
    go_enter Tryz.func15, Tryz.ntmps15
    go_wp2_with fail
    refine HCh.out.mono ?_
    rintro e w1 ⟨rfl, hb1⟩
    simp only [resC, tgV]
    have HB := Lib.hid hb1
    clear hb1
    go_wp2
    go_ret
    exact HSt.out HF.out _ (HB.out.alloc HB.out.size _)
  | none =>
    rw [hck] at HCh
    by_cases ht : tx < 1
    · have d1 : decide (tx < 1) = true := decide_eq_true ht
      have HF : Hid (mayRes us tx users l but = false) := Lib.hid (by simp [mayRes]; intro _ h; omega)
      clear hck
      go_enter Tryz.func15, Tryz.ntmps15
      go_wp2_with fail
      refine HCh.out.mono ?_
      rintro e w1 ⟨rfl, hb1⟩
      simp only [resC, tgV]
      have HB := Lib.hid hb1
      clear hb1
      go_wp2
      go_ret
      exact HSt.out HF.out _ (HB.out.alloc HB.out.size _)
    · have d1 : decide (tx < 1) = false := decide_eq_false ht
      have HH := Lib.hid (fun w1 (hb : Below W.heap.size W w1) => has_cal own c ub cells us N tx w1 (HC.out.below hb) HN.out hN2)
      cases hh : hasC us tx with
      | true =>
        rw [hh] at HH
        have HF : Hid (mayRes us tx users l but = false) := Lib.hid (by simp [mayRes, hh])
        clear hck hh
        go_enter Tryz.func15, Tryz.ntmps15
        go_wp2_with fail
        refine HCh.out.mono ?_
        rintro e w1 ⟨rfl, hb1⟩
        simp only [resC, tgV]
        have HB := Lib.hid hb1
        have H3 := Lib.hid (HH.out (w1.alloc (.cells #[.int .i64 0, .int .i64 0, .int .i64 0] 46)) (hb1.alloc hb1.size _))
        clear hb1
        go_wp2_with fail
        refine H3.out.mono ?_
        rintro e w2 ⟨rfl, hb2⟩
        have HB2 := Lib.hid ((HB.out.alloc HB.out.size (.cells #[.int .i64 0, .int .i64 0, .int .i64 0] 46)).trans (hb2.mono (by simp; have := HB.out.size; omega)))
        clear hb2
        go_wp2
        go_ret
        exact HSt.out HF.out _ HB2.out
      | false =>
        rw [hh] at HH
        have HF : Hid (mayRes us tx users l but = true) := Lib.hid (by simp [mayRes, hh, hck]; omega)
        have HRes : Hid (reserve us tx users l but = resAll us tx users l) := Lib.hid (by unfold reserve; rw [if_pos HF.out])
        clear hck hh
        go_enter Tryz.func15, Tryz.ntmps15
        go_wp2_with fail
        refine HCh.out.mono ?_
        rintro e w1 ⟨rfl, hb1⟩
        simp only [resC, tgV]
        have HB := Lib.hid hb1
        have H3 := Lib.hid (HH.out (w1.alloc (.cells #[.int .i64 0, .int .i64 0, .int .i64 0] 46)) (hb1.alloc hb1.size _))
        clear hb1
        go_wp2_with fail
        refine H3.out.mono ?_
        rintro e w2 ⟨rfl, hb2⟩
        have HB2 := Lib.hid ((HB.out.alloc HB.out.size (.cells #[.int .i64 0, .int .i64 0, .int .i64 0] 46)).trans (hb2.mono (by simp; have := HB.out.size; omega)))
        clear hb2
        have HL0 := Lib.hid ((LeftC.refl HC.out).below HB2.out)
        clear HH H3 HB HCh
        go_wp2_with fail
        go_loopw [38] (fun i wr => ∃ k : Nat, i = .int .i64 k ∧ k ≤ users.length ∧ Hid (LeftC W own c ub cells (resAll us tx (users.take k) l) wr)) (fun i _ => users.length - (intOf i).toNat)
        case atStart => exact ⟨0, by go_num, Nat.zero_le _, HL0⟩
        case round =>
          clear HL0
          obtain ⟨k, rfl, hk, HA⟩ := hrel
          by_cases hlt : k < users.length
          · obtain ⟨o1, hCr, ho1, hK1⟩ := HA.out
            obtain ⟨ad, rfl, hx⟩ := Kd.at_int (HU.out wr hK1) (k : Int) (by omega) (by omega)
            rw [Int.toNat_natCast] at hx
            have hst : resAll us tx (users.take (k + 1)) l = resOne tx l (resAll us tx (users.take k) l) (users.getD k 0) := by rw [take_snoc' users k hlt 0, resAll_snoc]
            have hrd : Go.Proofs.YtohpimfanplloaaGreatW.PrintWords.rd users k = users.getD k 0 := rfl
            rw [hrd] at hx
            clear hrd
            generalize users.getD k 0 = u at hx hst
            have hNk : Small (resAll us tx (users.take k) l) (N + (users.take k).length * l.length) := Small_resAll (users.take k) HN.out
            have hNk2 : N + (users.take k).length * l.length ≤ 1099511627776 := by
              have := Nat.mul_le_mul_right l.length (show (users.take k).length ≤ users.length by rw [List.length_take]; omega)
              have := HM.out
              omega
            generalize resAll us tx (users.take k) l = uk at *
            have HO := Lib.hid (of_u o1 c ub cells uk u wr hCr)
            have HSt := Lib.hid hst
            clear hst
            rcases uptr_cases hCr u with ⟨h1, h2⟩ | ⟨p, n, h0, hn, hp, h1, h2⟩
            · rw [h2] at HO
              have HS2 : Hid (resAll us tx (users.take (k + 1)) l = uk) := Lib.hid (by rw [HSt.out, resOne_none h1])
              clear h1 h2 hCr ho1 hK1 hNk hNk2
              go_wp2_with fail
              refine HO.out.mono ?_
              rintro e w3 ⟨rfl, rfl⟩
              go_wp2
              go_roundw
              case measure => simp [intOf]; omega
              case rel => exact ⟨k + 1, by go_num, by omega, by rw [HS2.out]; exact HA⟩
            · obtain ⟨sb, s, r, k1, k2, k3, k4, k5⟩ := hCr.each n (some p) hp
              subst h0
              have HS2 : Hid (resAll us tx (users.take (k + 1)) l = uk.set n (some (p.1, add p.2 l tx))) := Lib.hid (by rw [HSt.out, resOne_some hp])
              have hNp := hNk p (List.mem_of_getElem? hp)
              have HAd := Lib.hid (add_any _ r p.2 A2 c2 l tx wr k5 (by omega) (HL.out wr hK1) hc2 hlm)
              have HPut := Lib.hid (fun w1 L h3 hk => put_r hCr hp k1 k2 k3 k4 (L := L) (W1 := w1) h3 hk)
              have HO1 := Lib.hid ho1
              have HK1 := Lib.hid hK1
              rw [h2, k1] at HO
              have d0 : wr.cell? ⟨sb, 1, none⟩ = some (.pointer (some ⟨r, 0, none⟩)) := blk_cell k2 1
              clear hCr ho1 hK1 hNk hNk2 h1 h2 hp k1 k2 k3 k4 k5 HSt
              go_wp2_with fail
              refine HO.out.mono ?_
              rintro e w3 ⟨rfl, rfl⟩
              go_wp2_with fail
              refine HAd.out.mono ?_
              rintro e w4 ⟨rfl, hs4, hk4⟩
              have HL4 := Lib.hid (LeftC.then_ HO1.out HK1.out (HPut.out w4 _ hs4 hk4))
              clear hs4 hk4
              go_wp2
              go_roundw
              case measure => simp [intOf]; omega
              case rel => exact ⟨k + 1, by go_num, by omega, by rw [HS2.out]; exact HL4⟩
          · obtain rfl : k = users.length := by omega
            have HFin : Hid (LeftC W own c ub cells (reserve us tx users l but) wr) := Lib.hid (by rw [HRes.out]; have := HA.out; rwa [List.take_length] at this)
            go_wp2
            go_ret
            exact ⟨by rw [HF.out]; rfl, HFin.out⟩
end Go.Proofs.YtohpimfanplloaaGreat.CalD
