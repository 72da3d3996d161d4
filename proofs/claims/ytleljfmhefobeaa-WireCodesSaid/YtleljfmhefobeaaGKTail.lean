/- The reference's Tail: a walk by hand (under way). -/
import Derived.Test.YtleljfmhefobeaaGKRd
import Derived.Test.YtleljfmhefobeaaGKRa
import Derived.Test.YtleljfmhefobeaaGKx11
import Derived.WalkKit
import Derived.WalkSpells
import Derived.Lib.Hide
import Derived.Deep.RegionHeld3
import Derived.Deep.RegionLaw
set_option linter.unusedVariables false
set_option linter.unusedSimpArgs false
namespace Go.Proofs.Ytleljfmhefobeaa.GKTail
open Go.RowKit Go.Proofs.YtleljfmhefobeaaW.PrintWords Go.Proofs.YtleljfmhefobeaaW.PrintLast Go.Proofs.YtleljfmhefobeaaW.PrintMore Go.Proofs.Ytleljfmhefobeaa.GK Go.Proofs.Ytleljfmhefobeaa.GKPa Go.Proofs.Ytleljfmhefobeaa.GKPe Go.Proofs.Ytleljfmhefobeaa.GKPw Go.Proofs.Ytleljfmhefobeaa.GKSrc Go.Proofs.Ytleljfmhefobeaa.GKDec Go.Proofs.Ytleljfmhefobeaa.GKRd Go.Proofs.Ytleljfmhefobeaa.GKRa

theorem blk_grew {w w1 : World} {g : Nat} {o : Obj} {row : Option Nat} (h : w.heap[g]? = some o) (hg : w.grownBy w1 row) (hne : some g ≠ row) : w1.heap[g]? = some o :=
  (hg.block g (Array.getElem?_eq_some_iff.1 h).1 hne).trans h
theorem grown_set (w : World) (g j : Nat) (v : Value) : w.grownBy (w.setCell ⟨g, j, none⟩ v) (some g) :=
  have h := (Below.refl 0 w).setCell (p := ⟨g, j, none⟩) (Nat.zero_le _) v
  ⟨h.os, h.tape, h.output, h.size, fun i _ hi => Below.heap_setCell w ⟨g, j, none⟩ v i (fun e => hi (by rw [e]))⟩
theorem R_grew {d : Kd Int} {e base : Nat} {w w1 : World} {v : Value} {xs : List Int} {row : Option Nat} (h : d.R e w base (fun _ => True) v xs) (hg : w.grownBy w1 row) (hr : ∀ k, row = some k → k < base) : d.R e w1 base (fun _ => True) v xs :=
  Kd.R_mono (Kd.R_grown (Kd.R_bound h) hg (fun k hk e => by have := hr k e.symm; have := hk.2.1; omega)) (fun _ _ => trivial)
theorem R_apart {e base : Nat} {w w1 : World} {v : Value} {xs : List Int} {row : Option Nat} {k : IntKind} (h : (Kd.int k).R e w base (fun _ => True) v xs) (hg : w.grownBy w1 row) (hr : ∀ k, v.ownBlock = some k → some k ≠ row) : (Kd.int k).R e w1 base (fun _ => True) v xs := by
  obtain ⟨_, inner, ho, hp⟩ := h
  have h' : (Kd.int k).R e w base (fun k => v.ownBlock = some k) v xs := ⟨fun _ hk => hk, inner, ho, hp⟩
  exact Kd.R_mono (Kd.R_grown h' hg (fun k hk => hr k hk)) (fun _ _ => trivial)
theorem R_base {e base : Nat} {w : World} {v : Value} {xs : List Int} {d : Kd Int} (h : d.R e w base (fun _ => True) v xs) {j : Nat} (hj : v.ownBlock = some j) : base ≤ j ∧ j < w.heap.size := by
  have := Kd.R_bound h
  obtain ⟨inner, ho⟩ := Kd.R_own h
  exact ⟨own_base ho j hj, own_lt ho j hj⟩
theorem R_form {α : Type} {d : Kd α} {e base : Nat} {w : World} {ok : Nat → Prop} {v : Value} {xs : List α} (h : d.R e w base ok v xs) (h0 : 0 < xs.length) :
    ∃ g c, v = .slice (some ⟨g, 0, none⟩) xs.length c ∧ base ≤ g ∧ g < w.heap.size := by
  obtain ⟨inner, ho⟩ := Kd.R_own h
  obtain ⟨g, c, hv, _⟩ := ho.form h0
  have hb : v.ownBlock = some g := by rw [hv]; rfl
  exact ⟨g, c, hv, own_base ho g hb, own_lt ho g hb⟩
theorem R_form' {α : Type} {d : Kd α} {e base n : Nat} {w : World} {ok : Nat → Prop} {v : Value} {xs : List α} (h : d.R e w base ok v xs) (hn : xs.length = n) (h0 : 0 < n) :
    ∃ g c, v = .slice (some ⟨g, 0, none⟩) n c ∧ base ≤ g ∧ g < w.heap.size := by subst hn; exact R_form h h0
theorem add_block (a : Addr) (k : Nat) : (a.add k).block = a.block := by unfold Addr.add; split <;> rfl
theorem one_at {b : List Int} {p : Nat} (h : p < b.length) : one (b.drop p) = if (b.drop (p + 1)).length < (rd b p).toNat then none else some ((b.drop (p + 1)).take (rd b p).toNat, (b.drop (p + 1)).drop (rd b p).toNat) := by
  rw [List.drop_eq_getElem_cons h, rd_get h]
  rfl
theorem one_yes {b : List Int} {p : Nat} (h : p < b.length) (hs : ¬ (b.length : Int) - p - 1 < rd b p) : one (b.drop p) = some ((b.drop (p + 1)).take (rd b p).toNat, b.drop (p + 1 + (rd b p).toNat)) := by
  rw [one_at h, if_neg (by rw [List.length_drop]; omega), List.drop_drop]
theorem one_no {b : List Int} {p : Nat} (h : p < b.length) (hs : (b.length : Int) - p - 1 < rd b p) : one (b.drop p) = none := by
  rw [one_at h, if_pos (by rw [List.length_drop]; omega)]
theorem one_end {b : List Int} {p : Nat} (h : ¬ p < b.length) : one (b.drop p) = none := by
  rw [List.drop_eq_nil_of_le (by omega)]; rfl
theorem take_more {b : List Int} {i j : Nat} (h : i + j < b.length) : (b.drop i).take j ++ [rd b ((i : Int) + (j : Int))] = (b.drop i).take (j + 1) := by
  rw [show (i : Int) + (j : Int) = ((i + j : Nat) : Int) by omega, rd_get h, List.take_succ_eq_append_getElem (by rw [List.length_drop]; omega), List.getElem_drop]
theorem apart_grown {W : World} {v v1 u : Value} (hat : v1.ownBlock = v.ownBlock ∨ ∃ b, v1.ownBlock = some b ∧ W.heap.size ≤ b) (h : ∀ j, v.ownBlock = some j → u.ownBlock ≠ some j) (hu : ∀ k, u.ownBlock = some k → k < W.heap.size) : ∀ j, v1.ownBlock = some j → u.ownBlock ≠ some j := by
  intro j hj hu'
  rcases hat with e | ⟨b, e, hb⟩
  · exact h j (e ▸ hj) hu'
  · have := hu j hu'; rw [hj] at e; cases e; omega
theorem copy_eq (l : List Int) (h : l.length ≤ 1099511627776) : vokref_CopyBytes.f l = some l := by
  unfold vokref_CopyBytes.f
  rw [Option.bind_some, if_pos (by simp; omega)]
  simp
/-- A cut of bytes: where it lies. -/
theorem cutn (b : List Int) (A : Option Addr) (c : Nat) (a e : Int) (p n : Nat) (ha : a = p) (he : e = (p : Int) + n) (hp : p + n ≤ b.length) (hc : b.length ≤ c) :
    ∃ A', (∀ W : World, (Instr.slice 25 (.slice A b.length c) (some (.int .i64 a)) (some (.int .i64 e)) none).run Try.prog W = .ok (.slice A' n (c - p)) W) ∧
      (∀ w : World, Kd.C (Kd.int .u8) w A b.length b → Kd.C (Kd.int .u8) w A' n ((b.drop p).take n)) ∧ n ≤ c - p := by
  obtain ⟨i, hi, hi0, hi1, hi2⟩ := info_parts info_u8
  obtain ⟨A', h1, h2, h3⟩ := print_mid_of (P := Try.prog) (Value.int .u8) 0 25 5 .i64 .i64 Try.underlying25 hi hi1 A c b a e (by omega) (by omega) (by omega) hc
  have e1 : a.toNat = p := by omega
  have e2 : e.toNat = p + n := by omega
  rw [e1, e2, List.drop_take, show p + n - p = n by omega] at h1 h2 h3
  have hl : ((b.drop p).take n).length = n := by rw [List.length_take, List.length_drop]; omega
  rw [hl] at h1 h2 h3
  exact ⟨A', h1, fun w hC => Kd.C_of_reads (d := (0 : Int)) (h1 := fun _ => rfl) (h2 w (Kd.reads_of_C (enc := Value.int .u8) (d := (0 : Int)) (h1 := fun _ => rfl) hC)), h3⟩
theorem cutd (b : List Int) (A : Option Addr) (c : Nat) (a : Int) (p : Nat) (ha : a = p) (hp : p ≤ b.length) (hc : b.length ≤ c) :
    ∃ A', (∀ W : World, (Instr.slice 25 (.slice A b.length c) (some (.int .i64 a)) none none).run Try.prog W = .ok (.slice A' (b.drop p).length (c - p)) W) ∧
      (∀ w : World, Kd.C (Kd.int .u8) w A b.length b → Kd.C (Kd.int .u8) w A' (b.drop p).length (b.drop p)) ∧ (b.drop p).length ≤ c - p := by
  obtain ⟨i, hi, hi0, hi1, hi2⟩ := info_parts info_u8
  obtain ⟨A', h1, h2, h3⟩ := print_drop_of (P := Try.prog) (Value.int .u8) 0 25 5 .i64 Try.underlying25 hi hi1 A c b a (by omega) (by omega) hc
  have e1 : a.toNat = p := by omega
  rw [e1] at h1 h2 h3
  exact ⟨A', h1, fun w hC => Kd.C_of_reads (d := (0 : Int)) (h1 := fun _ => rfl) (h2 w (Kd.reads_of_C (enc := Value.int .u8) (d := (0 : Int)) (h1 := fun _ => rfl) hC)), h3⟩
/-- What Tail answers. -/
noncomputable def vtail (b : List Int) (at0 : Nat) : List Int × List Int × List Int × Int :=
  match one (b.drop at0) with
  | none => ([], [], [], 2)
  | some (us, s1) =>
    match one s1 with
    | none => ([], [], [], 2)
    | some (ns, s2) =>
      if s2.length < 2 then ([], [], [], 2) else
      if (s2.drop 2).length < (num (s2.take 2)).toNat then ([], [], [], 2) else
      if (s2.drop 2).length > (num (s2.take 2)).toNat then ([], [], [], 3) else (us, ns, s2.drop 2, 0)
def TailIs (w : World) (r : List Int × List Int × List Int × Int) (e : Ending) (w' : World) : Prop :=
  ∃ vu vn vt, e = .returned (.tuple #[vu, vn, vt, .int .i64 r.2.2.2]) ∧
    Kd.R (Kd.int .i64) 3 w' w.heap.size (fun _ => True) vu r.1 ∧ Kd.R (Kd.int .i64) 3 w' w.heap.size (fun _ => True) vn r.2.1 ∧ Kd.R (Kd.int .u8) 5 w' w.heap.size (fun _ => True) vt r.2.2.1 ∧ Below w.heap.size w w'
theorem tail_no (w W : World) (c : Int) (hb : Below w.heap.size w W) : TailIs w ([], [], [], c) (.returned (.tuple #[.slice none 0 0, .slice none 0 0, .slice none 0 0, .int .i64 c])) W :=
  ⟨_, _, _, rfl, Kd.R_nil _ _ _ _ _, Kd.R_nil _ _ _ _ _, Kd.R_nil _ _ _ _ _, hb⟩
theorem results_tmp4 {fn : Func} {t u v x : Tmp} (h : fn.results = #[.tmp t, .tmp u, .tmp v, .tmp x]) (tmps : Array Value) (P : Program) (w : World) :
    (results fn tmps).run P w = .ok (.tuple #[tmps.getD t undef, tmps.getD u undef, tmps.getD v undef, tmps.getD x undef]) w := by
  simp [results, h]
/-- The lists read so far, and where the rest begins. -/
inductive Got (b : List Int) (at0 : Nat) : Nat → List Int → List Int → Nat → Prop
  | zero : Got b at0 0 [] [] at0
  | one {us p} (h : one (b.drop at0) = some (us, b.drop p)) (hp : p ≤ b.length) : Got b at0 1 us [] p
  | two {us ns p q} (h : one (b.drop at0) = some (us, b.drop p)) (hp : p ≤ b.length) (h2 : one (b.drop p) = some (ns, b.drop q)) (hq : q ≤ b.length) : Got b at0 2 us ns q
theorem got_two {b : List Int} {at0 k p : Nat} {us ns : List Int} (h : Got b at0 k us ns p) (hk : k = 2) : vtail b at0 = (if (b.drop p).length < 2 then ([], [], [], 2) else
      if ((b.drop p).drop 2).length < (num ((b.drop p).take 2)).toNat then ([], [], [], 2) else
      if ((b.drop p).drop 2).length > (num ((b.drop p).take 2)).toNat then ([], [], [], 3) else (us, ns, (b.drop p).drop 2, 0)) := by
  cases h with
  | zero => omega
  | one h hp => omega
  | two h hp h2 hq => simp only [vtail, h, h2]
theorem got_no {b : List Int} {at0 k p : Nat} {us ns : List Int} (h : Got b at0 k us ns p) (hk : k < 2) (ho : one (b.drop p) = none) : vtail b at0 = ([], [], [], 2) := by
  cases h with
  | zero => simp only [vtail, ho]
  | one h hp => simp only [vtail, h, ho]
  | two => omega
set_option maxRecDepth 100000 in
set_option maxHeartbeats 1000000 in
theorem tail_any (b : List Int) (A : Option Addr) (c : Nat) (at0 : Nat) (w : World) (hb : bytesL b) (hlen : b.length ≤ 20000) (hat : at0 ≤ b.length) (hc : b.length ≤ c) (hC : Kd.C (Kd.int .u8) w A b.length b) :
    Calls Try.prog 53 #[.slice A b.length c, .int .i64 at0] w (TailIs w (vtail b at0)) := by
  go_enter Try.func53, Try.ntmps53
  go_wp2_with fail
  have HBb := Lib.hid hb
  have HCb := Lib.hid hC
  have hbl0 := (Below.refl w.heap.size w).alloc (Nat.le_refl _) (.cells #[.slice none 0 0, .slice none 0 0] 86)
  have hnew0 := blk_new w (.cells #[.slice none 0 0, .slice none 0 0] 86)
  have hsz0 : (w.alloc (.cells #[.slice none 0 0, .slice none 0 0] 86)).heap.size = w.heap.size + 1 := by simp
  go_loopw [1, 9] (fun a i wr => ∃ (k p : Nat) (us ns : List Int) (vu vn : Value), k ≤ 2 ∧ p ≤ b.length ∧ a = .int .i64 p ∧ i = .int .i64 k ∧ Aside0 (Got b at0 k us ns p) ∧ Aside0 (wr.heap[w.heap.size]? = some (.cells #[vu, vn] 86 (0, 0))) ∧ Aside0 (Kd.R (Kd.int .i64) 3 wr (w.heap.size + 1) (fun _ => True) vu us) ∧ Aside0 (Kd.R (Kd.int .i64) 3 wr (w.heap.size + 1) (fun _ => True) vn ns) ∧ Aside0 (∀ j, vu.ownBlock = some j → vn.ownBlock ≠ some j) ∧ Aside0 (Below w.heap.size w wr)) (fun _ i _ => 2 - (intOf i).toNat)
  case atStart => exact ⟨0, at0, [], [], _, _, by omega, hat, rfl, rfl, ⟨.zero⟩, ⟨hnew0⟩, ⟨Kd.R_nil _ _ _ _ _⟩, ⟨Kd.R_nil _ _ _ _ _⟩, ⟨fun j h => by cases h⟩, ⟨hbl0⟩⟩
  case round =>
    clear hbl0 hnew0 hsz0
    obtain ⟨k, p, us, ns, vu, vn, hk, hp, rfl, rfl, HG, HA, HU, HN, HX, HBw⟩ := hrel
    have hCp := Lib.hid (Kd.C_below HCb.out HBw.out)
    by_cases hlt : k < 2
    · by_cases hpl : p < b.length
      · obtain ⟨ad, hae, hcell⟩ := Kd.at_int hCp.out (p : Int) (by omega) (by omega)
        cases hae
        rw [Int.toNat_natCast] at hcell
        have hadb : ad.block < w.heap.size := by
          obtain ⟨ad3, h3, h4⟩ := Kd.at_int HCb.out (p : Int) (by omega) (by omega)
          cases h3
          exact add_block ad _ ▸ World.block_lt_of_cell? _ _ h4
        have hle : decide (b.length ≤ p) = false := decide_eq_false (by omega)
        have hle2 : decide ((b.length : Int) ≤ (p : Int)) = false := decide_eq_false (by omega)
        have hx : 0 ≤ rd b p ∧ rd b p < 256 := by rw [rd_get hpl]; exact HBb.out _ (List.getElem_mem hpl)
        by_cases hs : (b.length : Int) - p - 1 < rd b p
        · have hsd : decide ((b.length : Int) - p - 1 < rd b p) = true := decide_eq_true hs
          go_wp2
          (try simp only [Exit.inBlock, Exit.then])
          refine bodyPost_ret (results_tmp4 rfl _ _ _) rfl ?_
          rw [got_no HG.out hlt (one_no hpl hs)]
          exact tail_no w _ 2 HBw.out
        · have hsd : decide ((b.length : Int) - p - 1 < rd b p) = false := decide_eq_false hs
          have hsn := hs
          obtain rfl | rfl : k = 0 ∨ k = 1 := by omega
          · go_wp2_with fail
            go_loopw [11] (fun i wi => ∃ (j : Nat) (v : Value), (j : Int) ≤ rd b p ∧ i = .int .i64 j ∧ Aside0 (wi.heap[w.heap.size]? = some (.cells #[v, vn] 86 (0, 0))) ∧ Aside0 (Kd.R (Kd.int .i64) 3 wi (w.heap.size + 1) (fun _ => True) v ((b.drop (p + 1)).take j)) ∧ Aside0 (Kd.R (Kd.int .i64) 3 wi (w.heap.size + 1) (fun _ => True) vn ns) ∧ Aside0 (∀ j, v.ownBlock = some j → vn.ownBlock ≠ some j) ∧ Aside0 (Below w.heap.size w wi)) (fun i _ => (rd b p).toNat - (intOf i).toNat)
            case atStart => exact ⟨0, vu, by omega, rfl, ⟨HA.out⟩, ⟨by cases HG.out; exact HU.out⟩, ⟨HN.out⟩, ⟨fun j h => HX.out j h⟩, ⟨HBw.out⟩⟩
            case round =>
              obtain ⟨j, v, hj, rfl, HAi, HUi, HNi, HXi, HBi⟩ := hrel
              have hCi := Lib.hid (Kd.C_below HCb.out HBi.out)
              by_cases hjl : (j : Int) < rd b p
              · obtain ⟨ad2, hae2, hcell2⟩ := Kd.at_int hCi.out ((p + 1 + j : Nat) : Int) (by omega) (by omega)
                rw [Int.toNat_natCast] at hcell2
                cases hae2
                have y0 := (blk_cell HAi.out 0).trans rfl
                have yf0 := blk_frozen HAi.out 0
                have hcell3 : wr.cell? (ad.add (p + 1 + j)) = some (.int .u8 (rd b ((p + 1 + j : Nat) : Int))) := hcell2
                have hi4 : (0 : Int) ≤ (p : Int) + (1 + (j : Int)) := by omega
                have hi5 : (p : Int) + (1 + (j : Int)) < (b.length : Int) := by omega
                have hi6 : ((p : Int) + (1 + (j : Int))).toNat = p + 1 + j := by omega
                have hi1 : (0 : Int) ≤ (p : Int) + 1 + (j : Int) := by omega
                have hi2 : (p : Int) + 1 + (j : Int) < (b.length : Int) := by omega
                have hi3 : ((p : Int) + 1 + (j : Int)).toNat = p + 1 + j := by omega
                have hw1 : IntKind.i64.wrap ((p : Int) + 1) = (p : Int) + 1 := by rw [IntKind.wrap_i64]; omega
                have hw2 : IntKind.i64.wrap ((p : Int) + 1 + (j : Int)) = (p : Int) + 1 + (j : Int) := by rw [IntKind.wrap_i64]; omega
                have hx9 : 0 ≤ rd b ((p : Int) + 1 + (j : Int)) ∧ rd b ((p : Int) + 1 + (j : Int)) < 256 := by
                  rw [show (p : Int) + 1 + (j : Int) = ((p + 1 + j : Nat) : Int) by omega, rd_get (by omega)]; exact HBb.out _ (List.getElem_mem (by omega))
                have hw3 : IntKind.i64.wrap (rd b ((p : Int) + 1 + (j : Int))) = rd b ((p : Int) + 1 + (j : Int)) := by rw [IntKind.wrap_i64]; omega
                have hl9 := Lib.hid (show (((b.drop (p + 1)).take j).length + 1) * 8 ≤ 140737488355328 by simp; omega)
                have hlt9 := (Array.getElem?_eq_some_iff.1 HAi.out).1
                have hcb9 : (ad.add (p + 1 + j)).block < w.heap.size := by rw [add_block]; exact hadb
                have hne9 : some w.heap.size ≠ v.ownBlock := fun e => by have := (R_base HUi.out e.symm).1; omega
                have htk := Lib.hid (take_more (b := b) (i := p + 1) (j := j) (by omega))
                go_wp2_with fail
                go_region_law
                  ((refine Kd.R_append_step (Kd.int .i64) (w0 := wr) (W := wr.drew) (w.heap.size + 1) (by rfl) (.tmp 47) (.tmp 56) 24 3 (.int .i64 0) 8 rfl Try.underlying24 info_i64 rfl (by decide) (by omega) v ((b.drop (p + 1)).take j) (rd b ((p : Int) + 1 + (j : Int))) [.int .i64 (rd b ((p : Int) + 1 + (j : Int)))] (fun _ => True) (fun _ => False) (by rfl) (by rfl) ?aP (fun _ hk => hk.elim) (fun _ _ => trivial) ?aO ?aB ?aS ?aL ?_; (case aP => exact rfl); (case aO => exact Kd.R_drew HUi.out); (case aB => exact (Below.refl _ _).drew); (case aS => exact hlt9); (case aL => exact hl9.out); intro v1 w1 ho hb9 hg hat9; (obtain ⟨g1, c1, rfl, hg19, hg18⟩ := R_form' (n := j + 1) ho (by simp; omega) (by omega)); (have hk1 : w1.cell? (ad.add (p + 1 + j)) = some (.int .u8 (rd b ((p + 1 + j : Nat) : Int))) := (hb9.cell (Nat.lt_succ_of_lt hcb9)).trans hcell3); (have hk3 := blk_grew (w := wr.drew) HAi.out hg hne9); (have hk2 := (blk_cell hk3 0).trans rfl); (have hk4 := blk_frozen hk3 0); (have hk5 : ∀ u, (w1.setCell ⟨w.heap.size, 0, none⟩ u).cell? (ad.add (p + 1 + j)) = some (.int .u8 (rd b ((p + 1 + j : Nat) : Int))) := fun u => (((Below.refl w.heap.size w1).setCell (p := ⟨w.heap.size, 0, none⟩) (Nat.le_refl _) u).cell hcb9).trans hk1)))
                all_goals
                  have HO2 := Lib.hid (R_grew ho (grown_set w1 w.heap.size 0 (.slice (some ⟨g1, 0, none⟩) (j + 1) c1)) (fun k hk => by cases hk; omega))
                  have HN2 := Lib.hid (R_grew (R_apart (w := wr.drew) (Kd.R_drew HNi.out) hg (fun k hk hk2 => HXi.out k hk2.symm hk)) (grown_set w1 w.heap.size 0 (.slice (some ⟨g1, 0, none⟩) (j + 1) c1)) (fun k hk => by cases hk; omega))
                  have HA2 := Lib.hid (blk_set hk3 0 (.slice (some ⟨g1, 0, none⟩) (j + 1) c1))
                  have HB2 := Lib.hid ((HBi.out.trans (hb9.mono (Nat.le_succ _))).setCell (p := ⟨w.heap.size, 0, none⟩) (Nat.le_refl _) (.slice (some ⟨g1, 0, none⟩) (j + 1) c1))
                  have HX2 := Lib.hid (apart_grown (v1 := .slice (some ⟨g1, 0, none⟩) (j + 1) c1) hat9 HXi.out (fun k hk => (R_base HNi.out hk).2))
                  go_wp2
                  exact ⟨⟨j + 1, _, by omega, by simp, ⟨HA2.out⟩, ⟨by rw [← htk.out]; exact HO2.out⟩, ⟨HN2.out⟩, ⟨HX2.out⟩, ⟨HB2.out⟩⟩, by simp [intOf]; omega⟩
              · have hje : j = (rd b p).toNat := by omega
                have HUe := HUi.out
                rw [hje] at HUe
                have HUh := Lib.hid HUe
                clear HUe
                have hw5 : IntKind.i64.wrap (1 + rd b p) = 1 + rd b p := by rw [IntKind.wrap_i64]; omega
                have hw6 : IntKind.i64.wrap ((p : Int) + (1 + rd b p)) = (p : Int) + (1 + rd b p) := by rw [IntKind.wrap_i64]; omega
                go_wp2
                exact ⟨⟨1, p + 1 + (rd b p).toNat, (b.drop (p + 1)).take (rd b p).toNat, [], v, vn, by omega, by omega, congrArg _ (by omega), rfl, ⟨by cases HG.out; exact .one (one_yes hpl (by omega)) (by omega)⟩, ⟨HAi.out⟩, ⟨HUh.out⟩, ⟨by cases HG.out; exact HNi.out⟩, ⟨HXi.out⟩, ⟨HBi.out⟩⟩, by simp [intOf]⟩
          · go_wp2_with fail
            go_loopw [11] (fun i wi => ∃ (j : Nat) (v : Value), (j : Int) ≤ rd b p ∧ i = .int .i64 j ∧ Aside0 (wi.heap[w.heap.size]? = some (.cells #[vu, v] 86 (0, 0))) ∧ Aside0 (Kd.R (Kd.int .i64) 3 wi (w.heap.size + 1) (fun _ => True) v ((b.drop (p + 1)).take j)) ∧ Aside0 (Kd.R (Kd.int .i64) 3 wi (w.heap.size + 1) (fun _ => True) vu us) ∧ Aside0 (∀ j, v.ownBlock = some j → vu.ownBlock ≠ some j) ∧ Aside0 (Below w.heap.size w wi)) (fun i _ => (rd b p).toNat - (intOf i).toNat)
            case atStart => exact ⟨0, vn, by omega, rfl, ⟨HA.out⟩, ⟨by cases HG.out; exact HN.out⟩, ⟨HU.out⟩, ⟨fun j h h2 => HX.out j h2 h⟩, ⟨HBw.out⟩⟩
            case round =>
              obtain ⟨j, v, hj, rfl, HAi, HUi, HNi, HXi, HBi⟩ := hrel
              have hCi := Lib.hid (Kd.C_below HCb.out HBi.out)
              by_cases hjl : (j : Int) < rd b p
              · obtain ⟨ad2, hae2, hcell2⟩ := Kd.at_int hCi.out ((p + 1 + j : Nat) : Int) (by omega) (by omega)
                rw [Int.toNat_natCast] at hcell2
                cases hae2
                have y0 := (blk_cell HAi.out 1).trans rfl
                have yf0 := blk_frozen HAi.out 1
                have hcell3 : wr.cell? (ad.add (p + 1 + j)) = some (.int .u8 (rd b ((p + 1 + j : Nat) : Int))) := hcell2
                have hi4 : (0 : Int) ≤ (p : Int) + (1 + (j : Int)) := by omega
                have hi5 : (p : Int) + (1 + (j : Int)) < (b.length : Int) := by omega
                have hi6 : ((p : Int) + (1 + (j : Int))).toNat = p + 1 + j := by omega
                have hi1 : (0 : Int) ≤ (p : Int) + 1 + (j : Int) := by omega
                have hi2 : (p : Int) + 1 + (j : Int) < (b.length : Int) := by omega
                have hi3 : ((p : Int) + 1 + (j : Int)).toNat = p + 1 + j := by omega
                have hw1 : IntKind.i64.wrap ((p : Int) + 1) = (p : Int) + 1 := by rw [IntKind.wrap_i64]; omega
                have hw2 : IntKind.i64.wrap ((p : Int) + 1 + (j : Int)) = (p : Int) + 1 + (j : Int) := by rw [IntKind.wrap_i64]; omega
                have hx9 : 0 ≤ rd b ((p : Int) + 1 + (j : Int)) ∧ rd b ((p : Int) + 1 + (j : Int)) < 256 := by
                  rw [show (p : Int) + 1 + (j : Int) = ((p + 1 + j : Nat) : Int) by omega, rd_get (by omega)]; exact HBb.out _ (List.getElem_mem (by omega))
                have hw3 : IntKind.i64.wrap (rd b ((p : Int) + 1 + (j : Int))) = rd b ((p : Int) + 1 + (j : Int)) := by rw [IntKind.wrap_i64]; omega
                have hl9 := Lib.hid (show (((b.drop (p + 1)).take j).length + 1) * 8 ≤ 140737488355328 by simp; omega)
                have hlt9 := (Array.getElem?_eq_some_iff.1 HAi.out).1
                have hcb9 : (ad.add (p + 1 + j)).block < w.heap.size := by rw [add_block]; exact hadb
                have hne9 : some w.heap.size ≠ v.ownBlock := fun e => by have := (R_base HUi.out e.symm).1; omega
                have htk := Lib.hid (take_more (b := b) (i := p + 1) (j := j) (by omega))
                go_wp2_with fail
                go_region_law
                  ((refine Kd.R_append_step (Kd.int .i64) (w0 := wr) (W := wr.drew) (w.heap.size + 1) (by rfl) (.tmp 47) (.tmp 56) 24 3 (.int .i64 0) 8 rfl Try.underlying24 info_i64 rfl (by decide) (by omega) v ((b.drop (p + 1)).take j) (rd b ((p : Int) + 1 + (j : Int))) [.int .i64 (rd b ((p : Int) + 1 + (j : Int)))] (fun _ => True) (fun _ => False) (by rfl) (by rfl) ?aP (fun _ hk => hk.elim) (fun _ _ => trivial) ?aO ?aB ?aS ?aL ?_; (case aP => exact rfl); (case aO => exact Kd.R_drew HUi.out); (case aB => exact (Below.refl _ _).drew); (case aS => exact hlt9); (case aL => exact hl9.out); intro v1 w1 ho hb9 hg hat9; (obtain ⟨g1, c1, rfl, hg19, hg18⟩ := R_form' (n := j + 1) ho (by simp; omega) (by omega)); (have hk1 : w1.cell? (ad.add (p + 1 + j)) = some (.int .u8 (rd b ((p + 1 + j : Nat) : Int))) := (hb9.cell (Nat.lt_succ_of_lt hcb9)).trans hcell3); (have hk3 := blk_grew (w := wr.drew) HAi.out hg hne9); (have hk2 := (blk_cell hk3 1).trans rfl); (have hk4 := blk_frozen hk3 1); (have hk5 : ∀ u, (w1.setCell ⟨w.heap.size, 1, none⟩ u).cell? (ad.add (p + 1 + j)) = some (.int .u8 (rd b ((p + 1 + j : Nat) : Int))) := fun u => (((Below.refl w.heap.size w1).setCell (p := ⟨w.heap.size, 1, none⟩) (Nat.le_refl _) u).cell hcb9).trans hk1)))
                all_goals
                  have HO2 := Lib.hid (R_grew ho (grown_set w1 w.heap.size 1 (.slice (some ⟨g1, 0, none⟩) (j + 1) c1)) (fun k hk => by cases hk; omega))
                  have HN2 := Lib.hid (R_grew (R_apart (w := wr.drew) (Kd.R_drew HNi.out) hg (fun k hk hk2 => HXi.out k hk2.symm hk)) (grown_set w1 w.heap.size 1 (.slice (some ⟨g1, 0, none⟩) (j + 1) c1)) (fun k hk => by cases hk; omega))
                  have HA2 := Lib.hid (blk_set hk3 1 (.slice (some ⟨g1, 0, none⟩) (j + 1) c1))
                  have HB2 := Lib.hid ((HBi.out.trans (hb9.mono (Nat.le_succ _))).setCell (p := ⟨w.heap.size, 1, none⟩) (Nat.le_refl _) (.slice (some ⟨g1, 0, none⟩) (j + 1) c1))
                  have HX2 := Lib.hid (apart_grown (v1 := .slice (some ⟨g1, 0, none⟩) (j + 1) c1) hat9 HXi.out (fun k hk => (R_base HNi.out hk).2))
                  go_wp2
                  exact ⟨⟨j + 1, _, by omega, by simp, ⟨HA2.out⟩, ⟨by rw [← htk.out]; exact HO2.out⟩, ⟨HN2.out⟩, ⟨HX2.out⟩, ⟨HB2.out⟩⟩, by simp [intOf]; omega⟩
              · have hje : j = (rd b p).toNat := by omega
                have HUe := HUi.out
                rw [hje] at HUe
                have HUh := Lib.hid HUe
                clear HUe
                have hw5 : IntKind.i64.wrap (1 + rd b p) = 1 + rd b p := by rw [IntKind.wrap_i64]; omega
                have hw6 : IntKind.i64.wrap ((p : Int) + (1 + rd b p)) = (p : Int) + (1 + rd b p) := by rw [IntKind.wrap_i64]; omega
                go_wp2
                exact ⟨⟨2, p + 1 + (rd b p).toNat, us, (b.drop (p + 1)).take (rd b p).toNat, vu, v, by omega, by omega, congrArg _ (by omega), rfl, ⟨by cases HG.out with | one h hp' => exact .two h hp' (one_yes hpl (by omega)) (by omega)⟩, ⟨HAi.out⟩, ⟨HNi.out⟩, ⟨HUh.out⟩, ⟨fun j h h2 => HXi.out j h2 h⟩, ⟨HBi.out⟩⟩, by simp [intOf]⟩
      · have hle : decide (b.length ≤ p) = true := decide_eq_true (by omega)
        have hle2 : decide ((b.length : Int) ≤ (p : Int)) = true := decide_eq_true (by omega)
        go_wp2
        (try simp only [Exit.inBlock, Exit.then])
        refine bodyPost_ret (results_tmp4 rfl _ _ _) rfl ?_
        rw [got_no HG.out hlt (one_end hpl)]
        exact tail_no w _ 2 HBw.out
    · have hk2 : k = 2 := by omega
      subst hk2
      have hvt := Lib.hid (got_two HG.out rfl)
      rw [List.length_drop, List.drop_drop, List.length_drop] at hvt
      by_cases hs2 : (b.length : Int) - p < 2
      · have hs2d : decide ((b.length : Int) - p < 2) = true := decide_eq_true hs2
        go_wp2
        (try simp only [Exit.inBlock, Exit.then])
        refine bodyPost_ret (results_tmp4 rfl _ _ _) rfl ?_
        rw [hvt.out, if_pos (by omega)]
        exact tail_no w _ 2 HBw.out
      · have hs2d : decide ((b.length : Int) - p < 2) = false := decide_eq_false hs2
        have hs2n : 2 ≤ b.length - p := by omega
        have hw1 : IntKind.i64.wrap ((p : Int) + 2) = (p : Int) + 2 := by rw [IntKind.wrap_i64]; omega
        obtain ⟨A2, hm2, hmC2, hml2⟩ := cutn b A c (p : Int) ((p : Int) + 2) p 2 rfl rfl (by omega) hc
        obtain ⟨A3, hm3, hmC3, hml3⟩ := cutd b A c ((p : Int) + 2) (p + 2) (by omega) (by omega) hc
        have HcC3 := Lib.hid hmC3
        have hl2 : ((b.drop p).take 2).length = 2 := by rw [List.length_take, List.length_drop]; omega
        have hbl2 : bytesL ((b.drop p).take 2) := fun x hx => HBb.out x (List.mem_of_mem_drop (List.mem_of_mem_take hx))
        have HC := Lib.hid (vokref10_Num.calls 7 A2 (c - p) ((b.drop p).take 2) _ wr (by rw [hl2]; exact hmC2 _ hCp.out) (by omega) (vnum_eq 7 _ hbl2 (by omega) (by omega)))
        rw [hl2] at HC
        have hz0 := num_range _ hbl2
        rw [hl2] at hz0
        generalize hz : num ((b.drop p).take 2) = z at *
        clear hz hbl2 hl2 hmC2 hmC3
        have hz1 : 0 ≤ z ∧ z < 65536 := hz0
        clear hz0
        go_wp2_with fail
        refine HC.out.mono ?_
        rintro e wn ⟨rfl, hdr⟩
        have hbn := hdr.below
        have HAn := Lib.hid (blk_below HA.out hbn)
        have HUn := Lib.hid (Kd.R_below HU.out hbn)
        have HNn := Lib.hid (Kd.R_below HN.out hbn)
        have HBn := Lib.hid (HBw.out.trans (hbn.mono HBw.out.size))
        have HCn := Lib.hid (HcC3.out _ (Kd.C_below HCb.out HBn.out))
        clear HC hdr hbn hCp HBw HU HN HA HCb
        by_cases hz3 : (b.length : Int) - p - 2 < z
        · have hz3d : decide ((b.length : Int) - p - 2 < z) = true := decide_eq_true hz3
          go_wp2
          (try simp only [Exit.inBlock, Exit.then])
          refine bodyPost_ret (results_tmp4 rfl _ _ _) rfl ?_
          rw [hvt.out, if_neg (by omega), if_pos (by omega)]
          exact tail_no w _ 2 HBn.out
        · have hz3d : decide ((b.length : Int) - p - 2 < z) = false := decide_eq_false hz3
          by_cases hz4 : z < (b.length : Int) - p - 2
          · have hz4d : decide (z < (b.length : Int) - p - 2) = true := decide_eq_true hz4
            go_wp2
            (try simp only [Exit.inBlock, Exit.then])
            refine bodyPost_ret (results_tmp4 rfl _ _ _) rfl ?_
            rw [hvt.out, if_neg (by omega), if_neg (by omega), if_pos (by omega)]
            exact tail_no w _ 3 HBn.out
          · have hz4d : decide (z < (b.length : Int) - p - 2) = false := decide_eq_false hz4
            have hfin : vtail b at0 = (us, ns, b.drop (p + 2), 0) := by rw [hvt.out, if_neg (by omega), if_neg (by omega), if_neg (by omega)]
            have Hfin := Lib.hid hfin
            clear hfin hvt
            have y0 := (blk_cell HAn.out 0).trans rfl
            have y1 := (blk_cell HAn.out 1).trans rfl
            have hcp := Lib.hid (copy_eq (b.drop (p + 2)) (by rw [List.length_drop]; omega))
            have HC2 := Lib.hid (vokref_CopyBytes.calls A3 (c - (p + 2)) (b.drop (p + 2)) _ _ (Kd.C_drew HCn.out) hml3 hcp.out)
            rw [List.length_drop] at HC2
            go_wp2_with fail
            go_region_held3 (fun w' => w'.cell? ⟨w.heap.size, 0, none⟩ = some vu ∧ w'.cell? ⟨w.heap.size, 1, none⟩ = some vn) (go_keep)
              (first | (go_at_call 21; refine HC2.out.mono ?_; rintro e wt ⟨vt, rfl, hT, hbt⟩; (have hk3 := blk_below (w := wn.drew) HAn.out hbt); (have hk30 := (blk_cell hk3 0).trans rfl); (have hk31 := (blk_cell hk3 1).trans rfl)))
            have HB2 := Lib.hid (HBn.out.trans ((Below.refl _ wn).drew.trans (hbt.mono (Nat.le_of_lt (blk_lt HAn.out)))))
            have HU2 := Lib.hid (Kd.R_below (Kd.R_drew HUn.out) hbt)
            have HN2 := Lib.hid (Kd.R_below (Kd.R_drew HNn.out) hbt)
            go_wp2
            (try simp only [Exit.inBlock, Exit.then])
            refine bodyPost_ret (results_tmp4 rfl _ _ _) rfl ?_
            rw [Hfin.out]
            exact ⟨_, _, _, rfl, Kd.R_lower HU2.out (Nat.le_succ _), Kd.R_lower HN2.out (Nat.le_succ _), Kd.R_lower hT (Nat.le_of_lt (blk_lt HAn.out)), HB2.out⟩
end Go.Proofs.Ytleljfmhefobeaa.GKTail
