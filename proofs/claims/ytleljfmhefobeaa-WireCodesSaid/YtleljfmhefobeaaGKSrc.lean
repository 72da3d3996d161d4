/- The reader of bytes (rec.Source): what Take, Number, List and bytes.Clone do. -/
import Derived.Test.YtleljfmhefobeaaGKPe
import Derived.WalkKit
import Derived.WalkSpells
import Derived.Lib.Hide
set_option linter.unusedVariables false
set_option linter.unusedSimpArgs false
namespace Go.Proofs.Ytleljfmhefobeaa.GKSrc
open Go.RowKit Go.Proofs.YtleljfmhefobeaaW.PrintWords Go.Proofs.YtleljfmhefobeaaW.PrintLast Go.Proofs.YtleljfmhefobeaaW.PrintMore Go.Proofs.Ytleljfmhefobeaa.GKPa Go.Proofs.Ytleljfmhefobeaa.GKPe

/-- At block g lies a reader whose bytes B lie in the elder world. -/
def Src (w0 W : World) (g : Nat) (B : List Int) (sh : Bool) : Prop :=
  ∃ A c, B.length ≤ c ∧ W.heap[g]? = some (.cells #[.slice A B.length c, .bool sh] 71 (0, 0)) ∧ w0.heap.size ≤ g ∧ Kd.C (Kd.int .u8) w0 A B.length B
theorem Src.keep {w0 W W1 : World} {g : Nat} {B : List Int} {sh : Bool} (h : Src w0 W g B sh) (hb : Below W.heap.size W W1) : Src w0 W1 g B sh := by
  obtain ⟨A, c, hc, hblk, hg, hC⟩ := h
  exact ⟨A, c, hc, blk_below hblk hb, hg, hC⟩
theorem Src.lt {w0 W : World} {g : Nat} {B : List Int} {sh : Bool} (h : Src w0 W g B sh) : g < W.heap.size := by
  obtain ⟨A, c, hc, hblk, hg, hC⟩ := h
  exact (Array.getElem?_eq_some_iff.1 hblk).1
/-- What a call on the reader leaves. -/
structure Left0 (w0 w w' : World) (g : Nat) (B : List Int) (sh : Bool) : Prop where
  src : Src w0 w' g B sh
  below : Below w0.heap.size w0 w'
  keep : KeepBut w w' g none
def Cut (w0 : World) (xs : List Int) (v : Value) : Prop := ∃ A c, v = .slice A xs.length c ∧ xs.length ≤ c ∧ Kd.C (Kd.int .u8) w0 A xs.length xs
def TakeOk (w0 w : World) (g : Nat) (B : List Int) (n : Nat) (e : Ending) (w' : World) : Prop := ∃ v, e = .returned v ∧ Cut w0 (B.take n) v ∧ Left0 w0 w w' g (B.drop n) false
def TakeNo (w0 w : World) (g : Nat) (B : List Int) (e : Ending) (w' : World) : Prop := e = .returned (.slice none 0 0) ∧ Left0 w0 w w' g B true

theorem info_u8 : (Try.prog.info? 5).map (fun i => (i.zero, i.size, i.bytes)) = some (some (.int .u8 0), 1, 1) := by kernel_rfl
theorem info_i64 : (Try.prog.info? 3).map (fun i => (i.zero, i.size, i.bytes)) = some (some (.int .i64 0), 1, 8) := by kernel_rfl

set_option maxHeartbeats 400000 in
theorem take_ok (g : Nat) (B : List Int) (n : Int) (w0 w : World) (hS : Src w0 w g B false) (hB : Below w0.heap.size w0 w) (h0 : 0 ≤ n) (hn : n ≤ B.length) :
    Calls Try.prog 50 #[.pointer (some ⟨g, 0, none⟩), .int .i64 n] w (TakeOk w0 w g B n.toNat) := by
  obtain ⟨m, rfl⟩ := Int.eq_ofNat_of_zero_le h0
  rw [Int.toNat_natCast]
  obtain ⟨A, c, hc, hblk, hg, hC⟩ := hS
  obtain ⟨i, hi, hi0, hi1, hi2⟩ := info_parts info_u8
  have ht := (print_take_of (P := Try.prog) (Value.int .u8) 0 25 5 .i64 Try.underlying25 hi hi1 A c B (m : Int) (by omega) hn hc).1
  obtain ⟨A', hd, hdr, hdl⟩ := print_drop_of (P := Try.prog) (Value.int .u8) 0 25 5 .i64 Try.underlying25 hi hi1 A c B (m : Int) (by omega) hn hc
  rw [Int.toNat_natCast] at ht hd hdl
  have hdC := hdr w0 (Kd.reads_of_C (enc := Value.int .u8) (d := (0 : Int)) (h1 := fun _ => rfl) hC)
  rw [Int.toNat_natCast] at hdC
  have fin : ∀ w', w' = w.setCell ⟨g, 0, none⟩ (.slice A' (B.drop m).length (c - m)) → TakeOk w0 w g B m (.returned (.slice A (B.take m).length c)) w' := by
    rintro w' rfl
    refine ⟨_, rfl, ⟨A, c, rfl, by rw [List.length_take]; omega, Kd.C_take hC (by omega)⟩, ⟨A', c - m, by rw [List.length_drop]; omega, blk_set hblk 0 _, hg, Kd.C_of_reads (d := (0 : Int)) (h1 := fun _ => rfl) hdC⟩, hB.setCell hg _, (KeepBut.refl w g none).set_ 0 _⟩
  have hrest := Lib.hid fin
  clear fin
  have c0 : w.cell? ⟨g, 0, none⟩ = some (.slice A B.length c) := blk_cell hblk 0
  have c1 : w.cell? ⟨g, 1, none⟩ = some (.bool false) := blk_cell hblk 1
  have f0 : w.frozen? ⟨g, 0, none⟩ = false := blk_frozen hblk 0
  have hgt : decide (B.length < m) = false := by simp; omega
  have hgt2 : ((m : Int) ≤ B.length) = True := eq_true hn
  clear hdC hdr hdl hC hblk hB
  go_enter Try.func50, Try.ntmps50
  go_wp2
  go_ret
  have hq := hrest.out _ rfl
  simp only [List.length_take, List.length_drop] at hq
  exact hq
set_option maxHeartbeats 400000 in
theorem take_no (g : Nat) (B : List Int) (n : Int) (sh : Bool) (w0 w : World) (hS : Src w0 w g B sh) (hB : Below w0.heap.size w0 w) (hn : sh = true ∨ (B.length : Int) < n) :
    Calls Try.prog 50 #[.pointer (some ⟨g, 0, none⟩), .int .i64 n] w (TakeNo w0 w g B) := by
  obtain ⟨A, c, hc, hblk, hg, hC⟩ := hS
  have fin : TakeNo w0 w g B (.returned (.slice none 0 0)) (w.setCell ⟨g, 1, none⟩ (.bool true)) :=
    ⟨rfl, ⟨A, c, hc, blk_set hblk 1 _, hg, hC⟩, hB.setCell hg _, (KeepBut.refl w g none).set_ 1 _⟩
  have hrest := Lib.hid fin
  have c0 : w.cell? ⟨g, 0, none⟩ = some (.slice A B.length c) := blk_cell hblk 0
  have c1 : w.cell? ⟨g, 1, none⟩ = some (.bool sh) := blk_cell hblk 1
  have f1 : w.frozen? ⟨g, 1, none⟩ = false := blk_frozen hblk 1
  clear hC hblk hB fin
  cases sh with
  | true =>
    go_enter Try.func50, Try.ntmps50
    go_wp2
    go_ret
    exact hrest.out
  | false =>
    have hn : (B.length : Int) < n := by rcases hn with h | h; cases h; exact h
    have hgt : decide ((B.length : Int) < n) = true := by simpa using hn
    go_enter Try.func50, Try.ntmps50
    go_wp2
    go_ret
    exact hrest.out

/-- The bytes of a list: each one. -/
theorem or_byte (v x : Int) (hv : 0 ≤ v) (hv2 : v < 1099511627776) (hx : 0 ≤ x) (hx2 : x < 256) : Go.bits .or .i64 (v * 256) x = v * 256 + x :=
  bits_join .i64 62 (by decide) (fun n h0 h1 => by rw [IntKind.wrap_i64]; omega) 8 (v * 256) x (by omega) (by omega) (by omega) hx (by omega) (by omega)
theorem num_snoc (l : List Int) (x : Int) : num (l ++ [x]) = num l * 256 + x := by simp [num]
theorem fold_range : ∀ (l : List Int) (a : Int), 0 ≤ a → bytesL l → 0 ≤ l.foldl (fun a x => a * 256 + x) a ∧ l.foldl (fun a x => a * 256 + x) a < (a + 1) * 256 ^ l.length := by
  intro l
  induction l with
  | nil => intro a ha _; simp; omega
  | cons x l ih =>
    intro a ha h
    have hx := h x (by simp)
    obtain ⟨h0, h1⟩ := ih (a * 256 + x) (by omega) (fun y hy => h y (by simp [hy]))
    refine ⟨h0, Int.lt_of_lt_of_le h1 ?_⟩
    rw [List.length_cons, Int.pow_succ, Int.mul_comm (256 ^ l.length) 256, ← Int.mul_assoc]
    exact Int.mul_le_mul_of_nonneg_right (by omega) (Int.pow_nonneg (by decide))
theorem num_range (l : List Int) (h : bytesL l) : 0 ≤ num l ∧ num l < 256 ^ l.length := by
  have := fold_range l 0 (by omega) h
  simpa [num] using this
theorem num_small (l : List Int) (h : bytesL l) (h6 : l.length ≤ 5) : 0 ≤ num l ∧ num l < 1099511627776 := by
  obtain ⟨h0, h1⟩ := num_range l h
  rcases (by omega : l.length = 0 ∨ l.length = 1 ∨ l.length = 2 ∨ l.length = 3 ∨ l.length = 4 ∨ l.length = 5) with h | h | h | h | h | h <;> rw [h] at h1 <;> simp at h1 <;> omega
theorem take_succ_rd (l : List Int) (k : Nat) (h : k < l.length) : l.take (k + 1) = l.take k ++ [rd l k] := by
  rw [List.take_succ_eq_append_getElem h, rd_get h]
def NumIs (w0 w : World) (g : Nat) (B : List Int) (n : Nat) (e : Ending) (w' : World) : Prop := e = .returned (.int .i64 (num (B.take n))) ∧ Left0 w0 w w' g (B.drop n) false
def NumNo (w0 w : World) (g : Nat) (B : List Int) (e : Ending) (w' : World) : Prop := e = .returned (.int .i64 0) ∧ Left0 w0 w w' g B true
set_option maxHeartbeats 400000 in
theorem number_ok (g : Nat) (B : List Int) (n : Int) (w0 w : World) (hS : Src w0 w g B false) (hB : Below w0.heap.size w0 w) (hb : bytesL B) (h0 : 0 ≤ n) (h6 : n ≤ 6) (hn : n ≤ B.length) :
    Calls Try.prog 47 #[.pointer (some ⟨g, 0, none⟩), .int .i64 n] w (NumIs w0 w g B n.toNat) := by
  obtain ⟨m, rfl⟩ := Int.eq_ofNat_of_zero_le h0
  have hm6 : m ≤ 6 := by omega
  have hmB : m ≤ B.length := by omega
  have hbx : bytesL (B.take m) := fun x hx => hb x (List.mem_of_mem_take hx)
  have hlen : (B.take m).length = m := by rw [List.length_take]; omega
  rw [Int.toNat_natCast]
  have HC := Lib.hid (take_ok g B (m : Int) w0 w hS hB h0 hn)
  clear hS hb
  go_enter Try.func47, Try.ntmps47
  go_wp2_with fail
  refine HC.out.mono ?_
  rw [Int.toNat_natCast]
  rintro e w1 ⟨v, rfl, ⟨A, c, rfl, hc, hC⟩, hL⟩
  have HL := Lib.hid hL
  clear hL HC
  generalize hxs : B.take m = xs at *
  have Hxs := Lib.hid hxs
  have Hlen := Lib.hid hlen
  have hl6 : xs.length ≤ 6 := by omega
  have hb1 := HL.out.below
  have hb0 := HL.out.below.size
  clear hxs hlen
  go_wp2
  go_loop [5, 12] (fun v i => ∃ k : Nat, k ≤ xs.length ∧ i = .int .i64 k ∧ v = .int .i64 (num (xs.take k))) (fun _ i => xs.length - (intOf i).toNat)
  case atStart => exact ⟨0, Nat.zero_le _, rfl, rfl⟩
  case round =>
    obtain ⟨k, hk, rfl, rfl⟩ := hrel
    by_cases hlt : k < xs.length
    · obtain ⟨ad, rfl, hcell⟩ := Kd.at_int hC (k : Int) (by omega) (by omega)
      rw [Int.toNat_natCast] at hcell
      have hcell1 : w1.cell? (ad.add k) = some (.int .u8 (rd xs k)) := pw_cell_below hb1 hcell
      have hx := hbx (rd xs k) (by rw [rd_get hlt]; exact List.getElem_mem _)
      have hx0 := hx.1
      have hx1 := hx.2
      have hns := num_small (xs.take k) (fun x hx => hbx x (List.mem_of_mem_take hx)) (by rw [List.length_take]; omega)
      have hn0 := hns.1
      have hn1 := hns.2
      have hor := or_byte (num (xs.take k)) (rd xs k) hn0 hn1 hx0 hx1
      have HS := Lib.hid (show num (xs.take (k + 1)) = num (xs.take k) * 256 + rd xs k by rw [take_succ_rd xs k hlt, num_snoc])
      clear hcell hx hns hbx hb1
      generalize num (xs.take k) = v at *
      generalize rd xs k = x at *
      go_wp2
      exact ⟨⟨k + 1, by omega, by go_num, by rw [HS.out]⟩, by simp [intOf]; omega⟩
    · obtain rfl : k = xs.length := by omega
      clear hlt
      go_wp2
      go_ret
      refine ⟨?_, HL.out⟩
      show Ending.returned (.int .i64 (num xs)) = _
      rw [Hxs.out]
set_option maxHeartbeats 400000 in
theorem number_no (g : Nat) (B : List Int) (n : Int) (sh : Bool) (w0 w : World) (hS : Src w0 w g B sh) (hB : Below w0.heap.size w0 w) (hn : sh = true ∨ (B.length : Int) < n) :
    Calls Try.prog 47 #[.pointer (some ⟨g, 0, none⟩), .int .i64 n] w (NumNo w0 w g B) := by
  have HC := Lib.hid (take_no g B n sh w0 w hS hB hn)
  clear hS hn
  go_enter Try.func47, Try.ntmps47
  go_wp2_with fail
  refine HC.out.mono ?_
  rintro e w1 ⟨rfl, hL⟩
  have HL := Lib.hid hL
  clear hL HC
  go_wp2
  refine wp_loop_rounds 1 ?_
  rw [rounds_succ]
  go_wp2
  go_ret
  exact ⟨rfl, HL.out⟩

def ListIs (w0 w : World) (g : Nat) (xs B : List Int) (sh : Bool) (e : Ending) (w' : World) : Prop :=
  ∃ v, e = .returned v ∧ Kd.R (Kd.int .i64) 3 w' w.heap.size (fun _ => True) v xs ∧ Left0 w0 w w' g B sh
set_option maxHeartbeats 400000 in
theorem list_no1 (g : Nat) (B : List Int) (sh : Bool) (w0 w : World) (hS : Src w0 w g B sh) (hB : Below w0.heap.size w0 w) (hn : sh = true ∨ B = []) :
    Calls Try.prog 48 #[.pointer (some ⟨g, 0, none⟩)] w (ListIs w0 w g [] B true) := by
  have HC := Lib.hid (number_no g B 1 sh w0 w hS hB (by rcases hn with h | h; exact .inl h; exact .inr (by rw [h]; decide)))
  clear hS hn
  go_enter Try.func48, Try.ntmps48
  go_wp2_with fail
  refine HC.out.mono ?_
  rintro e w1 ⟨rfl, hL⟩
  have HL := Lib.hid hL
  have HC2 := Lib.hid (take_no g B 0 true w0 w1 hL.src hL.below (.inl rfl))
  clear hL HC
  go_wp2_with fail
  refine HC2.out.mono ?_
  rintro e w2 ⟨rfl, hL2⟩
  have HL2 := Lib.hid hL2
  clear hL2 HC2
  go_wp2
  refine wp_loop_rounds 1 ?_
  rw [rounds_succ]
  go_wp2
  go_ret
  exact ⟨_, rfl, Kd.R_nil _ _ _ _ _, HL2.out.src, HL2.out.below, HL.out.keep.trans HL2.out.keep (.inl rfl)⟩
theorem num_one (B : List Int) (h : 1 ≤ B.length) : num (B.take 1) = rd B 0 := by
  cases B with
  | nil => simp at h
  | cons x l => simp [num, rd]
set_option maxHeartbeats 400000 in
theorem list_no2 (g : Nat) (B : List Int) (w0 w : World) (hS : Src w0 w g B false) (hB : Below w0.heap.size w0 w) (hb : bytesL B) (h1 : 1 ≤ B.length) (hlt : (B.length : Int) < 1 + rd B 0) :
    Calls Try.prog 48 #[.pointer (some ⟨g, 0, none⟩)] w (ListIs w0 w g [] (B.drop 1) true) := by
  have HC := number_ok g B 1 w0 w hS hB hb (by omega) (by omega) (by omega)
  rw [show (1 : Int).toNat = 1 from rfl] at HC
  have HC := Lib.hid HC
  have Hn := Lib.hid (num_one B h1)
  have hdl : ((B.drop 1).length : Int) < rd B 0 := by rw [List.length_drop]; omega
  clear hS hlt hb h1
  go_enter Try.func48, Try.ntmps48
  go_wp2_with fail
  refine HC.out.mono ?_
  rintro e w1 ⟨rfl, hL⟩
  rw [Hn.out]
  have HL := Lib.hid hL
  have HC2 := Lib.hid (take_no g (B.drop 1) (rd B 0) false w0 w1 hL.src hL.below (.inr hdl))
  clear hL HC hdl
  go_wp2_with fail
  refine HC2.out.mono ?_
  rintro e w2 ⟨rfl, hL2⟩
  have HL2 := Lib.hid hL2
  clear hL2 HC2
  go_wp2
  refine wp_loop_rounds 1 ?_
  rw [rounds_succ]
  go_wp2
  go_ret
  exact ⟨_, rfl, Kd.R_nil _ _ _ _ _, HL2.out.src, HL2.out.below, HL.out.keep.trans HL2.out.keep (.inl rfl)⟩
theorem Left0.later {w0 w w2 wr : World} {g : Nat} {B : List Int} {sh : Bool} (hL : Left0 w0 w w2 g B sh) (h : Below w.heap.size w2 wr) (hgw : g < w.heap.size) (hw : w0.heap.size ≤ w.heap.size) : Left0 w0 w wr g B sh := by
  obtain ⟨A, c, hc, hblk, hg0, hC⟩ := hL.src
  refine ⟨⟨A, c, hc, (h.block g hgw).trans hblk, hg0, hC⟩, hL.below.trans (h.mono hw), Nat.le_trans hL.keep.1 h.size, fun i hi hne _ => ?_⟩
  rw [h.block i hi]
  exact hL.keep.2 i hi hne (by simp)
set_option maxHeartbeats 1000000 in
theorem list_ok (g : Nat) (B : List Int) (w0 w : World) (hS : Src w0 w g B false) (hB : Below w0.heap.size w0 w) (hb : bytesL B) (h1 : 1 ≤ B.length) (hle : 1 + rd B 0 ≤ B.length) :
    Calls Try.prog 48 #[.pointer (some ⟨g, 0, none⟩)] w (ListIs w0 w g ((B.drop 1).take (rd B 0).toNat) ((B.drop 1).drop (rd B 0).toNat) false) := by
  have hr : 0 ≤ rd B 0 ∧ rd B 0 < 256 := hb _ (by rw [show (0 : Int) = ((0 : Nat) : Int) from rfl, rd_get (by omega)]; exact List.getElem_mem _)
  have hgw := hS.lt
  have hB0 := hB.size
  have HC := number_ok g B 1 w0 w hS hB hb (by omega) (by omega) (by omega)
  rw [show (1 : Int).toNat = 1 from rfl] at HC
  have HC := Lib.hid HC
  have Hn := Lib.hid (num_one B h1)
  have hdl : rd B 0 ≤ ((B.drop 1).length : Int) := by rw [List.length_drop]; omega
  have hxl : ((B.drop 1).take (rd B 0).toNat).length ≤ 255 := by rw [List.length_take]; omega
  have hxb : bytesL ((B.drop 1).take (rd B 0).toNat) := fun x hx => hb x (List.mem_of_mem_drop (List.mem_of_mem_take hx))
  clear hS hle hb h1
  go_enter Try.func48, Try.ntmps48
  go_wp2_with fail
  refine HC.out.mono ?_
  rintro e w1 ⟨rfl, hL⟩
  rw [Hn.out]
  have hw1 := hL.keep.1
  have HL := Lib.hid hL
  have HC2 := Lib.hid (take_ok g (B.drop 1) (rd B 0) w0 w1 hL.src hL.below hr.1 hdl)
  clear hL HC hdl
  go_wp2_with fail
  refine HC2.out.mono ?_
  rintro e w2 ⟨v, rfl, ⟨A, c, rfl, hc, hC⟩, hL2⟩
  generalize hxs : (B.drop 1).take (rd B 0).toNat = xs at *
  generalize hys : (B.drop 1).drop (rd B 0).toNat = ys at *
  have HL2 := Lib.hid (show Left0 w0 w w2 g ys false from ⟨hL2.src, hL2.below, HL.out.keep.trans hL2.keep (.inl rfl)⟩)
  have Hxs := Lib.hid hxs
  have Hys := Lib.hid hys
  have hw2 := HL2.out.keep.1
  clear hL2 HC2 hxs hys HL hr
  go_wp2
  go_loopw [3, 11] (fun v i wr => ∃ k : Nat, k ≤ xs.length ∧ i = .int .i64 k ∧ Aside0 (Kd.R (Kd.int .i64) 3 wr w.heap.size (fun _ => True) v (xs.take k)) ∧ Aside0 (Below w.heap.size w2 wr)) (fun _ i _ => xs.length - (intOf i).toNat)
  case atStart => exact ⟨0, Nat.zero_le _, rfl, ⟨Kd.R_nil _ _ _ _ _⟩, ⟨Below.refl _ _⟩⟩
  case round =>
    obtain ⟨k, hk, rfl, HO, HB⟩ := hrel
    have hbs : w.heap.size ≤ wr.heap.size := Nat.le_trans hw2 HB.out.size
    by_cases hlt : k < xs.length
    · obtain ⟨ad, rfl, hcell⟩ := Kd.at_int hC (k : Int) (by omega) (by omega)
      rw [Int.toNat_natCast] at hcell
      have hcell1 : wr.cell? (ad.add k) = some (.int .u8 (rd xs k)) := pw_cell_below ((HL2.out.later HB.out hgw hB0).below) hcell
      have hx := hxb (rd xs k) (by rw [rd_get hlt]; exact List.getElem_mem _)
      have hx0 := hx.1
      have hx1 := hx.2
      have HS := Lib.hid (take_succ_rd xs k hlt)
      have hkl := Lib.hid (show (xs.take k).length ≤ 255 by rw [List.length_take]; omega)
      clear hcell hx hxb
      go_wp2_with (first | ((with_reducible refine gate_builtin (b := .append) (xs := #[.tmp 15, .tmp 18]) rfl ?_); at_builtin; refine Kd.R_append (Kd.int .i64) (w0 := w2) w.heap.size rfl (.tmp 15) (.tmp 18) 24 3 (.int .i64 0) 8 rfl Try.underlying24 info_i64 rfl (by decide) (by omega) u3 (xs.take k) (rd xs k) [.int .i64 (rd xs k)] (fun _ => True) (fun _ => False) rfl rfl ?aP (fun _ hk => hk.elim) (fun _ _ => trivial) ?aO ?aB ?aS ?aL ?_; (case aP => exact rfl); (case aO => exact HO.out); (case aB => exact HB.out); (case aS => exact hbs); (case aL => have := hkl.out; omega); intro v1 w1' ho hb hg hat; rw [← HS.out] at ho; have HO1 := Aside0.mk ho; have HB1 := Aside0.mk hb; clear ho hb hg hat HO HB))
      go_roundw
      case rel => exact ⟨k + 1, by omega, by go_num, HO1, HB1⟩
      case measure => simp [intOf]; omega
    · obtain rfl : k = xs.length := by omega
      rw [List.take_length] at HO
      clear hlt
      go_wp2
      go_ret
      exact ⟨_, rfl, HO.out, HL2.out.later HB.out hgw hB0⟩

/-! ### one contract each: what is read out of (bytes, too few) -/
def numR (n : Nat) (s : List Int × Bool) : Int := if s.2 = true ∨ s.1.length < n then 0 else num (s.1.take n)
def nxtR (n : Nat) (s : List Int × Bool) : List Int × Bool := if s.2 = true ∨ s.1.length < n then (s.1, true) else (s.1.drop n, false)
theorem number_any (g : Nat) (s : List Int × Bool) (n : Int) (w0 w : World) (hS : Src w0 w g s.1 s.2) (hB : Below w0.heap.size w0 w) (hb : bytesL s.1) (h0 : 0 ≤ n) (h6 : n ≤ 6) :
    Calls Try.prog 47 #[.pointer (some ⟨g, 0, none⟩), .int .i64 n] w fun e w' => e = .returned (.int .i64 (numR n.toNat s)) ∧ Left0 w0 w w' g (nxtR n.toNat s).1 (nxtR n.toNat s).2 := by
  obtain ⟨B, sh⟩ := s
  by_cases h : sh = true ∨ B.length < n.toNat
  · refine (number_no g B n sh w0 w hS hB (by rcases h with h | h; exact .inl h; exact .inr (by omega))).mono ?_
    rintro e w' ⟨rfl, hL⟩
    rw [numR, nxtR, if_pos h, if_pos h]
    exact ⟨rfl, hL⟩
  · have hf : sh = false := by cases sh <;> simp_all
    subst hf
    refine (number_ok g B n w0 w hS hB hb h0 h6 (by omega)).mono ?_
    rintro e w' ⟨rfl, hL⟩
    rw [numR, nxtR, if_neg h, if_neg h]
    exact ⟨rfl, hL⟩
theorem nxt_bytes {n : Nat} {s : List Int × Bool} (hb : bytesL s.1) : bytesL (nxtR n s).1 := by
  unfold nxtR
  split
  · exact hb
  · exact fun x hx => hb x (List.mem_of_mem_drop hx)
def takeR (n : Nat) (s : List Int × Bool) : List Int := if s.2 = true ∨ s.1.length < n then [] else s.1.take n
theorem take_any (g : Nat) (s : List Int × Bool) (n : Int) (w0 w : World) (hS : Src w0 w g s.1 s.2) (hB : Below w0.heap.size w0 w) (h0 : 0 ≤ n) :
    Calls Try.prog 50 #[.pointer (some ⟨g, 0, none⟩), .int .i64 n] w fun e w' => ∃ v, e = .returned v ∧ Cut w0 (takeR n.toNat s) v ∧ Left0 w0 w w' g (nxtR n.toNat s).1 (nxtR n.toNat s).2 := by
  obtain ⟨B, sh⟩ := s
  by_cases h : sh = true ∨ B.length < n.toNat
  · refine (take_no g B n sh w0 w hS hB (by rcases h with h | h; exact .inl h; exact .inr (by omega))).mono ?_
    rintro e w' ⟨rfl, hL⟩
    rw [takeR, nxtR, if_pos h, if_pos h]
    exact ⟨_, rfl, ⟨none, 0, rfl, Nat.le_refl _, rfl, by simp, fun h => absurd h (by simp)⟩, hL⟩
  · have hf : sh = false := by cases sh <;> simp_all
    subst hf
    refine (take_ok g B n w0 w hS hB h0 (by omega)).mono ?_
    rintro e w' ⟨v, rfl, hc, hL⟩
    rw [takeR, nxtR, if_neg h, if_neg h]
    exact ⟨_, rfl, hc, hL⟩
/-- List: how many comes first. -/
def lstR (s : List Int × Bool) : List Int := takeR (numR 1 s).toNat (nxtR 1 s)
def lstN (s : List Int × Bool) : List Int × Bool := nxtR (numR 1 s).toNat (nxtR 1 s)
theorem list_any (g : Nat) (s : List Int × Bool) (w0 w : World) (hS : Src w0 w g s.1 s.2) (hB : Below w0.heap.size w0 w) (hb : bytesL s.1) :
    Calls Try.prog 48 #[.pointer (some ⟨g, 0, none⟩)] w (ListIs w0 w g (lstR s) (lstN s).1 (lstN s).2) := by
  obtain ⟨B, sh⟩ := s
  by_cases h : sh = true ∨ B.length < 1
  · have e1 : numR 1 (B, sh) = 0 := by rw [numR, if_pos h]
    have e2 : nxtR 1 (B, sh) = (B, true) := by rw [nxtR, if_pos h]
    have e3 : lstR (B, sh) = [] := by rw [lstR, e1, e2, takeR, if_pos (.inl rfl)]
    have e4 : lstN (B, sh) = (B, true) := by rw [lstN, e1, e2, nxtR, if_pos (.inl rfl)]
    rw [e3, e4]
    refine list_no1 g B sh w0 w hS hB (by rcases h with h | h; exact .inl h; exact .inr (List.length_eq_zero_iff.1 (by omega)))
  · have hf : sh = false := by cases sh <;> simp_all
    subst hf
    have h1 : 1 ≤ B.length := by
      by_cases g : B.length < 1
      · exact absurd (.inr g) h
      · omega
    have e1 : numR 1 (B, false) = rd B 0 := by rw [numR, if_neg h]; exact num_one B h1
    have e2 : nxtR 1 (B, false) = (B.drop 1, false) := by rw [nxtR, if_neg h]
    have hr : 0 ≤ rd B 0 ∧ rd B 0 < 256 := hb _ (by rw [show (0 : Int) = ((0 : Nat) : Int) from rfl, rd_get (by omega)]; exact List.getElem_mem _)
    have hl : (B.drop 1).length = B.length - 1 := List.length_drop
    by_cases hlt : (B.length : Int) < 1 + rd B 0
    · have e3 : lstR (B, false) = [] := by rw [lstR, e1, e2, takeR, if_pos (.inr (by rw [hl]; omega))]
      have e4 : lstN (B, false) = (B.drop 1, true) := by rw [lstN, e1, e2, nxtR, if_pos (.inr (by rw [hl]; omega))]
      rw [e3, e4]
      exact list_no2 g B w0 w hS hB hb h1 hlt
    · have hn : ¬ ((false : Bool) = true ∨ (B.drop 1).length < (rd B 0).toNat) := by rw [hl]; simp; omega
      have e3 : lstR (B, false) = (B.drop 1).take (rd B 0).toNat := by rw [lstR, e1, e2, takeR, if_neg hn]
      have e4 : lstN (B, false) = ((B.drop 1).drop (rd B 0).toNat, false) := by rw [lstN, e1, e2, nxtR, if_neg hn]
      rw [e3, e4]
      exact list_ok g B w0 w hS hB hb h1 (by omega)

set_option maxHeartbeats 400000 in
theorem clone_any (v : Value) (xs : List Int) (w : World) (hv : Cut w xs v) (hl : xs.length < 140737488355328) :
    Calls Try.prog 49 #[v] w fun e w' => ∃ v1, e = .returned v1 ∧ Kd.R (Kd.int .u8) 5 w' w.heap.size (fun _ => True) v1 xs ∧ Below w.heap.size w w' := by
  obtain ⟨A, c, rfl, hc, hC⟩ := hv
  have HC := Aside0.mk hC
  have HB := Aside0.mk (Below.refl w.heap.size w)
  have hq := fun (W : World) => Lib.run_eql_slice_nil (P := Try.prog) W 25 5 A xs.length c 0 0 Try.underlying25
  cases A with
  | none =>
    have hx : xs = [] := by
      cases xs with
      | nil => rfl
      | cons x l => obtain ⟨ad, h, _⟩ := hC.2.2 (by simp); cases h
    subst hx
    clear hC
    simp only [List.length_nil, Option.isNone_none] at hq
    go_enter Try.func49, Try.ntmps49
    go_wp2
    go_ret
    exact ⟨_, rfl, Kd.R_nil _ _ _ _ _, Below.refl _ _⟩
  | some ad =>
    clear hC
    have Hl := Lib.hid hl
    clear hl
    simp only [Option.isNone_some] at hq
    go_enter Try.func49, Try.ntmps49
    go_wp2_with (first | ((with_reducible refine gate_dst (N := 5) rfl ?_); refine Kd.R_lit (Kd.int .u8) _ 5 ?hg (N := 5) ?hd (xs := ([] : List Int)) (inner := []) (ok := fun _ => True) (okp := fun _ => True) ?hr ?hp (fun _ hk => hk) trivial (Below.refl _ _) (Nat.le_refl _) (by simp) ?_; (case hd => rfl); (case hg => rfl); (case hr => first | (go_simp; done) | (go_simp; rfl)); (case hp => exact (Reps.none _ _)); intro v165 w3 ho4 hb hg_ hnew_; clear hg_ hnew_; have HO := Aside0.mk ho4; have HB1 := Aside0.mk hb; clear hb ho4) | ((with_reducible refine gate_builtin (b := .append) (xs := #[.tmp 5, .tmp 6]) rfl ?_); at_builtin; refine Kd.R_append_rows (Kd.int .u8) (w0 := w) w.heap.size rfl (.tmp 5) (.tmp 6) 25 5 (.int .u8 0) 1 rfl Try.underlying25 info_u8 rfl (by decide) (by omega) v165 [] xs _ _ _ (fun _ => True) (fun _ => False) rfl rfl ?aO ?aR (fun _ _ h => h) (fun _ h => h.elim) ?aF ?aB ?aS ?aL ?_; (case aR => exact (Kd.C_below HC.out HB1.out)); (case aB => exact HB1.out); (case aF => exact (fun _ _ => trivial)); (case aO => exact HO.out); (case aS => exact HB1.out.size); (case aL => have := Hl.out; simp; omega); intro v168 w5 ho hb hg hat; have HO2 := Aside0.mk ho; have HB2 := Aside0.mk hb; clear ho hb hg hat))
    go_ret
    exact ⟨_, rfl, HO2.out, HB2.out⟩

def overR (s : List Int × Bool) : Int := if s.2 = true then 2 else if s.1.length > 0 then 3 else 0
set_option maxHeartbeats 400000 in
theorem over_any (g : Nat) (s : List Int × Bool) (w0 w : World) (hS : Src w0 w g s.1 s.2) :
    Calls Try.prog 51 #[.pointer (some ⟨g, 0, none⟩)] w fun e w' => e = .returned (.int .i64 (overR s)) ∧ w = w' := by
  obtain ⟨B, sh⟩ := s
  obtain ⟨A, c, hc, hblk, hg, hC⟩ := hS
  have c0 : w.cell? ⟨g, 0, none⟩ = some (.slice A B.length c) := blk_cell hblk 0
  have c1 : w.cell? ⟨g, 1, none⟩ = some (.bool sh) := blk_cell hblk 1
  clear hblk hC
  cases sh with
  | true =>
    have hr := Lib.hid (show overR (B, true) = 2 from rfl)
    go_enter Try.func51, Try.ntmps51
    go_wp2
    go_ret
    rw [hr.out]
    exact ⟨rfl, rfl⟩
  | false =>
    by_cases h : 0 < B.length
    · have hr := Lib.hid (show overR (B, false) = 3 by simp [overR, h])
      have h1 : decide (0 < B.length) = true := decide_eq_true h
      go_enter Try.func51, Try.ntmps51
      go_wp2
      go_ret
      rw [hr.out]
      exact ⟨rfl, rfl⟩
    · have hr := Lib.hid (show overR (B, false) = 0 by simp [overR, h])
      have h1 : decide (0 < B.length) = false := decide_eq_false h
      go_enter Try.func51, Try.ntmps51
      go_wp2
      go_ret
      rw [hr.out]
      exact ⟨rfl, rfl⟩
/-- A block that is not the reader's stays. -/
theorem keep_blk {w w' : World} {g i : Nat} {o : Obj} (hk : KeepBut w w' g none) (h : w.heap[i]? = some o) (hne : i ≠ g) : w'.heap[i]? = some o :=
  (hk.2 i (Array.getElem?_eq_some_iff.1 h).1 hne (by simp)).trans h
theorem Left0.more {w0 w W W1 : World} {g : Nat} {B : List Int} {sh : Bool} (hL : Left0 w0 w W g B sh) (h : Below W.heap.size W W1) : Left0 w0 w W1 g B sh :=
  ⟨hL.src.keep h, hL.below.trans (h.mono hL.below.size), hL.keep.trans (KeepBut.of_below h g none) (.inl rfl)⟩
theorem Left0.set {w0 w W : World} {g a j : Nat} {B : List Int} {sh : Bool} (hL : Left0 w0 w W g B sh) (ha : w.heap.size ≤ a) (ha0 : w0.heap.size ≤ a) (hne : a ≠ g) (v : Value) : Left0 w0 w (W.setCell ⟨a, j, none⟩ v) g B sh := by
  obtain ⟨A, c, hc, hblk, hg, hC⟩ := hL.src
  refine ⟨⟨A, c, hc, (Below.heap_setCell W ⟨a, j, none⟩ v g (Ne.symm hne)).trans hblk, hg, hC⟩, hL.below.setCell ha0 _, by simpa [World.setCell] using hL.keep.1, fun i hi h1 h2 => ?_⟩
  rw [Below.heap_setCell W ⟨a, j, none⟩ v i (by show i ≠ a; omega)]
  exact hL.keep.2 i hi h1 h2
theorem Left0.then {w0 w W W1 : World} {g : Nat} {B B1 : List Int} {sh sh1 : Bool} (hL : Left0 w0 w W g B sh) (h : Left0 w0 W W1 g B1 sh1) : Left0 w0 w W1 g B1 sh1 :=
  ⟨h.src, h.below, hL.keep.trans h.keep (.inl rfl)⟩
section
variable {α : Type} {d : Kd α} {e : Nat} {w w1 : World} {base : Nat} {v : Value} {xs : List α}
theorem R_left {g : Nat} (h : d.R e w base (fun _ => True) v xs) (hk : KeepBut w w1 g none) (hg : g < base) : d.R e w1 base (fun _ => True) v xs :=
  Kd.R_mono (Kd.R_keep (Kd.R_bound h) hk (fun k hk => by have := hk.2.1; omega)) (fun _ _ => trivial)
theorem R_set {a j : Nat} (h : d.R e w base (fun _ => True) v xs) (ha : a < base) (u : Value) : d.R e (w.setCell ⟨a, j, none⟩ u) base (fun _ => True) v xs :=
  Kd.R_mono (Kd.R_far (p := ⟨a, j, none⟩) (Kd.R_bound h) (fun k hk => by have := hk.2.1; show k ≠ a; omega) u) (fun _ _ => trivial)
end
theorem blk_far {w : World} {a b j : Nat} {o : Obj} (h : w.heap[b]? = some o) (hne : b ≠ a) (u : Value) : (w.setCell ⟨a, j, none⟩ u).heap[b]? = some o := (Below.heap_setCell w ⟨a, j, none⟩ u b hne).trans h
theorem lst_bytes {s : List Int × Bool} (hb : bytesL s.1) : bytesL (lstN s).1 := nxt_bytes (nxt_bytes hb)
theorem lstR_bytes {s : List Int × Bool} (hb : bytesL s.1) : bytesL (lstR s) := by
  unfold lstR takeR
  split
  · exact bytesL_nil
  · exact fun x hx => nxt_bytes (n := 1) (s := s) hb x (List.mem_of_mem_take hx)
theorem takeR_bytes {n : Nat} {s : List Int × Bool} (hb : bytesL s.1) : bytesL (takeR n s) := by
  unfold takeR
  split
  · exact bytesL_nil
  · exact fun x hx => hb x (List.mem_of_mem_take hx)
theorem numR_nonneg {n : Nat} {s : List Int × Bool} (hb : bytesL s.1) : 0 ≤ numR n s := by
  unfold numR
  split
  · exact Int.le_refl _
  · exact (num_range _ (fun x hx => hb x (List.mem_of_mem_take hx))).1
theorem nxt_le {n : Nat} {s : List Int × Bool} : (nxtR n s).1.length ≤ s.1.length := by
  unfold nxtR
  split
  · exact Nat.le_refl _
  · rw [List.length_drop]; exact Nat.sub_le _ _
theorem takeR_le {n : Nat} {s : List Int × Bool} : (takeR n s).length ≤ s.1.length := by
  unfold takeR
  split
  · simp
  · rw [List.length_take]; exact Nat.min_le_right _ _
theorem lstR_le {s : List Int × Bool} : (lstR s).length ≤ s.1.length := Nat.le_trans takeR_le nxt_le
theorem lstN_le {s : List Int × Bool} : (lstN s).1.length ≤ s.1.length := Nat.le_trans nxt_le nxt_le
structure Ok (s : List Int × Bool) : Prop where
  bytes : bytesL s.1
  len : s.1.length ≤ 20000
theorem Ok.nxt {n : Nat} {s : List Int × Bool} (h : Ok s) : Ok (nxtR n s) := ⟨nxt_bytes h.bytes, Nat.le_trans nxt_le h.len⟩
theorem Ok.lst {s : List Int × Bool} (h : Ok s) : Ok (lstN s) := ⟨lst_bytes h.bytes, Nat.le_trans lstN_le h.len⟩
/-- Nine cells written anew. -/
theorem blk_all {w : World} {g : Nat} {t : TypeId} {cs : Array Value} {i : Nat} {u : Value} {cs' : Array Value} (h : w.heap[g]? = some (.cells cs t (0, 0))) (e : cs.setIfInBounds i u = cs') : (w.setCell ⟨g, i, none⟩ u).heap[g]? = some (.cells cs' t (0, 0)) := by
  rw [← e]
  exact blk_set h i u
/-- Cells written one behind the other. -/
def setAll (W : World) (g : Nat) : Nat → List Value → World
  | _, [] => W
  | i, x :: xs => setAll (W.setCell ⟨g, i, none⟩ x) g (i + 1) xs
def setFrom (cs : Array Value) : Nat → List Value → Array Value
  | _, [] => cs
  | i, x :: xs => setFrom (cs.setIfInBounds i x) (i + 1) xs
theorem blk_setAll {g : Nat} {t : TypeId} : ∀ (xs : List Value) (i : Nat) (W : World) (cs : Array Value), W.heap[g]? = some (.cells cs t (0, 0)) → (setAll W g i xs).heap[g]? = some (.cells (setFrom cs i xs) t (0, 0))
  | [], _, _, _, h => h
  | x :: xs, i, W, cs, h => blk_setAll xs (i + 1) _ _ (blk_set h i x)
theorem R_setAll {α : Type} {d : Kd α} {e base : Nat} {v : Value} {ys : List α} {a : Nat} (ha : a < base) : ∀ (xs : List Value) (i : Nat) (W : World), d.R e W base (fun _ => True) v ys → d.R e (setAll W a i xs) base (fun _ => True) v ys
  | [], _, _, h => h
  | x :: xs, i, W, h => R_setAll ha xs (i + 1) _ (R_set h ha x)
theorem below_setAll {w : World} {B a : Nat} (ha : B ≤ a) : ∀ (xs : List Value) (i : Nat) (W : World), Below B w W → Below B w (setAll W a i xs)
  | [], _, _, h => h
  | x :: xs, i, W, h => below_setAll ha xs (i + 1) _ (h.setCell ha x)
theorem blk9 {w : World} {g : Nat} {t : TypeId} {o0 o1 o2 o3 o4 o5 o6 o7 o8 : Value} (x0 x1 x2 x3 x4 x5 x6 x7 x8 : Value) (h : w.heap[g]? = some (.cells #[o0, o1, o2, o3, o4, o5, o6, o7, o8] t (0, 0))) : (((((((((w.setCell ⟨g, 0, none⟩ x0).setCell ⟨g, 1, none⟩ x1).setCell ⟨g, 2, none⟩ x2).setCell ⟨g, 3, none⟩ x3).setCell ⟨g, 4, none⟩ x4).setCell ⟨g, 5, none⟩ x5).setCell ⟨g, 6, none⟩ x6).setCell ⟨g, 7, none⟩ x7).setCell ⟨g, 8, none⟩ x8).heap[g]? = some (.cells #[x0, x1, x2, x3, x4, x5, x6, x7, x8] t (0, 0)) := by
  have q := (blk_set (blk_set (blk_set (blk_set (blk_set (blk_set (blk_set (blk_set (blk_set h 0 x0) 1 x1) 2 x2) 3 x3) 4 x4) 5 x5) 6 x6) 7 x7) 8 x8)
  simp only [List.setIfInBounds_toArray, List.set_cons_succ, List.set_cons_zero] at q
  exact q
theorem blk15 {w : World} {g : Nat} {t : TypeId} {o0 o1 o2 o3 o4 o5 o6 o7 o8 o9 o10 o11 o12 o13 o14 : Value} (x0 x1 x2 x3 x4 x5 x6 x7 x8 x9 x10 x11 x12 x13 x14 : Value) (h : w.heap[g]? = some (.cells #[o0, o1, o2, o3, o4, o5, o6, o7, o8, o9, o10, o11, o12, o13, o14] t (0, 0))) : (((((((((((((((w.setCell ⟨g, 0, none⟩ x0).setCell ⟨g, 1, none⟩ x1).setCell ⟨g, 2, none⟩ x2).setCell ⟨g, 3, none⟩ x3).setCell ⟨g, 4, none⟩ x4).setCell ⟨g, 5, none⟩ x5).setCell ⟨g, 6, none⟩ x6).setCell ⟨g, 7, none⟩ x7).setCell ⟨g, 8, none⟩ x8).setCell ⟨g, 9, none⟩ x9).setCell ⟨g, 10, none⟩ x10).setCell ⟨g, 11, none⟩ x11).setCell ⟨g, 12, none⟩ x12).setCell ⟨g, 13, none⟩ x13).setCell ⟨g, 14, none⟩ x14).heap[g]? = some (.cells #[x0, x1, x2, x3, x4, x5, x6, x7, x8, x9, x10, x11, x12, x13, x14] t (0, 0)) := by
  have q := (blk_set (blk_set (blk_set (blk_set (blk_set (blk_set (blk_set (blk_set (blk_set (blk_set (blk_set (blk_set (blk_set (blk_set (blk_set h 0 x0) 1 x1) 2 x2) 3 x3) 4 x4) 5 x5) 6 x6) 7 x7) 8 x8) 9 x9) 10 x10) 11 x11) 12 x12) 13 x13) 14 x14)
  simp only [List.setIfInBounds_toArray, List.set_cons_succ, List.set_cons_zero] at q
  exact q
end Go.Proofs.Ytleljfmhefobeaa.GKSrc
