/- wire.Decode: what it does. -/
import Derived.Test.YtleljfmhefobeaaGKB
import Derived.Test.YtleljfmhefobeaaGKPw
import Derived.Test.YtleljfmhefobeaaGKSrc
import Derived.WalkKit
import Derived.WalkSpells
import Derived.Lib.Hide
set_option linter.unusedVariables false
set_option linter.unusedSimpArgs false
namespace Go.Proofs.Ytleljfmhefobeaa.GKDec
open Go.RowKit Go.Proofs.YtleljfmhefobeaaW.PrintWords Go.Proofs.YtleljfmhefobeaaW.PrintLast Go.Proofs.YtleljfmhefobeaaW.PrintMore Go.Proofs.Ytleljfmhefobeaa.GK Go.Proofs.Ytleljfmhefobeaa.GKPa Go.Proofs.Ytleljfmhefobeaa.GKPe Go.Proofs.Ytleljfmhefobeaa.GKPw Go.Proofs.Ytleljfmhefobeaa.GKSrc Go.Proofs.Ytleljfmhefobeaa.GKB

theorem number_at (g : Nat) (s : List Int × Bool) (n : Nat) (w0 w : World) (hS : Src w0 w g s.1 s.2) (hB : Below w0.heap.size w0 w) (hb : bytesL s.1) (h6 : n ≤ 6) :
    Calls Try.prog 47 #[.pointer (some ⟨g, 0, none⟩), .int .i64 (n : Int)] w fun e w' => e = .returned (.int .i64 (numR n s)) ∧ Left0 w0 w w' g (nxtR n s).1 (nxtR n s).2 := by
  have := number_any g s (n : Int) w0 w hS hB hb (by omega) (by omega)
  rwa [Int.toNat_natCast] at this
theorem may_call (m : M) (hu : m.us.length ≤ 20000) (hn : m.ns.length ≤ 20000) (ht : m.tx.length ≤ 20000) :
    wire_May.f 30000 m.a0 m.a1 m.a2 m.a3 m.a4 m.a5 m.a6 m.a7 m.a8 m.y m.lo m.hi m.us m.ns m.tx = some (mayB m) :=
  may_eq 29998 m (by omega) (by omega) (by omega)
theorem encode_call (m : M) (h : May m) :
    wire_encode.f 1000 m.a0 m.a1 m.a2 m.a3 m.a4 m.a5 m.a6 m.a7 m.a8 m.y m.lo m.hi m.us m.ns m.tx = some (body m) := by
  have h1 := h.us.2; have h2 := h.ns.2; have h3 := h.text
  exact encode_eq 1000 m (by omega) (by omega) (by omega) (by omega)

/-- What is read, and what is left of the bytes. -/
def parse (b : List Int) : M × (List Int × Bool) :=
  (⟨numR 1 (b, false), numR 1 (nxtR 1 (b, false)), numR 1 (nxtR 1 (nxtR 1 (b, false))), numR 6 (nxtR 1 (nxtR 1 (nxtR 1 (nxtR 1 (nxtR 1 (nxtR 1 (b, false))))))), numR 6 (nxtR 6 (nxtR 1 (nxtR 1 (nxtR 1 (nxtR 1 (nxtR 1 (nxtR 1 (b, false)))))))), numR 1 (nxtR 1 (nxtR 1 (nxtR 1 (b, false)))), numR 6 (nxtR 6 (nxtR 6 (nxtR 1 (nxtR 1 (nxtR 1 (nxtR 1 (nxtR 1 (nxtR 1 (b, false))))))))), numR 1 (nxtR 1 (nxtR 1 (nxtR 1 (nxtR 1 (b, false))))), numR 6 (nxtR 6 (nxtR 6 (nxtR 6 (nxtR 1 (nxtR 1 (nxtR 1 (nxtR 1 (nxtR 1 (nxtR 1 (b, false)))))))))), numR 1 (nxtR 1 (nxtR 1 (nxtR 1 (nxtR 1 (nxtR 1 (b, false)))))) != 0, numR 6 (nxtR 6 (nxtR 6 (nxtR 6 (nxtR 6 (nxtR 1 (nxtR 1 (nxtR 1 (nxtR 1 (nxtR 1 (nxtR 1 (b, false))))))))))), numR 6 (nxtR 6 (nxtR 6 (nxtR 6 (nxtR 6 (nxtR 6 (nxtR 1 (nxtR 1 (nxtR 1 (nxtR 1 (nxtR 1 (nxtR 1 (b, false)))))))))))), lstR (nxtR 6 (nxtR 6 (nxtR 6 (nxtR 6 (nxtR 6 (nxtR 6 (nxtR 1 (nxtR 1 (nxtR 1 (nxtR 1 (nxtR 1 (nxtR 1 (b, false))))))))))))), lstR (lstN (nxtR 6 (nxtR 6 (nxtR 6 (nxtR 6 (nxtR 6 (nxtR 6 (nxtR 1 (nxtR 1 (nxtR 1 (nxtR 1 (nxtR 1 (nxtR 1 (b, false)))))))))))))), takeR (numR 2 (lstN (lstN (nxtR 6 (nxtR 6 (nxtR 6 (nxtR 6 (nxtR 6 (nxtR 6 (nxtR 1 (nxtR 1 (nxtR 1 (nxtR 1 (nxtR 1 (nxtR 1 (b, false)))))))))))))))).toNat (nxtR 2 (lstN (lstN (nxtR 6 (nxtR 6 (nxtR 6 (nxtR 6 (nxtR 6 (nxtR 6 (nxtR 1 (nxtR 1 (nxtR 1 (nxtR 1 (nxtR 1 (nxtR 1 (b, false))))))))))))))))⟩,
   nxtR (numR 2 (lstN (lstN (nxtR 6 (nxtR 6 (nxtR 6 (nxtR 6 (nxtR 6 (nxtR 6 (nxtR 1 (nxtR 1 (nxtR 1 (nxtR 1 (nxtR 1 (nxtR 1 (b, false)))))))))))))))).toNat (nxtR 2 (lstN (lstN (nxtR 6 (nxtR 6 (nxtR 6 (nxtR 6 (nxtR 6 (nxtR 6 (nxtR 1 (nxtR 1 (nxtR 1 (nxtR 1 (nxtR 1 (nxtR 1 (b, false)))))))))))))))))
def m0 : M := ⟨0, 0, 0, 0, 0, 0, 0, 0, 0, false, 0, 0, [], [], []⟩
open Classical in
noncomputable def dec (b : List Int) : M × Int :=
  if overR (parse b).2 ≠ 0 then (m0, overR (parse b).2) else if ¬ May (parse b).1 ∨ body (parse b).1 ≠ b then (m0, 4) else ((parse b).1, 0)
def DecIs (w : World) (r : M × Int) (e : Ending) (w' : World) : Prop :=
  ∃ vu vn vt, e = .returned (.tuple #[.agg #[.int .i64 r.1.a0, .int .i64 r.1.a1, .int .i64 r.1.a2, .int .i64 r.1.a3, .int .i64 r.1.a4, .int .i64 r.1.a5, .int .i64 r.1.a6, .int .i64 r.1.a7, .int .i64 r.1.a8, .bool r.1.y, .int .i64 r.1.lo, .int .i64 r.1.hi, vu, vn, vt], .int .i64 r.2]) ∧
    Kd.R (Kd.int .i64) 3 w' w.heap.size (fun _ => True) vu r.1.us ∧ Kd.R (Kd.int .i64) 3 w' w.heap.size (fun _ => True) vn r.1.ns ∧ Kd.R (Kd.int .u8) 5 w' w.heap.size (fun _ => True) vt r.1.tx ∧ Below w.heap.size w w'
theorem dec_no (w W : World) (c : Int) (hb : Below w.heap.size w W) : DecIs w (m0, c) (.returned (.tuple #[.agg #[.int .i64 0, .int .i64 0, .int .i64 0, .int .i64 0, .int .i64 0, .int .i64 0, .int .i64 0, .int .i64 0, .int .i64 0, .bool false, .int .i64 0, .int .i64 0, .slice none 0 0, .slice none 0 0, .slice none 0 0], .int .i64 c])) W :=
  ⟨_, _, _, rfl, Kd.R_nil _ _ _ _ _, Kd.R_nil _ _ _ _ _, Kd.R_nil _ _ _ _ _, hb⟩

set_option maxRecDepth 100000 in
set_option maxHeartbeats 2000000 in
theorem decode_any (b : List Int) (A : Option Addr) (c : Nat) (w : World) (hb : bytesL b) (hlen : b.length ≤ 20000) (hc : b.length ≤ c) (hC : Kd.C (Kd.int .u8) w A b.length b) :
    Calls Try.prog 27 #[.slice A b.length c] w (DecIs w (dec b)) := by
  have hu27 := Try.underlying27
  have hu71 := Try.underlying71
  have hu23 := Try.underlying23
  go_enter Try.func27, Try.ntmps27
  go_wp2_with fail
  have HBb0 := Lib.hid hb
  have HBy : Hid (Ok (b, false)) := Lib.hid ⟨hb, hlen⟩
  have HCb := Lib.hid hC
  have h34 : w.heap.size + 1 < w.heap.size + 1 + 1 := by omega
  have HA1 : Hid (((w.alloc (.cells #[.int .i64 0, .int .i64 0, .int .i64 0, .int .i64 0, .int .i64 0, .int .i64 0, .int .i64 0, .int .i64 0, .int .i64 0, .bool false, .int .i64 0, .int .i64 0, .slice none 0 0, .slice none 0 0, .slice none 0 0] 27)).alloc (.cells #[.slice A b.length c, .bool false] 71)).heap[w.heap.size]? = some (.cells #[.int .i64 0, .int .i64 0, .int .i64 0, .int .i64 0, .int .i64 0, .int .i64 0, .int .i64 0, .int .i64 0, .int .i64 0, .bool false, .int .i64 0, .int .i64 0, .slice none 0 0, .slice none 0 0, .slice none 0 0] 27 (0, 0))) := Lib.hid (by
    rw [Below.heap_alloc _ _ _ (by simp)]
    exact blk_new _ _)
  have HS : Hid (Left0 w w ((w.alloc (.cells #[.int .i64 0, .int .i64 0, .int .i64 0, .int .i64 0, .int .i64 0, .int .i64 0, .int .i64 0, .int .i64 0, .int .i64 0, .bool false, .int .i64 0, .int .i64 0, .slice none 0 0, .slice none 0 0, .slice none 0 0] 27)).alloc (.cells #[.slice A b.length c, .bool false] 71)) (w.heap.size + 1) b false) := Lib.hid (by
    have hbl := ((Below.refl w.heap.size w).alloc (Nat.le_refl _) (.cells #[.int .i64 0, .int .i64 0, .int .i64 0, .int .i64 0, .int .i64 0, .int .i64 0, .int .i64 0, .int .i64 0, .int .i64 0, .bool false, .int .i64 0, .int .i64 0, .slice none 0 0, .slice none 0 0, .slice none 0 0] 27)).alloc (by simp) (.cells #[.slice A b.length c, .bool false] 71)
    refine ⟨⟨A, c, hc, ?_, by omega, hC⟩, hbl, KeepBut.of_below hbl _ _⟩
    have := blk_new (w.alloc (.cells #[.int .i64 0, .int .i64 0, .int .i64 0, .int .i64 0, .int .i64 0, .int .i64 0, .int .i64 0, .int .i64 0, .int .i64 0, .bool false, .int .i64 0, .int .i64 0, .slice none 0 0, .slice none 0 0, .slice none 0 0] 27)) (.cells #[.slice A b.length c, .bool false] 71)
    simpa using this)
  generalize ((w.alloc (.cells #[.int .i64 0, .int .i64 0, .int .i64 0, .int .i64 0, .int .i64 0, .int .i64 0, .int .i64 0, .int .i64 0, .int .i64 0, .bool false, .int .i64 0, .int .i64 0, .slice none 0 0, .slice none 0 0, .slice none 0 0] 27)).alloc (.cells #[.slice A b.length c, .bool false] 71)) = W at *
  generalize hgg : w.heap.size + 1 = g at *
  generalize haa : w.heap.size = a1 at *
  have hg1 : a1 ≠ g := by omega
  have Hgg := Lib.hid hgg
  have Haa := Lib.hid haa
  clear hgg haa h34 hb hC
  have HC := Lib.hid (number_at g (b, false) 1 w W HS.out.src HS.out.below HBy.out.bytes (by omega))
  go_wp2_with fail
  refine HC.out.mono ?_
  rintro e w1 ⟨rfl, hL⟩
  replace HBy := Lib.hid (HBy.out.nxt (n := 1))
  generalize hs : nxtR 1 (b, false) = s1 at hL HBy
  generalize hn : numR 1 (b, false) = n1
  have Hs1 := Lib.hid hs
  have Hn1 := Lib.hid hn
  have HA1' := Lib.hid (keep_blk hL.keep HA1.out hg1)
  clear HA1
  have HA1 := HA1'
  clear HA1'
  have HS' := Lib.hid (HS.out.then hL)
  clear HS
  have HS := HS'
  clear HS'
  clear hs hn hL HC
  have HC := Lib.hid (number_at g s1 1 w w1 HS.out.src HS.out.below HBy.out.bytes (by omega))
  go_wp2_with fail
  refine HC.out.mono ?_
  rintro e w2 ⟨rfl, hL⟩
  replace HBy := Lib.hid (HBy.out.nxt (n := 1))
  generalize hs : nxtR 1 s1 = s2 at hL HBy
  generalize hn : numR 1 s1 = n2
  have Hs2 := Lib.hid hs
  have Hn2 := Lib.hid hn
  have HA1' := Lib.hid (keep_blk hL.keep HA1.out hg1)
  clear HA1
  have HA1 := HA1'
  clear HA1'
  have HS' := Lib.hid (HS.out.then hL)
  clear HS
  have HS := HS'
  clear HS'
  clear hs hn hL HC
  have HC := Lib.hid (number_at g s2 1 w w2 HS.out.src HS.out.below HBy.out.bytes (by omega))
  go_wp2_with fail
  refine HC.out.mono ?_
  rintro e w3 ⟨rfl, hL⟩
  replace HBy := Lib.hid (HBy.out.nxt (n := 1))
  generalize hs : nxtR 1 s2 = s3 at hL HBy
  generalize hn : numR 1 s2 = n3
  have Hs3 := Lib.hid hs
  have Hn3 := Lib.hid hn
  have HA1' := Lib.hid (keep_blk hL.keep HA1.out hg1)
  clear HA1
  have HA1 := HA1'
  clear HA1'
  have HS' := Lib.hid (HS.out.then hL)
  clear HS
  have HS := HS'
  clear HS'
  clear hs hn hL HC
  have HC := Lib.hid (number_at g s3 1 w w3 HS.out.src HS.out.below HBy.out.bytes (by omega))
  go_wp2_with fail
  refine HC.out.mono ?_
  rintro e w4 ⟨rfl, hL⟩
  replace HBy := Lib.hid (HBy.out.nxt (n := 1))
  generalize hs : nxtR 1 s3 = s4 at hL HBy
  generalize hn : numR 1 s3 = n4
  have Hs4 := Lib.hid hs
  have Hn4 := Lib.hid hn
  have HA1' := Lib.hid (keep_blk hL.keep HA1.out hg1)
  clear HA1
  have HA1 := HA1'
  clear HA1'
  have HS' := Lib.hid (HS.out.then hL)
  clear HS
  have HS := HS'
  clear HS'
  clear hs hn hL HC
  have HC := Lib.hid (number_at g s4 1 w w4 HS.out.src HS.out.below HBy.out.bytes (by omega))
  go_wp2_with fail
  refine HC.out.mono ?_
  rintro e w5 ⟨rfl, hL⟩
  replace HBy := Lib.hid (HBy.out.nxt (n := 1))
  generalize hs : nxtR 1 s4 = s5 at hL HBy
  generalize hn : numR 1 s4 = n5
  have Hs5 := Lib.hid hs
  have Hn5 := Lib.hid hn
  have HA1' := Lib.hid (keep_blk hL.keep HA1.out hg1)
  clear HA1
  have HA1 := HA1'
  clear HA1'
  have HS' := Lib.hid (HS.out.then hL)
  clear HS
  have HS := HS'
  clear HS'
  clear hs hn hL HC
  have HC := Lib.hid (number_at g s5 1 w w5 HS.out.src HS.out.below HBy.out.bytes (by omega))
  go_wp2_with fail
  refine HC.out.mono ?_
  rintro e w6 ⟨rfl, hL⟩
  replace HBy := Lib.hid (HBy.out.nxt (n := 1))
  generalize hs : nxtR 1 s5 = s6 at hL HBy
  generalize hn : numR 1 s5 = n6
  have Hs6 := Lib.hid hs
  have Hn6 := Lib.hid hn
  have HA1' := Lib.hid (keep_blk hL.keep HA1.out hg1)
  clear HA1
  have HA1 := HA1'
  clear HA1'
  have HS' := Lib.hid (HS.out.then hL)
  clear HS
  have HS := HS'
  clear HS'
  clear hs hn hL HC
  have hw6 := HS.out.below.size
  go_wp2_with fail
  generalize ha5 : w6.heap.size = a5 at *
  have hga : g < a5 := by have := HS.out.src.lt; omega
  have hg5 : a5 ≠ g := by omega
  have h15 : a1 < a5 := by have := (Array.getElem?_eq_some_iff.1 HA1.out).1; omega
  generalize hRec : (Obj.cells #[.int .i64 n1, .int .i64 n2, .int .i64 n3, .int .i64 0, .int .i64 0, .int .i64 n4, .int .i64 0, .int .i64 n5, .int .i64 0, .bool (n6 != 0), .int .i64 0, .int .i64 0, .slice none 0 0, .slice none 0 0, .slice none 0 0] 27) = rec0 at *
  have hbl : Below w6.heap.size w6 (w6.alloc rec0) := (Below.refl _ _).alloc (Nat.le_refl _) _
  have hsz7 : (w6.alloc rec0).heap.size = a5 + 1 := by rw [← ha5]; simp
  have HA5 := Lib.hid (show (w6.alloc rec0).heap[a5]? = some (.cells #[.int .i64 n1, .int .i64 n2, .int .i64 n3, .int .i64 0, .int .i64 0, .int .i64 n4, .int .i64 0, .int .i64 n5, .int .i64 0, .bool (n6 != 0), .int .i64 0, .int .i64 0, .slice none 0 0, .slice none 0 0, .slice none 0 0] 27 (0, 0)) from by rw [← ha5, ← hRec]; exact blk_new _ _)
  have HA1' := Lib.hid (blk_below HA1.out hbl)
  clear HA1
  have HA1 := HA1'
  clear HA1'
  have HS' := Lib.hid (HS.out.more hbl)
  clear HS
  have HS := HS'
  clear HS'
  generalize w6.alloc rec0 = V0 at *
  have hsv0 : a5 < V0.heap.size := by omega
  clear hbl hRec hsz7
  have h1w : w.heap.size ≤ a5 := by omega
  have HC := Lib.hid (number_at g s6 6 w V0 HS.out.src HS.out.below HBy.out.bytes (by omega))
  go_wp2_with fail
  refine HC.out.mono ?_
  rintro e w7 ⟨rfl, hL⟩
  replace HBy := Lib.hid (HBy.out.nxt (n := 6))
  generalize hs : nxtR 6 s6 = s7 at hL HBy
  generalize hn : numR 6 s6 = n7
  have Hs7 := Lib.hid hs
  have Hn7 := Lib.hid hn
  have HA1' := Lib.hid (keep_blk hL.keep HA1.out hg1)
  clear HA1
  have HA1 := HA1'
  clear HA1'
  have HA5' := Lib.hid (keep_blk hL.keep HA5.out hg5)
  clear HA5
  have HA5 := HA5'
  clear HA5'
  have HS' := Lib.hid (HS.out.then hL)
  clear HS
  have HS := HS'
  clear HS'
  have hsz7 := hL.keep.1
  clear hs hn hL HC
  have HC := Lib.hid (number_at g s7 6 w w7 HS.out.src HS.out.below HBy.out.bytes (by omega))
  go_wp2_with fail
  refine HC.out.mono ?_
  rintro e w8 ⟨rfl, hL⟩
  replace HBy := Lib.hid (HBy.out.nxt (n := 6))
  generalize hs : nxtR 6 s7 = s8 at hL HBy
  generalize hn : numR 6 s7 = n8
  have Hs8 := Lib.hid hs
  have Hn8 := Lib.hid hn
  have HA1' := Lib.hid (keep_blk hL.keep HA1.out hg1)
  clear HA1
  have HA1 := HA1'
  clear HA1'
  have HA5' := Lib.hid (keep_blk hL.keep HA5.out hg5)
  clear HA5
  have HA5 := HA5'
  clear HA5'
  have HS' := Lib.hid (HS.out.then hL)
  clear HS
  have HS := HS'
  clear HS'
  have hsz8 := hL.keep.1
  clear hs hn hL HC
  have HC := Lib.hid (number_at g s8 6 w w8 HS.out.src HS.out.below HBy.out.bytes (by omega))
  go_wp2_with fail
  refine HC.out.mono ?_
  rintro e w9 ⟨rfl, hL⟩
  replace HBy := Lib.hid (HBy.out.nxt (n := 6))
  generalize hs : nxtR 6 s8 = s9 at hL HBy
  generalize hn : numR 6 s8 = n9
  have Hs9 := Lib.hid hs
  have Hn9 := Lib.hid hn
  have HA1' := Lib.hid (keep_blk hL.keep HA1.out hg1)
  clear HA1
  have HA1 := HA1'
  clear HA1'
  have HA5' := Lib.hid (keep_blk hL.keep HA5.out hg5)
  clear HA5
  have HA5 := HA5'
  clear HA5'
  have HS' := Lib.hid (HS.out.then hL)
  clear HS
  have HS := HS'
  clear HS'
  have hsz9 := hL.keep.1
  clear hs hn hL HC
  have HC := Lib.hid (number_at g s9 6 w w9 HS.out.src HS.out.below HBy.out.bytes (by omega))
  go_wp2_with fail
  refine HC.out.mono ?_
  rintro e w10 ⟨rfl, hL⟩
  replace HBy := Lib.hid (HBy.out.nxt (n := 6))
  generalize hs : nxtR 6 s9 = s10 at hL HBy
  generalize hn : numR 6 s9 = n10
  have Hs10 := Lib.hid hs
  have Hn10 := Lib.hid hn
  have HA1' := Lib.hid (keep_blk hL.keep HA1.out hg1)
  clear HA1
  have HA1 := HA1'
  clear HA1'
  have HA5' := Lib.hid (keep_blk hL.keep HA5.out hg5)
  clear HA5
  have HA5 := HA5'
  clear HA5'
  have HS' := Lib.hid (HS.out.then hL)
  clear HS
  have HS := HS'
  clear HS'
  have hsz10 := hL.keep.1
  clear hs hn hL HC
  have c3 := blk_cell HA5.out 3
  have f3 := blk_frozen HA5.out 3
  have c4 := blk_cell HA5.out 4
  have f4 := blk_frozen HA5.out 4
  have c6 := blk_cell HA5.out 6
  have f6 := blk_frozen HA5.out 6
  have c8 := blk_cell HA5.out 8
  have f8 := blk_frozen HA5.out 8
  simp only [List.getElem?_toArray, List.getElem?_cons_succ, List.getElem?_cons_zero] at c3 c4 c6 c8
  have HA1' := Lib.hid ((blk_far (blk_far (blk_far (blk_far HA1.out (by omega) (.int .i64 n7) (a := a5) (j := 3)) (by omega) (.int .i64 n8) (a := a5) (j := 4)) (by omega) (.int .i64 n9) (a := a5) (j := 6)) (by omega) (.int .i64 n10) (a := a5) (j := 8)))
  clear HA1
  have HA1 := HA1'
  clear HA1'
  have HA5' := Lib.hid ((blk_set (blk_set (blk_set (blk_set HA5.out 3 (.int .i64 n7)) 4 (.int .i64 n8)) 6 (.int .i64 n9)) 8 (.int .i64 n10)))
  clear HA5
  have HA5 := HA5'
  clear HA5'
  have HS' := Lib.hid ((Left0.set (Left0.set (Left0.set (Left0.set HS.out h1w h1w hg5 (.int .i64 n7) (j := 3)) h1w h1w hg5 (.int .i64 n8) (j := 4)) h1w h1w hg5 (.int .i64 n9) (j := 6)) h1w h1w hg5 (.int .i64 n10) (j := 8)))
  clear HS
  have HS := HS'
  clear HS'
  have hszs : ((((w10.setCell ⟨a5, 3, none⟩ (.int .i64 n7)).setCell ⟨a5, 4, none⟩ (.int .i64 n8)).setCell ⟨a5, 6, none⟩ (.int .i64 n9)).setCell ⟨a5, 8, none⟩ (.int .i64 n10)).heap.size = w10.heap.size := by simp [World.setCell]
  go_wp2_with fail
  generalize ((((w10.setCell ⟨a5, 3, none⟩ (.int .i64 n7)).setCell ⟨a5, 4, none⟩ (.int .i64 n8)).setCell ⟨a5, 6, none⟩ (.int .i64 n9)).setCell ⟨a5, 8, none⟩ (.int .i64 n10)) = V267 at *
  have hszt : w10.heap.size ≤ V267.heap.size := by omega
  clear hszs
  have HA5' := Lib.hid (show V267.heap[a5]? = some (.cells #[.int .i64 n1, .int .i64 n2, .int .i64 n3, .int .i64 n7, .int .i64 n8, .int .i64 n4, .int .i64 n9, .int .i64 n5, .int .i64 n10, .bool (n6 != 0), .int .i64 0, .int .i64 0, .slice none 0 0, .slice none 0 0, .slice none 0 0] 27 (0, 0)) from HA5.out)
  clear HA5
  have HA5 := HA5'
  clear HA5' c3 f3 c4 f4 c6 f6 c8 f8
  have HC := Lib.hid (number_at g s10 6 w V267 HS.out.src HS.out.below HBy.out.bytes (by omega))
  go_wp2_with fail
  refine HC.out.mono ?_
  rintro e w11 ⟨rfl, hL⟩
  replace HBy := Lib.hid (HBy.out.nxt (n := 6))
  generalize hs : nxtR 6 s10 = s11 at hL HBy
  generalize hn : numR 6 s10 = n11
  have Hs11 := Lib.hid hs
  have Hn11 := Lib.hid hn
  have HA1' := Lib.hid (keep_blk hL.keep HA1.out hg1)
  clear HA1
  have HA1 := HA1'
  clear HA1'
  have HA5' := Lib.hid (keep_blk hL.keep HA5.out hg5)
  clear HA5
  have HA5 := HA5'
  clear HA5'
  have HS' := Lib.hid (HS.out.then hL)
  clear HS
  have HS := HS'
  clear HS'
  have hsz11 := hL.keep.1
  clear hs hn hL HC
  have HC := Lib.hid (number_at g s11 6 w w11 HS.out.src HS.out.below HBy.out.bytes (by omega))
  go_wp2_with fail
  refine HC.out.mono ?_
  rintro e w12 ⟨rfl, hL⟩
  replace HBy := Lib.hid (HBy.out.nxt (n := 6))
  generalize hs : nxtR 6 s11 = s12 at hL HBy
  generalize hn : numR 6 s11 = n12
  have Hs12 := Lib.hid hs
  have Hn12 := Lib.hid hn
  have HA1' := Lib.hid (keep_blk hL.keep HA1.out hg1)
  clear HA1
  have HA1 := HA1'
  clear HA1'
  have HA5' := Lib.hid (keep_blk hL.keep HA5.out hg5)
  clear HA5
  have HA5 := HA5'
  clear HA5'
  have HS' := Lib.hid (HS.out.then hL)
  clear HS
  have HS := HS'
  clear HS'
  have hsz12 := hL.keep.1
  clear hs hn hL HC
  have c10 := blk_cell HA5.out 10
  have f10 := blk_frozen HA5.out 10
  have c11 := blk_cell HA5.out 11
  have f11 := blk_frozen HA5.out 11
  simp only [List.getElem?_toArray, List.getElem?_cons_succ, List.getElem?_cons_zero] at c10 c11
  have HA1' := Lib.hid ((blk_far (blk_far HA1.out (by omega) (.int .i64 n11) (a := a5) (j := 10)) (by omega) (.int .i64 n12) (a := a5) (j := 11)))
  clear HA1
  have HA1 := HA1'
  clear HA1'
  have HA5' := Lib.hid ((blk_set (blk_set HA5.out 10 (.int .i64 n11)) 11 (.int .i64 n12)))
  clear HA5
  have HA5 := HA5'
  clear HA5'
  have HS' := Lib.hid ((Left0.set (Left0.set HS.out h1w h1w hg5 (.int .i64 n11) (j := 10)) h1w h1w hg5 (.int .i64 n12) (j := 11)))
  clear HS
  have HS := HS'
  clear HS'
  have hszs : ((w12.setCell ⟨a5, 10, none⟩ (.int .i64 n11)).setCell ⟨a5, 11, none⟩ (.int .i64 n12)).heap.size = w12.heap.size := by simp [World.setCell]
  go_wp2_with fail
  generalize ((w12.setCell ⟨a5, 10, none⟩ (.int .i64 n11)).setCell ⟨a5, 11, none⟩ (.int .i64 n12)) = V339 at *
  have hszt : w12.heap.size ≤ V339.heap.size := by omega
  clear hszs
  have HA5' := Lib.hid (show V339.heap[a5]? = some (.cells #[.int .i64 n1, .int .i64 n2, .int .i64 n3, .int .i64 n7, .int .i64 n8, .int .i64 n4, .int .i64 n9, .int .i64 n5, .int .i64 n10, .bool (n6 != 0), .int .i64 n11, .int .i64 n12, .slice none 0 0, .slice none 0 0, .slice none 0 0] 27 (0, 0)) from HA5.out)
  clear HA5
  have HA5 := HA5'
  clear HA5' c10 f10 c11 f11
  have HC := Lib.hid (list_any g s12 w V339 HS.out.src HS.out.below HBy.out.bytes)
  go_wp2_with fail
  refine HC.out.mono ?_
  rintro e w13 ⟨vu, rfl, hU, hL⟩
  obtain ⟨Au, cu, rfl⟩ := Kd.R_slice hU
  have HBy0 := HBy
  replace HBy := Lib.hid HBy.out.lst
  have hul := Nat.le_trans (lstR_le (s := s12)) HBy0.out.len
  clear HBy0
  generalize hus : lstR s12 = us at *
  generalize hs : lstN s12 = s13 at *
  have Hus := Lib.hid hus
  have Hs13 := Lib.hid hs
  have HU := Lib.hid hU
  have HA1' := Lib.hid (keep_blk hL.keep HA1.out hg1)
  clear HA1
  have HA1 := HA1'
  clear HA1'
  have HA5' := Lib.hid (keep_blk hL.keep HA5.out hg5)
  clear HA5
  have HA5 := HA5'
  clear HA5'
  have HS' := Lib.hid (HS.out.then hL)
  clear HS
  have HS := HS'
  clear HS'
  have hsz13 := hL.keep.1
  clear hU hL hus hs HC
  have HC := Lib.hid (list_any g s13 w w13 HS.out.src HS.out.below HBy.out.bytes)
  go_wp2_with fail
  refine HC.out.mono ?_
  rintro e w14 ⟨vn, rfl, hN, hL⟩
  obtain ⟨An, cn, rfl⟩ := Kd.R_slice hN
  have HBy0 := HBy
  replace HBy := Lib.hid HBy.out.lst
  have hnl := Nat.le_trans (lstR_le (s := s13)) HBy0.out.len
  clear HBy0
  generalize hns : lstR s13 = ns at *
  generalize hs : lstN s13 = s14 at *
  have Hns := Lib.hid hns
  have Hs14 := Lib.hid hs
  have HN := Lib.hid hN
  have HA1' := Lib.hid (keep_blk hL.keep HA1.out hg1)
  clear HA1
  have HA1 := HA1'
  clear HA1'
  have HA5' := Lib.hid (keep_blk hL.keep HA5.out hg5)
  clear HA5
  have HA5 := HA5'
  clear HA5'
  have HU' := Lib.hid (R_left HU.out hL.keep (by omega))
  clear HU
  have HU := HU'
  clear HU'
  have HS' := Lib.hid (HS.out.then hL)
  clear HS
  have HS := HS'
  clear HS'
  have hsz14 := hL.keep.1
  clear hN hL hns hs HC
  have c12 := blk_cell HA5.out 12
  have f12 := blk_frozen HA5.out 12
  have c13 := blk_cell HA5.out 13
  have f13 := blk_frozen HA5.out 13
  simp only [List.getElem?_toArray, List.getElem?_cons_succ, List.getElem?_cons_zero] at c12 c13
  have HA1' := Lib.hid ((blk_far (blk_far HA1.out (by omega) (.slice Au us.length cu) (a := a5) (j := 12)) (by omega) (.slice An ns.length cn) (a := a5) (j := 13)))
  clear HA1
  have HA1 := HA1'
  clear HA1'
  have HA5' := Lib.hid ((blk_set (blk_set HA5.out 12 (.slice Au us.length cu)) 13 (.slice An ns.length cn)))
  clear HA5
  have HA5 := HA5'
  clear HA5'
  have HS' := Lib.hid ((Left0.set (Left0.set HS.out h1w h1w hg5 (.slice Au us.length cu) (j := 12)) h1w h1w hg5 (.slice An ns.length cn) (j := 13)))
  clear HS
  have HS := HS'
  clear HS'
  have HU' := Lib.hid ((R_set (R_set HU.out (by omega) (.slice Au us.length cu) (a := a5) (j := 12)) (by omega) (.slice An ns.length cn) (a := a5) (j := 13)))
  clear HU
  have HU := HU'
  clear HU'
  have HN' := Lib.hid ((R_set (R_set HN.out (by omega) (.slice Au us.length cu) (a := a5) (j := 12)) (by omega) (.slice An ns.length cn) (a := a5) (j := 13)))
  clear HN
  have HN := HN'
  clear HN'
  have hszs : ((w14.setCell ⟨a5, 12, none⟩ (.slice Au us.length cu)).setCell ⟨a5, 13, none⟩ (.slice An ns.length cn)).heap.size = w14.heap.size := by simp [World.setCell]
  go_wp2_with fail
  generalize ((w14.setCell ⟨a5, 12, none⟩ (.slice Au us.length cu)).setCell ⟨a5, 13, none⟩ (.slice An ns.length cn)) = V433 at *
  have hszt : w14.heap.size ≤ V433.heap.size := by omega
  clear hszs
  have HA5' := Lib.hid (show V433.heap[a5]? = some (.cells #[.int .i64 n1, .int .i64 n2, .int .i64 n3, .int .i64 n7, .int .i64 n8, .int .i64 n4, .int .i64 n9, .int .i64 n5, .int .i64 n10, .bool (n6 != 0), .int .i64 n11, .int .i64 n12, .slice Au us.length cu, .slice An ns.length cn, .slice none 0 0] 27 (0, 0)) from HA5.out)
  clear HA5
  have HA5 := HA5'
  clear HA5' c12 f12 c13 f13
  have hn7 := numR_nonneg (n := 2) (s := s14) HBy.out.bytes
  have HC := Lib.hid (number_at g s14 2 w V433 HS.out.src HS.out.below HBy.out.bytes (by omega))
  go_wp2_with fail
  refine HC.out.mono ?_
  rintro e w15 ⟨rfl, hL⟩
  replace HBy := Lib.hid (HBy.out.nxt (n := 2))
  generalize hs : nxtR 2 s14 = s15 at hL HBy
  generalize hn : numR 2 s14 = n15
  have Hs15 := Lib.hid hs
  have Hn15 := Lib.hid hn
  have HA1' := Lib.hid (keep_blk hL.keep HA1.out hg1)
  clear HA1
  have HA1 := HA1'
  clear HA1'
  have HA5' := Lib.hid (keep_blk hL.keep HA5.out hg5)
  clear HA5
  have HA5 := HA5'
  clear HA5'
  have HU' := Lib.hid (R_left HU.out hL.keep (by omega))
  clear HU
  have HU := HU'
  clear HU'
  have HN' := Lib.hid (R_left HN.out hL.keep (by omega))
  clear HN
  have HN := HN'
  clear HN'
  have HS' := Lib.hid (HS.out.then hL)
  clear HS
  have HS := HS'
  clear HS'
  have hsz15 := hL.keep.1
  clear hs hn hL HC
  have HC := Lib.hid (take_any g s15 n15 w w15 HS.out.src HS.out.below (by first | exact hn7 | (rw [← Hn15.out]; exact hn7)))
  go_wp2_with fail
  refine HC.out.mono ?_
  rintro e w16 ⟨v0, rfl, hcut, hL⟩
  have htb := takeR_bytes (n := n15.toNat) (s := s15) HBy.out.bytes
  have htl := takeR_le (n := n15.toNat) (s := s15)
  have htl2 := Nat.le_trans htl HBy.out.len
  generalize hs : nxtR n15.toNat s15 = s16 at *
  generalize ht : takeR n15.toNat s15 = tx at *
  have Hs16 := Lib.hid hs
  have Htx := Lib.hid ht
  have Htb := Lib.hid htb
  have HA1' := Lib.hid (keep_blk hL.keep HA1.out hg1)
  clear HA1
  have HA1 := HA1'
  clear HA1'
  have HA5' := Lib.hid (keep_blk hL.keep HA5.out hg5)
  clear HA5
  have HA5 := HA5'
  clear HA5'
  have HU' := Lib.hid (R_left HU.out hL.keep (by omega))
  clear HU
  have HU := HU'
  clear HU'
  have HN' := Lib.hid (R_left HN.out hL.keep (by omega))
  clear HN
  have HN := HN'
  clear HN'
  have HS' := Lib.hid (HS.out.then hL)
  clear HS
  have HS := HS'
  clear HS'
  have hsz16 := hL.keep.1
  clear hL hs ht HC htb htl
  have HC := Lib.hid (clone_any v0 tx w16 (by obtain ⟨A', c', rfl, h1, h2⟩ := hcut; exact ⟨A', c', rfl, h1, Kd.C_below h2 HS.out.below⟩) (by omega))
  clear hcut
  go_wp2_with fail
  refine HC.out.mono ?_
  rintro e w17 ⟨vt, rfl, hT, hbl⟩
  obtain ⟨At, ct, rfl⟩ := Kd.R_slice hT
  have HT := Lib.hid hT
  have HU' := Lib.hid (Kd.R_below HU.out hbl)
  clear HU
  have HU := HU'
  clear HU'
  have HN' := Lib.hid (Kd.R_below HN.out hbl)
  clear HN
  have HN := HN'
  clear HN'
  have HA1' := Lib.hid (blk_below HA1.out hbl)
  clear HA1
  have HA1 := HA1'
  clear HA1'
  have HA5' := Lib.hid (blk_below HA5.out hbl)
  clear HA5
  have HA5 := HA5'
  clear HA5'
  have HS' := Lib.hid (HS.out.more hbl)
  clear HS
  have HS := HS'
  clear HS'
  have hszc := hbl.size
  clear hbl hT HC
  have c14 := blk_cell HA5.out 14
  have f14 := blk_frozen HA5.out 14
  simp only [List.getElem?_toArray, List.getElem?_cons_succ, List.getElem?_cons_zero] at c14
  have HA1' := Lib.hid ((blk_far HA1.out (by omega) (.slice At tx.length ct) (a := a5) (j := 14)))
  clear HA1
  have HA1 := HA1'
  clear HA1'
  have HA5' := Lib.hid ((blk_set HA5.out 14 (.slice At tx.length ct)))
  clear HA5
  have HA5 := HA5'
  clear HA5'
  have HS' := Lib.hid ((Left0.set HS.out h1w h1w hg5 (.slice At tx.length ct) (j := 14)))
  clear HS
  have HS := HS'
  clear HS'
  have HU' := Lib.hid ((R_set HU.out (by omega) (.slice At tx.length ct) (a := a5) (j := 14)))
  clear HU
  have HU := HU'
  clear HU'
  have HN' := Lib.hid ((R_set HN.out (by omega) (.slice At tx.length ct) (a := a5) (j := 14)))
  clear HN
  have HN := HN'
  clear HN'
  have HT' := Lib.hid ((R_set HT.out (by omega) (.slice At tx.length ct) (a := a5) (j := 14)))
  clear HT
  have HT := HT'
  clear HT'
  have hszs : (w17.setCell ⟨a5, 14, none⟩ (.slice At tx.length ct)).heap.size = w17.heap.size := by simp [World.setCell]
  go_wp2_with fail
  generalize (w17.setCell ⟨a5, 14, none⟩ (.slice At tx.length ct)) = V564 at *
  have hszt : w17.heap.size ≤ V564.heap.size := by omega
  clear hszs
  have HA5' := Lib.hid (show V564.heap[a5]? = some (.cells #[.int .i64 n1, .int .i64 n2, .int .i64 n3, .int .i64 n7, .int .i64 n8, .int .i64 n4, .int .i64 n9, .int .i64 n5, .int .i64 n10, .bool (n6 != 0), .int .i64 n11, .int .i64 n12, .slice Au us.length cu, .slice An ns.length cn, .slice At tx.length ct] 27 (0, 0)) from HA5.out)
  clear HA5
  have HA5 := HA5'
  clear HA5' c14 f14
  have HC := Lib.hid (over_any g s16 w V564 HS.out.src)
  refine HC.out.mono ?_
  rintro e wo ⟨rfl, rfl⟩
  clear HC
  generalize ho : overR s16 = ov at *
  have Ho := Lib.hid ho
  clear ho
  have d0 := blk_cell HA1.out 0
  have d1 := blk_cell HA1.out 1
  have d2 := blk_cell HA1.out 2
  have d3 := blk_cell HA1.out 3
  have d4 := blk_cell HA1.out 4
  have d5 := blk_cell HA1.out 5
  have d6 := blk_cell HA1.out 6
  have d7 := blk_cell HA1.out 7
  have d8 := blk_cell HA1.out 8
  have d9 := blk_cell HA1.out 9
  have d10 := blk_cell HA1.out 10
  have d11 := blk_cell HA1.out 11
  have d12 := blk_cell HA1.out 12
  have d13 := blk_cell HA1.out 13
  have d14 := blk_cell HA1.out 14
  simp only [List.getElem?_toArray, List.getElem?_cons_succ, List.getElem?_cons_zero] at d0 d1 d2 d3 d4 d5 d6 d7 d8 d9 d10 d11 d12 d13 d14
  have e0 := blk_frozen HA1.out 0
  have e1 := blk_frozen HA1.out 1
  have e2 := blk_frozen HA1.out 2
  have e3 := blk_frozen HA1.out 3
  have e4 := blk_frozen HA1.out 4
  have e5 := blk_frozen HA1.out 5
  have e6 := blk_frozen HA1.out 6
  have e7 := blk_frozen HA1.out 7
  have e8 := blk_frozen HA1.out 8
  have e9 := blk_frozen HA1.out 9
  have e10 := blk_frozen HA1.out 10
  have e11 := blk_frozen HA1.out 11
  have e12 := blk_frozen HA1.out 12
  have e13 := blk_frozen HA1.out 13
  have e14 := blk_frozen HA1.out 14
  have hwa : w.heap.size ≤ a1 := by rw [Haa.out]; exact Nat.le_refl _
  have Hp := Lib.hid (show parse b = (⟨n1, n2, n3, n7, n8, n4, n9, n5, n10, n6 != 0, n11, n12, us, ns, tx⟩, s16) by
    simp only [parse, Hs1.out, Hs2.out, Hs3.out, Hs4.out, Hs5.out, Hs6.out, Hs7.out, Hs8.out, Hs9.out, Hs10.out, Hs11.out, Hs12.out, Hs13.out, Hs14.out, Hs15.out, Hs16.out, Hn1.out, Hn2.out, Hn3.out, Hn4.out, Hn5.out, Hn6.out, Hn7.out, Hn8.out, Hn9.out, Hn10.out, Hn11.out, Hn12.out, Hn15.out, Hus.out, Hns.out, Htx.out])
  by_cases hov : ov = 0
  · have hb1 : (ov != 0) = false := by simpa using hov
    have c0 := blk_cell HA5.out 0
    have c1 := blk_cell HA5.out 1
    have c2 := blk_cell HA5.out 2
    have c3 := blk_cell HA5.out 3
    have c4 := blk_cell HA5.out 4
    have c5 := blk_cell HA5.out 5
    have c6 := blk_cell HA5.out 6
    have c7 := blk_cell HA5.out 7
    have c8 := blk_cell HA5.out 8
    have c9 := blk_cell HA5.out 9
    have c10 := blk_cell HA5.out 10
    have c11 := blk_cell HA5.out 11
    have c12 := blk_cell HA5.out 12
    have c13 := blk_cell HA5.out 13
    have c14 := blk_cell HA5.out 14
    simp only [List.getElem?_toArray, List.getElem?_cons_succ, List.getElem?_cons_zero] at c0 c1 c2 c3 c4 c5 c6 c7 c8 c9 c10 c11 c12 c13 c14
    have HM := Lib.hid (wire_May.calls 30000 n1 n2 n3 n7 n8 n4 n9 n5 n10 (n6 != 0) n11 n12 Au cu us An cn ns At ct tx _ V564 (Kd.R_reads' HU.out).2.2 (Kd.R_reads' HU.out).2.1 (Kd.R_reads' HN.out).2.2 (Kd.R_reads' HN.out).2.1 (Kd.R_reads' HT.out).2.2 (Kd.R_reads' HT.out).2.1 (may_call ⟨n1, n2, n3, n7, n8, n4, n9, n5, n10, n6 != 0, n11, n12, us, ns, tx⟩ hul hnl htl2))
    have Hov := Lib.hid hov
    clear hov
    go_wp2_with fail
    refine HM.out.mono ?_
    rintro e wm ⟨rfl, hbl⟩
    have HBm := Lib.hid (HS.out.below.trans (hbl.mono HS.out.below.size))
    clear c0 c1 c2 c3 c4 c5 c6 c7 c8 c9 c10 c11 c12 c13 c14 d0 d1 d2 d3 d4 d5 d6 d7 d8 d9 d10 d11 d12 d13 d14 e0 e1 e2 e3 e4 e5 e6 e7 e8 e9 e10 e11 e12 e13 e14
    have HU' := Lib.hid (Kd.R_below HU.out hbl)
    clear HU
    have HU := HU'
    clear HU'
    have HN' := Lib.hid (Kd.R_below HN.out hbl)
    clear HN
    have HN := HN'
    clear HN'
    have HT' := Lib.hid (Kd.R_below HT.out hbl)
    clear HT
    have HT := HT'
    clear HT'
    have HA1' := Lib.hid (blk_below HA1.out hbl)
    clear HA1
    have HA1 := HA1'
    clear HA1'
    have HA5' := Lib.hid (blk_below HA5.out hbl)
    clear HA5
    have HA5 := HA5'
    clear HA5'
    clear hbl HM
    by_cases hm : May ⟨n1, n2, n3, n7, n8, n4, n9, n5, n10, n6 != 0, n11, n12, us, ns, tx⟩
    · rw [(mayB_iff _).2 hm]
      have c0 := blk_cell HA5.out 0
      have c1 := blk_cell HA5.out 1
      have c2 := blk_cell HA5.out 2
      have c3 := blk_cell HA5.out 3
      have c4 := blk_cell HA5.out 4
      have c5 := blk_cell HA5.out 5
      have c6 := blk_cell HA5.out 6
      have c7 := blk_cell HA5.out 7
      have c8 := blk_cell HA5.out 8
      have c9 := blk_cell HA5.out 9
      have c10 := blk_cell HA5.out 10
      have c11 := blk_cell HA5.out 11
      have c12 := blk_cell HA5.out 12
      have c13 := blk_cell HA5.out 13
      have c14 := blk_cell HA5.out 14
      simp only [List.getElem?_toArray, List.getElem?_cons_succ, List.getElem?_cons_zero] at c0 c1 c2 c3 c4 c5 c6 c7 c8 c9 c10 c11 c12 c13 c14
      have HE := Lib.hid (wire_encode.calls 1000 n1 n2 n3 n7 n8 n4 n9 n5 n10 (n6 != 0) n11 n12 Au cu us An cn ns At ct tx _ wm (Kd.R_reads' HU.out).2.2 (Kd.R_reads' HU.out).2.1 (Kd.R_reads' HN.out).2.2 (Kd.R_reads' HN.out).2.1 (Kd.R_reads' HT.out).2.2 (Kd.R_reads' HT.out).2.1 (encode_call ⟨n1, n2, n3, n7, n8, n4, n9, n5, n10, n6 != 0, n11, n12, us, ns, tx⟩ hm))
      have Hm := Lib.hid hm
      clear hm
      go_wp2_with fail
      refine HE.out.mono ?_
      rintro e wn ⟨ve, rfl, hE, hbl⟩
      obtain ⟨Ae, ce, rfl⟩ := Kd.R_slice hE
      have HBn := Lib.hid (HBm.out.trans (hbl.mono HBm.out.size))
      have HQ := Lib.hid (bytes_Equal.calls Ae ce _ A c b _ wn (Kd.R_reads' hE).2.2 (Kd.R_reads' hE).2.1 (Kd.C_below HCb.out HBn.out) hc (bequal_eq _ _ (bytes_body ⟨n1, n2, n3, n7, n8, n4, n9, n5, n10, n6 != 0, n11, n12, us, ns, tx⟩ Htb.out) HBb0.out))
      clear c0 c1 c2 c3 c4 c5 c6 c7 c8 c9 c10 c11 c12 c13 c14
      have HU' := Lib.hid (Kd.R_below HU.out hbl)
      clear HU
      have HU := HU'
      clear HU'
      have HN' := Lib.hid (Kd.R_below HN.out hbl)
      clear HN
      have HN := HN'
      clear HN'
      have HT' := Lib.hid (Kd.R_below HT.out hbl)
      clear HT
      have HT := HT'
      clear HT'
      have HA1' := Lib.hid (blk_below HA1.out hbl)
      clear HA1
      have HA1 := HA1'
      clear HA1'
      have HA5' := Lib.hid (blk_below HA5.out hbl)
      clear HA5
      have HA5 := HA5'
      clear HA5'
      clear hE hbl HE
      by_cases he : body ⟨n1, n2, n3, n7, n8, n4, n9, n5, n10, n6 != 0, n11, n12, us, ns, tx⟩ = b
      · have hd := Lib.hid (show dec b = (⟨n1, n2, n3, n7, n8, n4, n9, n5, n10, n6 != 0, n11, n12, us, ns, tx⟩, 0) by
          rw [dec, Hp.out]
          simp only
          rw [Ho.out, Hov.out, if_neg (by simp), if_neg (by simp [Hm.out, he])])
        rw [decide_eq_true he] at HQ
        clear he
        go_wp2_with fail
        refine HQ.out.mono ?_
        rintro e wq ⟨rfl, hD⟩
        have hbl := hD.below
        have HBq := Lib.hid (HBn.out.trans (hbl.mono HBn.out.size))
        have HU' := Lib.hid (Kd.R_below HU.out hbl)
        clear HU
        have HU := HU'
        clear HU'
        have HN' := Lib.hid (Kd.R_below HN.out hbl)
        clear HN
        have HN := HN'
        clear HN'
        have HT' := Lib.hid (Kd.R_below HT.out hbl)
        clear HT
        have HT := HT'
        clear HT'
        have HA1' := Lib.hid (blk_below HA1.out hbl)
        clear HA1
        have HA1 := HA1'
        clear HA1'
        have HA5' := Lib.hid (blk_below HA5.out hbl)
        clear HA5
        have HA5 := HA5'
        clear HA5'
        clear hD hbl
        have d0 := blk_cell HA1.out 0
        have d1 := blk_cell HA1.out 1
        have d2 := blk_cell HA1.out 2
        have d3 := blk_cell HA1.out 3
        have d4 := blk_cell HA1.out 4
        have d5 := blk_cell HA1.out 5
        have d6 := blk_cell HA1.out 6
        have d7 := blk_cell HA1.out 7
        have d8 := blk_cell HA1.out 8
        have d9 := blk_cell HA1.out 9
        have d10 := blk_cell HA1.out 10
        have d11 := blk_cell HA1.out 11
        have d12 := blk_cell HA1.out 12
        have d13 := blk_cell HA1.out 13
        have d14 := blk_cell HA1.out 14
        simp only [List.getElem?_toArray, List.getElem?_cons_succ, List.getElem?_cons_zero] at d0 d1 d2 d3 d4 d5 d6 d7 d8 d9 d10 d11 d12 d13 d14
        have e0 := blk_frozen HA1.out 0
        have e1 := blk_frozen HA1.out 1
        have e2 := blk_frozen HA1.out 2
        have e3 := blk_frozen HA1.out 3
        have e4 := blk_frozen HA1.out 4
        have e5 := blk_frozen HA1.out 5
        have e6 := blk_frozen HA1.out 6
        have e7 := blk_frozen HA1.out 7
        have e8 := blk_frozen HA1.out 8
        have e9 := blk_frozen HA1.out 9
        have e10 := blk_frozen HA1.out 10
        have e11 := blk_frozen HA1.out 11
        have e12 := blk_frozen HA1.out 12
        have e13 := blk_frozen HA1.out 13
        have e14 := blk_frozen HA1.out 14
        have c0 := blk_cell HA5.out 0
        have c1 := blk_cell HA5.out 1
        have c2 := blk_cell HA5.out 2
        have c3 := blk_cell HA5.out 3
        have c4 := blk_cell HA5.out 4
        have c5 := blk_cell HA5.out 5
        have c6 := blk_cell HA5.out 6
        have c7 := blk_cell HA5.out 7
        have c8 := blk_cell HA5.out 8
        have c9 := blk_cell HA5.out 9
        have c10 := blk_cell HA5.out 10
        have c11 := blk_cell HA5.out 11
        have c12 := blk_cell HA5.out 12
        have c13 := blk_cell HA5.out 13
        have c14 := blk_cell HA5.out 14
        simp only [List.getElem?_toArray, List.getElem?_cons_succ, List.getElem?_cons_zero] at c0 c1 c2 c3 c4 c5 c6 c7 c8 c9 c10 c11 c12 c13 c14
        go_wp2
        rw [hd.out]
        refine bodyPost_ret (results_ct rfl _ _ a1 27 #[.int .i64 n1, .int .i64 n2, .int .i64 n3, .int .i64 n7, .int .i64 n8, .int .i64 n4, .int .i64 n9, .int .i64 n5, .int .i64 n10, .bool (n6 != 0), .int .i64 n11, .int .i64 n12, .slice Au us.length cu, .slice An ns.length cn, .slice At tx.length ct] (0, 0) _ rfl (blk15 _ _ _ _ _ _ _ _ _ _ _ _ _ _ _ HA1.out) Try.underlying27 rfl (by kernel_rfl)) rfl ?_
        have q1 := (R_set (a := a1) (j := 14) (R_set (a := a1) (j := 13) (R_set (a := a1) (j := 12) (R_set (a := a1) (j := 11) (R_set (a := a1) (j := 10) (R_set (a := a1) (j := 9) (R_set (a := a1) (j := 8) (R_set (a := a1) (j := 7) (R_set (a := a1) (j := 6) (R_set (a := a1) (j := 5) (R_set (a := a1) (j := 4) (R_set (a := a1) (j := 3) (R_set (a := a1) (j := 2) (R_set (a := a1) (j := 1) (R_set (a := a1) (j := 0) HU.out (by omega) (.int .i64 n1)) (by omega) (.int .i64 n2)) (by omega) (.int .i64 n3)) (by omega) (.int .i64 n7)) (by omega) (.int .i64 n8)) (by omega) (.int .i64 n4)) (by omega) (.int .i64 n9)) (by omega) (.int .i64 n5)) (by omega) (.int .i64 n10)) (by omega) (.bool (n6 != 0))) (by omega) (.int .i64 n11)) (by omega) (.int .i64 n12)) (by omega) (.slice Au us.length cu)) (by omega) (.slice An ns.length cn)) (by omega) (.slice At tx.length ct))
        have q2 := (R_set (a := a1) (j := 14) (R_set (a := a1) (j := 13) (R_set (a := a1) (j := 12) (R_set (a := a1) (j := 11) (R_set (a := a1) (j := 10) (R_set (a := a1) (j := 9) (R_set (a := a1) (j := 8) (R_set (a := a1) (j := 7) (R_set (a := a1) (j := 6) (R_set (a := a1) (j := 5) (R_set (a := a1) (j := 4) (R_set (a := a1) (j := 3) (R_set (a := a1) (j := 2) (R_set (a := a1) (j := 1) (R_set (a := a1) (j := 0) HN.out (by omega) (.int .i64 n1)) (by omega) (.int .i64 n2)) (by omega) (.int .i64 n3)) (by omega) (.int .i64 n7)) (by omega) (.int .i64 n8)) (by omega) (.int .i64 n4)) (by omega) (.int .i64 n9)) (by omega) (.int .i64 n5)) (by omega) (.int .i64 n10)) (by omega) (.bool (n6 != 0))) (by omega) (.int .i64 n11)) (by omega) (.int .i64 n12)) (by omega) (.slice Au us.length cu)) (by omega) (.slice An ns.length cn)) (by omega) (.slice At tx.length ct))
        have q3 := (R_set (a := a1) (j := 14) (R_set (a := a1) (j := 13) (R_set (a := a1) (j := 12) (R_set (a := a1) (j := 11) (R_set (a := a1) (j := 10) (R_set (a := a1) (j := 9) (R_set (a := a1) (j := 8) (R_set (a := a1) (j := 7) (R_set (a := a1) (j := 6) (R_set (a := a1) (j := 5) (R_set (a := a1) (j := 4) (R_set (a := a1) (j := 3) (R_set (a := a1) (j := 2) (R_set (a := a1) (j := 1) (R_set (a := a1) (j := 0) HT.out (by omega) (.int .i64 n1)) (by omega) (.int .i64 n2)) (by omega) (.int .i64 n3)) (by omega) (.int .i64 n7)) (by omega) (.int .i64 n8)) (by omega) (.int .i64 n4)) (by omega) (.int .i64 n9)) (by omega) (.int .i64 n5)) (by omega) (.int .i64 n10)) (by omega) (.bool (n6 != 0))) (by omega) (.int .i64 n11)) (by omega) (.int .i64 n12)) (by omega) (.slice Au us.length cu)) (by omega) (.slice An ns.length cn)) (by omega) (.slice At tx.length ct))
        exact ⟨_, _, _, rfl, Kd.R_lower q1 (by omega), Kd.R_lower q2 (by omega), Kd.R_lower q3 (by omega), (Below.setCell (Below.setCell (Below.setCell (Below.setCell (Below.setCell (Below.setCell (Below.setCell (Below.setCell (Below.setCell (Below.setCell (Below.setCell (Below.setCell (Below.setCell (Below.setCell (Below.setCell HBq.out hwa _) hwa _) hwa _) hwa _) hwa _) hwa _) hwa _) hwa _) hwa _) hwa _) hwa _) hwa _) hwa _) hwa _) hwa _)⟩
      · have hd := Lib.hid (show dec b = (m0, 4) by
          rw [dec, Hp.out]
          simp only
          rw [Ho.out, Hov.out, if_neg (by simp), if_pos (.inr he)])
        rw [decide_eq_false he] at HQ
        clear he
        go_wp2_with fail
        refine HQ.out.mono ?_
        rintro e wq ⟨rfl, hD⟩
        have hbl := hD.below
        have HBq := Lib.hid (HBn.out.trans (hbl.mono HBn.out.size))
        have HU' := Lib.hid (Kd.R_below HU.out hbl)
        clear HU
        have HU := HU'
        clear HU'
        have HN' := Lib.hid (Kd.R_below HN.out hbl)
        clear HN
        have HN := HN'
        clear HN'
        have HT' := Lib.hid (Kd.R_below HT.out hbl)
        clear HT
        have HT := HT'
        clear HT'
        have HA1' := Lib.hid (blk_below HA1.out hbl)
        clear HA1
        have HA1 := HA1'
        clear HA1'
        have HA5' := Lib.hid (blk_below HA5.out hbl)
        clear HA5
        have HA5 := HA5'
        clear HA5'
        clear hD hbl
        have d0 := blk_cell HA1.out 0
        have d1 := blk_cell HA1.out 1
        have d2 := blk_cell HA1.out 2
        have d3 := blk_cell HA1.out 3
        have d4 := blk_cell HA1.out 4
        have d5 := blk_cell HA1.out 5
        have d6 := blk_cell HA1.out 6
        have d7 := blk_cell HA1.out 7
        have d8 := blk_cell HA1.out 8
        have d9 := blk_cell HA1.out 9
        have d10 := blk_cell HA1.out 10
        have d11 := blk_cell HA1.out 11
        have d12 := blk_cell HA1.out 12
        have d13 := blk_cell HA1.out 13
        have d14 := blk_cell HA1.out 14
        simp only [List.getElem?_toArray, List.getElem?_cons_succ, List.getElem?_cons_zero] at d0 d1 d2 d3 d4 d5 d6 d7 d8 d9 d10 d11 d12 d13 d14
        have e0 := blk_frozen HA1.out 0
        have e1 := blk_frozen HA1.out 1
        have e2 := blk_frozen HA1.out 2
        have e3 := blk_frozen HA1.out 3
        have e4 := blk_frozen HA1.out 4
        have e5 := blk_frozen HA1.out 5
        have e6 := blk_frozen HA1.out 6
        have e7 := blk_frozen HA1.out 7
        have e8 := blk_frozen HA1.out 8
        have e9 := blk_frozen HA1.out 9
        have e10 := blk_frozen HA1.out 10
        have e11 := blk_frozen HA1.out 11
        have e12 := blk_frozen HA1.out 12
        have e13 := blk_frozen HA1.out 13
        have e14 := blk_frozen HA1.out 14
        go_wp2
        rw [hd.out]
        refine bodyPost_ret (results_ct rfl _ _ a1 27 #[.int .i64 0, .int .i64 0, .int .i64 0, .int .i64 0, .int .i64 0, .int .i64 0, .int .i64 0, .int .i64 0, .int .i64 0, .bool false, .int .i64 0, .int .i64 0, .slice none 0 0, .slice none 0 0, .slice none 0 0] (0, 0) _ rfl (blk15 _ _ _ _ _ _ _ _ _ _ _ _ _ _ _ HA1.out) Try.underlying27 rfl (by kernel_rfl)) rfl ?_
        exact dec_no w _ 4 (Below.setCell (Below.setCell (Below.setCell (Below.setCell (Below.setCell (Below.setCell (Below.setCell (Below.setCell (Below.setCell (Below.setCell (Below.setCell (Below.setCell (Below.setCell (Below.setCell (Below.setCell HBq.out hwa _) hwa _) hwa _) hwa _) hwa _) hwa _) hwa _) hwa _) hwa _) hwa _) hwa _) hwa _) hwa _) hwa _) hwa _)
    · rw [mayB_no hm]
      have hd := Lib.hid (show dec b = (m0, 4) by
        rw [dec, Hp.out]
        simp only
        rw [Ho.out, Hov.out, if_neg (by simp), if_pos (.inl hm)])
      clear hm
      have d0 := blk_cell HA1.out 0
      have d1 := blk_cell HA1.out 1
      have d2 := blk_cell HA1.out 2
      have d3 := blk_cell HA1.out 3
      have d4 := blk_cell HA1.out 4
      have d5 := blk_cell HA1.out 5
      have d6 := blk_cell HA1.out 6
      have d7 := blk_cell HA1.out 7
      have d8 := blk_cell HA1.out 8
      have d9 := blk_cell HA1.out 9
      have d10 := blk_cell HA1.out 10
      have d11 := blk_cell HA1.out 11
      have d12 := blk_cell HA1.out 12
      have d13 := blk_cell HA1.out 13
      have d14 := blk_cell HA1.out 14
      simp only [List.getElem?_toArray, List.getElem?_cons_succ, List.getElem?_cons_zero] at d0 d1 d2 d3 d4 d5 d6 d7 d8 d9 d10 d11 d12 d13 d14
      have e0 := blk_frozen HA1.out 0
      have e1 := blk_frozen HA1.out 1
      have e2 := blk_frozen HA1.out 2
      have e3 := blk_frozen HA1.out 3
      have e4 := blk_frozen HA1.out 4
      have e5 := blk_frozen HA1.out 5
      have e6 := blk_frozen HA1.out 6
      have e7 := blk_frozen HA1.out 7
      have e8 := blk_frozen HA1.out 8
      have e9 := blk_frozen HA1.out 9
      have e10 := blk_frozen HA1.out 10
      have e11 := blk_frozen HA1.out 11
      have e12 := blk_frozen HA1.out 12
      have e13 := blk_frozen HA1.out 13
      have e14 := blk_frozen HA1.out 14
      go_wp2
      rw [hd.out]
      refine bodyPost_ret (results_ct rfl _ _ a1 27 #[.int .i64 0, .int .i64 0, .int .i64 0, .int .i64 0, .int .i64 0, .int .i64 0, .int .i64 0, .int .i64 0, .int .i64 0, .bool false, .int .i64 0, .int .i64 0, .slice none 0 0, .slice none 0 0, .slice none 0 0] (0, 0) _ rfl (blk15 _ _ _ _ _ _ _ _ _ _ _ _ _ _ _ HA1.out) Try.underlying27 rfl (by kernel_rfl)) rfl ?_
      exact dec_no w _ 4 (Below.setCell (Below.setCell (Below.setCell (Below.setCell (Below.setCell (Below.setCell (Below.setCell (Below.setCell (Below.setCell (Below.setCell (Below.setCell (Below.setCell (Below.setCell (Below.setCell (Below.setCell HBm.out hwa _) hwa _) hwa _) hwa _) hwa _) hwa _) hwa _) hwa _) hwa _) hwa _) hwa _) hwa _) hwa _) hwa _) hwa _)
  · have hb1 : (ov != 0) = true := by simpa using hov
    have hd := Lib.hid (show dec b = (m0, ov) by
      rw [dec, Hp.out]
      simp only
      rw [Ho.out, if_pos hov])
    clear hov
    go_wp2
    rw [hd.out]
    refine bodyPost_ret (results_ct rfl _ _ a1 27 #[.int .i64 0, .int .i64 0, .int .i64 0, .int .i64 0, .int .i64 0, .int .i64 0, .int .i64 0, .int .i64 0, .int .i64 0, .bool false, .int .i64 0, .int .i64 0, .slice none 0 0, .slice none 0 0, .slice none 0 0] (0, 0) _ rfl (blk15 _ _ _ _ _ _ _ _ _ _ _ _ _ _ _ HA1.out) Try.underlying27 rfl (by kernel_rfl)) rfl ?_
    exact dec_no w _ ov (Below.setCell (Below.setCell (Below.setCell (Below.setCell (Below.setCell (Below.setCell (Below.setCell (Below.setCell (Below.setCell (Below.setCell (Below.setCell (Below.setCell (Below.setCell (Below.setCell (Below.setCell HS.out.below hwa _) hwa _) hwa _) hwa _) hwa _) hwa _) hwa _) hwa _) hwa _) hwa _) hwa _) hwa _) hwa _) hwa _) hwa _)
end Go.Proofs.Ytleljfmhefobeaa.GKDec
