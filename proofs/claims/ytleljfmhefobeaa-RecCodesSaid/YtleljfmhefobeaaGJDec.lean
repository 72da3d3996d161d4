/- rec.Decode: what it does. -/
import Derived.Test.YtleljfmhefobeaaGJB
import Derived.Test.YtleljfmhefobeaaGJPr
import Derived.Test.YtleljfmhefobeaaGJSrc
import Derived.WalkKit
import Derived.WalkSpells
import Derived.Lib.Hide
set_option linter.unusedVariables false
set_option linter.unusedSimpArgs false
namespace Go.Proofs.Ytleljfmhefobeaa.GJDec
open Go.RowKit Go.Proofs.YtleljfmhefobeaaW.PrintWords Go.Proofs.YtleljfmhefobeaaW.PrintLast Go.Proofs.YtleljfmhefobeaaW.PrintMore Go.Proofs.Ytleljfmhefobeaa.GJ Go.Proofs.Ytleljfmhefobeaa.GJPa Go.Proofs.Ytleljfmhefobeaa.GJPe Go.Proofs.Ytleljfmhefobeaa.GJPr Go.Proofs.Ytleljfmhefobeaa.GJSrc Go.Proofs.Ytleljfmhefobeaa.GJB

theorem number_at (g : Nat) (s : List Int × Bool) (n : Nat) (w0 w : World) (hS : Src w0 w g s.1 s.2) (hB : Below w0.heap.size w0 w) (hb : bytesL s.1) (h6 : n ≤ 6) :
    Calls Try.prog 47 #[.pointer (some ⟨g, 0, none⟩), .int .i64 (n : Int)] w fun e w' => e = .returned (.int .i64 (numR n s)) ∧ Left0 w0 w w' g (nxtR n s).1 (nxtR n s).2 := by
  have := number_any g s (n : Int) w0 w hS hB hb (by omega) (by omega)
  rwa [Int.toNat_natCast] at this

theorem may_call (n1 n2 n3 n5 n4 : Int) (y : Bool) (us ns tx : List Int) (hu : us.length ≤ 20000) (hn : ns.length ≤ 20000) (ht : tx.length ≤ 20000) :
    rec_May.f 30000 n1 n2 n3 n5 n4 y us ns tx = some (mayB ⟨n1, n2, n3, n5, n4, y, us, ns, tx⟩) :=
  may_eq' 30000 ⟨n1, n2, n3, n5, n4, y, us, ns, tx⟩ (by show us.length + 2 < 30000; omega) (by show ns.length + 2 < 30000; omega) (by omega) (by show tx.length ≤ 1099511627776; omega)
theorem encode_call (n1 n2 n3 n5 n4 : Int) (y : Bool) (us ns tx : List Int) (h : May ⟨n1, n2, n3, n5, n4, y, us, ns, tx⟩) :
    rec_encode.f 1000 n1 n2 n3 n5 n4 y us ns tx = some (body ⟨n1, n2, n3, n5, n4, y, us, ns, tx⟩) := by
  obtain ⟨h1, h2, h3⟩ := h.short
  simp only at h1 h2 h3
  exact encode_eq 1000 ⟨n1, n2, n3, n5, n4, y, us, ns, tx⟩ (by show us.length ≤ 1000; omega) (by show ns.length ≤ 1000; omega) (by show tx.length ≤ 1099511627776; omega) (by show 17 + us.length + ns.length ≤ 1000; omega)
/-- What is read, and what is left of the bytes. -/
def parse (b : List Int) : M × (List Int × Bool) :=
  (⟨numR 1 (b, false), numR 6 (nxtR 1 (b, false)), numR 6 (nxtR 6 (nxtR 1 (b, false))), numR 1 (nxtR 6 (nxtR 6 (nxtR 6 (nxtR 1 (b, false))))), numR 6 (nxtR 6 (nxtR 6 (nxtR 1 (b, false)))),
    numR 1 (nxtR 1 (nxtR 6 (nxtR 6 (nxtR 6 (nxtR 1 (b, false)))))) != 0,
    lstR (nxtR 1 (nxtR 1 (nxtR 6 (nxtR 6 (nxtR 6 (nxtR 1 (b, false))))))), lstR (lstN (nxtR 1 (nxtR 1 (nxtR 6 (nxtR 6 (nxtR 6 (nxtR 1 (b, false)))))))),
    takeR (numR 2 (lstN (lstN (nxtR 1 (nxtR 1 (nxtR 6 (nxtR 6 (nxtR 6 (nxtR 1 (b, false)))))))))).toNat (nxtR 2 (lstN (lstN (nxtR 1 (nxtR 1 (nxtR 6 (nxtR 6 (nxtR 6 (nxtR 1 (b, false))))))))))⟩,
   nxtR (numR 2 (lstN (lstN (nxtR 1 (nxtR 1 (nxtR 6 (nxtR 6 (nxtR 6 (nxtR 1 (b, false)))))))))).toNat (nxtR 2 (lstN (lstN (nxtR 1 (nxtR 1 (nxtR 6 (nxtR 6 (nxtR 6 (nxtR 1 (b, false)))))))))))
def m0 : M := ⟨0, 0, 0, 0, 0, false, [], [], []⟩
open Classical in
noncomputable def dec (b : List Int) : M × Int :=
  if overR (parse b).2 ≠ 0 then (m0, overR (parse b).2) else if ¬ May (parse b).1 ∨ body (parse b).1 ≠ b then (m0, 4) else ((parse b).1, 0)
def DecIs (w : World) (r : M × Int) (e : Ending) (w' : World) : Prop :=
  ∃ vu vn vt, e = .returned (.tuple #[.agg #[.int .i64 r.1.a0, .int .i64 r.1.a1, .int .i64 r.1.a2, .int .i64 r.1.a3, .int .i64 r.1.a4, .bool r.1.y, vu, vn, vt], .int .i64 r.2]) ∧
    Kd.R (Kd.int .i64) 3 w' w.heap.size (fun _ => True) vu r.1.us ∧ Kd.R (Kd.int .i64) 3 w' w.heap.size (fun _ => True) vn r.1.ns ∧ Kd.R (Kd.int .u8) 5 w' w.heap.size (fun _ => True) vt r.1.tx ∧ Below w.heap.size w w'
theorem dec_no (w W : World) (c : Int) (hb : Below w.heap.size w W) : DecIs w (m0, c) (.returned (.tuple #[.agg #[.int .i64 0, .int .i64 0, .int .i64 0, .int .i64 0, .int .i64 0, .bool false, .slice none 0 0, .slice none 0 0, .slice none 0 0], .int .i64 c])) W :=
  ⟨_, _, _, rfl, Kd.R_nil _ _ _ _ _, Kd.R_nil _ _ _ _ _, Kd.R_nil _ _ _ _ _, hb⟩

set_option maxRecDepth 100000 in
set_option maxHeartbeats 1000000 in
theorem decode_any (b : List Int) (A : Option Addr) (c : Nat) (w : World) (hb : bytesL b) (hlen : b.length ≤ 20000) (hc : b.length ≤ c) (hC : Kd.C (Kd.int .u8) w A b.length b) :
    Calls Try.prog 33 #[.slice A b.length c] w (DecIs w (dec b)) := by
  have hu34 := Try.underlying34
  have hu71 := Try.underlying71
  go_enter Try.func33, Try.ntmps33
  go_wp2_with fail
  have HBb0 := Lib.hid hb
  have HBy : Hid (Ok (b, false)) := Lib.hid ⟨hb, hlen⟩
  have HCb := Lib.hid hC
  have h34 : w.heap.size + 1 < w.heap.size + 1 + 1 := by omega
  have HA1 : Hid ((((w.alloc (.cells #[.int .i64 0, .int .i64 0, .int .i64 0, .int .i64 0, .int .i64 0, .bool false, .slice none 0 0, .slice none 0 0, .slice none 0 0] 34)).alloc (.cells #[.slice A b.length c, .bool false] 71))).heap[w.heap.size]? = some (.cells #[.int .i64 0, .int .i64 0, .int .i64 0, .int .i64 0, .int .i64 0, .bool false, .slice none 0 0, .slice none 0 0, .slice none 0 0] 34 (0, 0))) := Lib.hid (by
    rw [Below.heap_alloc _ _ _ (by simp)]
    exact blk_new _ _)
  have HS : Hid (Left0 w w (((w.alloc (.cells #[.int .i64 0, .int .i64 0, .int .i64 0, .int .i64 0, .int .i64 0, .bool false, .slice none 0 0, .slice none 0 0, .slice none 0 0] 34)).alloc (.cells #[.slice A b.length c, .bool false] 71))) (w.heap.size + 1) b false) := Lib.hid (by
    have hbl := ((Below.refl w.heap.size w).alloc (Nat.le_refl _) (.cells #[.int .i64 0, .int .i64 0, .int .i64 0, .int .i64 0, .int .i64 0, .bool false, .slice none 0 0, .slice none 0 0, .slice none 0 0] 34)).alloc (by simp) (.cells #[.slice A b.length c, .bool false] 71)
    refine ⟨⟨A, c, hc, ?_, by omega, hC⟩, hbl, KeepBut.of_below hbl _ _⟩
    have := blk_new (w.alloc (.cells #[.int .i64 0, .int .i64 0, .int .i64 0, .int .i64 0, .int .i64 0, .bool false, .slice none 0 0, .slice none 0 0, .slice none 0 0] 34)) (.cells #[.slice A b.length c, .bool false] 71)
    simpa using this)
  generalize ((w.alloc (.cells #[.int .i64 0, .int .i64 0, .int .i64 0, .int .i64 0, .int .i64 0, .bool false, .slice none 0 0, .slice none 0 0, .slice none 0 0] 34)).alloc (.cells #[.slice A b.length c, .bool false] 71)) = W at *
  have Hg : Hid (w.heap.size + 1 = w.heap.size + 1) := Lib.hid rfl
  generalize hgg : w.heap.size + 1 = g at *
  generalize haa : w.heap.size = a1 at *
  have hg1 : a1 ≠ g := by omega
  have Hgg := Lib.hid hgg
  have Haa := Lib.hid haa
  clear hgg haa h34 Hg hb hC
  have HC := Lib.hid (number_at g (b, false) 1 w W HS.out.src HS.out.below HBy.out.bytes (by omega))
  go_wp2_with fail
  refine HC.out.mono ?_
  rintro e w1 ⟨rfl, hL⟩
  replace HBy := Lib.hid (HBy.out.nxt (n := 1))
  generalize hs : nxtR 1 (b, false) = s1 at hL HBy
  generalize hn : numR 1 (b, false) = n1
  have Hs1 := Lib.hid hs
  have Hn1 := Lib.hid hn
  have HA1' := Lib.hid (keep_blk hL.keep HA1.out hg1)
  have HS' := Lib.hid (HS.out.then hL)
  clear hs hn hL HC HS HA1
  have HS := HS'
  have HA1 := HA1'
  clear HS' HA1'
  have HC := Lib.hid (number_at g s1 6 w w1 HS.out.src HS.out.below HBy.out.bytes (by omega))
  go_wp2_with fail
  refine HC.out.mono ?_
  rintro e w2 ⟨rfl, hL⟩
  replace HBy := Lib.hid (HBy.out.nxt (n := 6))
  generalize hs : nxtR 6 s1 = s2 at hL HBy
  generalize hn : numR 6 s1 = n2
  have Hs2 := Lib.hid hs
  have Hn2 := Lib.hid hn
  have HA1' := Lib.hid (keep_blk hL.keep HA1.out hg1)
  have HS' := Lib.hid (HS.out.then hL)
  clear hs hn hL HC HS HA1
  have HS := HS'
  have HA1 := HA1'
  clear HS' HA1'
  have HC := Lib.hid (number_at g s2 6 w w2 HS.out.src HS.out.below HBy.out.bytes (by omega))
  go_wp2_with fail
  refine HC.out.mono ?_
  rintro e w3 ⟨rfl, hL⟩
  replace HBy := Lib.hid (HBy.out.nxt (n := 6))
  generalize hs : nxtR 6 s2 = s3 at hL HBy
  generalize hn : numR 6 s2 = n3
  have Hs3 := Lib.hid hs
  have Hn3 := Lib.hid hn
  have HA1' := Lib.hid (keep_blk hL.keep HA1.out hg1)
  have HS' := Lib.hid (HS.out.then hL)
  clear hs hn hL HC HS HA1
  have HS := HS'
  have HA1 := HA1'
  clear HS' HA1'
  have HC := Lib.hid (number_at g s3 6 w w3 HS.out.src HS.out.below HBy.out.bytes (by omega))
  go_wp2_with fail
  refine HC.out.mono ?_
  rintro e w4 ⟨rfl, hL⟩
  replace HBy := Lib.hid (HBy.out.nxt (n := 6))
  generalize hs : nxtR 6 s3 = s4 at hL HBy
  generalize hn : numR 6 s3 = n4
  have Hs4 := Lib.hid hs
  have Hn4 := Lib.hid hn
  have HA1' := Lib.hid (keep_blk hL.keep HA1.out hg1)
  have HS' := Lib.hid (HS.out.then hL)
  clear hs hn hL HC HS HA1
  have HS := HS'
  have HA1 := HA1'
  clear HS' HA1'
  have HC := Lib.hid (number_at g s4 1 w w4 HS.out.src HS.out.below HBy.out.bytes (by omega))
  go_wp2_with fail
  refine HC.out.mono ?_
  rintro e w5 ⟨rfl, hL⟩
  replace HBy := Lib.hid (HBy.out.nxt (n := 1))
  generalize hs : nxtR 1 s4 = s5 at hL HBy
  generalize hn : numR 1 s4 = n5
  have Hs5 := Lib.hid hs
  have Hn5 := Lib.hid hn
  have HA1' := Lib.hid (keep_blk hL.keep HA1.out hg1)
  have HS' := Lib.hid (HS.out.then hL)
  clear hs hn hL HC HS HA1
  have HS := HS'
  have HA1 := HA1'
  clear HS' HA1'
  have HC := Lib.hid (number_at g s5 1 w w5 HS.out.src HS.out.below HBy.out.bytes (by omega))
  go_wp2_with fail
  refine HC.out.mono ?_
  rintro e w6 ⟨rfl, hL⟩
  replace HBy := Lib.hid (HBy.out.nxt (n := 1))
  generalize hs : nxtR 1 s5 = s6 at hL HBy
  generalize hn : numR 1 s5 = n6
  have Hs6 := Lib.hid hs
  have Hn6 := Lib.hid hn
  have HA1' := Lib.hid (keep_blk hL.keep HA1.out hg1)
  have HS' := Lib.hid (HS.out.then hL)
  clear hs hn hL HC HS HA1
  have HS := HS'
  have HA1 := HA1'
  clear HS' HA1'
  -- the record's own block
  have hw6 := HS.out.below.size
  go_wp2_with fail
  generalize ha5 : w6.heap.size = a5 at *
  have hga : g < a5 := by have := HS.out.src.lt; omega
  have hg5 : a5 ≠ g := by omega
  have h15 : a1 < a5 := by have := (Array.getElem?_eq_some_iff.1 HA1.out).1; omega
  generalize hRec : (Obj.cells #[.int .i64 n1, .int .i64 n2, .int .i64 n3, .int .i64 n5, .int .i64 n4, .bool (n6 != 0), .slice none 0 0, .slice none 0 0, .slice none 0 0] 34) = rec0 at *
  have hbl : Below w6.heap.size w6 (w6.alloc rec0) := (Below.refl _ _).alloc (Nat.le_refl _) _
  have hsz7 : (w6.alloc rec0).heap.size = a5 + 1 := by rw [← ha5]; simp
  have HA5 := Lib.hid (show (w6.alloc rec0).heap[a5]? = some (.cells #[.int .i64 n1, .int .i64 n2, .int .i64 n3, .int .i64 n5, .int .i64 n4, .bool (n6 != 0), .slice none 0 0, .slice none 0 0, .slice none 0 0] 34 (0, 0)) from by rw [← ha5, ← hRec]; exact blk_new _ _)
  have HA1' := Lib.hid (blk_below HA1.out hbl)
  have HS' := Lib.hid (HS.out.more hbl)
  generalize w6.alloc rec0 = W7 at *
  clear HA1 HS hbl hRec
  have HC := Lib.hid (list_any g s6 w W7 HS'.out.src HS'.out.below HBy.out.bytes)
  refine HC.out.mono ?_
  rintro e w8 ⟨vu, rfl, hU, hL⟩
  obtain ⟨Au, cu, rfl⟩ := Kd.R_slice hU
  have HBy0 := HBy
  replace HBy := Lib.hid HBy.out.lst
  have hul := Nat.le_trans (lstR_le (s := s6)) HBy0.out.len
  generalize hus : lstR s6 = us at *
  generalize hs : lstN s6 = s7 at *
  have Hus := Lib.hid hus
  have Hs7 := Lib.hid hs
  rw [hsz7] at hU
  have HU := Lib.hid hU
  have HA1 := Lib.hid (keep_blk hL.keep HA1'.out hg1)
  have HA5' := Lib.hid (keep_blk hL.keep HA5.out hg5)
  have HS := Lib.hid (HS'.out.then hL)
  have hsz8 := hL.keep.1
  rw [hsz7] at hsz8
  clear hU hL hus hs HC HS' HA1' HA5 hsz7
  have HC := Lib.hid (list_any g s7 w w8 HS.out.src HS.out.below HBy.out.bytes)
  go_wp2_with fail
  refine HC.out.mono ?_
  rintro e w9 ⟨vn, rfl, hN, hL⟩
  obtain ⟨An, cn, rfl⟩ := Kd.R_slice hN
  clear HBy0
  have HBy0 := HBy
  replace HBy := Lib.hid HBy.out.lst
  have hnl := Nat.le_trans (lstR_le (s := s7)) HBy0.out.len
  generalize hns : lstR s7 = ns at *
  generalize hs : lstN s7 = s8 at *
  have Hns := Lib.hid hns
  have Hs8 := Lib.hid hs
  have HU' := Lib.hid (R_left HU.out hL.keep (by omega))
  have HN := Lib.hid hN
  have HA1' := Lib.hid (keep_blk hL.keep HA1.out hg1)
  have HA5 := Lib.hid (keep_blk hL.keep HA5'.out hg5)
  have HS' := Lib.hid (HS.out.then hL)
  have hsz9 := hL.keep.1
  clear hN hL hns hs HC HS HA1 HA5' HU
  have c6 := blk_cell HA5.out 6
  have c7 := blk_cell HA5.out 7
  have f6 := blk_frozen HA5.out 6
  have f7 := blk_frozen HA5.out 7
  simp only [List.getElem?_toArray, List.getElem?_cons_succ, List.getElem?_cons_zero] at c6 c7
  have h1w : w.heap.size ≤ a5 := by omega
  have HS := Lib.hid ((HS'.out.set h1w h1w hg5 (.slice Au us.length cu) (j := 6)).set h1w h1w hg5 (.slice An ns.length cn) (j := 7))
  have HA1 := Lib.hid (blk_far (blk_far HA1'.out (by omega) (.slice Au us.length cu) (a := a5) (j := 6)) (by omega) (.slice An ns.length cn) (a := a5) (j := 7))
  have HA5' := Lib.hid (blk_set (blk_set HA5.out 6 (.slice Au us.length cu)) 7 (.slice An ns.length cn))
  have HU := Lib.hid (R_set (R_set HU'.out (by omega) (.slice Au us.length cu) (a := a5) (j := 6)) (by omega) (.slice An ns.length cn) (a := a5) (j := 7))
  have HN' := Lib.hid (R_set (R_set HN.out (by omega) (.slice Au us.length cu) (a := a5) (j := 6)) (by omega) (.slice An ns.length cn) (a := a5) (j := 7))
  have hszA : ((w9.setCell ⟨a5, 6, none⟩ (.slice Au us.length cu)).setCell ⟨a5, 7, none⟩ (.slice An ns.length cn)).heap.size = w9.heap.size := by simp [World.setCell]
  clear HS' HA1' HA5 HU' HN
  go_wp2_with fail
  generalize ((w9.setCell ⟨a5, 6, none⟩ (.slice Au us.length cu)).setCell ⟨a5, 7, none⟩ (.slice An ns.length cn)) = W10 at *
  have HA5 := Lib.hid (show W10.heap[a5]? = some (.cells #[.int .i64 n1, .int .i64 n2, .int .i64 n3, .int .i64 n5, .int .i64 n4, .bool (n6 != 0), .slice Au us.length cu, .slice An ns.length cn, .slice none 0 0] 34 (0, 0)) from HA5'.out)
  clear HA5' c6 c7 f6 f7
  have HC := Lib.hid (number_at g s8 2 w W10 HS.out.src HS.out.below HBy.out.bytes (by omega))
  refine HC.out.mono ?_
  rintro e w11 ⟨rfl, hL⟩
  have hn7 := numR_nonneg (n := 2) (s := s8) HBy.out.bytes
  replace HBy := Lib.hid (HBy.out.nxt (n := 2))
  generalize hs : nxtR 2 s8 = s9 at hL HBy
  generalize hn : numR 2 s8 = n7 at *
  have Hs9 := Lib.hid hs
  have Hn7 := Lib.hid hn
  have HU' := Lib.hid (R_left HU.out hL.keep (by omega))
  have HN := Lib.hid (R_left HN'.out hL.keep (by omega))
  have HA1' := Lib.hid (keep_blk hL.keep HA1.out hg1)
  have HA5' := Lib.hid (keep_blk hL.keep HA5.out hg5)
  have HS' := Lib.hid (HS.out.then hL)
  have hsz11 := hL.keep.1
  clear hL hs hn HC HS HA1 HA5 HU HN'
  have HC := Lib.hid (take_any g s9 n7 w w11 HS'.out.src HS'.out.below hn7)
  go_wp2_with fail
  refine HC.out.mono ?_
  rintro e w12 ⟨v0, rfl, hcut, hL⟩
  have htb := takeR_bytes (n := n7.toNat) (s := s9) HBy.out.bytes
  have htl := takeR_le (n := n7.toNat) (s := s9)
  generalize hs : nxtR n7.toNat s9 = s10 at *
  generalize ht : takeR n7.toNat s9 = tx at *
  have Hs10 := Lib.hid hs
  have Htx := Lib.hid ht
  have Htb := Lib.hid htb
  have HU := Lib.hid (R_left HU'.out hL.keep (by omega))
  have HN' := Lib.hid (R_left HN.out hL.keep (by omega))
  have HA1 := Lib.hid (keep_blk hL.keep HA1'.out hg1)
  have HA5 := Lib.hid (keep_blk hL.keep HA5'.out hg5)
  have HS := Lib.hid (HS'.out.then hL)
  have hsz12 := hL.keep.1
  clear hL hs ht HC HS' HA1' HA5' HU' HN htb
  have htl2 : tx.length ≤ 20000 := Nat.le_trans htl HBy.out.len
  have HC := Lib.hid (clone_any v0 tx w12 (by obtain ⟨A', c', rfl, h1, h2⟩ := hcut; exact ⟨A', c', rfl, h1, Kd.C_below h2 HS.out.below⟩) (by omega))
  clear hcut htl
  go_wp2_with fail
  refine HC.out.mono ?_
  rintro e w13 ⟨vt, rfl, hT, hbl⟩
  obtain ⟨At, ct, rfl⟩ := Kd.R_slice hT
  have HT := Lib.hid hT
  have HU' := Lib.hid (Kd.R_below HU.out hbl)
  have HN := Lib.hid (Kd.R_below HN'.out hbl)
  have HA1' := Lib.hid (blk_below HA1.out hbl)
  have HA5' := Lib.hid (blk_below HA5.out hbl)
  have HS' := Lib.hid (HS.out.more hbl)
  have hsz13 := hbl.size
  clear hbl hT HC HS HA1 HA5 HU HN'
  have c8 := blk_cell HA5'.out 8
  have f8 := blk_frozen HA5'.out 8
  simp only [List.getElem?_toArray, List.getElem?_cons_succ, List.getElem?_cons_zero] at c8
  have HS := Lib.hid (HS'.out.set h1w h1w hg5 (.slice At tx.length ct) (j := 8))
  have HA1 := Lib.hid (blk_far HA1'.out (by omega) (.slice At tx.length ct) (a := a5) (j := 8))
  have HA5 := Lib.hid (blk_set HA5'.out 8 (.slice At tx.length ct))
  have HU := Lib.hid (R_set HU'.out (by omega) (.slice At tx.length ct) (a := a5) (j := 8))
  have HN' := Lib.hid (R_set HN.out (by omega) (.slice At tx.length ct) (a := a5) (j := 8))
  have HT' := Lib.hid (R_set HT.out (by omega) (.slice At tx.length ct) (a := a5) (j := 8))
  have hszB : (w13.setCell ⟨a5, 8, none⟩ (.slice At tx.length ct)).heap.size = w13.heap.size := by simp [World.setCell]
  clear HS' HA1' HA5' HU' HN HT
  go_wp2_with fail
  generalize (w13.setCell ⟨a5, 8, none⟩ (.slice At tx.length ct)) = W14 at *
  have HA5' := Lib.hid (show W14.heap[a5]? = some (.cells #[.int .i64 n1, .int .i64 n2, .int .i64 n3, .int .i64 n5, .int .i64 n4, .bool (n6 != 0), .slice Au us.length cu, .slice An ns.length cn, .slice At tx.length ct] 34 (0, 0)) from HA5.out)
  clear HA5 c8 f8
  have HC := Lib.hid (over_any g s10 w W14 HS.out.src)
  refine HC.out.mono ?_
  rintro e w15 ⟨rfl, rfl⟩
  clear HC
  generalize ho : overR s10 = ov at *
  have Ho := Lib.hid ho
  have hz12 : a5 < w12.heap.size := by omega
  clear hszA
  have d0 := blk_cell HA1.out 0
  have d1 := blk_cell HA1.out 1
  have d2 := blk_cell HA1.out 2
  have d3 := blk_cell HA1.out 3
  have d4 := blk_cell HA1.out 4
  have d5 := blk_cell HA1.out 5
  have d6 := blk_cell HA1.out 6
  have d7 := blk_cell HA1.out 7
  have d8 := blk_cell HA1.out 8
  simp only [List.getElem?_toArray, List.getElem?_cons_succ, List.getElem?_cons_zero] at d0 d1 d2 d3 d4 d5 d6 d7 d8
  have e0 := blk_frozen HA1.out 0
  have e1 := blk_frozen HA1.out 1
  have e2 := blk_frozen HA1.out 2
  have e3 := blk_frozen HA1.out 3
  have e4 := blk_frozen HA1.out 4
  have e5 := blk_frozen HA1.out 5
  have e6 := blk_frozen HA1.out 6
  have e7 := blk_frozen HA1.out 7
  have e8 := blk_frozen HA1.out 8
  have hwa : w.heap.size ≤ a1 := by rw [Haa.out]; exact Nat.le_refl _
  have Hp := Lib.hid (show parse b = (⟨n1, n2, n3, n5, n4, n6 != 0, us, ns, tx⟩, s10) by
    simp only [parse, Hs1.out, Hs2.out, Hs3.out, Hs4.out, Hs5.out, Hs6.out, Hs7.out, Hs8.out, Hs9.out, Hn1.out, Hn2.out, Hn3.out, Hn4.out, Hn5.out, Hn6.out, Hn7.out, Hus.out, Hns.out, Htx.out, Hs10.out])
  by_cases hov : ov = 0
  · have hb1 : (ov != 0) = false := by simpa using hov
    have c0 := blk_cell HA5'.out 0
    have c1 := blk_cell HA5'.out 1
    have c2 := blk_cell HA5'.out 2
    have c3 := blk_cell HA5'.out 3
    have c4 := blk_cell HA5'.out 4
    have c5 := blk_cell HA5'.out 5
    have c6 := blk_cell HA5'.out 6
    have c7 := blk_cell HA5'.out 7
    have c8 := blk_cell HA5'.out 8
    simp only [List.getElem?_toArray, List.getElem?_cons_succ, List.getElem?_cons_zero] at c0 c1 c2 c3 c4 c5 c6 c7 c8
    have HM := Lib.hid (rec_May.calls 30000 n1 n2 n3 n5 n4 (n6 != 0) Au cu us An cn ns At ct tx _ W14 (Kd.R_reads' HU.out).2.2 (Kd.R_reads' HU.out).2.1 (Kd.R_reads' HN'.out).2.2 (Kd.R_reads' HN'.out).2.1 (Kd.R_reads' HT'.out).2.2 (Kd.R_reads' HT'.out).2.1
      (may_call n1 n2 n3 n5 n4 (n6 != 0) us ns tx hul hnl htl2))
    have Hov := Lib.hid hov
    clear hov
    go_wp2_with fail
    refine HM.out.mono ?_
    rintro e w16 ⟨rfl, hbl⟩
    have HB16 := Lib.hid (HS.out.below.trans (hbl.mono HS.out.below.size))
    have HA1b := Lib.hid (blk_below HA1.out hbl)
    have HA5b := Lib.hid (blk_below HA5'.out hbl)
    have HUb := Lib.hid (Kd.R_below HU.out hbl)
    have HNb := Lib.hid (Kd.R_below HN'.out hbl)
    have HTb := Lib.hid (Kd.R_below HT'.out hbl)
    clear d0 d1 d2 d3 d4 d5 d6 d7 d8 e0 e1 e2 e3 e4 e5 e6 e7 e8 c0 c1 c2 c3 c4 c5 c6 c7 c8 hbl HM
    have d0 := blk_cell HA1b.out 0
    have d1 := blk_cell HA1b.out 1
    have d2 := blk_cell HA1b.out 2
    have d3 := blk_cell HA1b.out 3
    have d4 := blk_cell HA1b.out 4
    have d5 := blk_cell HA1b.out 5
    have d6 := blk_cell HA1b.out 6
    have d7 := blk_cell HA1b.out 7
    have d8 := blk_cell HA1b.out 8
    simp only [List.getElem?_toArray, List.getElem?_cons_succ, List.getElem?_cons_zero] at d0 d1 d2 d3 d4 d5 d6 d7 d8
    have e0 := blk_frozen HA1b.out 0
    have e1 := blk_frozen HA1b.out 1
    have e2 := blk_frozen HA1b.out 2
    have e3 := blk_frozen HA1b.out 3
    have e4 := blk_frozen HA1b.out 4
    have e5 := blk_frozen HA1b.out 5
    have e6 := blk_frozen HA1b.out 6
    have e7 := blk_frozen HA1b.out 7
    have e8 := blk_frozen HA1b.out 8
    by_cases hm : May ⟨n1, n2, n3, n5, n4, n6 != 0, us, ns, tx⟩
    · rw [(mayB_iff _).2 hm]
      have c0 := blk_cell HA5b.out 0
      have c1 := blk_cell HA5b.out 1
      have c2 := blk_cell HA5b.out 2
      have c3 := blk_cell HA5b.out 3
      have c4 := blk_cell HA5b.out 4
      have c5 := blk_cell HA5b.out 5
      have c6 := blk_cell HA5b.out 6
      have c7 := blk_cell HA5b.out 7
      have c8 := blk_cell HA5b.out 8
      simp only [List.getElem?_toArray, List.getElem?_cons_succ, List.getElem?_cons_zero] at c0 c1 c2 c3 c4 c5 c6 c7 c8
      have HE := Lib.hid (rec_encode.calls 1000 n1 n2 n3 n5 n4 (n6 != 0) Au cu us An cn ns At ct tx _ w16 (Kd.R_reads' HUb.out).2.2 (Kd.R_reads' HUb.out).2.1 (Kd.R_reads' HNb.out).2.2 (Kd.R_reads' HNb.out).2.1 (Kd.R_reads' HTb.out).2.2 (Kd.R_reads' HTb.out).2.1
        (encode_call n1 n2 n3 n5 n4 (n6 != 0) us ns tx hm))
      have Hm := Lib.hid hm
      clear hm
      go_wp2_with fail
      refine HE.out.mono ?_
      rintro e w17 ⟨ve, rfl, hE, hbl⟩
      obtain ⟨Ae, ce, rfl⟩ := Kd.R_slice hE
      have HBb := Lib.hid (HB16.out.trans (hbl.mono HB16.out.size))
      have HQ := Lib.hid (bytes_Equal.calls Ae ce _ A c b _ w17 (Kd.R_reads' hE).2.2 (Kd.R_reads' hE).2.1 (Kd.C_below HCb.out HBb.out) hc
        (bequal_eq _ _ (bytes_body ⟨n1, n2, n3, n5, n4, n6 != 0, us, ns, tx⟩ Htb.out) HBb0.out))
      have HA1c := Lib.hid (blk_below HA1b.out hbl)
      have HA5c := Lib.hid (blk_below HA5b.out hbl)
      have HUc := Lib.hid (Kd.R_below HUb.out hbl)
      have HNc := Lib.hid (Kd.R_below HNb.out hbl)
      have HTc := Lib.hid (Kd.R_below HTb.out hbl)
      clear hE hbl HE c0 c1 c2 c3 c4 c5 c6 c7 c8 d0 d1 d2 d3 d4 d5 d6 d7 d8 e0 e1 e2 e3 e4 e5 e6 e7 e8
      have hsc : c = c := rfl
      by_cases he : body ⟨n1, n2, n3, n5, n4, n6 != 0, us, ns, tx⟩ = b
      · have hd := Lib.hid (show dec b = (⟨n1, n2, n3, n5, n4, n6 != 0, us, ns, tx⟩, 0) by
          rw [dec, Hp.out]
          simp only
          rw [Ho.out, Hov.out, if_neg (by simp), if_neg (by simp [Hm.out, he])])
        rw [decide_eq_true he] at HQ
        clear he
        go_wp2_with fail
        refine HQ.out.mono ?_
        rintro e w18 ⟨rfl, hD⟩
        have hbl := hD.below
        have HBd := Lib.hid (HBb.out.trans (hbl.mono HBb.out.size))
        have HA1d := Lib.hid (blk_below HA1c.out hbl)
        have HA5d := Lib.hid (blk_below HA5c.out hbl)
        have HUd := Lib.hid (Kd.R_below HUc.out hbl)
        have HNd := Lib.hid (Kd.R_below HNc.out hbl)
        have HTd := Lib.hid (Kd.R_below HTc.out hbl)
        clear hD hbl
        have d0 := blk_cell HA1d.out 0
        have d1 := blk_cell HA1d.out 1
        have d2 := blk_cell HA1d.out 2
        have d3 := blk_cell HA1d.out 3
        have d4 := blk_cell HA1d.out 4
        have d5 := blk_cell HA1d.out 5
        have d6 := blk_cell HA1d.out 6
        have d7 := blk_cell HA1d.out 7
        have d8 := blk_cell HA1d.out 8
        simp only [List.getElem?_toArray, List.getElem?_cons_succ, List.getElem?_cons_zero] at d0 d1 d2 d3 d4 d5 d6 d7 d8
        have e0 := blk_frozen HA1d.out 0
        have e1 := blk_frozen HA1d.out 1
        have e2 := blk_frozen HA1d.out 2
        have e3 := blk_frozen HA1d.out 3
        have e4 := blk_frozen HA1d.out 4
        have e5 := blk_frozen HA1d.out 5
        have e6 := blk_frozen HA1d.out 6
        have e7 := blk_frozen HA1d.out 7
        have e8 := blk_frozen HA1d.out 8
        have c0 := blk_cell HA5d.out 0
        have c1 := blk_cell HA5d.out 1
        have c2 := blk_cell HA5d.out 2
        have c3 := blk_cell HA5d.out 3
        have c4 := blk_cell HA5d.out 4
        have c5 := blk_cell HA5d.out 5
        have c6 := blk_cell HA5d.out 6
        have c7 := blk_cell HA5d.out 7
        have c8 := blk_cell HA5d.out 8
        simp only [List.getElem?_toArray, List.getElem?_cons_succ, List.getElem?_cons_zero] at c0 c1 c2 c3 c4 c5 c6 c7 c8
        go_wp2
        rw [hd.out]
        refine bodyPost_ret (results_ct rfl _ _ a1 34 #[.int .i64 n1, .int .i64 n2, .int .i64 n3, .int .i64 n5, .int .i64 n4, .bool (n6 != 0), .slice Au us.length cu, .slice An ns.length cn, .slice At tx.length ct] (0, 0) _ rfl (blk9 _ _ _ _ _ _ _ _ _ HA1d.out) Try.underlying34 rfl (by kernel_rfl)) rfl ?_
        have q1 := (R_set (a := a1) (j := 8) (R_set (a := a1) (j := 7) (R_set (a := a1) (j := 6) (R_set (a := a1) (j := 5) (R_set (a := a1) (j := 4) (R_set (a := a1) (j := 3) (R_set (a := a1) (j := 2) (R_set (a := a1) (j := 1) (R_set (a := a1) (j := 0) HUd.out (by omega) (.int .i64 n1)) (by omega) (.int .i64 n2)) (by omega) (.int .i64 n3)) (by omega) (.int .i64 n5)) (by omega) (.int .i64 n4)) (by omega) (.bool (n6 != 0))) (by omega) (.slice Au us.length cu)) (by omega) (.slice An ns.length cn)) (by omega) (.slice At tx.length ct))
        have q2 := (R_set (a := a1) (j := 8) (R_set (a := a1) (j := 7) (R_set (a := a1) (j := 6) (R_set (a := a1) (j := 5) (R_set (a := a1) (j := 4) (R_set (a := a1) (j := 3) (R_set (a := a1) (j := 2) (R_set (a := a1) (j := 1) (R_set (a := a1) (j := 0) HNd.out (by omega) (.int .i64 n1)) (by omega) (.int .i64 n2)) (by omega) (.int .i64 n3)) (by omega) (.int .i64 n5)) (by omega) (.int .i64 n4)) (by omega) (.bool (n6 != 0))) (by omega) (.slice Au us.length cu)) (by omega) (.slice An ns.length cn)) (by omega) (.slice At tx.length ct))
        have q3 := (R_set (a := a1) (j := 8) (R_set (a := a1) (j := 7) (R_set (a := a1) (j := 6) (R_set (a := a1) (j := 5) (R_set (a := a1) (j := 4) (R_set (a := a1) (j := 3) (R_set (a := a1) (j := 2) (R_set (a := a1) (j := 1) (R_set (a := a1) (j := 0) HTd.out (by omega) (.int .i64 n1)) (by omega) (.int .i64 n2)) (by omega) (.int .i64 n3)) (by omega) (.int .i64 n5)) (by omega) (.int .i64 n4)) (by omega) (.bool (n6 != 0))) (by omega) (.slice Au us.length cu)) (by omega) (.slice An ns.length cn)) (by omega) (.slice At tx.length ct))
        exact ⟨_, _, _, rfl, Kd.R_lower q1 (by omega), Kd.R_lower q2 (by omega), Kd.R_lower q3 (by omega), (Below.setCell (Below.setCell (Below.setCell (Below.setCell (Below.setCell (Below.setCell (Below.setCell (Below.setCell (Below.setCell HBd.out hwa _) hwa _) hwa _) hwa _) hwa _) hwa _) hwa _) hwa _) hwa _)⟩
      · have hd := Lib.hid (show dec b = (m0, 4) by
          rw [dec, Hp.out]
          simp only
          rw [Ho.out, Hov.out, if_neg (by simp), if_pos (.inr he)])
        rw [decide_eq_false he] at HQ
        clear he
        go_wp2_with fail
        refine HQ.out.mono ?_
        rintro e w18 ⟨rfl, hD⟩
        have hbl := hD.below
        have HBd := Lib.hid (HBb.out.trans (hbl.mono HBb.out.size))
        have HA1d := Lib.hid (blk_below HA1c.out hbl)
        clear hD hbl
        have d0 := blk_cell HA1d.out 0
        have d1 := blk_cell HA1d.out 1
        have d2 := blk_cell HA1d.out 2
        have d3 := blk_cell HA1d.out 3
        have d4 := blk_cell HA1d.out 4
        have d5 := blk_cell HA1d.out 5
        have d6 := blk_cell HA1d.out 6
        have d7 := blk_cell HA1d.out 7
        have d8 := blk_cell HA1d.out 8
        simp only [List.getElem?_toArray, List.getElem?_cons_succ, List.getElem?_cons_zero] at d0 d1 d2 d3 d4 d5 d6 d7 d8
        have e0 := blk_frozen HA1d.out 0
        have e1 := blk_frozen HA1d.out 1
        have e2 := blk_frozen HA1d.out 2
        have e3 := blk_frozen HA1d.out 3
        have e4 := blk_frozen HA1d.out 4
        have e5 := blk_frozen HA1d.out 5
        have e6 := blk_frozen HA1d.out 6
        have e7 := blk_frozen HA1d.out 7
        have e8 := blk_frozen HA1d.out 8
        go_wp2
        rw [hd.out]
        refine bodyPost_ret (results_ct rfl _ _ a1 34 #[.int .i64 0, .int .i64 0, .int .i64 0, .int .i64 0, .int .i64 0, .bool false, .slice none 0 0, .slice none 0 0, .slice none 0 0] (0, 0) _ rfl (blk9 _ _ _ _ _ _ _ _ _ HA1d.out) Try.underlying34 rfl (by kernel_rfl)) rfl ?_
        exact dec_no w _ 4 (Below.setCell (Below.setCell (Below.setCell (Below.setCell (Below.setCell (Below.setCell (Below.setCell (Below.setCell (Below.setCell HBd.out hwa _) hwa _) hwa _) hwa _) hwa _) hwa _) hwa _) hwa _) hwa _)
    · rw [mayB_no hm]
      have hd := Lib.hid (show dec b = (m0, 4) by
        rw [dec, Hp.out]
        simp only
        rw [Ho.out, Hov.out, if_neg (by simp), if_pos (.inl hm)])
      clear hm
      go_wp2
      rw [hd.out]
      refine bodyPost_ret (results_ct rfl _ _ a1 34 #[.int .i64 0, .int .i64 0, .int .i64 0, .int .i64 0, .int .i64 0, .bool false, .slice none 0 0, .slice none 0 0, .slice none 0 0] (0, 0) _ rfl (blk9 _ _ _ _ _ _ _ _ _ HA1b.out) Try.underlying34 rfl (by kernel_rfl)) rfl ?_
      exact dec_no w _ 4 (Below.setCell (Below.setCell (Below.setCell (Below.setCell (Below.setCell (Below.setCell (Below.setCell (Below.setCell (Below.setCell HB16.out hwa _) hwa _) hwa _) hwa _) hwa _) hwa _) hwa _) hwa _) hwa _)
  · have hb1 : (ov != 0) = true := by simpa using hov
    have hd := Lib.hid (show dec b = (m0, ov) by
      rw [dec, Hp.out]
      simp only
      rw [Ho.out, if_pos hov])
    clear hov
    go_wp2
    rw [hd.out]
    refine bodyPost_ret (results_ct rfl _ _ a1 34 #[.int .i64 0, .int .i64 0, .int .i64 0, .int .i64 0, .int .i64 0, .bool false, .slice none 0 0, .slice none 0 0, .slice none 0 0] (0, 0) _ rfl (blk9 _ _ _ _ _ _ _ _ _ HA1.out) Try.underlying34 rfl (by kernel_rfl)) rfl ?_
    exact dec_no w _ ov (Below.setCell (Below.setCell (Below.setCell (Below.setCell (Below.setCell (Below.setCell (Below.setCell (Below.setCell (Below.setCell HS.out.below hwa _) hwa _) hwa _) hwa _) hwa _) hwa _) hwa _) hwa _) hwa _)
end Go.Proofs.Ytleljfmhefobeaa.GJDec
