/- rule.Print at small rules. -/
import Derived.Test.YtohpimfanplloaaGreatDoorZRuleM
import Derived.Test.YtohpimfanplloaaGreatDoorZGCExt
import Derived.Test.YtohpimfanplloaaGreatDoorZGCx1
import Derived.Laws.EntriesVeiled
import Derived.WalkKit
import Derived.WalkSpells
import Derived.Lib.Hide
import Derived.Deep.RegionHeld3
import Derived.Deep.QuietTactic
import Derived.BigQuiet
set_option linter.unusedVariables false
set_option linter.unusedSimpArgs false
namespace Go.Proofs.YtohpimfanplloaaGreatDoor.RuleP
def ruleTxt (freq : Int) (count : Int) : ByteArray := (if freq = 3 then (⟨#[70, 82, 69, 81, 61, 87, 69, 69, 75, 76, 89, 59, 67, 79, 85, 78, 84, 61]⟩ : ByteArray) else ⟨#[70, 82, 69, 81, 61, 68, 65, 73, 76, 89, 59, 67, 79, 85, 78, 84, 61]⟩) ++ ⟨#[UInt8.ofNat (48 + count.toNat)]⟩
open Go.Proofs.YtohpimfanplloaaGreatDoor.RuleM Go.RowKit Go.Proofs.YtohpimfanplloaaGreatDoorW.PrintWords Go.Proofs.YtohpimfanplloaaGreatDoorW.PrintLast Go.Proofs.YtohpimfanplloaaGreatDoorW.PrintMore Go.Proofs.YtohpimfanplloaaGreatDoor.GC
abbrev wordsL : List ByteArray := [⟨#[89, 69, 65, 82, 76, 89]⟩, ⟨#[77, 79, 78, 84, 72, 76, 89]⟩, ⟨#[87, 69, 69, 75, 76, 89]⟩, ⟨#[68, 65, 73, 76, 89]⟩, ⟨#[72, 79, 85, 82, 76, 89]⟩, ⟨#[77, 73, 78, 85, 84, 69, 76, 89]⟩, ⟨#[83, 69, 67, 79, 78, 68, 76, 89]⟩]
abbrev daysL : List ByteArray := [⟨#[77, 79]⟩, ⟨#[84, 85]⟩, ⟨#[87, 69]⟩, ⟨#[84, 72]⟩, ⟨#[70, 82]⟩, ⟨#[83, 65]⟩, ⟨#[83, 85]⟩]
theorem row_ad (w : World) (l : List ByteArray) : ∀ i s, l[i]? = some s → (w.alloc (.cells (l.map Value.string).toArray 9)).cell? ((⟨w.heap.size, 0, none⟩ : Addr).add i) = some (.string s) := fun i s hi => by
  have h := blk_new w (.cells (l.map Value.string).toArray 9)
  have e : (⟨w.heap.size, 0, none⟩ : Addr).add i = ⟨w.heap.size, i, none⟩ := by
    unfold Addr.add
    by_cases h0 : i = 0
    · subst h0; rw [if_pos rfl]
    · rw [if_neg h0]; simp
  rw [e, blk_cell h i]
  simp [hi]
def AdIs (w : World) (l : List ByteArray) (e : Ending) (w' : World) : Prop := ∃ ad : Addr, e = .returned (.slice (some ad) 7 7) ∧ (∀ i s, l[i]? = some s → w'.cell? (ad.add i) = some (.string s)) ∧ Below w.heap.size w w'
theorem words_ad (w : World) : Calls Tryz.prog 74 #[] w (AdIs w wordsL) := by
  go_enter Tryz.func74, Tryz.ntmps74
  go_wp2
  go_ret
  exact ⟨_, rfl, row_ad w wordsL, (Below.refl _ _).alloc (Nat.le_refl _) _⟩
theorem wd_ad (w : World) : Calls Tryz.prog 79 #[] w (AdIs w daysL) := by
  go_enter Tryz.func79, Tryz.ntmps79
  go_wp2
  go_ret
  exact ⟨_, rfl, row_ad w daysL, (Below.refl _ _).alloc (Nat.le_refl _) _⟩
theorem rnum_nil (A : Option Addr) (c : Nat) (w : World) : Calls Tryz.prog 77 #[.slice A 0 c] w fun e w' => e = .returned (.string ⟨#[]⟩) ∧ Below w.heap.size w w' := by
  go_enter Tryz.func77, Tryz.ntmps77
  go_wp2_with fail
  go_loopw [3, 8] (fun t i wr => t = .slice none 0 0 ∧ i = .int .i64 0 ∧ Hid (wr = w)) (fun _ i _ => 0)
  case atStart => exact ⟨rfl, rfl, Lib.hid rfl⟩
  case round =>
    obtain ⟨rfl, rfl, HE⟩ := hrel
    have he := HE.out
    clear HE
    subst he
    go_wp2_with fail
    refine (Tryz.strings_Join_none none 0 _ _).mono ?_
    rintro e w1 ⟨rfl, rfl⟩
    go_wp2
    go_ret
    exact ⟨rfl, Below.refl _ _⟩
theorem rdays_nil (A : Option Addr) (c : Nat) (w : World) : Calls Tryz.prog 78 #[.slice A 0 c] w fun e w' => e = .returned (.string ⟨#[]⟩) ∧ Below w.heap.size w w' := by
  go_enter Tryz.func78, Tryz.ntmps78
  go_wp2_with fail
  go_loopw [3, 9] (fun t i wr => t = .slice none 0 0 ∧ i = .int .i64 0 ∧ Hid (wr = w)) (fun _ i _ => 0)
  case atStart => exact ⟨rfl, rfl, Lib.hid rfl⟩
  case round =>
    obtain ⟨rfl, rfl, HE⟩ := hrel
    have he := HE.out
    clear HE
    subst he
    go_wp2_with fail
    refine (Tryz.strings_Join_none none 0 _ _).mono ?_
    rintro e w1 ⟨rfl, rfl⟩
    go_wp2
    go_ret
    exact ⟨rfl, Below.refl _ _⟩
theorem put_no (a b : ByteArray) (p : Value) (w : World) : Calls Tryz.prog 75 #[.string a, .string b, .bool false, p] w fun e w' => e = .returned (.tuple #[]) ∧ w' = w := by
  go_enter Tryz.func75, Tryz.ntmps75
  go_wp2
  first | go_ret | go_ret2 | go_end0 | fail
  exact ⟨rfl, rfl⟩
theorem list_nil (a : ByteArray) (A : Option Addr) (c : Nat) (q : Nat) (p : Value) (w : World) (hq : w.heap[q]? = some (.cells #[.func (.func 75) #[] #[p]] 121)) : Calls Tryz.prog 76 #[.string a, .slice A 0 c, .pointer (some ⟨q, 0, none⟩)] w fun e w' => e = .returned (.tuple #[]) ∧ Below w.heap.size w w' := by
  have HN := Lib.hid (rnum_nil A c w.drew)
  have HQ := Lib.hid (put_no a ⟨#[]⟩ p)
  have HC := Lib.hid hq
  have kq := (blk_cell hq 0).trans rfl
  clear hq
  go_enter Tryz.func76, Tryz.ntmps76
  go_wp2_with fail
  go_region_with (first | (go_at_call 77; (with_reducible refine HN.out.mono ?_); rintro e w5 ⟨rfl, hb5⟩; (have kq5 := (blk_cell (blk_below HC.out (below_then (below_drew (Below.refl _ _)) (Nat.le_refl _) hb5)) 0).trans rfl)) | (go_at_call 75; refine (HQ.out _).mono ?_; rintro e w6 ⟨rfl, rfl⟩))
  all_goals
    go_wp2
    first | go_ret | go_ret2 | go_end0 | skip
    exact ⟨rfl, below_then (below_drew (Below.refl _ _)) (Nat.le_refl _) (by assumption)⟩
theorem itoa_dg (n : Int) (h : 1 ≤ n ∧ n ≤ 4) : strconv_Itoa.f n = some ⟨#[UInt8.ofNat (48 + n.toNat)]⟩ := by
  rcases (by omega : n = 1 ∨ n = 2 ∨ n = 3 ∨ n = 4) with rfl | rfl | rfl | rfl <;> (unfold strconv_Itoa.f Lib.itoa; rw [if_pos (by decide), if_neg (by decide), Lib.decDigits, dif_pos (by decide)])
theorem app_L (a b : List UInt8) : (⟨a.toArray⟩ : ByteArray) ++ ⟨b.toArray⟩ = ⟨(a ++ b).toArray⟩ := by
  apply ByteArray.ext
  simp [ByteArray.data_append]
abbrev wordsO : Obj := .cells #[.string ⟨#[89, 69, 65, 82, 76, 89]⟩, .string ⟨#[77, 79, 78, 84, 72, 76, 89]⟩, .string ⟨#[87, 69, 69, 75, 76, 89]⟩, .string ⟨#[68, 65, 73, 76, 89]⟩, .string ⟨#[72, 79, 85, 82, 76, 89]⟩, .string ⟨#[77, 73, 78, 85, 84, 69, 76, 89]⟩, .string ⟨#[83, 69, 67, 79, 78, 68, 76, 89]⟩] 9
abbrev daysO : Obj := .cells #[.string ⟨#[77, 79]⟩, .string ⟨#[84, 85]⟩, .string ⟨#[87, 69]⟩, .string ⟨#[84, 72]⟩, .string ⟨#[70, 82]⟩, .string ⟨#[83, 65]⟩, .string ⟨#[83, 85]⟩] 9
theorem words_any (w : World) : Calls Tryz.prog 74 #[] w fun e w' => e = .returned (.slice (some ⟨w.heap.size, 0, none⟩) 7 7) ∧ w' = w.alloc wordsO := by
  go_enter Tryz.func74, Tryz.ntmps74
  go_wp2
  go_ret
  exact ⟨rfl, rfl⟩
theorem wd_any (w : World) : Calls Tryz.prog 79 #[] w fun e w' => e = .returned (.slice (some ⟨w.heap.size, 0, none⟩) 7 7) ∧ w' = w.alloc daysO := by
  go_enter Tryz.func79, Tryz.ntmps79
  go_wp2
  go_ret
  exact ⟨rfl, rfl⟩
def RP (w : World) (g : Nat) (vals : Array Value) (s : ByteArray) (b : Nat) (wc : World) : Prop := Below w.heap.size w wc ∧ wc.heap[g]? = some (.cells vals 79) ∧ wc.heap[b]? = some (.cells #[.string s] 9) ∧ g ≠ b ∧ w.heap.size ≤ b
theorem rp_a {w w1 : World} {g : Nat} {vals : Array Value} (hB : Below w.heap.size w w1) (hA : w1.heap[g]? = some (.cells vals 79)) (o : Obj) (s : ByteArray) : RP w g vals s (w1.heap.size + 1) (((w1.alloc o).alloc (.cells #[.string s] 9)).drew) := by
  have hl := blk_lt hA
  have hs := hB.size
  have e : w1.heap.size + 1 = (w1.alloc o).heap.size := by simp
  have hb2 : Below w.heap.size w (w1.alloc o) := hB.alloc hs o
  refine ⟨(hb2.alloc (by rw [← e]; omega) _).drew, ?_, ?_, by omega, by omega⟩
  · exact blk_drew (blk_alloc (blk_alloc hA o) _)
  · exact blk_drew (e ▸ blk_new (w1.alloc o) (.cells #[.string s] 9))
theorem rp_b {w w1 : World} {g : Nat} {vals : Array Value} (hB : Below w.heap.size w w1) (hA : w1.heap[g]? = some (.cells vals 79)) (o : Obj) (s : ByteArray) : RP w g vals s w1.heap.size (((w1.alloc (.cells #[.string s] 9)).alloc o).drew) := by
  have hl := blk_lt hA
  have hs := hB.size
  have hb2 : Below w.heap.size w (w1.alloc (.cells #[.string s] 9)) := hB.alloc hs _
  refine ⟨(hb2.alloc (by simp; omega) _).drew, ?_, ?_, by omega, by omega⟩
  · exact blk_drew (blk_alloc (blk_alloc hA _) o)
  · exact blk_drew (blk_alloc (blk_new w1 (.cells #[.string s] 9)) o)
structure PP (w : World) (g : Nat) (vals : Array Value) (s : ByteArray) (b p : Nat) (wc : World) : Prop where
  bel : Below w.heap.size w wc
  rule : wc.heap[g]? = some (.cells vals 79)
  text : wc.heap[b]? = some (.cells #[.string s] 9)
  put : wc.heap[p]? = some (.cells #[.func (.func 75) #[] #[.pointer (some ⟨b, 0, none⟩)]] 121)
  gb : g ≠ b
  pg : p ≠ g
  pb : p ≠ b
  wb : w.heap.size ≤ b
theorem pp_new {w : World} {g : Nat} {vals : Array Value} {s : ByteArray} {b : Nat} {wc : World} (h : RP w g vals s b wc) : PP w g vals s b wc.heap.size (wc.alloc (.cells #[.func (.func 75) #[] #[.pointer (some ⟨b, 0, none⟩)]] 121)) := by
  obtain ⟨h1, h2, h3, h4, h5⟩ := h
  have l2 := blk_lt h2
  have l3 := blk_lt h3
  exact ⟨h1.alloc h1.size _, blk_alloc h2 _, blk_alloc h3 _, blk_new _ _, h4, by omega, by omega, h5⟩
theorem PP.below {w : World} {g : Nat} {vals : Array Value} {s : ByteArray} {b p : Nat} {wc wd : World} (h : PP w g vals s b p wc) (hb : Below wc.heap.size wc wd) : PP w g vals s b p wd :=
  ⟨h.bel.trans (hb.mono h.bel.size), blk_below h.rule hb, blk_below h.text hb, blk_below h.put hb, h.gb, h.pg, h.pb, h.wb⟩
theorem PP.drew {w : World} {g : Nat} {vals : Array Value} {s : ByteArray} {b p : Nat} {wc : World} (h : PP w g vals s b p wc) : PP w g vals s b p wc.drew := h.below (below_drew (Below.refl _ _))
theorem PP.next {w : World} {g : Nat} {vals : Array Value} {s : ByteArray} {b p : Nat} {wc wd : World} (h : PP w g vals s b p wc) (hb : Below wc.drew.heap.size wc.drew wd) : PP w g vals s b p wd := h.drew.below hb
theorem PP.cp {w : World} {g : Nat} {vals : Array Value} {s : ByteArray} {b p : Nat} {wc : World} (h : PP w g vals s b p wc) : wc.cell? ⟨p, 0, none⟩ = some (.func (.func 75) #[] #[.pointer (some ⟨b, 0, none⟩)]) := (blk_cell h.put 0).trans rfl
theorem PP.cb {w : World} {g : Nat} {vals : Array Value} {s : ByteArray} {b p : Nat} {wc : World} (h : PP w g vals s b p wc) : wc.cell? ⟨b, 0, none⟩ = some (.string s) := (blk_cell h.text 0).trans rfl
theorem PP.cg {w : World} {g : Nat} {vals : Array Value} {s : ByteArray} {b p : Nat} {wc : World} (h : PP w g vals s b p wc) (i : Nat) (v : Value) (hi : vals[i]? = some v) : wc.cell? ⟨g, i, none⟩ = some v := (blk_cell h.rule i).trans hi
set_option maxRecDepth 100000 in
set_option maxHeartbeats 4000000 in
theorem put_count3 {w : World} {g : Nat} {vals : Array Value} {b p : Nat} {wc : World} (c : UInt8) (h : PP w g vals ⟨#[70, 82, 69, 81, 61, 87, 69, 69, 75, 76, 89]⟩ b p wc) (bo : Bool) (hbo : bo = true) : Calls Tryz.prog 75 #[.string ⟨#[67, 79, 85, 78, 84]⟩, .string ⟨#[c]⟩, .bool bo, .pointer (some ⟨b, 0, none⟩)] wc fun e w' => e = .returned (.tuple #[]) ∧ PP w g vals ⟨#[70, 82, 69, 81, 61, 87, 69, 69, 75, 76, 89, 59, 67, 79, 85, 78, 84, 61, c]⟩ b p w' := by
  subst hbo
  have H := Lib.hid h
  have kb := h.cb
  have kf := blk_frozen h.text 0
  have e1 : (⟨#[59]⟩ : ByteArray) ++ ⟨#[67, 79, 85, 78, 84]⟩ = ⟨#[59, 67, 79, 85, 78, 84]⟩ := app_L [59] [67, 79, 85, 78, 84]
  have e2 : (⟨#[59, 67, 79, 85, 78, 84]⟩ : ByteArray) ++ ⟨#[61]⟩ = ⟨#[59, 67, 79, 85, 78, 84, 61]⟩ := app_L [59, 67, 79, 85, 78, 84] [61]
  have e3 : (⟨#[59, 67, 79, 85, 78, 84, 61]⟩ : ByteArray) ++ ⟨#[c]⟩ = ⟨#[59, 67, 79, 85, 78, 84, 61, c]⟩ := app_L [59, 67, 79, 85, 78, 84, 61] [c]
  have e4 : (⟨#[70, 82, 69, 81, 61, 87, 69, 69, 75, 76, 89]⟩ : ByteArray) ++ ⟨#[59, 67, 79, 85, 78, 84, 61, c]⟩ = ⟨#[70, 82, 69, 81, 61, 87, 69, 69, 75, 76, 89, 59, 67, 79, 85, 78, 84, 61, c]⟩ := app_L [70, 82, 69, 81, 61, 87, 69, 69, 75, 76, 89] [59, 67, 79, 85, 78, 84, 61, c]
  clear h
  go_enter Tryz.func75, Tryz.ntmps75
  go_wp2
  first | go_ret | go_ret2 | go_end0 | skip
  refine ⟨rfl, ?_⟩
  have h := H.out
  exact ⟨h.bel.setCell (by exact h.wb) _, blk_far h.rule h.gb _, blk_put h.text 0 _ rfl, blk_far h.put h.pb _, h.gb, h.pg, h.pb, h.wb⟩
set_option maxRecDepth 100000 in
set_option maxHeartbeats 4000000 in
theorem rprint_3 (n : Int) (hn : 1 ≤ n ∧ n ≤ 4) (c : UInt8) (hc : c = UInt8.ofNat (48 + n.toNat)) (A1 : Option Addr) (c1 : Nat) (A2 : Option Addr) (c2 : Nat) (A3 : Option Addr) (c3 : Nat) (A4 : Option Addr) (c4 : Nat) (A5 : Option Addr) (c5 : Nat) (A6 : Option Addr) (c6 : Nat) (A7 : Option Addr) (c7 : Nat) (A8 : Option Addr) (c8 : Nat) (A9 : Option Addr) (c9 : Nat) (w : World) (hG : Glob w) : Calls Tryz.prog 45 #[.agg #[.int .i64 3, .int .i64 1, .int .i64 n, .int .i64 0, .int .i64 0, .bool false, .slice A1 0 c1, .slice A2 0 c2, .slice A3 0 c3, .slice A4 0 c4, .slice A5 0 c5, .slice A6 0 c6, .slice A7 0 c7, .slice A8 0 c8, .slice A9 0 c9]] w fun e w' => e = .returned (.tuple #[.string ⟨#[70, 82, 69, 81, 61, 87, 69, 69, 75, 76, 89, 59, 67, 79, 85, 78, 84, 61, c]⟩, .int .i64 0]) ∧ Below w.heap.size w w' := by
  have HG := Lib.hid hG
  have HM := Lib.hid (fun w => rulemay_ok 3 n (by omega) hn A1 c1 A2 c2 A3 c3 A4 c4 A5 c5 A6 c6 A7 c7 A8 c8 A9 c9 w)
  have HI := Lib.hid (fun w hG => strconv_Itoa.calls n ⟨#[c]⟩ w hG (by rw [hc]; exact itoa_dg n hn))
  have HI1 := Lib.hid (fun w hG => strconv_Itoa.calls 1 ⟨#[49]⟩ w hG (itoa_dg 1 (by omega)))
  have n0 : (n == 0) = false := by simp; omega
  have HN := Lib.hid hn
  clear hG hn hc
  have e1 : (⟨#[70, 82, 69, 81, 61]⟩ : ByteArray) ++ ⟨#[87, 69, 69, 75, 76, 89]⟩ = ⟨#[70, 82, 69, 81, 61, 87, 69, 69, 75, 76, 89]⟩ := app_L [70, 82, 69, 81, 61] [87, 69, 69, 75, 76, 89]
  have HB := Lib.hid ((Below.refl w.heap.size w).alloc (Nat.le_refl _) (.cells #[.int .i64 3, .int .i64 1, .int .i64 n, .int .i64 0, .int .i64 0, .bool false, .slice A1 0 c1, .slice A2 0 c2, .slice A3 0 c3, .slice A4 0 c4, .slice A5 0 c5, .slice A6 0 c6, .slice A7 0 c7, .slice A8 0 c8, .slice A9 0 c9] 79))
  have HA := Lib.hid (blk_new w (.cells #[.int .i64 3, .int .i64 1, .int .i64 n, .int .i64 0, .int .i64 0, .bool false, .slice A1 0 c1, .slice A2 0 c2, .slice A3 0 c3, .slice A4 0 c4, .slice A5 0 c5, .slice A6 0 c6, .slice A7 0 c7, .slice A8 0 c8, .slice A9 0 c9] 79))
  go_enter Tryz.func45, Tryz.ntmps45
  have k0 := (blk_cell HA.out 0).trans rfl
  have k1 := (blk_cell HA.out 1).trans rfl
  have k2 := (blk_cell HA.out 2).trans rfl
  have k3 := (blk_cell HA.out 3).trans rfl
  have k4 := (blk_cell HA.out 4).trans rfl
  have k5 := (blk_cell HA.out 5).trans rfl
  have k6 := (blk_cell HA.out 6).trans rfl
  have k7 := (blk_cell HA.out 7).trans rfl
  have k8 := (blk_cell HA.out 8).trans rfl
  have k9 := (blk_cell HA.out 9).trans rfl
  have k10 := (blk_cell HA.out 10).trans rfl
  have k11 := (blk_cell HA.out 11).trans rfl
  have k12 := (blk_cell HA.out 12).trans rfl
  have k13 := (blk_cell HA.out 13).trans rfl
  have k14 := (blk_cell HA.out 14).trans rfl
  obtain ⟨g, hg⟩ : ∃ g, g = w.heap.size := ⟨_, rfl⟩
  have Hg := Lib.hid hg
  rw [← hg] at HA
  clear hg
  go_wp2_with fail
  refine (HM.out _).mono ?_
  rintro e w1 ⟨rfl, hb⟩
  clear k0 k1 k2 k3 k4 k5 k6 k7 k8 k9 k10 k11 k12 k13 k14
  have HB' := Lib.hid (HB.out.trans (hb.mono HB.out.size))
  have HA' := Lib.hid (blk_below HA.out hb)
  clear HB HA hb
  have HB := HB'
  have HA := HA'
  clear HB' HA'
  rw [← Hg.out]
  have k0 := (blk_cell HA.out 0).trans rfl
  have k1 := (blk_cell HA.out 1).trans rfl
  have k2 := (blk_cell HA.out 2).trans rfl
  have k3 := (blk_cell HA.out 3).trans rfl
  have k4 := (blk_cell HA.out 4).trans rfl
  have k5 := (blk_cell HA.out 5).trans rfl
  have k6 := (blk_cell HA.out 6).trans rfl
  have k7 := (blk_cell HA.out 7).trans rfl
  have k8 := (blk_cell HA.out 8).trans rfl
  have k9 := (blk_cell HA.out 9).trans rfl
  have k10 := (blk_cell HA.out 10).trans rfl
  have k11 := (blk_cell HA.out 11).trans rfl
  have k12 := (blk_cell HA.out 12).trans rfl
  have k13 := (blk_cell HA.out 13).trans rfl
  have k14 := (blk_cell HA.out 14).trans rfl
  go_wp2_with fail
  have hg1 := blk_lt HA.out
  have hg2 : g ≠ w1.heap.size := by omega
  have hg3 : w1.heap.size ≠ g := by omega
  have hg4 : g ≠ w1.heap.size + 1 := by omega
  have hg5 : w1.heap.size + 1 ≠ g := by omega
  go_cut [4] (fun v4 wc => ∃ b : Nat, v4 = .pointer (some ⟨b, 0, none⟩) ∧ Hid (RP w g #[.int .i64 3, .int .i64 1, .int .i64 n, .int .i64 0, .int .i64 0, .bool false, .slice A1 0 c1, .slice A2 0 c2, .slice A3 0 c3, .slice A4 0 c4, .slice A5 0 c5, .slice A6 0 c6, .slice A7 0 c7, .slice A8 0 c8, .slice A9 0 c9] ⟨#[70, 82, 69, 81, 61, 87, 69, 69, 75, 76, 89]⟩ b wc))
  case first =>
    go_region_with (go_at_call 74; refine (words_any _).mono ?_; rintro e w5 ⟨rfl, rfl⟩)
    all_goals
      go_wp2_with fail
      go_meet
      first | exact ⟨_, rfl, Lib.hid (rp_a HB.out HA.out _ _)⟩ | exact ⟨_, rfl, Lib.hid (rp_b HB.out HA.out _ _)⟩ | fail
  case rest =>
    clear k0 k1 k2 k3 k4 k5 k6 k7 k8 k9 k10 k11 k12 k13 k14 hg1 hg2 hg3 hg4 hg5
    obtain ⟨b, rfl, HR⟩ := hcut
    have HB' := Lib.hid HR.out.1
    have HA' := Lib.hid HR.out.2.1
    have HS := Lib.hid HR.out.2.2.1
    have hgb := HR.out.2.2.2.1
    have HWB := Lib.hid HR.out.2.2.2.2
    clear HA HB
    have HB := HB'
    have HA := HA'
    clear HB' HA'
    have hg1 := blk_lt HA.out
    have hg2 : g ≠ wc.heap.size := by omega
    have hg3 : wc.heap.size ≠ g := by omega
    have hb1 := blk_lt HS.out
    have hb2 : b ≠ wc.heap.size := by omega
    have hb3 : wc.heap.size ≠ b := by omega
    have k0 := (blk_cell HA.out 0).trans rfl
    have k1 := (blk_cell HA.out 1).trans rfl
    have k2 := (blk_cell HA.out 2).trans rfl
    have k3 := (blk_cell HA.out 3).trans rfl
    have k4 := (blk_cell HA.out 4).trans rfl
    have k5 := (blk_cell HA.out 5).trans rfl
    have k6 := (blk_cell HA.out 6).trans rfl
    have k7 := (blk_cell HA.out 7).trans rfl
    have k8 := (blk_cell HA.out 8).trans rfl
    have k9 := (blk_cell HA.out 9).trans rfl
    have k10 := (blk_cell HA.out 10).trans rfl
    have k11 := (blk_cell HA.out 11).trans rfl
    have k12 := (blk_cell HA.out 12).trans rfl
    have k13 := (blk_cell HA.out 13).trans rfl
    have k14 := (blk_cell HA.out 14).trans rfl
    obtain ⟨q, hq⟩ : ∃ q, stamp_Text.f 20 0 = some q := Option.isSome_iff_exists.1 (by decide +kernel)
    have HT := Lib.hid (fun w hG => stamp_Text.calls 20 0 q.1 q.2 w hG hq)
    have HP := Lib.hid (pp_new HR.out)
    obtain ⟨p, hp⟩ : ∃ p, p = wc.heap.size := ⟨_, rfl⟩
    clear hq
    go_wp2_with fail
    refine (HT.out _ (HG.out.below HP.out.bel)).mono ?_
    rintro e w2 ⟨rfl, hb⟩
    have HP' := Lib.hid (HP.out.below hb)
    clear hb HP k0 k1 k2 k3 k4 k5 k6 k7 k8 k9 k10 k11 k12 k13 k14 hg1 hg2 hg3 hb1 hb2 hb3
    have HP := HP'
    clear HP' HT
    go_wp2_with fail
    have kp := HP.out.cp
    have k1 := HP.out.cg 1 _ rfl
    have HIw := Lib.hid (HI1.out _ (HG.out.below HP.out.drew.bel))
    go_region_held3 (fun w' => w'.cell? ⟨wc.heap.size, 0, none⟩ = some (.func (.func 75) #[] #[.pointer (some ⟨b, 0, none⟩)]) ∧ w'.cell? ⟨g, 1, none⟩ = some (.int .i64 1)) (((try dsimp only); (repeat' apply And.intro) <;> first | (with_reducible assumption) | go_keep)) (first | (go_at_call 44; (with_reducible refine HIw.out.mono ?_); rintro e w5 ⟨rfl, hb5⟩; (have hp5 := HP.out.next hb5); (have kp5 := hp5.cp); (have k5 := hp5.cg 1 _ rfl)) | (go_at_call 75; refine (put_no _ _ _ _).mono ?_; rintro e w6 ⟨rfl, rfl⟩))
    have HP' := Lib.hid hp5
    clear kp k1 HIw HP kp5 k5 hp5 hb5
    have HP := HP'
    clear HP'
    go_wp2_with fail
    have kp := HP.out.cp
    have k2 := HP.out.cg 2 _ rfl
    have HIw := Lib.hid (HI.out _ (HG.out.below HP.out.drew.bel))
    go_region_held3 (fun w' => w'.cell? ⟨wc.heap.size, 0, none⟩ = some (.func (.func 75) #[] #[.pointer (some ⟨b, 0, none⟩)]) ∧ w'.cell? ⟨g, 2, none⟩ = some (.int .i64 n)) (((try dsimp only); (repeat' apply And.intro) <;> first | (with_reducible assumption) | go_keep)) (first | (go_at_call 44; (with_reducible refine HIw.out.mono ?_); rintro e w5 ⟨rfl, hb5⟩; (have hp5 := HP.out.next hb5); (have kp5 := hp5.cp); (have k5 := hp5.cg 2 _ rfl)) | (go_at_call 75; refine (put_count3 c hp5 _ ?_).mono ?_; (· (have hnn := HN.out; first | rfl | (simp; omega))); rintro e w6 ⟨rfl, hp6⟩; (have kp6 := hp6.cp); (have k6 := hp6.cg 2 _ rfl)))
    have HP' := Lib.hid hp6
    clear kp k2 HIw HP kp5 k5 hp5 hb5 kp6 k6 hp6
    have HP := HP'
    clear HP'
    have kp := HP.out.cp
    have k5 := HP.out.cg 5 _ rfl
    go_wp2_with fail
    refine (put_no _ _ _ _).mono ?_
    rintro e w7 ⟨rfl, rfl⟩
    clear k5
    have k6 := HP.out.cg 6 _ rfl
    go_wp2_with fail
    refine (list_nil _ _ _ _ _ _ HP.out.put).mono ?_
    rintro e w8 ⟨rfl, hb⟩
    have HP' := Lib.hid (HP.out.below hb)
    clear hb HP kp k6
    have HP := HP'
    clear HP'
    have kp := HP.out.cp
    have k7 := HP.out.cg 7 _ rfl
    go_wp2_with fail
    refine (list_nil _ _ _ _ _ _ HP.out.put).mono ?_
    rintro e w8 ⟨rfl, hb⟩
    have HP' := Lib.hid (HP.out.below hb)
    clear hb HP kp k7
    have HP := HP'
    clear HP'
    have kp := HP.out.cp
    have k8 := HP.out.cg 8 _ rfl
    go_wp2_with fail
    refine (list_nil _ _ _ _ _ _ HP.out.put).mono ?_
    rintro e w8 ⟨rfl, hb⟩
    have HP' := Lib.hid (HP.out.below hb)
    clear hb HP kp k8
    have HP := HP'
    clear HP'
    have kp := HP.out.cp
    have k9 := HP.out.cg 9 _ rfl
    go_wp2_with fail
    refine (list_nil _ _ _ _ _ _ HP.out.put).mono ?_
    rintro e w8 ⟨rfl, hb⟩
    have HP' := Lib.hid (HP.out.below hb)
    clear hb HP kp k9
    have HP := HP'
    clear HP'
    have kp := HP.out.cp
    go_wp2_with fail
    clear kp
    have kp := HP.out.cp
    have k10 := HP.out.cg 10 _ rfl
    have HIw := Lib.hid (rdays_nil A5 c5 w8.drew)
    go_region_held3 (fun w' => w'.cell? ⟨wc.heap.size, 0, none⟩ = some (.func (.func 75) #[] #[.pointer (some ⟨b, 0, none⟩)]) ∧ w'.cell? ⟨g, 10, none⟩ = some (.slice A5 0 c5)) (((try dsimp only); (repeat' apply And.intro) <;> first | (with_reducible assumption) | go_keep)) (first | (go_at_call 78; (with_reducible refine HIw.out.mono ?_); rintro e w5 ⟨rfl, hb5⟩; (have hp5 := HP.out.next hb5); (have kp5 := hp5.cp); (have k5 := hp5.cg 10 _ rfl)) | (go_at_call 75; refine (put_no _ _ _ _).mono ?_; rintro e w6 ⟨rfl, rfl⟩))
    have HP' := Lib.hid hp5
    clear kp k10 HIw HP kp5 k5 hp5 hb5
    have HP := HP'
    clear HP'
    have kp := HP.out.cp
    have k11 := HP.out.cg 11 _ rfl
    go_wp2_with fail
    refine (list_nil _ _ _ _ _ _ HP.out.put).mono ?_
    rintro e w8 ⟨rfl, hb⟩
    have HP' := Lib.hid (HP.out.below hb)
    clear hb HP kp k11
    have HP := HP'
    clear HP'
    have kp := HP.out.cp
    have k12 := HP.out.cg 12 _ rfl
    go_wp2_with fail
    refine (list_nil _ _ _ _ _ _ HP.out.put).mono ?_
    rintro e w8 ⟨rfl, hb⟩
    have HP' := Lib.hid (HP.out.below hb)
    clear hb HP kp k12
    have HP := HP'
    clear HP'
    have kp := HP.out.cp
    have k13 := HP.out.cg 13 _ rfl
    go_wp2_with fail
    refine (list_nil _ _ _ _ _ _ HP.out.put).mono ?_
    rintro e w8 ⟨rfl, hb⟩
    have HP' := Lib.hid (HP.out.below hb)
    clear hb HP kp k13
    have HP := HP'
    clear HP'
    have kp := HP.out.cp
    have k14 := HP.out.cg 14 _ rfl
    go_wp2_with fail
    refine (list_nil _ _ _ _ _ _ HP.out.put).mono ?_
    rintro e w8 ⟨rfl, hb⟩
    have HP' := Lib.hid (HP.out.below hb)
    clear hb HP kp k14
    have HP := HP'
    clear HP'
    have kp := HP.out.cp
    go_wp2_with fail
    have kb := HP.out.cb
    have k4 := HP.out.cg 4 _ rfl
    have l1 := blk_lt HP.out.put
    have l2 := blk_lt HP.out.rule
    have l3 := blk_lt HP.out.text
    have m1 : wc.heap.size ≠ w8.heap.size := by omega
    have m2 : w8.heap.size ≠ wc.heap.size := by omega
    have m3 : g ≠ w8.heap.size := by omega
    have m4 : w8.heap.size ≠ g := by omega
    have m5 : b ≠ w8.heap.size := by omega
    have m6 : w8.heap.size ≠ b := by omega
    go_region_with (first | (go_at_call 79; refine (wd_any _).mono ?_; rintro e w5 ⟨rfl, rfl⟩) | (go_at_call 75; refine (put_no _ _ _ _).mono ?_; rintro e w6 ⟨rfl, rfl⟩))
    all_goals
      go_wp2
      first | go_ret | go_ret2 | skip
      first | exact ⟨rfl, (HP.out.bel.alloc HP.out.bel.size _).drew⟩ | exact ⟨rfl, HP.out.bel.drew.alloc HP.out.bel.size _⟩ | fail
end Go.Proofs.YtohpimfanplloaaGreatDoor.RuleP
