/- package script's Print and Parse, as the plain lists have them. -/
import Derived.Test.YtohpimfanplloaaGreatDoorZPureS3
import Derived.Test.YtohpimfanplloaaGreatDoorZGCx10
set_option linter.unusedVariables false
set_option linter.unusedSimpArgs false
namespace Go.Proofs.YtohpimfanplloaaGreatDoor.PureS4
open Go Go.RowKit Go.Proofs.YtohpimfanplloaaGreatDoorW.PrintWords Go.Proofs.YtohpimfanplloaaGreatDoorW.PrintLast Go.Proofs.YtohpimfanplloaaGreatDoorW.PrintMore Go.Proofs.YtohpimfanplloaaGreatDoor.GC Go.Proofs.YtohpimfanplloaaGreatDoor.PureS1 Go.Proofs.YtohpimfanplloaaGreatDoor.PureS2 Go.Proofs.YtohpimfanplloaaGreatDoor.PureS3

/-- What a printer asks of an act. -/
structure Ok (x : A8) : Prop where
  a : i64 x.a
  b : i64 x.b
  id : i64 x.id
  op : i64 x.op
  old : i64 x.old
  us : ∀ y ∈ x.us, i64 y
  ul : x.us.length ≤ 100000
  tx : ∀ y ∈ x.tx, 0 ≤ y ∧ y ≤ 255
  tl : x.tx.length ≤ 1000000
theorem words_wd (k : Int) (h1 : 1 ≤ k) (h8 : k ≤ 8) : ∃ t, script_words.f = some t ∧ t.length = 8 ∧ rdOf ByteArray.empty t (k - 1) = B (wd k) ∧ strs t = wds := by
  refine ⟨_, rfl, rfl, ?_, rfl⟩
  apply L_inj
  rw [rd_pc]
  rfl
theorem wd_len (k : Int) : (wd k).length ≤ 7 := by
  unfold wd
  rw [List.getD_eq_getElem?_getD]
  cases h : wds[(k - 1).toNat]? with
  | none => simp
  | some p =>
    have hm := List.mem_of_getElem? h
    have : wds.all (fun p => decide (p.length ≤ 7)) = true := by decide
    exact of_decide_eq_true (List.all_eq_true.1 this p hm)
theorem dig_len (b : List Int) : (dig b).length ≤ 2 * b.length + 1 := by
  unfold dig
  split
  · simp
  · rw [two_len]; omega
theorem joinf (ps : List (List UInt8)) (sep : List UInt8) (h1 : (Lib.join ps sep).length ≤ 140737488355328) (h2 : ps.length ≤ 140737488355328) :
    strings_Join.f (ps.map B) (B sep) = some (B (Lib.join ps sep)) := by
  unfold strings_Join.f
  rw [strs_map, List.length_map]
  exact if_pos ⟨h1, h2⟩
theorem join_len2 (x y : List UInt8) : (Lib.join [x, y] [32]).length = x.length + 1 + y.length := by
  rw [join_cons2, Lib.join_one]; simp; omega
theorem join_len3 (x y z : List UInt8) : (Lib.join [x, y, z] [32]).length = x.length + 1 + y.length + 1 + z.length := by
  rw [join_cons2, join_cons2, Lib.join_one]; simp; omega
theorem join_len4 (x y z u : List UInt8) : (Lib.join [x, y, z, u] [32]).length = x.length + 1 + y.length + 1 + z.length + 1 + u.length := by
  rw [join_cons2, join_cons2, join_cons2, Lib.join_one]; simp; omega
theorem print_eq (k : Nat) (x : A8) (h : Ok x) (hk : 2000001 < k) : script_Print.f k x.k x.a x.b x.id x.op x.old x.us x.tx = some (B (pr x)) := by
  obtain ⟨j, rfl⟩ : ∃ j, k = j + 1 := ⟨k - 1, by omega⟩
  have hb : script_Print.f (j + 1) x.k x.a x.b x.id x.op x.old x.us x.tx = script_Print.j0 (j + 1) (decide (x.k < 1 ∨ 8 < x.k)) x.k x.a x.b x.id x.op x.old x.us x.tx := by
    unfold script_Print.f
    by_cases c : x.k < 1
    · rw [if_pos c, decide_eq_true (.inl c)]
    · rw [if_neg c]
      congr 1
      simp [c]
  rw [hb, script_Print.j0]
  unfold pr
  by_cases c : x.k < 1 ∨ 8 < x.k
  · rw [if_pos (decide_eq_true c), if_pos c]
  · rw [if_neg (by rw [decide_eq_false c]; decide), if_neg c]
    obtain ⟨t, ht, htl, hw, _⟩ := words_wd x.k (by omega) (by omega)
    have e1 : wrap64 (x.k - 1) = x.k - 1 := by unfold wrap64; omega
    rw [ht, Option.bind_some, e1, if_pos (by omega), if_pos (by rw [htl]; omega), hw, Option.bind_some]
    have w7 := wd_len x.k
    by_cases e : x.k = 1
    · have hd := dig_len x.tx
      have hl := lst_len x.us h.us
      have hul := h.ul
      have htl := h.tl
      have i1 := itoa_len _ h.id
      have i2 := itoa_len _ h.op
      have i3 := itoa_len _ h.old
      have q1 := list_eq j [x.id, x.op, x.old] [32] [] rfl (by simp) (by
        intro y hy
        simp only [List.mem_cons, List.not_mem_nil, or_false] at hy
        rcases hy with rfl | rfl | rfl
        · exact h.id
        · exact h.op
        · exact h.old) (by simp only [List.length_cons, List.length_nil]; omega)
      have q2 := list_eq j x.us [44] [45] rfl (by omega) h.us (by omega)
      have q2' : script_list.f j x.us (B [44]) (B [45]) = some (B (lst x.us)) := by
        rw [q2]
        unfold lst
        by_cases e : x.us = []
        · rw [if_pos e, if_pos e]
        · rw [if_neg e, if_neg e]
      rw [if_neg (by simp)] at q1
      simp only [List.map_cons, List.map_nil] at q1
      rw [if_pos e, if_pos e, q1, Option.bind_some, q2', Option.bind_some, digits_eq j x.tx h.tx h.tl (by omega), Option.bind_some, Option.bind_some,
        if_pos (by simp only [List.length_cons, List.length_nil]; omega)]
      have e4 : ([B (wd x.k)] ++ [B (Lib.join [Lib.itoa x.id, Lib.itoa x.op, Lib.itoa x.old] [32]), B (lst x.us), B (dig x.tx)] : List ByteArray) = [wd x.k, Lib.join [Lib.itoa x.id, Lib.itoa x.op, Lib.itoa x.old] [32], lst x.us, dig x.tx].map B := rfl
      rw [e4, joinf _ [32] (by rw [join_len4, join_len3]; omega) (by simp), Option.bind_some, e]
    · have i1 := itoa_len _ h.a
      have i2 := itoa_len _ h.b
      have q1 := list_eq j [x.a, x.b] [32] [] rfl (by simp) (by
        intro y hy
        simp only [List.mem_cons, List.not_mem_nil, or_false] at hy
        rcases hy with rfl | rfl
        · exact h.a
        · exact h.b) (by simp only [List.length_cons, List.length_nil]; omega)
      rw [if_neg (by simp)] at q1
      simp only [List.map_cons, List.map_nil] at q1
      rw [if_neg e, if_neg e, q1, Option.bind_some, if_pos (by simp)]
      have e4 : ([B (wd x.k)] ++ [B (Lib.join [Lib.itoa x.a, Lib.itoa x.b] [32])] : List ByteArray) = [wd x.k, Lib.join [Lib.itoa x.a, Lib.itoa x.b] [32]].map B := rfl
      rw [e4, joinf _ [32] (by rw [join_len2, join_len2]; omega) (by simp), Option.bind_some]
theorem z64 : i64 0 := ⟨by decide, by decide⟩
theorem rdA_ok (kd : Int) (l : List UInt8) (hl : l.length ≤ 99999) : Ok (rdA kd (sp 32 l)) := by
  have hu : (un (pc (sp 32 l) 5)).length ≤ 1000000 := by
    have := pc_len l 32 5
    rw [un_len]; omega
  have hs : (usOf (pc (sp 32 l) 4)).length ≤ 100000 := by
    unfold usOf
    split
    · simp
    · rw [List.length_map]
      have := sp_len 44 (pc (sp 32 l) 4)
      have := pc_len l 32 4
      omega
  have hi : ∀ y ∈ usOf (pc (sp 32 l) 4), i64 y := by
    intro y hy
    unfold usOf at hy
    split at hy
    · cases hy
    · obtain ⟨p, _, rfl⟩ := List.mem_map.1 hy
      exact an_range p
  unfold rdA
  split
  · exact ⟨z64, z64, an_range _, an_range _, an_range _, hi, hs, fun y hy => un_bytes _ y hy, hu⟩
  · exact ⟨an_range _, an_range _, z64, z64, z64, fun y hy => (by cases hy), Nat.zero_le _, fun y hy => (by cases hy), Nat.zero_le _⟩
def tup9 (x : A8 × Int) : Int × Int × Int × Int × Int × Int × List Int × List Int × Int := (x.1.k, x.1.a, x.1.b, x.1.id, x.1.op, x.1.old, x.1.us, x.1.tx, x.2)
theorem parse_j1 (k : Nat) (s : ByteArray) (ps : List ByteArray) (hps : strs ps = sp 32 (L s)) (hs : s.size ≤ 99999) (kd : Int) (hkd : kd = kindOf (pc (sp 32 (L s)) 0)) (hk : 2000002 < k) :
    script_Parse.j1 k s ps kd (wide kd : Int) = some (tup9 (parse (L s))) := by
  obtain ⟨j, rfl⟩ : ∃ j, k = j + 1 := ⟨k - 1, by omega⟩
  have hlen : ps.length = (sp 32 (L s)).length := by rw [← hps, strs_len]
  rw [script_Parse.j1]
  unfold parse
  rw [← hkd]
  by_cases c0 : kd = 0
  · rw [if_pos c0, if_pos c0]; rfl
  · rw [if_neg c0, if_neg c0, ← hlen]
    by_cases c1 : ps.length < wide kd
    · rw [if_pos (by omega), if_pos c1]; rfl
    · rw [if_neg (by omega), if_neg c1]
      have hsz : ∀ i, (pc (strs ps) i).length ≤ 100000 := fun i => by
        rw [hps]
        have := pc_len (L s) 32 i
        rw [← size_L] at this
        omega
      have hok := rdA_ok kd (L s) (by rw [← size_L]; exact hs)
      rw [read_eq j kd ps (by omega) hsz (by omega), Option.bind_some, hps]
      have hp := print_eq j _ hok (by omega)
      simp only [tup]
      rw [hp, Option.bind_some, toL, toL, L_B]
      by_cases c2 : pr (rdA kd (sp 32 (L s))) = L s
      · rw [if_pos c2, if_pos c2]; rfl
      · rw [if_neg c2, if_neg c2]; rfl
/-- the words' search -/
def ks (p : List UInt8) : List (List UInt8) → Int → Int → Int
  | [], _, kd => kd
  | w :: r, i, kd => ks p r (i + 1) (if w = p then i + 1 else kd)
theorem ks_kind (p : List UInt8) : ks p wds 0 0 = kindOf p := by
  unfold kindOf
  by_cases h : p ∈ wds
  · have : wds.all (fun p => decide (ks p wds 0 0 = (wds.idxOf p : Int) + 1)) = true := by decide +kernel
    rw [if_pos h]
    exact of_decide_eq_true (List.all_eq_true.1 this p h)
  · rw [if_neg h]
    have hn : ∀ l i kd, p ∉ l → ks p l i kd = kd := by
      intro l
      induction l with
      | nil => intro i kd _; rfl
      | cons w r ih =>
        intro i kd hp
        have hne : w ≠ p := by
          rintro rfl
          exact hp List.mem_cons_self
        rw [ks, if_neg hne]
        exact ih _ _ (fun hr => hp (List.mem_cons_of_mem _ hr))
    exact hn wds 0 0 h
theorem parse_loop (k0 : Nat) (s : ByteArray) (ps : List ByteArray) (hps : strs ps = sp 32 (L s)) (hs : s.size ≤ 99999) (hk0 : 2000002 < k0) (t : List ByteArray) (ht : strs t = wds) : ∀ (d i k : Nat) (kd : Int), 8 - i = d → i ≤ 8 → d + k0 < k →
    ks (pc (sp 32 (L s)) 0) (wds.drop i) (i : Int) kd = kindOf (pc (sp 32 (L s)) 0) → script_Parse.l0 k s ps kd t 8 (i : Int) = some (tup9 (parse (L s))) := by
  have htl : t.length = 8 := by rw [← strs_len, ht]; rfl
  have hp0 : 0 < ps.length := by
    rw [← strs_len, hps]
    exact List.length_pos_iff.2 (sp_ne 32 _)
  intro d
  induction d with
  | zero =>
    intro i k kd hd hi hk hq
    obtain ⟨j, rfl⟩ : ∃ j, k = j + 1 := ⟨k - 1, by omega⟩
    obtain rfl : i = 8 := by omega
    have hq' : kd = kindOf (pc (sp 32 (L s)) 0) := hq
    rw [script_Parse.l0, if_neg (by omega)]
    by_cases e : kd = 1
    · rw [if_pos e]
      have := parse_j1 j s ps hps hs kd hq' (by omega)
      rw [show wide kd = 6 by unfold wide; rw [if_pos e]] at this
      exact this
    · rw [if_neg e]
      have := parse_j1 j s ps hps hs kd hq' (by omega)
      rw [show wide kd = 3 by unfold wide; rw [if_neg e]] at this
      exact this
  | succ d ih =>
    intro i k kd hd hi hk hq
    obtain ⟨j, rfl⟩ : ∃ j, k = j + 1 := ⟨k - 1, by omega⟩
    have hlt : i < wds.length := by show i < 8; omega
    have e1 : L (rdOf ByteArray.empty t (i : Int)) = wds[i] := by
      rw [rd_pc, ht]
      unfold pc
      rw [Int.toNat_natCast, List.getD_eq_getElem?_getD, List.getElem?_eq_getElem hlt, Option.getD_some]
    have e2 : L (rdOf ByteArray.empty ps 0) = pc (sp 32 (L s)) 0 := by rw [rd_pc, hps]; rfl
    rw [List.drop_eq_getElem_cons hlt, ks] at hq
    have hw : wrap64 (1 + (i : Int)) = (i : Int) + 1 := by unfold wrap64; omega
    generalize wds[i] = w0 at *
    clear hlt ht hps
    rw [script_Parse.l0, if_pos (by omega), if_pos (by omega), if_pos (by omega), if_pos (by omega), toL, toL, e1, e2, w1 i (by omega), hw]
    by_cases c : w0 = pc (sp 32 (L s)) 0
    · rw [if_pos c]
      rw [if_pos c] at hq
      exact ih (i + 1) j _ (by omega) (by omega) (by omega) (by rw [show ((i + 1 : Nat) : Int) = (i : Int) + 1 by omega]; exact hq)
    · rw [if_neg c]
      rw [if_neg c] at hq
      exact ih (i + 1) j _ (by omega) (by omega) (by omega) (by rw [show ((i + 1 : Nat) : Int) = (i : Int) + 1 by omega]; exact hq)
theorem parse_f (k : Nat) (s : ByteArray) (hs : s.size ≤ 99999) (hk : 2000020 < k) : script_Parse.f k s = some (tup9 (parse (L s))) := by
  unfold script_Parse.f
  obtain ⟨ps, hq, hps⟩ := split_eq s 32 (by omega)
  obtain ⟨t, ht, htl, _, hts⟩ := words_wd 1 (by omega) (by omega)
  rw [hq, Option.bind_some, ht, Option.bind_some, htl]
  exact parse_loop 2000003 s ps hps hs (by omega) t hts 8 0 k 0 (by omega) (by omega) (by omega) (by rw [List.drop_zero]; exact ks_kind _)
/-- what the chapter's examples fix -/
theorem itoa1 : Lib.itoa 1 = [49] := by
  unfold Lib.itoa
  rw [if_neg (by decide), show (1 : Int).toNat = 1 from rfl, Lib.decDigits, dif_pos (by decide)]
  rfl
theorem itoa0 : Lib.itoa 0 = [48] := by
  unfold Lib.itoa
  rw [if_neg (by decide), show (0 : Int).toNat = 0 from rfl, Lib.decDigits, dif_pos (by decide)]
  rfl
def tick10 : A8 := ⟨5, 1, 0, 0, 0, 0, [], []⟩
theorem pr10 : pr tick10 = [116, 105, 99, 107, 32, 49, 32, 48] := by
  rw [pr_other tick10 (by decide) (by decide) (by decide)]
  show Lib.join [wd 5, Lib.itoa 1, Lib.itoa 0] [32] = _
  rw [itoa1, itoa0]
  rfl
theorem ex1 : parse [116, 105, 99, 107, 32, 49, 32, 48] = (tick10, 0) := by
  rw [← pr10]
  exact parse_of_pr tick10 (by decide) (by decide) (fun y hy => by cases hy) ⟨by decide, by decide⟩ z64 z64 z64 z64 (fun y hy => by cases hy) (by
    rw [if_neg (by decide)]
    exact ⟨rfl, rfl, rfl, rfl, rfl⟩)
theorem ex2 : parse [116, 105, 99, 107] = (a0, 2) := by
  unfold parse
  rw [if_neg (by decide), if_pos (by decide)]
theorem ex3 : parse [103, 111, 32, 49] = (a0, 6) := by
  unfold parse
  rw [if_pos (by decide)]
theorem ex4 : parse [116, 105, 99, 107, 32, 48, 49, 32, 48] = (a0, 4) := by
  unfold parse
  have hs : sp 32 [116, 105, 99, 107, 32, 48, 49, 32, 48] = [[116, 105, 99, 107], [48, 49], [48]] := by decide
  have hk : kindOf (pc (sp 32 [116, 105, 99, 107, 32, 48, 49, 32, 48]) 0) = 5 := by decide
  rw [hk, if_neg (by decide), if_neg (by decide)]
  have hr : rdA 5 (sp 32 [116, 105, 99, 107, 32, 48, 49, 32, 48]) = tick10 := by
    rw [hs]
    rfl
  rw [hr, if_neg]
  rw [other_iff tick10 (by decide) (by decide) (by decide), hs]
  show ¬ [wd 5, Lib.itoa 1, Lib.itoa 0] = _
  rw [itoa1]
  intro h
  injection h with _ h
  injection h with h _
  exact absurd h (by decide)
end Go.Proofs.YtohpimfanplloaaGreatDoor.PureS4
