/- The document's reader, as the plain lists have it. -/
import Derived.Test.YtleljfmhefobeaaDoorPureS5
import Derived.Test.YtleljfmhefobeaaDoorPureS6
import Derived.Test.YtleljfmhefobeaaDoorGLx9
set_option linter.unusedVariables false
set_option linter.unusedSimpArgs false
namespace Go.Proofs.YtleljfmhefobeaaDoor.PureS7
open Go Go.RowKit Go.Proofs.YtleljfmhefobeaaDoorW.PrintWords Go.Proofs.YtleljfmhefobeaaDoorW.PrintLast Go.Proofs.YtleljfmhefobeaaDoorW.PrintMore Go.Proofs.YtleljfmhefobeaaDoor.GL Go.Proofs.YtleljfmhefobeaaDoor.PureS1 Go.Proofs.YtleljfmhefobeaaDoor.PureS2 Go.Proofs.YtleljfmhefobeaaDoor.PureS3 Go.Proofs.YtleljfmhefobeaaDoor.PureSD Go.Proofs.YtleljfmhefobeaaDoor.PureS4 Go.Proofs.YtleljfmhefobeaaDoor.PureS5 Go.Proofs.YtleljfmhefobeaaDoor.PureS6

theorem vparse_j1 (k : Nat) (s : ByteArray) (ps : List ByteArray) (hps : strs ps = sp 32 (L s)) (hs : s.size ≤ 99999) (kd : Int) (hkd : kd = kindOf (pc (sp 32 (L s)) 0)) (hk : 2000002 < k) :
    vokref25_Parse.j1 k ps (wide kd : Int) kd 0 0 0 0 0 = some (tup9 (vparse (L s))) := by
  obtain ⟨j, rfl⟩ : ∃ j, k = j + 1 := ⟨k - 1, by omega⟩
  have hlen : ps.length = (sp 32 (L s)).length := by rw [← hps, strs_len]
  have hsz : ∀ i : Int, (rdOf ByteArray.empty ps i).size ≤ 100000 := fun i => by
    refine size_rd ps i 100000 ?_
    rw [hps]
    have := pc_len (L s) 32 i.toNat
    rw [← size_L] at this
    omega
  have hp : ∀ i : Nat, L (rdOf ByteArray.empty ps (i : Int)) = pc (sp 32 (L s)) i := fun i => by rw [rd_pc, hps, Int.toNat_natCast]
  rw [vokref25_Parse.j1]
  unfold vparse
  rw [← hkd]
  by_cases c0 : kd = 0
  · rw [if_pos c0, if_pos c0]; rfl
  rw [if_neg c0, if_neg c0, ← hlen]
  by_cases c1 : ps.length < wide kd
  · rw [if_pos (by omega), if_pos c1]; rfl
  rw [if_neg (by omega), if_neg c1]
  by_cases c2 : ps.length > wide kd
  · rw [if_pos (by omega), if_pos c2]; rfl
  rw [if_neg (by omega), if_neg c2]
  obtain ⟨v1, b1, h1, e1, g1⟩ := num_eq j (rdOf ByteArray.empty ps 1) (by omega)
  obtain ⟨v2, b2, h2, e2, g2⟩ := num_eq j (rdOf ByteArray.empty ps 2) (by omega)
  have hw3 : 3 ≤ wide kd := by unfold wide; split <;> omega
  rw [show L (rdOf ByteArray.empty ps 1) = pc (sp 32 (L s)) 1 from hp 1] at e1 g1
  rw [show L (rdOf ByteArray.empty ps 2) = pc (sp 32 (L s)) 2 from hp 2] at e2 g2
  rw [if_pos (by omega), h1]
  simp only [Option.bind_some]
  rw [if_pos (by omega), h2]
  simp only [Option.bind_some]
  by_cases e : kd = 1
  · have hw : wide kd = 6 := by unfold wide; rw [if_pos e]
    obtain ⟨v3, b3, h3, e3, g3⟩ := num_eq j (rdOf ByteArray.empty ps 3) (by omega)
    obtain ⟨v4, b4, h4, e4, g4⟩ := vlist_eq j (rdOf ByteArray.empty ps 4) (by have := hsz 4; omega) (by have := hsz 4; omega)
    obtain ⟨v5, b5, h5, e5, g5⟩ := vunhex_eq j (rdOf ByteArray.empty ps 5) (by have := hsz 5; omega) (by have := hsz 5; omega)
    rw [show L (rdOf ByteArray.empty ps 3) = pc (sp 32 (L s)) 3 from hp 3] at e3 g3
    rw [show L (rdOf ByteArray.empty ps 4) = pc (sp 32 (L s)) 4 from hp 4] at e4 g4
    rw [show L (rdOf ByteArray.empty ps 5) = pc (sp 32 (L s)) 5 from hp 5] at e5 g5
    have hok : ok kd (sp 32 (L s)) = (b1 && b2 && b3 && b4 && b5) := by
      unfold ok
      rw [if_pos e, e1, e2, e3, e4, e5]
    have hrd : rdA kd (sp 32 (L s)) = ⟨1, 0, 0, an (pc (sp 32 (L s)) 1), an (pc (sp 32 (L s)) 2), an (pc (sp 32 (L s)) 3), usOf (pc (sp 32 (L s)) 4), un (pc (sp 32 (L s)) 5)⟩ := by
      unfold rdA
      rw [if_pos e]
    rw [hok, hrd, if_pos e, if_pos (by omega), h3]
    simp only [Option.bind_some]
    rw [if_pos (by omega), h4]
    simp only [Option.bind_some]
    rw [if_pos (by omega), h5]
    simp only [Option.bind_some]
    clear hok hrd h1 h2 h3 h4 h5 e1 e2 e3 e4 e5
    subst e
    by_cases hall : (b1 && b2 && b3 && b4 && b5) = true
    · rw [if_pos hall]
      simp only [Bool.and_eq_true] at hall
      obtain ⟨⟨⟨⟨rfl, rfl⟩, rfl⟩, rfl⟩, rfl⟩ := hall
      rw [if_pos rfl, if_pos rfl, if_pos rfl, if_pos rfl, if_pos rfl, g1 rfl, g2 rfl, g3 rfl, g4 rfl, g5 rfl]
      rfl
    · rw [if_neg hall]
      clear g1 g2 g3 g4 g5
      cases b1 <;> cases b2 <;> cases b3 <;> cases b4 <;> cases b5 <;> first | exact absurd rfl hall | rfl
  · have hok : ok kd (sp 32 (L s)) = (b1 && b2) := by
      unfold ok
      rw [if_neg e, e1, e2]
    have hrd : rdA kd (sp 32 (L s)) = ⟨kd, an (pc (sp 32 (L s)) 1), an (pc (sp 32 (L s)) 2), 0, 0, 0, [], []⟩ := by
      unfold rdA
      rw [if_neg e]
    rw [hok, hrd, if_neg e]
    clear hok hrd h1 h2 e1 e2
    by_cases hall : (b1 && b2) = true
    · rw [if_pos hall]
      simp only [Bool.and_eq_true] at hall
      obtain ⟨rfl, rfl⟩ := hall
      rw [if_pos rfl, if_pos rfl, g1 rfl, g2 rfl]
      rfl
    · rw [if_neg hall]
      clear g1 g2
      cases b1 <;> cases b2 <;> first | exact absurd rfl hall | rfl
theorem vparse_loop (k0 : Nat) (s : ByteArray) (ps : List ByteArray) (hps : strs ps = sp 32 (L s)) (hs : s.size ≤ 99999) (hk0 : 2000002 < k0) (t : List ByteArray) (ht : strs t = [] :: wds) : ∀ (d i k : Nat) (kd : Int), 8 - i = d → i ≤ 8 → d + k0 < k →
    ks (pc (sp 32 (L s)) 0) (wds.drop i) (i : Int) kd = kindOf (pc (sp 32 (L s)) 0) → vokref25_Parse.l0 k ps t ((i : Int) + 1) kd 0 0 0 0 0 = some (tup9 (vparse (L s))) := by
  have htl : t.length = 9 := by rw [← strs_len, ht]; rfl
  have hp0 : 0 < ps.length := by
    rw [← strs_len, hps]
    exact List.length_pos_iff.2 (sp_ne 32 _)
  intro d
  induction d with
  | zero =>
    intro i k kd hd hi hk hq
    obtain ⟨j, rfl⟩ : ∃ j, k = j + 1 := ⟨k - 1, by omega⟩
    obtain rfl : i = 8 := by omega
    have hq' : kd = kindOf (pc (sp 32 (L s)) 0) := hq
    rw [vokref25_Parse.l0, if_neg (by omega)]
    by_cases e : kd = 1
    · rw [if_pos e]
      have := vparse_j1 j s ps hps hs kd hq' (by omega)
      rw [show wide kd = 6 by unfold wide; rw [if_pos e]] at this
      exact this
    · rw [if_neg e]
      have := vparse_j1 j s ps hps hs kd hq' (by omega)
      rw [show wide kd = 3 by unfold wide; rw [if_neg e]] at this
      exact this
  | succ d ih =>
    intro i k kd hd hi hk hq
    obtain ⟨j, rfl⟩ : ∃ j, k = j + 1 := ⟨k - 1, by omega⟩
    have hlt : i < wds.length := by show i < 8; omega
    have e1 : L (rdOf ByteArray.empty t ((i : Int) + 1)) = wds[i] := by
      rw [rd_pc, ht]
      unfold pc
      have : ((i : Int) + 1).toNat = i + 1 := by omega
      rw [this, List.getD_cons_succ, List.getD_eq_getElem?_getD, List.getElem?_eq_getElem hlt, Option.getD_some]
    have e2 : L (rdOf ByteArray.empty ps 0) = pc (sp 32 (L s)) 0 := by rw [rd_pc, hps]; rfl
    rw [List.drop_eq_getElem_cons hlt, ks] at hq
    have hw : wrap64 ((i : Int) + 1 + 1) = ((i + 1 : Nat) : Int) + 1 := by unfold wrap64; omega
    generalize wds[i] = w0 at *
    clear hlt ht hps
    rw [vokref25_Parse.l0, if_pos (by omega), if_pos (by omega), if_pos (by omega), toL, toL, e1, e2, hw]
    by_cases c : w0 = pc (sp 32 (L s)) 0
    · rw [if_pos c]
      rw [if_pos c] at hq
      exact ih (i + 1) j _ (by omega) (by omega) (by omega) (by rw [show ((i + 1 : Nat) : Int) = (i : Int) + 1 by omega]; exact hq)
    · rw [if_neg c]
      rw [if_neg c] at hq
      exact ih (i + 1) j _ (by omega) (by omega) (by omega) (by rw [show ((i + 1 : Nat) : Int) = (i : Int) + 1 by omega]; exact hq)
theorem vparse_f (k : Nat) (s : ByteArray) (hs : s.size ≤ 99999) (hk : 2000020 < k) : vokref25_Parse.f k s = some (tup9 (vparse (L s))) := by
  obtain ⟨ps, h1, h2⟩ := vsplit_eq k s 32 (by omega) (by omega)
  have h1' : vokref_Split.f k s 32 = some ps := h1
  obtain ⟨t, ht, _, _, hst⟩ := vwords_wd
  unfold vokref25_Parse.f
  rw [h1', Option.bind_some, ht, Option.bind_some]
  exact vparse_loop 2000003 s ps h2 hs (by omega) t hst 8 0 k 0 (by omega) (by omega) (by omega) (ks_kind _)
end Go.Proofs.YtleljfmhefobeaaDoor.PureS7
