/- rec.Decode of what rec.Encode wrote. -/
import Derived.Test.YtleljfmhefobeaaGRD
import Derived.Test.YtleljfmhefobeaaGRDec
set_option linter.unusedVariables false
namespace Go.Proofs.Ytleljfmhefobeaa.GRDR
open Go.RowKit Go.Proofs.YtleljfmhefobeaaW.PrintWords Go.Proofs.Ytleljfmhefobeaa.GRPa Go.Proofs.Ytleljfmhefobeaa.GRPe Go.Proofs.Ytleljfmhefobeaa.GRPr Go.Proofs.Ytleljfmhefobeaa.GRB Go.Proofs.Ytleljfmhefobeaa.GRSrc Go.Proofs.Ytleljfmhefobeaa.GRD Go.Proofs.Ytleljfmhefobeaa.GRDec

theorem flag_ne (y : Bool) : (flag y != 0) = y := by cases y <;> rfl
theorem body_app (m : M) (h : May m) (rest : List Int) : body m ++ rest = m.a0 :: (beR 6 m.a1 ++ (beR 6 m.a2 ++ (beR 6 m.a4 ++ (m.a3 :: (flag m.y :: (((m.us.length : Int) % 256) :: (m.us ++ (((m.ns.length : Int) % 256) :: (m.ns ++ (beR 2 (m.tx.length : Int) ++ (m.tx ++ rest))))))))))) := by
  obtain ⟨_, _, _, h3, hu, hn⟩ := ranges h
  have k0 := h.kind
  rw [body, tail, lows_id hu, lows_id hn, show m.a0 % 256 = m.a0 by omega, show m.a3 % 256 = m.a3 by omega]
  simp
theorem parse_app (m : M) (h : May m) (rest : List Int) : parse (body m ++ rest) = (m, (rest, false)) := by
  obtain ⟨h1, h2, h4, h3, hu, hn⟩ := ranges h
  obtain ⟨s1, s2, s3⟩ := h.short
  have ht : (m.tx.length : Int).toNat = m.tx.length := by omega
  rw [body_app m h]
  simp only [parse, num1, nxt1, nxt6, num6 _ _ h1, num6 _ _ h2, num6 _ _ h4, lst_app _ _ (show m.us.length < 256 by omega), lstN_app _ _ (show m.us.length < 256 by omega), lst_app _ _ (show m.ns.length < 256 by omega), lstN_app _ _ (show m.ns.length < 256 by omega),
    num2 _ _ (show (0 : Int) ≤ (m.tx.length : Int) ∧ (m.tx.length : Int) < 65536 by omega), nxt2, ht, take_app (X := m.tx) rfl, nxt_app (X := m.tx) rfl, flag_ne]
theorem dec_body (m : M) (h : May m) : dec (body m) = (m, 0) := by
  have := parse_app m h []
  rw [List.append_nil] at this
  rw [dec, this]
  simp only
  rw [if_neg (by simp [overR]), if_neg (by simp [h])]
theorem dec_more (m : M) (h : May m) (x : Int) : dec (body m ++ [x]) = (⟨0, 0, 0, 0, 0, false, [], [], []⟩, 3) := by
  rw [dec, parse_app m h [x]]
  simp only
  rw [if_pos (by simp [overR])]
  simp [overR, m0]
theorem dec_cut (m : M) (h : May m) (c : Nat) (hc : c < (body m).length) : dec ((body m).take c) = (⟨0, 0, 0, 0, 0, false, [], [], []⟩, 2) := by
  have hp := parse_app m h []
  rw [List.append_nil] at hp
  have hr := Rel.start hc
  have hdl : 0 < (body m).length - c := by omega
  have key : (parse ((body m).take c)).2.2 = true := by
    unfold parse at hp ⊢
    simp only [Prod.mk.injEq] at hp
    have hend := hp.2
    generalize body m = B at *
    generalize (B.length - c) = δ at *
    have q := congrArg Prod.snd hend
    simp only at q
    have f9 := nxt_false (nxt_false q)
    have f8 : (lstN (nxtR 1 (nxtR 1 (nxtR 6 (nxtR 6 (nxtR 6 (nxtR 1 (B, false)))))))).2 = false := nxt_false (nxt_false f9)
    have f7 := nxt_false (nxt_false f8)
    have f6 := nxt_false f7
    have f5 := nxt_false f6
    have f4 := nxt_false f5
    have f3 := nxt_false f4
    have f2 := nxt_false f3
    have r := (hr.nxt f2).1
    have r := (r.nxt f3).1
    have r := (r.nxt f4).1
    have r := (r.nxt f5).1
    have r := (r.nxt f6).1
    have r := (r.nxt f7).1
    have r := r.lst f8
    have r := r.lst f9
    have r := r.txt q
    rw [hend] at r
    exact r.done hdl
  rw [dec]
  have ho : overR (parse ((body m).take c)).2 = 2 := by rw [overR, if_pos key]
  rw [if_pos (by rw [ho]; decide), ho]
  rfl
theorem dec_ok {b : List Int} (h : (dec b).2 = 0) : May (dec b).1 ∧ body (dec b).1 = b := by
  unfold dec at h ⊢
  by_cases h1 : overR (parse b).2 ≠ 0
  · rw [if_pos h1] at h
    exact absurd h h1
  · rw [if_neg h1] at h ⊢
    by_cases h2 : ¬ May (parse b).1 ∨ body (parse b).1 ≠ b
    · rw [if_pos h2] at h
      cases h
    · rw [if_neg h2]
      simp only [not_or, Classical.not_not] at h2
      exact h2
end Go.Proofs.Ytleljfmhefobeaa.GRDR
