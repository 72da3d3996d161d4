/- wire.Decode of what wire.Encode wrote. -/
import Derived.Test.YtleljfmhefobeaaGWD
import Derived.Test.YtleljfmhefobeaaGWDecO
set_option linter.unusedVariables false
namespace Go.Proofs.Ytleljfmhefobeaa.GWDRO
open Go.RowKit Go.Proofs.YtleljfmhefobeaaW.PrintWords Go.Proofs.Ytleljfmhefobeaa.GWPa Go.Proofs.Ytleljfmhefobeaa.GWPe Go.Proofs.Ytleljfmhefobeaa.GWPw Go.Proofs.Ytleljfmhefobeaa.GWB Go.Proofs.Ytleljfmhefobeaa.GWSrc Go.Proofs.Ytleljfmhefobeaa.GWD Go.Proofs.Ytleljfmhefobeaa.GWDecO

theorem flag_ne (y : Bool) : (flag y != 0) = y := by cases y <;> rfl
theorem us_range {m : M} (h : May m) : ∀ x ∈ m.us, 0 ≤ x ∧ x < 256 := fun x hx => by have := rises_range h.us x hx; omega
theorem ns_range {m : M} (h : May m) : ∀ x ∈ m.ns, 0 ≤ x ∧ x < 256 := fun x hx => by have := rises_range h.ns x hx; omega
theorem w40 {n : Int} (h : within n 1099511627776) : 0 ≤ n ∧ n < 281474976710656 := by unfold within at h; omega
theorem w47 {n : Int} (h : within n 140737488355328) : 0 ≤ n ∧ n < 281474976710656 := by unfold within at h; omega
theorem body_app (m : M) (h : May m) (rest : List Int) : body m ++ rest = m.a0 :: m.a1 :: m.a2 :: m.a5 :: m.a7 :: flag m.y :: (beR 6 m.a3 ++ (beR 6 m.a4 ++ (beR 6 m.a6 ++ (beR 6 m.a8 ++ (beR 6 m.lo ++ (beR 6 m.hi ++ (((m.us.length : Int) % 256) :: (m.us ++ (((m.ns.length : Int) % 256) :: (m.ns ++ (beR 2 (m.tx.length : Int) ++ (m.tx ++ rest)))))))))))) := by
  have k0 := h.kind
  have k1 := h.frm; have k2 := h.dst; have k5 := h.op; have k7 := h.code
  unfold within at k1 k2 k5 k7
  rw [body, tail, lows_id (us_range h), lows_id (ns_range h), show m.a0 % 256 = m.a0 by omega, show m.a1 % 256 = m.a1 by omega, show m.a2 % 256 = m.a2 by omega, show m.a5 % 256 = m.a5 by omega, show m.a7 % 256 = m.a7 by omega]
  simp
theorem parse_app (m : M) (h : May m) (rest : List Int) : parse (body m ++ rest) = (m, (rest, false)) := by
  obtain ⟨s1, s2, s3⟩ := short h
  have ht : (m.tx.length : Int).toNat = m.tx.length := by omega
  rw [body_app m h]
  simp only [parse, num1, nxt1, nxt6, num6 _ _ (w40 h.tx), num6 _ _ (w40 h.id), num6 _ _ (w40 h.old), num6 _ _ (w40 h.owner), num6 _ _ (w47 h.lo), num6 _ _ (w47 h.hi), lst_app _ _ (show m.us.length < 256 by omega), lstN_app _ _ (show m.us.length < 256 by omega), lst_app _ _ (show m.ns.length < 256 by omega), lstN_app _ _ (show m.ns.length < 256 by omega),
    num2 _ _ (show (0 : Int) ≤ (m.tx.length : Int) ∧ (m.tx.length : Int) < 65536 by omega), nxt2, ht, take_app (X := m.tx) rfl, nxt_app (X := m.tx) rfl, flag_ne]
theorem dec_body (m : M) (h : May m) : dec (body m) = (m, 0) := by
  have := parse_app m h []
  rw [List.append_nil] at this
  rw [dec, this]
  simp only
  rw [if_neg (by simp [overR]), if_neg (by simp [h])]
theorem dec_more (m : M) (h : May m) (x : Int) : dec (body m ++ [x]) = (⟨0, 0, 0, 0, 0, 0, 0, 0, 0, false, 0, 0, [], [], []⟩, 3) := by
  rw [dec, parse_app m h [x]]
  simp only
  rw [if_pos (by simp [overR])]
  simp [overR, m0]
theorem dec_cut (m : M) (h : May m) (c : Nat) (hc : c < (body m).length) : dec ((body m).take c) = (⟨0, 0, 0, 0, 0, 0, 0, 0, 0, false, 0, 0, [], [], []⟩, 2) := by
  have hp := parse_app m h []
  rw [List.append_nil] at hp
  have hr := Rel.start hc
  have hdl : 0 < (body m).length - c := by omega
  have key : (parse ((body m).take c)).2.2 = true := by
    unfold parse at hp ⊢
    simp only [Prod.mk.injEq] at hp
    have hend := hp.2
    clear hp
    generalize body m = B at *
    generalize (B.length - c) = δ at *
    have q := congrArg Prod.snd hend
    simp only at q
    have f14 := nxt_false (nxt_false q)
    have f13 := nxt_false (nxt_false f14)
    have f12 := nxt_false (nxt_false f13)
    have f11 := nxt_false f12
    have f10 := nxt_false f11
    have f9 := nxt_false f10
    have f8 := nxt_false f9
    have f7 := nxt_false f8
    have f6 := nxt_false f7
    have f5 := nxt_false f6
    have f4 := nxt_false f5
    have f3 := nxt_false f4
    have f2 := nxt_false f3
    have f1 := nxt_false f2
    have r := (hr.nxt f1).1
    have r := (r.nxt f2).1
    have r := (r.nxt f3).1
    have r := (r.nxt f4).1
    have r := (r.nxt f5).1
    have r := (r.nxt f6).1
    have r := (r.nxt f7).1
    have r := (r.nxt f8).1
    have r := (r.nxt f9).1
    have r := (r.nxt f10).1
    have r := (r.nxt f11).1
    have r := (r.nxt f12).1
    have r := r.lst f13
    have r := r.lst f14
    have r := r.txt q
    rw [hend] at r
    exact r.done hdl
  rw [dec]
  have ho : overR (parse ((body m).take c)).2 = 2 := by rw [overR, if_pos key]
  rw [if_pos (by rw [ho]; decide), ho]
  rfl
theorem dec_ok {b : List Int} (h : (dec b).2 = 0) : May (dec b).1 ∧ body (dec b).1 = b := by
  unfold dec at h ⊢
  by_cases h1 : overR (parse b).2 ≠ 0
  · rw [if_pos h1] at h
    exact absurd h h1
  · rw [if_neg h1] at h ⊢
    by_cases h2 : ¬ May (parse b).1 ∨ body (parse b).1 ≠ b
    · rw [if_pos h2] at h
      cases h
    · rw [if_neg h2]
      simp only [not_or, Classical.not_not] at h2
      exact h2
end Go.Proofs.Ytleljfmhefobeaa.GWDRO
