/- CalApart's walk at rows of plain tuples. -/
import Derived.Test.YtohpimfanplloaaGreatZCalX
import Derived.Says
import Derived.Outline
import Derived.WalkKit
set_option linter.unusedVariables false
namespace Go.Proofs.YtohpimfanplloaaGreat.CalY
open Go.RowKit Go.Proofs.YtohpimfanplloaaGreatW.PrintWords Go.Proofs.YtohpimfanplloaaGreatW.PrintLast Go.Proofs.YtohpimfanplloaaGreatW.PrintMore Go.Proofs.YtohpimfanplloaaGreat.GI
theorem C_map {α β : Type} {d : Kd α} {d' : Kd β} {f : α → β} {w : World} {A : Option Addr} {n : Nat} {l : List α} (hs : d.sz = d'.sz) (hK : ∀ x cs, d.K w x cs → d'.K w (f x) cs) (h : Kd.C d w A n l) : Kd.C d' w A n (l.map f) := by
  obtain ⟨h1, h2, h3⟩ := h
  refine ⟨by simpa using h1, h2, fun hp => ?_⟩
  obtain ⟨ad, e, g⟩ := h3 hp
  refine ⟨ad, e, fun j p hj => ?_⟩
  rw [List.getElem?_map] at hj
  obtain ⟨q, hq, rfl⟩ := Option.map_eq_some_iff.1 hj
  obtain ⟨cs, k1, k2, k3⟩ := g j q hq
  exact ⟨cs, by rw [← hs]; exact k1, hK q cs k2, by rw [← hs]; exact k3⟩
abbrev TZ := Int × (List (Int × Int)) × (List (Int × Int × Int × Int × Int)) × Int
noncomputable abbrev kSh : Kd (Int × Int) := Kd.pair (Kd.int .i64) (Kd.int .i64)
noncomputable abbrev kYe : Kd (Int × Int × Int × Int × Int) := Kd.pair (Kd.int .i64) (Kd.pair (Kd.int .i64) (Kd.pair (Kd.int .i64) (Kd.pair (Kd.int .i64) (Kd.int .i64))))
noncomputable abbrev kZo : Kd TZ := Kd.pair (Kd.int .i64) (Kd.pair (Kd.slice 115 kSh) (Kd.pair (Kd.slice 119 kYe) (Kd.int .i64)))
def toSh (p : Int × Int) : S115 := ⟨p.1, p.2⟩
def toYe (p : Int × Int × Int × Int × Int) : S119 := ⟨p.1, p.2.1, p.2.2.1, p.2.2.2.1, p.2.2.2.2⟩
def toZo (z : TZ) : S75 := ⟨z.1, z.2.1.map toSh, z.2.2.1.map toYe, z.2.2.2⟩
theorem K_sh (w : World) (x : Int × Int) (cs : List Value) (h : kSh.K w x cs) : k115.K w (toSh x) cs := h
theorem K_ye (w : World) (x : Int × Int × Int × Int × Int) (cs : List Value) (h : kYe.K w x cs) : k119.K w (toYe x) cs := h
theorem K_zo (w : World) (z : TZ) (cs : List Value) (h : kZo.K w z cs) : k75.K w (toZo z) cs := by
  obtain ⟨a, s, y, b⟩ := z
  obtain ⟨_, _, rfl, rfl, ⟨_, _, rfl, ⟨A1, c1, rfl, hc1, hr1⟩, ⟨_, _, rfl, ⟨A2, c2, rfl, hc2, hr2⟩, rfl⟩⟩⟩ := h
  have g1 := C_map (f := toSh) (d' := k115) rfl (K_sh w) hr1
  have g2 := C_map (f := toYe) (d' := k119) rfl (K_ye w) hr2
  have := k75_mk w (toZo (a, s, y, b)) (A1 := A1) (c1 := c1) (by simpa [toZo] using hc1) (by simpa [toZo] using g1) (A2 := A2) (c2 := c2) (by simpa [toZo] using hc2) (by simpa [toZo] using g2)
  simpa [toZo] using this
abbrev TO := Int × Int × Int × List Int × List (Int × Int)
noncomputable abbrev kOp : Kd TO := Kd.pair (Kd.int .i64) (Kd.pair (Kd.int .i64) (Kd.pair (Kd.int .i64) (Kd.pair (Kd.slice 3 (Kd.int .i64)) (Kd.slice 42 (Kd.pair (Kd.int .i64) (Kd.int .i64))))))
def toSp (p : Int × Int) : S42 := ⟨p.1, p.2⟩
def toOp (z : TO) : S61 := ⟨z.1, z.2.1, z.2.2.1, z.2.2.2.1, z.2.2.2.2.map toSp⟩
theorem K_sp (w : World) (x : Int × Int) (cs : List Value) (h : (Kd.pair (Kd.int .i64) (Kd.int .i64)).K w x cs) : k42.K w (toSp x) cs := h
theorem K_op (w : World) (z : TO) (cs : List Value) (h : kOp.K w z cs) : k61.K w (toOp z) cs := by
  obtain ⟨a, b, d, us, l⟩ := z
  obtain ⟨_, _, rfl, rfl, ⟨_, _, rfl, rfl, ⟨_, _, rfl, rfl, ⟨_, _, rfl, ⟨A1, c1, rfl, hc1, hr1⟩, ⟨A2, c2, rfl, hc2, hr2⟩⟩⟩⟩⟩ := h
  have g2 := C_map (f := toSp) (d' := k42) rfl (K_sp w) hr2
  have := k61_mk w (toOp (a, b, d, us, l)) (A3 := A1) (c3 := c1) (by simpa [toOp] using hc1) (by simpa [toOp] using hr1) (A4 := A2) (c4 := c2) (by simpa [toOp] using hc2) (by simpa [toOp] using g2)
  simpa [toOp] using this
theorem walk (n m : Int) (A : Option Addr) (c : Nat) (l : List TZ) (lo hi node : Int) (AO : Option Addr) (cO : Nat) (ops : List TO) (tx : Int) (AU : Option Addr) (cU : Nat) (users : List Int) (AS : Option Addr) (cS : Nat) (spans : List (Int × Int)) (w : World)
    (hr : Kd.C kZo w A l.length l) (hc : l.length ≤ c) (hrO : Kd.C kOp w AO ops.length ops) (hcO : ops.length ≤ cO) (hrU : Kd.C (Kd.int .i64) w AU users.length users) (hcU : users.length ≤ cU) (hrS : Kd.C (Kd.pair (Kd.int .i64) (Kd.int .i64)) w AS spans.length spans) (hcS : spans.length ≤ cS) :
    Calls Tryz.prog 7 #[.agg #[.int .i64 n, .int .i64 m, .slice A l.length c, .int .i64 lo, .int .i64 hi], .int .i64 node, .slice AO ops.length cO, .int .i64 tx, .slice AU users.length cU, .slice AS spans.length cS] w (fun e w' => e = .returned (.bool true) ∧ Below w.heap.size w w') := by
  have h2 := C_map (f := toZo) (d' := k75) rfl (K_zo w) hr
  have h3 := C_map (f := toOp) (d' := k61) rfl (K_op w) hrO
  have := CalX.walk n m lo hi node A c (l.map toZo) AO cO (ops.map toOp) tx AU cU users AS cS spans w (by simpa using h2) (by simpa using hc) (by simpa using h3) (by simpa using hcO) hrU hcU hrS hcS
  simpa using this
end Go.Proofs.YtohpimfanplloaaGreat.CalY
