/- ScriptCuts' walk at rows of plain tuples. -/
import Derived.Test.YtohpimfanplloaaGreatDoorZCutsW
import Derived.WalkKit
set_option linter.unusedVariables false
namespace Go.Proofs.YtohpimfanplloaaGreatDoor.CutsR
open Go.RowKit Go.Proofs.YtohpimfanplloaaGreatDoorW.PrintWords Go.Proofs.YtohpimfanplloaaGreatDoorW.PrintLast Go.Proofs.YtohpimfanplloaaGreatDoorW.PrintMore Go.Proofs.YtohpimfanplloaaGreatDoor.GC
theorem C_map {α β : Type} {d : Kd α} {d' : Kd β} {f : α → β} {w : World} {A : Option Addr} {n : Nat} {l : List α} (hs : d.sz = d'.sz) (hK : ∀ x cs, d.K w x cs → d'.K w (f x) cs) (h : Kd.C d w A n l) : Kd.C d' w A n (l.map f) := by
  obtain ⟨h1, h2, h3⟩ := h
  refine ⟨by simpa using h1, h2, fun hp => ?_⟩
  obtain ⟨ad, e, g⟩ := h3 hp
  refine ⟨ad, e, fun j p hj => ?_⟩
  rw [List.getElem?_map] at hj
  obtain ⟨q, hq, rfl⟩ := Option.map_eq_some_iff.1 hj
  obtain ⟨cs, k1, k2, k3⟩ := g j q hq
  exact ⟨cs, by rw [← hs]; exact k1, hK q cs k2, by rw [← hs]; exact k3⟩
abbrev TZ := Int × (List (Int × Int)) × (List (Int × Int × Int × Int × Int)) × Int
noncomputable abbrev kSh : Kd (Int × Int) := Kd.pair (Kd.int .i64) (Kd.int .i64)
noncomputable abbrev kYe : Kd (Int × Int × Int × Int × Int) := Kd.pair (Kd.int .i64) (Kd.pair (Kd.int .i64) (Kd.pair (Kd.int .i64) (Kd.pair (Kd.int .i64) (Kd.int .i64))))
noncomputable abbrev kZo : Kd TZ := Kd.pair (Kd.int .i64) (Kd.pair (Kd.slice 92 kSh) (Kd.pair (Kd.slice 72 kYe) (Kd.int .i64)))
def toSh (p : Int × Int) : S92 := ⟨p.1, p.2⟩
def toYe (p : Int × Int × Int × Int × Int) : S72 := ⟨p.1, p.2.1, p.2.2.1, p.2.2.2.1, p.2.2.2.2⟩
def toZo (z : TZ) : S68 := ⟨z.1, z.2.1.map toSh, z.2.2.1.map toYe, z.2.2.2⟩
theorem K_sh (w : World) (x : Int × Int) (cs : List Value) (h : kSh.K w x cs) : k92.K w (toSh x) cs := h
theorem K_ye (w : World) (x : Int × Int × Int × Int × Int) (cs : List Value) (h : kYe.K w x cs) : k72.K w (toYe x) cs := h
theorem K_zo (w : World) (z : TZ) (cs : List Value) (h : kZo.K w z cs) : k68.K w (toZo z) cs := by
  obtain ⟨a, s, y, b⟩ := z
  obtain ⟨_, _, rfl, rfl, ⟨_, _, rfl, ⟨A1, c1, rfl, hc1, hr1⟩, ⟨_, _, rfl, ⟨A2, c2, rfl, hc2, hr2⟩, rfl⟩⟩⟩ := h
  have g1 := C_map (f := toSh) (d' := k92) rfl (K_sh w) hr1
  have g2 := C_map (f := toYe) (d' := k72) rfl (K_ye w) hr2
  have := k68_mk w (toZo (a, s, y, b)) (A1 := A1) (c1 := c1) (by simpa [toZo] using hc1) (by simpa [toZo] using g1) (A2 := A2) (c2 := c2) (by simpa [toZo] using hc2) (by simpa [toZo] using g2)
  simpa [toZo] using this
theorem walk (n u : Int) (A2 : Option Addr) (c2 : Nat) (z : List TZ) (lo hi v q r qq rm bg : Int) (A1 : Option Addr) (c1 : Nat) (b : List Int) (at' : Int) (w : World) (hr2 : Kd.C kZo w A2 z.length z) (hc2 : z.length ≤ c2) (hr : Kd.C (Kd.int .u8) w A1 b.length b) (hc : b.length ≤ c1) (hG : Glob w) (hby : ∀ x ∈ b, 0 ≤ x ∧ x ≤ 255) :
    Calls Tryz.prog 3 #[.agg #[.int .i64 n, .int .i64 u, .slice A2 z.length c2, .int .i64 lo, .int .i64 hi, .int .i64 v, .int .i64 q, .int .i64 r, .int .i64 qq, .int .i64 rm, .int .i64 bg], .slice A1 b.length c1, .int .i64 at'] w (fun e w' => e = .returned (.bool true) ∧ Below w.heap.size w w') := by
  have h2 := C_map (f := toZo) (d' := k68) rfl (K_zo w) hr2
  have := CutsW.walk n u A2 c2 (z.map toZo) lo hi v q r qq rm bg A1 c1 b at' w (by simpa using h2) (by simpa using hc2) hr hc hG hby
  simpa using this
end Go.Proofs.YtohpimfanplloaaGreatDoor.CutsR
