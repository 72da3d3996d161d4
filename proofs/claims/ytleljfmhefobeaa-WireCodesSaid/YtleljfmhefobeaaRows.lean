/-
  No cell of these rows narrows 'for every input' (looked for: loops, veiled, ifaces, maps, wideKeys, modest, calm, conditions, laid).
  DERIVED. THE GIVEN ROWS OF THIS SEAT. 10 by the template 'for every input the law returns true; each argument reads behind the call as it read before'; 0 by the template 'total and deterministic' (their statements: YtleljfmhefobeaaTotals.lean).
  GIVEN WITH THE SEED: the statements are not yours to turn. If you find one false, say at which input.
  Laid BY PROGRAM, IN A SANDBOX (cutbox-rows.mjs): the forced cells as the released guide's own fill.sh prints them over the translation 5d6e56ce133eb2a4… (all of the seat's roots in one cut). By AI agents, Wed Nov 11 2026. No macro, syntax, notation, axiom, sorry.
-/
import Derived.Test.YtleljfmhefobeaaChecked
import GoSem.Claim
import GoSem.ClaimJoined
import GoSem.ClaimMapViews
import Derived.JoinedTies
import Derived.KernelRfl
namespace Go.Proofs.Ytleljfmhefobeaa
/- THE CELL 'sum', in the pinned program and in every row, IS THE sha256 OF THE DUMP (.gsa) THAT YtleljfmhefobeaaProg.lean LOADS. Nothing in Lean hashes anything: it is a label: what it is worth is what the hold of that sum in a sandbox is worth. -/
noncomputable def Try.pinned : Pinned := { name := "ytleljfmhefobeaa", sum := "5d6e56ce133eb2a400f67c5da94f9b1900f96838a1fbc8d15d093e8bf0abd62f", checked := Try.checked }
namespace Rows
def none {H : Type} : Left H := { results := [], args := [] }

/-- 'voklaw19.WireSizes': WHATEVER THE INPUT: true; the input reads as it did. -/
def wireSizesSpec : ChangeSpec := { name := "wireSizes", fn := fun _ => fun
  | [d] => { results := [.lit (.bool true)], args := [d] }
  | _ => none }
def wireSizesRow : OpenClaim := { program := "ytleljfmhefobeaa", sum := "5d6e56ce133eb2a400f67c5da94f9b1900f96838a1fbc8d15d093e8bf0abd62f", func := "convoker/voklaw19.WireSizes", spec := "wireSizes", apart := false }
def WireSizesSaid : Prop := wireSizesRow.holds Try.pinned (OpenSpec.ofChange wireSizesSpec)

/-- ITS FALSE NEIGHBOUR: 'it returns false'. Refute it at one input. -/
def wireSizesWrong : ChangeSpec := { name := "wireSizes", fn := fun _ => fun
  | [d] => { results := [.lit (.bool false)], args := [d] }
  | _ => none }
def WireSizesWrongFalsely : Prop := wireSizesRow.holds Try.pinned (OpenSpec.ofChange wireSizesWrong)

/-- 'voklaw16.RecKinds': WHATEVER THE INPUT: true; the input reads as it did. -/
def recKindsSpec : ChangeSpec := { name := "recKinds", fn := fun _ => fun
  | [d1, d2] => { results := [.lit (.bool true)], args := [d1, d2] }
  | _ => none }
def recKindsRow : OpenClaim := { program := "ytleljfmhefobeaa", sum := "5d6e56ce133eb2a400f67c5da94f9b1900f96838a1fbc8d15d093e8bf0abd62f", func := "convoker/voklaw16.RecKinds", spec := "recKinds", apart := false }
def RecKindsSaid : Prop := recKindsRow.holds Try.pinned (OpenSpec.ofChange recKindsSpec)

/-- ITS FALSE NEIGHBOUR: 'it returns false'. Refute it at one input. -/
def recKindsWrong : ChangeSpec := { name := "recKinds", fn := fun _ => fun
  | [d1, d2] => { results := [.lit (.bool false)], args := [d1, d2] }
  | _ => none }
def RecKindsWrongFalsely : Prop := recKindsRow.holds Try.pinned (OpenSpec.ofChange recKindsWrong)

/-- 'voklaw16.RecSizes': WHATEVER THE INPUT: true; the input reads as it did. -/
def recSizesSpec : ChangeSpec := { name := "recSizes", fn := fun _ => fun
  | [d] => { results := [.lit (.bool true)], args := [d] }
  | _ => none }
def recSizesRow : OpenClaim := { program := "ytleljfmhefobeaa", sum := "5d6e56ce133eb2a400f67c5da94f9b1900f96838a1fbc8d15d093e8bf0abd62f", func := "convoker/voklaw16.RecSizes", spec := "recSizes", apart := false }
def RecSizesSaid : Prop := recSizesRow.holds Try.pinned (OpenSpec.ofChange recSizesSpec)

/-- ITS FALSE NEIGHBOUR: 'it returns false'. Refute it at one input. -/
def recSizesWrong : ChangeSpec := { name := "recSizes", fn := fun _ => fun
  | [d] => { results := [.lit (.bool false)], args := [d] }
  | _ => none }
def RecSizesWrongFalsely : Prop := recSizesRow.holds Try.pinned (OpenSpec.ofChange recSizesWrong)

/-- 'voklaw19.WireUnlike': WHATEVER THE INPUT: true; the input reads as it did. -/
def wireUnlikeSpec : ChangeSpec := { name := "wireUnlike", fn := fun _ => fun
  | [d1, d2] => { results := [.lit (.bool true)], args := [d1, d2] }
  | _ => none }
def wireUnlikeRow : OpenClaim := { program := "ytleljfmhefobeaa", sum := "5d6e56ce133eb2a400f67c5da94f9b1900f96838a1fbc8d15d093e8bf0abd62f", func := "convoker/voklaw19.WireUnlike", spec := "wireUnlike", apart := false }
def WireUnlikeSaid : Prop := wireUnlikeRow.holds Try.pinned (OpenSpec.ofChange wireUnlikeSpec)

/-- ITS FALSE NEIGHBOUR: 'it returns false'. Refute it at one input. -/
def wireUnlikeWrong : ChangeSpec := { name := "wireUnlike", fn := fun _ => fun
  | [d1, d2] => { results := [.lit (.bool false)], args := [d1, d2] }
  | _ => none }
def WireUnlikeWrongFalsely : Prop := wireUnlikeRow.holds Try.pinned (OpenSpec.ofChange wireUnlikeWrong)

/-- 'voklaw16.RecUnlike': WHATEVER THE INPUT: true; the input reads as it did. -/
def recUnlikeSpec : ChangeSpec := { name := "recUnlike", fn := fun _ => fun
  | [d1, d2] => { results := [.lit (.bool true)], args := [d1, d2] }
  | _ => none }
def recUnlikeRow : OpenClaim := { program := "ytleljfmhefobeaa", sum := "5d6e56ce133eb2a400f67c5da94f9b1900f96838a1fbc8d15d093e8bf0abd62f", func := "convoker/voklaw16.RecUnlike", spec := "recUnlike", apart := false }
def RecUnlikeSaid : Prop := recUnlikeRow.holds Try.pinned (OpenSpec.ofChange recUnlikeSpec)

/-- ITS FALSE NEIGHBOUR: 'it returns false'. Refute it at one input. -/
def recUnlikeWrong : ChangeSpec := { name := "recUnlike", fn := fun _ => fun
  | [d1, d2] => { results := [.lit (.bool false)], args := [d1, d2] }
  | _ => none }
def RecUnlikeWrongFalsely : Prop := recUnlikeRow.holds Try.pinned (OpenSpec.ofChange recUnlikeWrong)

/-- 'voklaw19.WireCodes': WHATEVER THE INPUT: true; the input reads as it did. -/
def wireCodesSpec : ChangeSpec := { name := "wireCodes", fn := fun _ => fun
  | [d1, d2, d3] => { results := [.lit (.bool true)], args := [d1, d2, d3] }
  | _ => none }
def wireCodesRow : OpenClaim := { program := "ytleljfmhefobeaa", sum := "5d6e56ce133eb2a400f67c5da94f9b1900f96838a1fbc8d15d093e8bf0abd62f", func := "convoker/voklaw19.WireCodes", spec := "wireCodes", apart := false }
def WireCodesSaid : Prop := wireCodesRow.holds Try.pinned (OpenSpec.ofChange wireCodesSpec)

/-- ITS FALSE NEIGHBOUR: 'it returns false'. Refute it at one input. -/
def wireCodesWrong : ChangeSpec := { name := "wireCodes", fn := fun _ => fun
  | [d1, d2, d3] => { results := [.lit (.bool false)], args := [d1, d2, d3] }
  | _ => none }
def WireCodesWrongFalsely : Prop := wireCodesRow.holds Try.pinned (OpenSpec.ofChange wireCodesWrong)

/-- 'voklaw19.WireBack': WHATEVER THE INPUT: true; the input reads as it did. -/
def wireBackSpec : ChangeSpec := { name := "wireBack", fn := fun _ => fun
  | [d1, d2, d3, d4] => { results := [.lit (.bool true)], args := [d1, d2, d3, d4] }
  | _ => none }
def wireBackRow : OpenClaim := { program := "ytleljfmhefobeaa", sum := "5d6e56ce133eb2a400f67c5da94f9b1900f96838a1fbc8d15d093e8bf0abd62f", func := "convoker/voklaw19.WireBack", spec := "wireBack", apart := false }
def WireBackSaid : Prop := wireBackRow.holds Try.pinned (OpenSpec.ofChange wireBackSpec)

/-- ITS FALSE NEIGHBOUR: 'it returns false'. Refute it at one input. -/
def wireBackWrong : ChangeSpec := { name := "wireBack", fn := fun _ => fun
  | [d1, d2, d3, d4] => { results := [.lit (.bool false)], args := [d1, d2, d3, d4] }
  | _ => none }
def WireBackWrongFalsely : Prop := wireBackRow.holds Try.pinned (OpenSpec.ofChange wireBackWrong)

/-- 'voklaw19.WireOwn': WHATEVER THE INPUT: true; the input reads as it did. -/
def wireOwnSpec : ChangeSpec := { name := "wireOwn", fn := fun _ => fun
  | [d] => { results := [.lit (.bool true)], args := [d] }
  | _ => none }
def wireOwnRow : OpenClaim := { program := "ytleljfmhefobeaa", sum := "5d6e56ce133eb2a400f67c5da94f9b1900f96838a1fbc8d15d093e8bf0abd62f", func := "convoker/voklaw19.WireOwn", spec := "wireOwn", apart := false }
def WireOwnSaid : Prop := wireOwnRow.holds Try.pinned (OpenSpec.ofChange wireOwnSpec)

/-- ITS FALSE NEIGHBOUR: 'it returns false'. Refute it at one input. -/
def wireOwnWrong : ChangeSpec := { name := "wireOwn", fn := fun _ => fun
  | [d] => { results := [.lit (.bool false)], args := [d] }
  | _ => none }
def WireOwnWrongFalsely : Prop := wireOwnRow.holds Try.pinned (OpenSpec.ofChange wireOwnWrong)

/-- 'voklaw16.RecCodes': WHATEVER THE INPUT: true; the input reads as it did. -/
def recCodesSpec : ChangeSpec := { name := "recCodes", fn := fun _ => fun
  | [d1, d2, d3] => { results := [.lit (.bool true)], args := [d1, d2, d3] }
  | _ => none }
def recCodesRow : OpenClaim := { program := "ytleljfmhefobeaa", sum := "5d6e56ce133eb2a400f67c5da94f9b1900f96838a1fbc8d15d093e8bf0abd62f", func := "convoker/voklaw16.RecCodes", spec := "recCodes", apart := false }
def RecCodesSaid : Prop := recCodesRow.holds Try.pinned (OpenSpec.ofChange recCodesSpec)

/-- ITS FALSE NEIGHBOUR: 'it returns false'. Refute it at one input. -/
def recCodesWrong : ChangeSpec := { name := "recCodes", fn := fun _ => fun
  | [d1, d2, d3] => { results := [.lit (.bool false)], args := [d1, d2, d3] }
  | _ => none }
def RecCodesWrongFalsely : Prop := recCodesRow.holds Try.pinned (OpenSpec.ofChange recCodesWrong)

/-- 'voklaw16.RecBack': WHATEVER THE INPUT: true; the input reads as it did. -/
def recBackSpec : ChangeSpec := { name := "recBack", fn := fun _ => fun
  | [d1, d2, d3, d4] => { results := [.lit (.bool true)], args := [d1, d2, d3, d4] }
  | _ => none }
def recBackRow : OpenClaim := { program := "ytleljfmhefobeaa", sum := "5d6e56ce133eb2a400f67c5da94f9b1900f96838a1fbc8d15d093e8bf0abd62f", func := "convoker/voklaw16.RecBack", spec := "recBack", apart := false }
def RecBackSaid : Prop := recBackRow.holds Try.pinned (OpenSpec.ofChange recBackSpec)

/-- ITS FALSE NEIGHBOUR: 'it returns false'. Refute it at one input. -/
def recBackWrong : ChangeSpec := { name := "recBack", fn := fun _ => fun
  | [d1, d2, d3, d4] => { results := [.lit (.bool false)], args := [d1, d2, d3, d4] }
  | _ => none }
def RecBackWrongFalsely : Prop := recBackRow.holds Try.pinned (OpenSpec.ofChange recBackWrong)

/- THE SECOND FORM. 'bulk': how many values and letters a reading holds, each counted each time it is reached (what is shared counts as often as it is met; a slice's spare places count too). A statement '..UptoSaid' is the law's where the arguments, and the package variables that the reading takes, are together of bulk at most 1048576: NARROWER than '..Said'. Prove '..Said' where nothing that the law and all that it calls make is longer than what came in: it says more and counts as full. Else prove '..UptoSaid'. A law counts once. -/
mutual
def uptoBulk {H : Type} : DataW H → Nat
  | .lit (.string bytes) => bytes.length + 1
  | .lit _ => 1
  | .nil => 1
  | .ptr d => uptoBulk d + 1
  | .slice elems spare => uptoBulkAll elems + uptoBulkAll spare + 1
  | .agg parts => uptoBulkAll parts + 1
  | .iface _ d => uptoBulk d + 1
  | .map entries => uptoBulkEntries entries + 1
  | .held _ => 1
def uptoBulkAll {H : Type} : List (DataW H) → Nat
  | [] => 0
  | d :: r => uptoBulk d + uptoBulkAll r
def uptoBulkEntries {H : Type} : List (Lit × DataW H) → Nat
  | [] => 0
  | x :: r => uptoBulkEntry x + uptoBulkEntries r
def uptoBulkEntry {H : Type} : Lit × DataW H → Nat
  | (.string bytes, d) => bytes.length + uptoBulk d + 1
  | (_, d) => uptoBulk d + 1
 end
def uptoSmall : (H : Type) → List (DataW H) → Bool := fun _ ds => decide (uptoBulkAll ds ≤ 1048576)
def OpenSpec.upto (s : _root_.Go.ChangeSpec) : _root_.Go.OpenSpec := { _root_.Go.OpenSpec.ofChange s with cond := some uptoSmall }

/-- 'voklaw19.WireSizes', WHERE WHAT IT READS IS OF BULK AT MOST 1048576: true; the input reads as it did. -/
def wireSizesUptoRow : OpenClaim := { program := "ytleljfmhefobeaa", sum := "5d6e56ce133eb2a400f67c5da94f9b1900f96838a1fbc8d15d093e8bf0abd62f", func := "convoker/voklaw19.WireSizes", spec := "wireSizes", apart := false, narrowed := true }
def WireSizesUptoSaid : Prop := wireSizesUptoRow.holds Try.pinned (OpenSpec.upto wireSizesSpec)

/-- 'voklaw16.RecKinds', WHERE WHAT IT READS IS OF BULK AT MOST 1048576: true; the input reads as it did. -/
def recKindsUptoRow : OpenClaim := { program := "ytleljfmhefobeaa", sum := "5d6e56ce133eb2a400f67c5da94f9b1900f96838a1fbc8d15d093e8bf0abd62f", func := "convoker/voklaw16.RecKinds", spec := "recKinds", apart := false, narrowed := true }
def RecKindsUptoSaid : Prop := recKindsUptoRow.holds Try.pinned (OpenSpec.upto recKindsSpec)

/-- 'voklaw16.RecSizes', WHERE WHAT IT READS IS OF BULK AT MOST 1048576: true; the input reads as it did. -/
def recSizesUptoRow : OpenClaim := { program := "ytleljfmhefobeaa", sum := "5d6e56ce133eb2a400f67c5da94f9b1900f96838a1fbc8d15d093e8bf0abd62f", func := "convoker/voklaw16.RecSizes", spec := "recSizes", apart := false, narrowed := true }
def RecSizesUptoSaid : Prop := recSizesUptoRow.holds Try.pinned (OpenSpec.upto recSizesSpec)

/-- 'voklaw19.WireUnlike', WHERE WHAT IT READS IS OF BULK AT MOST 1048576: true; the input reads as it did. -/
def wireUnlikeUptoRow : OpenClaim := { program := "ytleljfmhefobeaa", sum := "5d6e56ce133eb2a400f67c5da94f9b1900f96838a1fbc8d15d093e8bf0abd62f", func := "convoker/voklaw19.WireUnlike", spec := "wireUnlike", apart := false, narrowed := true }
def WireUnlikeUptoSaid : Prop := wireUnlikeUptoRow.holds Try.pinned (OpenSpec.upto wireUnlikeSpec)

/-- 'voklaw16.RecUnlike', WHERE WHAT IT READS IS OF BULK AT MOST 1048576: true; the input reads as it did. -/
def recUnlikeUptoRow : OpenClaim := { program := "ytleljfmhefobeaa", sum := "5d6e56ce133eb2a400f67c5da94f9b1900f96838a1fbc8d15d093e8bf0abd62f", func := "convoker/voklaw16.RecUnlike", spec := "recUnlike", apart := false, narrowed := true }
def RecUnlikeUptoSaid : Prop := recUnlikeUptoRow.holds Try.pinned (OpenSpec.upto recUnlikeSpec)

/-- 'voklaw19.WireCodes', WHERE WHAT IT READS IS OF BULK AT MOST 1048576: true; the input reads as it did. -/
def wireCodesUptoRow : OpenClaim := { program := "ytleljfmhefobeaa", sum := "5d6e56ce133eb2a400f67c5da94f9b1900f96838a1fbc8d15d093e8bf0abd62f", func := "convoker/voklaw19.WireCodes", spec := "wireCodes", apart := false, narrowed := true }
def WireCodesUptoSaid : Prop := wireCodesUptoRow.holds Try.pinned (OpenSpec.upto wireCodesSpec)

/-- 'voklaw19.WireBack', WHERE WHAT IT READS IS OF BULK AT MOST 1048576: true; the input reads as it did. -/
def wireBackUptoRow : OpenClaim := { program := "ytleljfmhefobeaa", sum := "5d6e56ce133eb2a400f67c5da94f9b1900f96838a1fbc8d15d093e8bf0abd62f", func := "convoker/voklaw19.WireBack", spec := "wireBack", apart := false, narrowed := true }
def WireBackUptoSaid : Prop := wireBackUptoRow.holds Try.pinned (OpenSpec.upto wireBackSpec)

/-- 'voklaw19.WireOwn', WHERE WHAT IT READS IS OF BULK AT MOST 1048576: true; the input reads as it did. -/
def wireOwnUptoRow : OpenClaim := { program := "ytleljfmhefobeaa", sum := "5d6e56ce133eb2a400f67c5da94f9b1900f96838a1fbc8d15d093e8bf0abd62f", func := "convoker/voklaw19.WireOwn", spec := "wireOwn", apart := false, narrowed := true }
def WireOwnUptoSaid : Prop := wireOwnUptoRow.holds Try.pinned (OpenSpec.upto wireOwnSpec)

/-- 'voklaw16.RecCodes', WHERE WHAT IT READS IS OF BULK AT MOST 1048576: true; the input reads as it did. -/
def recCodesUptoRow : OpenClaim := { program := "ytleljfmhefobeaa", sum := "5d6e56ce133eb2a400f67c5da94f9b1900f96838a1fbc8d15d093e8bf0abd62f", func := "convoker/voklaw16.RecCodes", spec := "recCodes", apart := false, narrowed := true }
def RecCodesUptoSaid : Prop := recCodesUptoRow.holds Try.pinned (OpenSpec.upto recCodesSpec)

/-- 'voklaw16.RecBack', WHERE WHAT IT READS IS OF BULK AT MOST 1048576: true; the input reads as it did. -/
def recBackUptoRow : OpenClaim := { program := "ytleljfmhefobeaa", sum := "5d6e56ce133eb2a400f67c5da94f9b1900f96838a1fbc8d15d093e8bf0abd62f", func := "convoker/voklaw16.RecBack", spec := "recBack", apart := false, narrowed := true }
def RecBackUptoSaid : Prop := recBackUptoRow.holds Try.pinned (OpenSpec.upto recBackSpec)

end Rows
end Go.Proofs.Ytleljfmhefobeaa
