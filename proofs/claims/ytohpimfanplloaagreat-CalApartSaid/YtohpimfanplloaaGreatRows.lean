/-
  No cell of these rows narrows 'for every input' (looked for: loops, veiled, ifaces, maps, wideKeys, modest, calm, conditions, laid).
  DERIVED. THE GIVEN ROWS OF THIS SEAT. 5 by the template 'for every input the law returns true; each argument reads behind the call as it read before'; 0 by the template 'total and deterministic' (their statements: YtohpimfanplloaaGreatTotals.lean).
  GIVEN WITH THE SEED: the statements are not yours to turn. If you find one false, say at which input.
  Laid BY PROGRAM, IN A SANDBOX (cutbox-rows.mjs): the forced cells as the released guide's own fill.sh prints them over the translation a91616f970c1cea0… (all of the seat's roots in one cut). By AI agents, Wed Nov 11 2026. No macro, syntax, notation, axiom, sorry.
-/
import Derived.Test.YtohpimfanplloaaGreatChecked
import GoSem.Claim
import GoSem.ClaimJoined
import GoSem.ClaimMapViews
import Derived.JoinedTies
import Derived.KernelRfl
namespace Go.Proofs.YtohpimfanplloaaGreat
/- THE CELL 'sum', in the pinned program and in every row, IS THE sha256 OF THE DUMP (.gsa) THAT YtohpimfanplloaaGreatProg.lean LOADS. Nothing in Lean hashes anything: it is a label: what it is worth is what the hold of that sum in a sandbox is worth. -/
noncomputable def Tryz.pinned : Pinned := { name := "ytohpimfanplloaagreat", sum := "a91616f970c1cea0795e8da2adf5ae539f3fdb2711592d434f9f5254f3df7676", checked := Tryz.checked }
namespace Rows
def none {H : Type} : Left H := { results := [], args := [] }

/-- 'voklaw17.CalHomes': WHATEVER THE INPUT: true; the input reads as it did. -/
def calHomesSpec : ChangeSpec := { name := "calHomes", fn := fun _ => fun
  | [d1, d2] => { results := [.lit (.bool true)], args := [d1, d2] }
  | _ => none }
def calHomesRow : OpenClaim := { program := "ytohpimfanplloaagreat", sum := "a91616f970c1cea0795e8da2adf5ae539f3fdb2711592d434f9f5254f3df7676", func := "convoker/voklaw17.CalHomes", spec := "calHomes", unfollowed := true, recurses := true, apart := false }
def CalHomesSaid : Prop := calHomesRow.holds Tryz.pinned (OpenSpec.ofChange calHomesSpec)

/-- ITS FALSE NEIGHBOUR: 'it returns false'. Refute it at one input. -/
def calHomesWrong : ChangeSpec := { name := "calHomes", fn := fun _ => fun
  | [d1, d2] => { results := [.lit (.bool false)], args := [d1, d2] }
  | _ => none }
def CalHomesWrongFalsely : Prop := calHomesRow.holds Tryz.pinned (OpenSpec.ofChange calHomesWrong)

/-- 'voklaw17.CalBoth': WHATEVER THE INPUT: true; the input reads as it did. -/
def calBothSpec : ChangeSpec := { name := "calBoth", fn := fun _ => fun
  | [d1, d2, d3] => { results := [.lit (.bool true)], args := [d1, d2, d3] }
  | _ => none }
def calBothRow : OpenClaim := { program := "ytohpimfanplloaagreat", sum := "a91616f970c1cea0795e8da2adf5ae539f3fdb2711592d434f9f5254f3df7676", func := "convoker/voklaw17.CalBoth", spec := "calBoth", unfollowed := true, recurses := true, apart := false }
def CalBothSaid : Prop := calBothRow.holds Tryz.pinned (OpenSpec.ofChange calBothSpec)

/-- ITS FALSE NEIGHBOUR: 'it returns false'. Refute it at one input. -/
def calBothWrong : ChangeSpec := { name := "calBoth", fn := fun _ => fun
  | [d1, d2, d3] => { results := [.lit (.bool false)], args := [d1, d2, d3] }
  | _ => none }
def CalBothWrongFalsely : Prop := calBothRow.holds Tryz.pinned (OpenSpec.ofChange calBothWrong)

/-- 'voklaw17.CalReplaces': WHATEVER THE INPUT: true; the input reads as it did. -/
def calReplacesSpec : ChangeSpec := { name := "calReplaces", fn := fun _ => fun
  | [d1, d2, d3] => { results := [.lit (.bool true)], args := [d1, d2, d3] }
  | _ => none }
def calReplacesRow : OpenClaim := { program := "ytohpimfanplloaagreat", sum := "a91616f970c1cea0795e8da2adf5ae539f3fdb2711592d434f9f5254f3df7676", func := "convoker/voklaw17.CalReplaces", spec := "calReplaces", unfollowed := true, recurses := true, apart := false }
def CalReplacesSaid : Prop := calReplacesRow.holds Tryz.pinned (OpenSpec.ofChange calReplacesSpec)

/-- ITS FALSE NEIGHBOUR: 'it returns false'. Refute it at one input. -/
def calReplacesWrong : ChangeSpec := { name := "calReplaces", fn := fun _ => fun
  | [d1, d2, d3] => { results := [.lit (.bool false)], args := [d1, d2, d3] }
  | _ => none }
def CalReplacesWrongFalsely : Prop := calReplacesRow.holds Tryz.pinned (OpenSpec.ofChange calReplacesWrong)

/-- 'voklaw17.CalPlays': WHATEVER THE INPUT: true; the input reads as it did. -/
def calPlaysSpec : ChangeSpec := { name := "calPlays", fn := fun _ => fun
  | [d1, d2, d3] => { results := [.lit (.bool true)], args := [d1, d2, d3] }
  | _ => none }
def calPlaysRow : OpenClaim := { program := "ytohpimfanplloaagreat", sum := "a91616f970c1cea0795e8da2adf5ae539f3fdb2711592d434f9f5254f3df7676", func := "convoker/voklaw17.CalPlays", spec := "calPlays", unfollowed := true, recurses := true, apart := false }
def CalPlaysSaid : Prop := calPlaysRow.holds Tryz.pinned (OpenSpec.ofChange calPlaysSpec)

/-- ITS FALSE NEIGHBOUR: 'it returns false'. Refute it at one input. -/
def calPlaysWrong : ChangeSpec := { name := "calPlays", fn := fun _ => fun
  | [d1, d2, d3] => { results := [.lit (.bool false)], args := [d1, d2, d3] }
  | _ => none }
def CalPlaysWrongFalsely : Prop := calPlaysRow.holds Tryz.pinned (OpenSpec.ofChange calPlaysWrong)

/-- 'voklaw17.CalApart': WHATEVER THE INPUT: true; the input reads as it did. -/
def calApartSpec : ChangeSpec := { name := "calApart", fn := fun _ => fun
  | [d1, d2, d3, d4, d5, d6] => { results := [.lit (.bool true)], args := [d1, d2, d3, d4, d5, d6] }
  | _ => none }
def calApartRow : OpenClaim := { program := "ytohpimfanplloaagreat", sum := "a91616f970c1cea0795e8da2adf5ae539f3fdb2711592d434f9f5254f3df7676", func := "convoker/voklaw17.CalApart", spec := "calApart", unfollowed := true, recurses := true, apart := false }
def CalApartSaid : Prop := calApartRow.holds Tryz.pinned (OpenSpec.ofChange calApartSpec)

/-- ITS FALSE NEIGHBOUR: 'it returns false'. Refute it at one input. -/
def calApartWrong : ChangeSpec := { name := "calApart", fn := fun _ => fun
  | [d1, d2, d3, d4, d5, d6] => { results := [.lit (.bool false)], args := [d1, d2, d3, d4, d5, d6] }
  | _ => none }
def CalApartWrongFalsely : Prop := calApartRow.holds Tryz.pinned (OpenSpec.ofChange calApartWrong)

/- THE SECOND FORM. 'bulk': how many values and letters a reading holds, each counted each time it is reached (what is shared counts as often as it is met; a slice's spare places count too). A statement '..UptoSaid' is the law's where the arguments, and the package variables that the reading takes, are together of bulk at most 1048576: NARROWER than '..Said'. Prove '..Said' where nothing that the law and all that it calls make is longer than what came in: it says more and counts as full. Else prove '..UptoSaid'. A law counts once. -/
mutual
def uptoBulk {H : Type} : DataW H → Nat
  | .lit (.string bytes) => bytes.length + 1
  | .lit _ => 1
  | .nil => 1
  | .ptr d => uptoBulk d + 1
  | .slice elems spare => uptoBulkAll elems + uptoBulkAll spare + 1
  | .agg parts => uptoBulkAll parts + 1
  | .iface _ d => uptoBulk d + 1
  | .map entries => uptoBulkEntries entries + 1
  | .held _ => 1
def uptoBulkAll {H : Type} : List (DataW H) → Nat
  | [] => 0
  | d :: r => uptoBulk d + uptoBulkAll r
def uptoBulkEntries {H : Type} : List (Lit × DataW H) → Nat
  | [] => 0
  | x :: r => uptoBulkEntry x + uptoBulkEntries r
def uptoBulkEntry {H : Type} : Lit × DataW H → Nat
  | (.string bytes, d) => bytes.length + uptoBulk d + 1
  | (_, d) => uptoBulk d + 1
 end
def uptoSmall : (H : Type) → List (DataW H) → Bool := fun _ ds => decide (uptoBulkAll ds ≤ 1048576)
def OpenSpec.upto (s : _root_.Go.ChangeSpec) : _root_.Go.OpenSpec := { _root_.Go.OpenSpec.ofChange s with cond := some uptoSmall }

/-- 'voklaw17.CalHomes', WHERE WHAT IT READS IS OF BULK AT MOST 1048576: true; the input reads as it did. -/
def calHomesUptoRow : OpenClaim := { program := "ytohpimfanplloaagreat", sum := "a91616f970c1cea0795e8da2adf5ae539f3fdb2711592d434f9f5254f3df7676", func := "convoker/voklaw17.CalHomes", spec := "calHomes", unfollowed := true, recurses := true, apart := false, narrowed := true }
def CalHomesUptoSaid : Prop := calHomesUptoRow.holds Tryz.pinned (OpenSpec.upto calHomesSpec)

/-- 'voklaw17.CalBoth', WHERE WHAT IT READS IS OF BULK AT MOST 1048576: true; the input reads as it did. -/
def calBothUptoRow : OpenClaim := { program := "ytohpimfanplloaagreat", sum := "a91616f970c1cea0795e8da2adf5ae539f3fdb2711592d434f9f5254f3df7676", func := "convoker/voklaw17.CalBoth", spec := "calBoth", unfollowed := true, recurses := true, apart := false, narrowed := true }
def CalBothUptoSaid : Prop := calBothUptoRow.holds Tryz.pinned (OpenSpec.upto calBothSpec)

/-- 'voklaw17.CalReplaces', WHERE WHAT IT READS IS OF BULK AT MOST 1048576: true; the input reads as it did. -/
def calReplacesUptoRow : OpenClaim := { program := "ytohpimfanplloaagreat", sum := "a91616f970c1cea0795e8da2adf5ae539f3fdb2711592d434f9f5254f3df7676", func := "convoker/voklaw17.CalReplaces", spec := "calReplaces", unfollowed := true, recurses := true, apart := false, narrowed := true }
def CalReplacesUptoSaid : Prop := calReplacesUptoRow.holds Tryz.pinned (OpenSpec.upto calReplacesSpec)

/-- 'voklaw17.CalPlays', WHERE WHAT IT READS IS OF BULK AT MOST 1048576: true; the input reads as it did. -/
def calPlaysUptoRow : OpenClaim := { program := "ytohpimfanplloaagreat", sum := "a91616f970c1cea0795e8da2adf5ae539f3fdb2711592d434f9f5254f3df7676", func := "convoker/voklaw17.CalPlays", spec := "calPlays", unfollowed := true, recurses := true, apart := false, narrowed := true }
def CalPlaysUptoSaid : Prop := calPlaysUptoRow.holds Tryz.pinned (OpenSpec.upto calPlaysSpec)

/-- 'voklaw17.CalApart', WHERE WHAT IT READS IS OF BULK AT MOST 1048576: true; the input reads as it did. -/
def calApartUptoRow : OpenClaim := { program := "ytohpimfanplloaagreat", sum := "a91616f970c1cea0795e8da2adf5ae539f3fdb2711592d434f9f5254f3df7676", func := "convoker/voklaw17.CalApart", spec := "calApart", unfollowed := true, recurses := true, apart := false, narrowed := true }
def CalApartUptoSaid : Prop := calApartUptoRow.holds Tryz.pinned (OpenSpec.upto calApartSpec)

end Rows
end Go.Proofs.YtohpimfanplloaaGreat
