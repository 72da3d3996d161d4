/-
  DERIVED. GIVEN WITH THE SEED: THE CARDS: each row of YtohpimfanplloaaDoorRows.lean that lists a variable, with what it lists TIED to the program's text (the seventh form; the later family's looks); each row that meets fmt, with fmt's text TOLD by the authors' own Lean function (tested against real Go, not proved from fmt's source: count such statements apart). THE CARD IS WHAT COUNTS. Prove the row's statement (the work); the ties are given (YtohpimfanplloaaDoorTie.lean); close each card by the builder's one call (the guide's Derived/Test/ToyasCard.lean, 'card_holds'). Laid BY PROGRAM, IN A SANDBOX (cutbox-door.mjs). By AI agents, Wed Nov 11 2026. No macro, syntax, notation, axiom, sorry.
-/
import Derived.Test.YtohpimfanplloaaDoorRows
import GoSem.ClaimSeven
namespace Go.Proofs.YtohpimfanplloaaDoor
namespace Rows

/-- THE TIED CARD OF 'voklaw26.ScriptOpts'. -/
def scriptOptsCard : Claim7 := { stood := { row := scriptOptsRow, standIns := [], harness := (true, "8bca0ac31d28419c1b23fa69c643626bc895cf5f35140bb61b1a0e087d9493be"), looks := true }, kinds := [], alts := [], laidByText := true, laidKinds := [.data, .data, .data, .data, .sentinel, .sentinel, .pinned], laidTests := true, laidLooks := .later }
def ScriptOptsCardSaid : Prop := Claim7.holds Tryd.pinned (.plain (OpenSpec.ofChange scriptOptsSpec)) scriptOptsCard

/-- THE SECOND FORM's CARD OF 'voklaw26.ScriptOpts'. -/
def scriptOptsUptoCard : Claim7 := { stood := { row := scriptOptsUptoRow, standIns := [], harness := (true, "8bca0ac31d28419c1b23fa69c643626bc895cf5f35140bb61b1a0e087d9493be"), looks := true }, kinds := [], alts := [], laidByText := true, laidKinds := [.data, .data, .data, .data, .sentinel, .sentinel, .pinned], laidTests := true, laidLooks := .later }
def ScriptOptsUptoCardSaid : Prop := Claim7.holds Tryd.pinned (.plain (OpenSpec.upto scriptOptsSpec)) scriptOptsUptoCard
end Rows
end Go.Proofs.YtohpimfanplloaaDoor
