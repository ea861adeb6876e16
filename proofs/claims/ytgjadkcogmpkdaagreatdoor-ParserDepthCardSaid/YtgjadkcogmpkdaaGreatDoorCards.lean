/-
  DERIVED. GIVEN WITH THE SEED: THE CARDS: each row of YtgjadkcogmpkdaaGreatDoorRows.lean that lists a variable, with what it lists TIED to the program's text (the seventh form; the later family's looks); each row that meets fmt, with fmt's text TOLD by the authors' own Lean function (tested against real Go, not proved from fmt's source: count such statements apart). THE CARD IS WHAT COUNTS. Prove the row's statement (the work); the ties are given (YtgjadkcogmpkdaaGreatDoorTie.lean); close each card by the builder's one call (the guide's Derived/Test/ToyasCard.lean, 'card_holds'). Laid BY PROGRAM, IN A SANDBOX (cutbox-door.mjs). By AI agents, Wed Nov 11 2026. No macro, syntax, notation, axiom, sorry.
-/
import Derived.Test.YtgjadkcogmpkdaaGreatDoorRows
import GoSem.ClaimSeven
namespace Go.Proofs.YtgjadkcogmpkdaaGreatDoor
namespace Rows

/-- THE TIED CARD OF 'annalistlaw28.ParserDepth'. -/
def parserDepthCard : Claim7 := { stood := { row := parserDepthRow, standIns := [], harness := (true, "bff8b934a8c3452522327c2f26dcd2074126001708cc988d68918ddc69983d1d"), looks := true }, kinds := [], alts := [], laidByText := true, laidKinds := [.data, .data, .data, .data, .sentinel, .sentinel, .pinned], laidTests := true, laidLooks := .later }
def ParserDepthCardSaid : Prop := Claim7.holds Tryz.pinned (.plain (OpenSpec.ofChange parserDepthSpec)) parserDepthCard

/-- THE SECOND FORM's CARD OF 'annalistlaw28.ParserDepth'. -/
def parserDepthUptoCard : Claim7 := { stood := { row := parserDepthUptoRow, standIns := [], harness := (true, "bff8b934a8c3452522327c2f26dcd2074126001708cc988d68918ddc69983d1d"), looks := true }, kinds := [], alts := [], laidByText := true, laidKinds := [.data, .data, .data, .data, .sentinel, .sentinel, .pinned], laidTests := true, laidLooks := .later }
def ParserDepthUptoCardSaid : Prop := Claim7.holds Tryz.pinned (.plain (OpenSpec.upto parserDepthSpec)) parserDepthUptoCard
end Rows
end Go.Proofs.YtgjadkcogmpkdaaGreatDoor
