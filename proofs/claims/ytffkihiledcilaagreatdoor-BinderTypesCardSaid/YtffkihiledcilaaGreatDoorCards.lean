/-
  DERIVED. GIVEN WITH THE SEED: THE CARDS: each row of YtffkihiledcilaaGreatDoorRows.lean that lists a variable, with what it lists TIED to the program's text (the seventh form; the later family's looks); each row that meets fmt, with fmt's text TOLD by the authors' own Lean function (tested against real Go, not proved from fmt's source: count such statements apart). THE CARD IS WHAT COUNTS. Prove the row's statement (the work); the ties are given (YtffkihiledcilaaGreatDoorTie.lean); close each card by the builder's one call (the guide's Derived/Test/ToyasCard.lean, 'card_holds'). Laid BY PROGRAM, IN A SANDBOX (cutbox-door.mjs). By AI agents, Wed Nov 11 2026. No macro, syntax, notation, axiom, sorry.
-/
import Derived.Test.YtffkihiledcilaaGreatDoorRows
import GoSem.ClaimSeven
namespace Go.Proofs.YtffkihiledcilaaGreatDoor
namespace Rows

/-- THE TIED CARD OF 'annalistlaw29.BinderTypes'. -/
def binderTypesCard : Claim7 := { stood := { row := binderTypesRow, standIns := [], harness := (true, "55deadf775f805ac29ff971c55a9d6ff2c7e80cb8a75857976d391412727cffd"), looks := true }, kinds := [], alts := [], laidByText := true, laidKinds := [.data, .data, .data, .data, .sentinel, .sentinel, .pinned], laidTests := true, laidLooks := .later }
def BinderTypesCardSaid : Prop := Claim7.holds Tryz.pinned (.plain (OpenSpec.ofChange binderTypesSpec)) binderTypesCard

/-- THE SECOND FORM's CARD OF 'annalistlaw29.BinderTypes'. -/
def binderTypesUptoCard : Claim7 := { stood := { row := binderTypesUptoRow, standIns := [], harness := (true, "55deadf775f805ac29ff971c55a9d6ff2c7e80cb8a75857976d391412727cffd"), looks := true }, kinds := [], alts := [], laidByText := true, laidKinds := [.data, .data, .data, .data, .sentinel, .sentinel, .pinned], laidTests := true, laidLooks := .later }
def BinderTypesUptoCardSaid : Prop := Claim7.holds Tryz.pinned (.plain (OpenSpec.upto binderTypesSpec)) binderTypesUptoCard
end Rows
end Go.Proofs.YtffkihiledcilaaGreatDoor
