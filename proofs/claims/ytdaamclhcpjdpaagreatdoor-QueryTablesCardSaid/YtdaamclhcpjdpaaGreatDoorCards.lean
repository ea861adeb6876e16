/-
  DERIVED. GIVEN WITH THE SEED: THE CARDS: each row of YtdaamclhcpjdpaaGreatDoorRows.lean that lists a variable, with what it lists TIED to the program's text (the seventh form; the later family's looks); each row that meets fmt, with fmt's text TOLD by the authors' own Lean function (tested against real Go, not proved from fmt's source: count such statements apart). THE CARD IS WHAT COUNTS. Prove the row's statement (the work); the ties are given (YtdaamclhcpjdpaaGreatDoorTie.lean); close each card by the builder's one call (the guide's Derived/Test/ToyasCard.lean, 'card_holds'). Laid BY PROGRAM, IN A SANDBOX (cutbox-door.mjs). By AI agents, Wed Nov 11 2026. No macro, syntax, notation, axiom, sorry.
-/
import Derived.Test.YtdaamclhcpjdpaaGreatDoorRows
import GoSem.ClaimSeven
namespace Go.Proofs.YtdaamclhcpjdpaaGreatDoor
namespace Rows

/-- THE TIED CARD OF 'annalistlaw31.QueryRetained'. -/
def queryRetainedCard : Claim7 := { stood := { row := queryRetainedRow, standIns := [], harness := (true, "41437ffd9e7506d2e18345dc3300a36fec55d715d51d6fe5fd864069e7f94cad"), looks := true }, kinds := [], alts := [], laidByText := true, laidKinds := [.sentinel, .sentinel, .data, .data, .data, .pinned, .data, .data], laidTests := true, laidLooks := .later }
def QueryRetainedCardSaid : Prop := Claim7.holds Tryz.pinned (.plain (OpenSpec.ofChange queryRetainedSpec)) queryRetainedCard

/-- THE TIED CARD OF 'annalistlaw31.QueryTables'. -/
def queryTablesCard : Claim7 := { stood := { row := queryTablesRow, standIns := [], harness := (true, "41437ffd9e7506d2e18345dc3300a36fec55d715d51d6fe5fd864069e7f94cad"), looks := true }, kinds := [], alts := [], laidByText := true, laidKinds := [.sentinel, .sentinel, .data, .data, .data, .pinned, .data, .data], laidTests := true, laidLooks := .later }
def QueryTablesCardSaid : Prop := Claim7.holds Tryz.pinned (.plain (OpenSpec.ofChange queryTablesSpec)) queryTablesCard

/-- THE SECOND FORM's CARD OF 'annalistlaw31.QueryRetained'. -/
def queryRetainedUptoCard : Claim7 := { stood := { row := queryRetainedUptoRow, standIns := [], harness := (true, "41437ffd9e7506d2e18345dc3300a36fec55d715d51d6fe5fd864069e7f94cad"), looks := true }, kinds := [], alts := [], laidByText := true, laidKinds := [.sentinel, .sentinel, .data, .data, .data, .pinned, .data, .data], laidTests := true, laidLooks := .later }
def QueryRetainedUptoCardSaid : Prop := Claim7.holds Tryz.pinned (.plain (OpenSpec.upto queryRetainedSpec)) queryRetainedUptoCard

/-- THE SECOND FORM's CARD OF 'annalistlaw31.QueryTables'. -/
def queryTablesUptoCard : Claim7 := { stood := { row := queryTablesUptoRow, standIns := [], harness := (true, "41437ffd9e7506d2e18345dc3300a36fec55d715d51d6fe5fd864069e7f94cad"), looks := true }, kinds := [], alts := [], laidByText := true, laidKinds := [.sentinel, .sentinel, .data, .data, .data, .pinned, .data, .data], laidTests := true, laidLooks := .later }
def QueryTablesUptoCardSaid : Prop := Claim7.holds Tryz.pinned (.plain (OpenSpec.upto queryTablesSpec)) queryTablesUptoCard
end Rows
end Go.Proofs.YtdaamclhcpjdpaaGreatDoor
