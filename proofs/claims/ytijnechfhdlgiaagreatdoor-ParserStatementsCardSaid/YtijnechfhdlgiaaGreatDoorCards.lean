/-
  DERIVED. GIVEN WITH THE SEED: THE CARDS: each row of YtijnechfhdlgiaaGreatDoorRows.lean that lists a variable, with what it lists TIED to the program's text (the seventh form; the later family's looks); each row that meets fmt, with fmt's text TOLD by the authors' own Lean function (tested against real Go, not proved from fmt's source: count such statements apart). THE CARD IS WHAT COUNTS. Prove the row's statement (the work); the ties are given (YtijnechfhdlgiaaGreatDoorTie.lean); close each card by the builder's one call (the guide's Derived/Test/ToyasCard.lean, 'card_holds'). Laid BY PROGRAM, IN A SANDBOX (cutbox-door.mjs). By AI agents, Wed Nov 11 2026. No macro, syntax, notation, axiom, sorry.
-/
import Derived.Test.YtijnechfhdlgiaaGreatDoorRows
import GoSem.ClaimSeven
namespace Go.Proofs.YtijnechfhdlgiaaGreatDoor
namespace Rows

/-- THE TIED CARD OF 'annalistlaw28.ParserWords'. -/
def parserWordsCard : Claim7 := { stood := { row := parserWordsRow, standIns := [], harness := (true, "0aba2bfd008853dc32b42f56b3093d77f0fd4a4eded11def134d9e3697c404af"), looks := true }, kinds := [], alts := [], laidByText := true, laidKinds := [.data, .data, .data, .data, .sentinel, .sentinel, .pinned], laidTests := true, laidLooks := .later }
def ParserWordsCardSaid : Prop := Claim7.holds Tryz.pinned (.plain (OpenSpec.ofChange parserWordsSpec)) parserWordsCard

/-- THE TIED CARD OF 'annalistlaw28.ParserStatements'. -/
def parserStatementsCard : Claim7 := { stood := { row := parserStatementsRow, standIns := [], harness := (true, "0aba2bfd008853dc32b42f56b3093d77f0fd4a4eded11def134d9e3697c404af"), looks := true }, kinds := [], alts := [], laidByText := true, laidKinds := [.data, .data, .data, .data, .sentinel, .sentinel, .pinned], laidTests := true, laidLooks := .later }
def ParserStatementsCardSaid : Prop := Claim7.holds Tryz.pinned (.plain (OpenSpec.ofChange parserStatementsSpec)) parserStatementsCard

/-- THE TIED CARD OF 'annalistlaw28.ParserSelects'. -/
def parserSelectsCard : Claim7 := { stood := { row := parserSelectsRow, standIns := [], harness := (true, "0aba2bfd008853dc32b42f56b3093d77f0fd4a4eded11def134d9e3697c404af"), looks := true }, kinds := [], alts := [], laidByText := true, laidKinds := [.data, .data, .data, .data, .sentinel, .sentinel, .pinned], laidTests := true, laidLooks := .later }
def ParserSelectsCardSaid : Prop := Claim7.holds Tryz.pinned (.plain (OpenSpec.ofChange parserSelectsSpec)) parserSelectsCard

/-- THE SECOND FORM's CARD OF 'annalistlaw28.ParserWords'. -/
def parserWordsUptoCard : Claim7 := { stood := { row := parserWordsUptoRow, standIns := [], harness := (true, "0aba2bfd008853dc32b42f56b3093d77f0fd4a4eded11def134d9e3697c404af"), looks := true }, kinds := [], alts := [], laidByText := true, laidKinds := [.data, .data, .data, .data, .sentinel, .sentinel, .pinned], laidTests := true, laidLooks := .later }
def ParserWordsUptoCardSaid : Prop := Claim7.holds Tryz.pinned (.plain (OpenSpec.upto parserWordsSpec)) parserWordsUptoCard

/-- THE SECOND FORM's CARD OF 'annalistlaw28.ParserStatements'. -/
def parserStatementsUptoCard : Claim7 := { stood := { row := parserStatementsUptoRow, standIns := [], harness := (true, "0aba2bfd008853dc32b42f56b3093d77f0fd4a4eded11def134d9e3697c404af"), looks := true }, kinds := [], alts := [], laidByText := true, laidKinds := [.data, .data, .data, .data, .sentinel, .sentinel, .pinned], laidTests := true, laidLooks := .later }
def ParserStatementsUptoCardSaid : Prop := Claim7.holds Tryz.pinned (.plain (OpenSpec.upto parserStatementsSpec)) parserStatementsUptoCard

/-- THE SECOND FORM's CARD OF 'annalistlaw28.ParserSelects'. -/
def parserSelectsUptoCard : Claim7 := { stood := { row := parserSelectsUptoRow, standIns := [], harness := (true, "0aba2bfd008853dc32b42f56b3093d77f0fd4a4eded11def134d9e3697c404af"), looks := true }, kinds := [], alts := [], laidByText := true, laidKinds := [.data, .data, .data, .data, .sentinel, .sentinel, .pinned], laidTests := true, laidLooks := .later }
def ParserSelectsUptoCardSaid : Prop := Claim7.holds Tryz.pinned (.plain (OpenSpec.upto parserSelectsSpec)) parserSelectsUptoCard
end Rows
end Go.Proofs.YtijnechfhdlgiaaGreatDoor
