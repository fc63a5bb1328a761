/-
  DERIVED. GIVEN WITH THE SEED: THE CARDS: each row of YtfbgdjcnlnfoaaaGreatDoorRows.lean that lists a variable, with what it lists TIED to the program's text (the seventh form; the later family's looks); each row that meets fmt, with fmt's text TOLD by the authors' own Lean function (tested against real Go, not proved from fmt's source: count such statements apart). THE CARD IS WHAT COUNTS. Prove the row's statement (the work); the ties are given (YtfbgdjcnlnfoaaaGreatDoorTie.lean); close each card by the builder's one call (the guide's Derived/Test/ToyasCard.lean, 'card_holds'). Laid BY PROGRAM, IN A SANDBOX (cutbox-door.mjs). By AI agents, Wed Nov 11 2026. No macro, syntax, notation, axiom, sorry.
-/
import Derived.Test.YtfbgdjcnlnfoaaaGreatDoorRows
import GoSem.ClaimSeven
namespace Go.Proofs.YtfbgdjcnlnfoaaaGreatDoor
namespace Rows

/-- THE TIED CARD OF 'clerestorylaw14.ParseChecks'. -/
def parseChecksCard : Claim7 := { stood := { row := parseChecksRow, standIns := [], harness := (true, "bb33fecd1a20414ec6bbc86906b8bdc92af334ce6ba87448839f168f6f18d069"), looks := true }, kinds := [], alts := [], laidByText := true, laidKinds := [.data, .data, .data, .data, .listed, .data, .pinned], laidTests := true, laidLooks := .later }
def ParseChecksCardSaid : Prop := Claim7.holds Tryz.pinned (.plain (OpenSpec.ofChange parseChecksSpec)) parseChecksCard

/-- THE TIED CARD OF 'clerestorylaw14.ParseFolds'. -/
def parseFoldsCard : Claim7 := { stood := { row := parseFoldsRow, standIns := [], harness := (true, "bb33fecd1a20414ec6bbc86906b8bdc92af334ce6ba87448839f168f6f18d069"), looks := true }, kinds := [], alts := [], laidByText := true, laidKinds := [.data, .data, .data, .data, .listed, .data, .pinned], laidTests := true, laidLooks := .later }
def ParseFoldsCardSaid : Prop := Claim7.holds Tryz.pinned (.plain (OpenSpec.ofChange parseFoldsSpec)) parseFoldsCard

/-- THE TIED CARD OF 'clerestorylaw14.ParseWrong'. -/
def parseWrongCard : Claim7 := { stood := { row := parseWrongRow, standIns := [], harness := (true, "bb33fecd1a20414ec6bbc86906b8bdc92af334ce6ba87448839f168f6f18d069"), looks := true }, kinds := [], alts := [], laidByText := true, laidKinds := [.data, .data, .data, .data, .listed, .data, .pinned], laidTests := true, laidLooks := .later }
def ParseWrongCardSaid : Prop := Claim7.holds Tryz.pinned (.plain (OpenSpec.ofChange parseWrongSpec)) parseWrongCard

/-- THE TIED CARD OF 'clerestorylaw14.ParseTables'. -/
def parseTablesCard : Claim7 := { stood := { row := parseTablesRow, standIns := [], harness := (true, "bb33fecd1a20414ec6bbc86906b8bdc92af334ce6ba87448839f168f6f18d069"), looks := true }, kinds := [], alts := [], laidByText := true, laidKinds := [.data, .data, .data, .data, .listed, .data, .pinned], laidTests := true, laidLooks := .later }
def ParseTablesCardSaid : Prop := Claim7.holds Tryz.pinned (.plain (OpenSpec.ofChange parseTablesSpec)) parseTablesCard

/-- THE TIED CARD OF 'clerestorylaw14.ParseBatches'. -/
def parseBatchesCard : Claim7 := { stood := { row := parseBatchesRow, standIns := [], harness := (true, "bb33fecd1a20414ec6bbc86906b8bdc92af334ce6ba87448839f168f6f18d069"), looks := true }, kinds := [], alts := [], laidByText := true, laidKinds := [.data, .data, .data, .data, .listed, .data, .pinned], laidTests := true, laidLooks := .later }
def ParseBatchesCardSaid : Prop := Claim7.holds Tryz.pinned (.plain (OpenSpec.ofChange parseBatchesSpec)) parseBatchesCard

/-- THE TIED CARD OF 'clerestorylaw14.ParseNames'. -/
def parseNamesCard : Claim7 := { stood := { row := parseNamesRow, standIns := [], harness := (true, "bb33fecd1a20414ec6bbc86906b8bdc92af334ce6ba87448839f168f6f18d069"), looks := true }, kinds := [], alts := [], laidByText := true, laidKinds := [.data, .data, .data, .data, .listed, .data, .pinned], laidTests := true, laidLooks := .later }
def ParseNamesCardSaid : Prop := Claim7.holds Tryz.pinned (.plain (OpenSpec.ofChange parseNamesSpec)) parseNamesCard

/-- THE TIED CARD OF 'clerestorylaw15.PrintAll'. -/
def printAllCard : Claim7 := { stood := { row := printAllRow, standIns := [], harness := (true, "bb33fecd1a20414ec6bbc86906b8bdc92af334ce6ba87448839f168f6f18d069"), looks := true }, kinds := [], alts := [], laidByText := true, laidKinds := [.data, .data, .data, .data, .listed, .data, .pinned], laidTests := true, laidLooks := .later }
def PrintAllCardSaid : Prop := Claim7.holds Tryz.pinned (.plain (OpenSpec.ofChange printAllSpec)) printAllCard

/-- THE TIED CARD OF 'clerestorylaw15.PrintBack'. -/
def printBackCard : Claim7 := { stood := { row := printBackRow, standIns := [], harness := (true, "bb33fecd1a20414ec6bbc86906b8bdc92af334ce6ba87448839f168f6f18d069"), looks := true }, kinds := [], alts := [], laidByText := true, laidKinds := [.data, .data, .data, .data, .listed, .data, .pinned], laidTests := true, laidLooks := .later }
def PrintBackCardSaid : Prop := Claim7.holds Tryz.pinned (.plain (OpenSpec.ofChange printBackSpec)) printBackCard

/-- THE TIED CARD OF 'clerestorylaw15.PrintStatements'. -/
def printStatementsCard : Claim7 := { stood := { row := printStatementsRow, standIns := [], harness := (true, "bb33fecd1a20414ec6bbc86906b8bdc92af334ce6ba87448839f168f6f18d069"), looks := true }, kinds := [], alts := [], laidByText := true, laidKinds := [.data, .data, .data, .data, .listed, .data, .pinned], laidTests := true, laidLooks := .later }
def PrintStatementsCardSaid : Prop := Claim7.holds Tryz.pinned (.plain (OpenSpec.ofChange printStatementsSpec)) printStatementsCard

/-- THE TIED CARD OF 'clerestorylaw15.PrintTexts'. -/
def printTextsCard : Claim7 := { stood := { row := printTextsRow, standIns := [], harness := (true, "bb33fecd1a20414ec6bbc86906b8bdc92af334ce6ba87448839f168f6f18d069"), looks := true }, kinds := [], alts := [], laidByText := true, laidKinds := [.data, .data, .data, .data, .listed, .data, .pinned], laidTests := true, laidLooks := .later }
def PrintTextsCardSaid : Prop := Claim7.holds Tryz.pinned (.plain (OpenSpec.ofChange printTextsSpec)) printTextsCard

/-- THE TIED CARD OF 'clerestorylaw15.PrintNone'. -/
def printNoneCard : Claim7 := { stood := { row := printNoneRow, standIns := [], harness := (true, "bb33fecd1a20414ec6bbc86906b8bdc92af334ce6ba87448839f168f6f18d069"), looks := true }, kinds := [], alts := [], laidByText := true, laidKinds := [.data, .data, .data, .data, .listed, .data, .pinned], laidTests := true, laidLooks := .later }
def PrintNoneCardSaid : Prop := Claim7.holds Tryz.pinned (.plain (OpenSpec.ofChange printNoneSpec)) printNoneCard

/-- THE SECOND FORM's CARD OF 'clerestorylaw14.ParseChecks'. -/
def parseChecksUptoCard : Claim7 := { stood := { row := parseChecksUptoRow, standIns := [], harness := (true, "bb33fecd1a20414ec6bbc86906b8bdc92af334ce6ba87448839f168f6f18d069"), looks := true }, kinds := [], alts := [], laidByText := true, laidKinds := [.data, .data, .data, .data, .listed, .data, .pinned], laidTests := true, laidLooks := .later }
def ParseChecksUptoCardSaid : Prop := Claim7.holds Tryz.pinned (.plain (OpenSpec.upto parseChecksSpec)) parseChecksUptoCard

/-- THE SECOND FORM's CARD OF 'clerestorylaw14.ParseFolds'. -/
def parseFoldsUptoCard : Claim7 := { stood := { row := parseFoldsUptoRow, standIns := [], harness := (true, "bb33fecd1a20414ec6bbc86906b8bdc92af334ce6ba87448839f168f6f18d069"), looks := true }, kinds := [], alts := [], laidByText := true, laidKinds := [.data, .data, .data, .data, .listed, .data, .pinned], laidTests := true, laidLooks := .later }
def ParseFoldsUptoCardSaid : Prop := Claim7.holds Tryz.pinned (.plain (OpenSpec.upto parseFoldsSpec)) parseFoldsUptoCard

/-- THE SECOND FORM's CARD OF 'clerestorylaw14.ParseWrong'. -/
def parseWrongUptoCard : Claim7 := { stood := { row := parseWrongUptoRow, standIns := [], harness := (true, "bb33fecd1a20414ec6bbc86906b8bdc92af334ce6ba87448839f168f6f18d069"), looks := true }, kinds := [], alts := [], laidByText := true, laidKinds := [.data, .data, .data, .data, .listed, .data, .pinned], laidTests := true, laidLooks := .later }
def ParseWrongUptoCardSaid : Prop := Claim7.holds Tryz.pinned (.plain (OpenSpec.upto parseWrongSpec)) parseWrongUptoCard

/-- THE SECOND FORM's CARD OF 'clerestorylaw14.ParseTables'. -/
def parseTablesUptoCard : Claim7 := { stood := { row := parseTablesUptoRow, standIns := [], harness := (true, "bb33fecd1a20414ec6bbc86906b8bdc92af334ce6ba87448839f168f6f18d069"), looks := true }, kinds := [], alts := [], laidByText := true, laidKinds := [.data, .data, .data, .data, .listed, .data, .pinned], laidTests := true, laidLooks := .later }
def ParseTablesUptoCardSaid : Prop := Claim7.holds Tryz.pinned (.plain (OpenSpec.upto parseTablesSpec)) parseTablesUptoCard

/-- THE SECOND FORM's CARD OF 'clerestorylaw14.ParseBatches'. -/
def parseBatchesUptoCard : Claim7 := { stood := { row := parseBatchesUptoRow, standIns := [], harness := (true, "bb33fecd1a20414ec6bbc86906b8bdc92af334ce6ba87448839f168f6f18d069"), looks := true }, kinds := [], alts := [], laidByText := true, laidKinds := [.data, .data, .data, .data, .listed, .data, .pinned], laidTests := true, laidLooks := .later }
def ParseBatchesUptoCardSaid : Prop := Claim7.holds Tryz.pinned (.plain (OpenSpec.upto parseBatchesSpec)) parseBatchesUptoCard

/-- THE SECOND FORM's CARD OF 'clerestorylaw14.ParseNames'. -/
def parseNamesUptoCard : Claim7 := { stood := { row := parseNamesUptoRow, standIns := [], harness := (true, "bb33fecd1a20414ec6bbc86906b8bdc92af334ce6ba87448839f168f6f18d069"), looks := true }, kinds := [], alts := [], laidByText := true, laidKinds := [.data, .data, .data, .data, .listed, .data, .pinned], laidTests := true, laidLooks := .later }
def ParseNamesUptoCardSaid : Prop := Claim7.holds Tryz.pinned (.plain (OpenSpec.upto parseNamesSpec)) parseNamesUptoCard

/-- THE SECOND FORM's CARD OF 'clerestorylaw15.PrintAll'. -/
def printAllUptoCard : Claim7 := { stood := { row := printAllUptoRow, standIns := [], harness := (true, "bb33fecd1a20414ec6bbc86906b8bdc92af334ce6ba87448839f168f6f18d069"), looks := true }, kinds := [], alts := [], laidByText := true, laidKinds := [.data, .data, .data, .data, .listed, .data, .pinned], laidTests := true, laidLooks := .later }
def PrintAllUptoCardSaid : Prop := Claim7.holds Tryz.pinned (.plain (OpenSpec.upto printAllSpec)) printAllUptoCard

/-- THE SECOND FORM's CARD OF 'clerestorylaw15.PrintBack'. -/
def printBackUptoCard : Claim7 := { stood := { row := printBackUptoRow, standIns := [], harness := (true, "bb33fecd1a20414ec6bbc86906b8bdc92af334ce6ba87448839f168f6f18d069"), looks := true }, kinds := [], alts := [], laidByText := true, laidKinds := [.data, .data, .data, .data, .listed, .data, .pinned], laidTests := true, laidLooks := .later }
def PrintBackUptoCardSaid : Prop := Claim7.holds Tryz.pinned (.plain (OpenSpec.upto printBackSpec)) printBackUptoCard

/-- THE SECOND FORM's CARD OF 'clerestorylaw15.PrintStatements'. -/
def printStatementsUptoCard : Claim7 := { stood := { row := printStatementsUptoRow, standIns := [], harness := (true, "bb33fecd1a20414ec6bbc86906b8bdc92af334ce6ba87448839f168f6f18d069"), looks := true }, kinds := [], alts := [], laidByText := true, laidKinds := [.data, .data, .data, .data, .listed, .data, .pinned], laidTests := true, laidLooks := .later }
def PrintStatementsUptoCardSaid : Prop := Claim7.holds Tryz.pinned (.plain (OpenSpec.upto printStatementsSpec)) printStatementsUptoCard

/-- THE SECOND FORM's CARD OF 'clerestorylaw15.PrintTexts'. -/
def printTextsUptoCard : Claim7 := { stood := { row := printTextsUptoRow, standIns := [], harness := (true, "bb33fecd1a20414ec6bbc86906b8bdc92af334ce6ba87448839f168f6f18d069"), looks := true }, kinds := [], alts := [], laidByText := true, laidKinds := [.data, .data, .data, .data, .listed, .data, .pinned], laidTests := true, laidLooks := .later }
def PrintTextsUptoCardSaid : Prop := Claim7.holds Tryz.pinned (.plain (OpenSpec.upto printTextsSpec)) printTextsUptoCard

/-- THE SECOND FORM's CARD OF 'clerestorylaw15.PrintNone'. -/
def printNoneUptoCard : Claim7 := { stood := { row := printNoneUptoRow, standIns := [], harness := (true, "bb33fecd1a20414ec6bbc86906b8bdc92af334ce6ba87448839f168f6f18d069"), looks := true }, kinds := [], alts := [], laidByText := true, laidKinds := [.data, .data, .data, .data, .listed, .data, .pinned], laidTests := true, laidLooks := .later }
def PrintNoneUptoCardSaid : Prop := Claim7.holds Tryz.pinned (.plain (OpenSpec.upto printNoneSpec)) printNoneUptoCard
end Rows
end Go.Proofs.YtfbgdjcnlnfoaaaGreatDoor
