/-
  DERIVED. GIVEN WITH THE SEED: THE CARDS: each row of YtcgadodckoalnaaGreatDoorRows.lean that lists a variable, with what it lists TIED to the program's text (the seventh form; the later family's looks); each row that meets fmt, with fmt's text TOLD by the authors' own Lean function (tested against real Go, not proved from fmt's source: count such statements apart). THE CARD IS WHAT COUNTS. Prove the row's statement (the work); the ties are given (YtcgadodckoalnaaGreatDoorTie.lean); close each card by the builder's one call (the guide's Derived/Test/ToyasCard.lean, 'card_holds'). Laid BY PROGRAM, IN A SANDBOX (cutbox-door.mjs). By AI agents, Wed Nov 11 2026. No macro, syntax, notation, axiom, sorry.
-/
import Derived.Test.YtcgadodckoalnaaGreatDoorRows
import GoSem.ClaimSeven
namespace Go.Proofs.YtcgadodckoalnaaGreatDoor
namespace Rows

/-- THE TIED CARD OF 'clerestorylaw14.ParseChecks'. -/
def parseChecksCard : Claim7 := { stood := { row := parseChecksRow, standIns := [], harness := (true, "d9b077cb53518bb3dcf4c14859749e2035f3078821d0ff423d4c3d7698cde359"), looks := true }, kinds := [], alts := [], laidByText := true, laidKinds := [.data, .data, .data, .data, .listed, .data, .pinned], laidTests := true, laidLooks := .later }
def ParseChecksCardSaid : Prop := Claim7.holds Tryz.pinned (.plain (OpenSpec.ofChange parseChecksSpec)) parseChecksCard

/-- THE TIED CARD OF 'clerestorylaw15.PrintAll'. -/
def printAllCard : Claim7 := { stood := { row := printAllRow, standIns := [], harness := (true, "d9b077cb53518bb3dcf4c14859749e2035f3078821d0ff423d4c3d7698cde359"), looks := true }, kinds := [], alts := [], laidByText := true, laidKinds := [.data, .data, .data, .data, .listed, .data, .pinned], laidTests := true, laidLooks := .later }
def PrintAllCardSaid : Prop := Claim7.holds Tryz.pinned (.plain (OpenSpec.ofChange printAllSpec)) printAllCard

/-- THE SECOND FORM's CARD OF 'clerestorylaw14.ParseChecks'. -/
def parseChecksUptoCard : Claim7 := { stood := { row := parseChecksUptoRow, standIns := [], harness := (true, "d9b077cb53518bb3dcf4c14859749e2035f3078821d0ff423d4c3d7698cde359"), looks := true }, kinds := [], alts := [], laidByText := true, laidKinds := [.data, .data, .data, .data, .listed, .data, .pinned], laidTests := true, laidLooks := .later }
def ParseChecksUptoCardSaid : Prop := Claim7.holds Tryz.pinned (.plain (OpenSpec.upto parseChecksSpec)) parseChecksUptoCard

/-- THE SECOND FORM's CARD OF 'clerestorylaw15.PrintAll'. -/
def printAllUptoCard : Claim7 := { stood := { row := printAllUptoRow, standIns := [], harness := (true, "d9b077cb53518bb3dcf4c14859749e2035f3078821d0ff423d4c3d7698cde359"), looks := true }, kinds := [], alts := [], laidByText := true, laidKinds := [.data, .data, .data, .data, .listed, .data, .pinned], laidTests := true, laidLooks := .later }
def PrintAllUptoCardSaid : Prop := Claim7.holds Tryz.pinned (.plain (OpenSpec.upto printAllSpec)) printAllUptoCard
end Rows
end Go.Proofs.YtcgadodckoalnaaGreatDoor
