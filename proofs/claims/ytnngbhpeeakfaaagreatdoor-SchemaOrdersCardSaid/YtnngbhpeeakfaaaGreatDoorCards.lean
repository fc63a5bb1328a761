/-
  DERIVED. GIVEN WITH THE SEED: THE CARDS: each row of YtnngbhpeeakfaaaGreatDoorRows.lean that lists a variable, with what it lists TIED to the program's text (the seventh form; the later family's looks); each row that meets fmt, with fmt's text TOLD by the authors' own Lean function (tested against real Go, not proved from fmt's source: count such statements apart). THE CARD IS WHAT COUNTS. Prove the row's statement (the work); the ties are given (YtnngbhpeeakfaaaGreatDoorTie.lean); close each card by the builder's one call (the guide's Derived/Test/ToyasCard.lean, 'card_holds'). Laid BY PROGRAM, IN A SANDBOX (cutbox-door.mjs). By AI agents, Wed Nov 11 2026. No macro, syntax, notation, axiom, sorry.
-/
import Derived.Test.YtnngbhpeeakfaaaGreatDoorRows
import GoSem.ClaimSeven
namespace Go.Proofs.YtnngbhpeeakfaaaGreatDoor
namespace Rows

/-- THE TIED CARD OF 'clerestorylaw16.SchemaViews'. -/
def schemaViewsCard : Claim7 := { stood := { row := schemaViewsRow, standIns := [], harness := (true, "2d73bda4ed438f7f7f306f45456f8900a5404b5a20553232931d1c102ac9d6b9"), looks := true }, kinds := [], alts := [], laidByText := true, laidKinds := [.data, .data, .data, .data, .listed, .data, .pinned], laidTests := true, laidLooks := .later }
def SchemaViewsCardSaid : Prop := Claim7.holds Tryz.pinned (.plain (OpenSpec.ofChange schemaViewsSpec)) schemaViewsCard

/-- THE TIED CARD OF 'clerestorylaw16.SchemaOrders'. -/
def schemaOrdersCard : Claim7 := { stood := { row := schemaOrdersRow, standIns := [], harness := (true, "2d73bda4ed438f7f7f306f45456f8900a5404b5a20553232931d1c102ac9d6b9"), looks := true }, kinds := [], alts := [], laidByText := true, laidKinds := [.data, .data, .data, .data, .listed, .data, .pinned], laidTests := true, laidLooks := .later }
def SchemaOrdersCardSaid : Prop := Claim7.holds Tryz.pinned (.plain (OpenSpec.ofChange schemaOrdersSpec)) schemaOrdersCard

/-- THE TIED CARD OF 'clerestorylaw16.SchemaStores'. -/
def schemaStoresCard : Claim7 := { stood := { row := schemaStoresRow, standIns := [], harness := (true, "2d73bda4ed438f7f7f306f45456f8900a5404b5a20553232931d1c102ac9d6b9"), looks := true }, kinds := [], alts := [], laidByText := true, laidKinds := [.data, .data, .data, .data, .listed, .data, .pinned], laidTests := true, laidLooks := .later }
def SchemaStoresCardSaid : Prop := Claim7.holds Tryz.pinned (.plain (OpenSpec.ofChange schemaStoresSpec)) schemaStoresCard

/-- THE TIED CARD OF 'clerestorylaw16.SchemaSpoilt'. -/
def schemaSpoiltCard : Claim7 := { stood := { row := schemaSpoiltRow, standIns := [], harness := (true, "2d73bda4ed438f7f7f306f45456f8900a5404b5a20553232931d1c102ac9d6b9"), looks := true }, kinds := [], alts := [], laidByText := true, laidKinds := [.data, .data, .data, .data, .listed, .data, .pinned], laidTests := true, laidLooks := .later }
def SchemaSpoiltCardSaid : Prop := Claim7.holds Tryz.pinned (.plain (OpenSpec.ofChange schemaSpoiltSpec)) schemaSpoiltCard

/-- THE TIED CARD OF 'clerestorylaw17.BindBatches'. -/
def bindBatchesCard : Claim7 := { stood := { row := bindBatchesRow, standIns := [], harness := (true, "2d73bda4ed438f7f7f306f45456f8900a5404b5a20553232931d1c102ac9d6b9"), looks := true }, kinds := [], alts := [], laidByText := true, laidKinds := [.data, .data, .data, .data, .listed, .data, .pinned], laidTests := true, laidLooks := .later }
def BindBatchesCardSaid : Prop := Claim7.holds Tryz.pinned (.plain (OpenSpec.ofChange bindBatchesSpec)) bindBatchesCard

/-- THE TIED CARD OF 'clerestorylaw17.BindWrong'. -/
def bindWrongCard : Claim7 := { stood := { row := bindWrongRow, standIns := [], harness := (true, "2d73bda4ed438f7f7f306f45456f8900a5404b5a20553232931d1c102ac9d6b9"), looks := true }, kinds := [], alts := [], laidByText := true, laidKinds := [.data, .data, .data, .data, .listed, .data, .pinned], laidTests := true, laidLooks := .later }
def BindWrongCardSaid : Prop := Claim7.holds Tryz.pinned (.plain (OpenSpec.ofChange bindWrongSpec)) bindWrongCard

/-- THE TIED CARD OF 'clerestorylaw17.BindSees'. -/
def bindSeesCard : Claim7 := { stood := { row := bindSeesRow, standIns := [], harness := (true, "2d73bda4ed438f7f7f306f45456f8900a5404b5a20553232931d1c102ac9d6b9"), looks := true }, kinds := [], alts := [], laidByText := true, laidKinds := [.data, .data, .data, .data, .listed, .data, .pinned], laidTests := true, laidLooks := .later }
def BindSeesCardSaid : Prop := Claim7.holds Tryz.pinned (.plain (OpenSpec.ofChange bindSeesSpec)) bindSeesCard

/-- THE SECOND FORM's CARD OF 'clerestorylaw16.SchemaViews'. -/
def schemaViewsUptoCard : Claim7 := { stood := { row := schemaViewsUptoRow, standIns := [], harness := (true, "2d73bda4ed438f7f7f306f45456f8900a5404b5a20553232931d1c102ac9d6b9"), looks := true }, kinds := [], alts := [], laidByText := true, laidKinds := [.data, .data, .data, .data, .listed, .data, .pinned], laidTests := true, laidLooks := .later }
def SchemaViewsUptoCardSaid : Prop := Claim7.holds Tryz.pinned (.plain (OpenSpec.upto schemaViewsSpec)) schemaViewsUptoCard

/-- THE SECOND FORM's CARD OF 'clerestorylaw16.SchemaOrders'. -/
def schemaOrdersUptoCard : Claim7 := { stood := { row := schemaOrdersUptoRow, standIns := [], harness := (true, "2d73bda4ed438f7f7f306f45456f8900a5404b5a20553232931d1c102ac9d6b9"), looks := true }, kinds := [], alts := [], laidByText := true, laidKinds := [.data, .data, .data, .data, .listed, .data, .pinned], laidTests := true, laidLooks := .later }
def SchemaOrdersUptoCardSaid : Prop := Claim7.holds Tryz.pinned (.plain (OpenSpec.upto schemaOrdersSpec)) schemaOrdersUptoCard

/-- THE SECOND FORM's CARD OF 'clerestorylaw16.SchemaStores'. -/
def schemaStoresUptoCard : Claim7 := { stood := { row := schemaStoresUptoRow, standIns := [], harness := (true, "2d73bda4ed438f7f7f306f45456f8900a5404b5a20553232931d1c102ac9d6b9"), looks := true }, kinds := [], alts := [], laidByText := true, laidKinds := [.data, .data, .data, .data, .listed, .data, .pinned], laidTests := true, laidLooks := .later }
def SchemaStoresUptoCardSaid : Prop := Claim7.holds Tryz.pinned (.plain (OpenSpec.upto schemaStoresSpec)) schemaStoresUptoCard

/-- THE SECOND FORM's CARD OF 'clerestorylaw16.SchemaSpoilt'. -/
def schemaSpoiltUptoCard : Claim7 := { stood := { row := schemaSpoiltUptoRow, standIns := [], harness := (true, "2d73bda4ed438f7f7f306f45456f8900a5404b5a20553232931d1c102ac9d6b9"), looks := true }, kinds := [], alts := [], laidByText := true, laidKinds := [.data, .data, .data, .data, .listed, .data, .pinned], laidTests := true, laidLooks := .later }
def SchemaSpoiltUptoCardSaid : Prop := Claim7.holds Tryz.pinned (.plain (OpenSpec.upto schemaSpoiltSpec)) schemaSpoiltUptoCard

/-- THE SECOND FORM's CARD OF 'clerestorylaw17.BindBatches'. -/
def bindBatchesUptoCard : Claim7 := { stood := { row := bindBatchesUptoRow, standIns := [], harness := (true, "2d73bda4ed438f7f7f306f45456f8900a5404b5a20553232931d1c102ac9d6b9"), looks := true }, kinds := [], alts := [], laidByText := true, laidKinds := [.data, .data, .data, .data, .listed, .data, .pinned], laidTests := true, laidLooks := .later }
def BindBatchesUptoCardSaid : Prop := Claim7.holds Tryz.pinned (.plain (OpenSpec.upto bindBatchesSpec)) bindBatchesUptoCard

/-- THE SECOND FORM's CARD OF 'clerestorylaw17.BindWrong'. -/
def bindWrongUptoCard : Claim7 := { stood := { row := bindWrongUptoRow, standIns := [], harness := (true, "2d73bda4ed438f7f7f306f45456f8900a5404b5a20553232931d1c102ac9d6b9"), looks := true }, kinds := [], alts := [], laidByText := true, laidKinds := [.data, .data, .data, .data, .listed, .data, .pinned], laidTests := true, laidLooks := .later }
def BindWrongUptoCardSaid : Prop := Claim7.holds Tryz.pinned (.plain (OpenSpec.upto bindWrongSpec)) bindWrongUptoCard

/-- THE SECOND FORM's CARD OF 'clerestorylaw17.BindSees'. -/
def bindSeesUptoCard : Claim7 := { stood := { row := bindSeesUptoRow, standIns := [], harness := (true, "2d73bda4ed438f7f7f306f45456f8900a5404b5a20553232931d1c102ac9d6b9"), looks := true }, kinds := [], alts := [], laidByText := true, laidKinds := [.data, .data, .data, .data, .listed, .data, .pinned], laidTests := true, laidLooks := .later }
def BindSeesUptoCardSaid : Prop := Claim7.holds Tryz.pinned (.plain (OpenSpec.upto bindSeesSpec)) bindSeesUptoCard
end Rows
end Go.Proofs.YtnngbhpeeakfaaaGreatDoor
