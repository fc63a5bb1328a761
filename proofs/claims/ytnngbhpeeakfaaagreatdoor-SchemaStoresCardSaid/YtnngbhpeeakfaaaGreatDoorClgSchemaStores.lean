/- Facts on the program's cut at SchemaStores, for its card: the kernel decides them one by one (in one proof its memory ends). Conditions: none. -/
import Derived.Test.YtnngbhpeeakfaaaGreatDoorCards
import Derived.Test.YtnngbhpeeakfaaaGreatDoorTie
namespace Go.Proofs.YtnngbhpeeakfaaaGreatDoor
theorem schemaStores_wf : OpenClaim.wfByText (OpenSpec.ofChange Rows.schemaStoresSpec) Rows.schemaStoresRow = true := by kernel_rfl
theorem schemaStores_main : Tryz.pinned.checked.prog.mainIs = some (Rows.schemaStoresCard.stood.harness.fst, Rows.schemaStoresCard.stood.harness.snd.toList) := by kernel_rfl
theorem schemaStores_looks : Rows.schemaStoresCard.stood.looks = Tryz.pinned.checked.prog.looks [] := by kernel_rfl
theorem schemaStores_goes : false = Rows.schemaStoresRow.goesBy Tryz.pinned.checked.prog := by kernel_rfl
end Go.Proofs.YtnngbhpeeakfaaaGreatDoor
