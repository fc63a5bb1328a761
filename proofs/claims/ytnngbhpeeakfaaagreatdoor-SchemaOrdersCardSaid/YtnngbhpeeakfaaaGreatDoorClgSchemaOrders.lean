/- Facts on the program's cut at SchemaOrders, for its card: the kernel decides them one by one (in one proof its memory ends). Conditions: none. -/
import Derived.Test.YtnngbhpeeakfaaaGreatDoorCards
import Derived.Test.YtnngbhpeeakfaaaGreatDoorTie
namespace Go.Proofs.YtnngbhpeeakfaaaGreatDoor
theorem schemaOrders_wf:OpenClaim.wfByText (OpenSpec.ofChange Rows.schemaOrdersSpec) Rows.schemaOrdersRow=true:=by kernel_rfl
theorem schemaOrders_main:Tryz.pinned.checked.prog.mainIs=some (Rows.schemaOrdersCard.stood.harness.fst,Rows.schemaOrdersCard.stood.harness.snd.toList):=by kernel_rfl
theorem schemaOrders_looks:Rows.schemaOrdersCard.stood.looks=Tryz.pinned.checked.prog.looks []:=by kernel_rfl
theorem schemaOrders_goes:false=Rows.schemaOrdersRow.goesBy Tryz.pinned.checked.prog:=by kernel_rfl
end Go.Proofs.YtnngbhpeeakfaaaGreatDoor
