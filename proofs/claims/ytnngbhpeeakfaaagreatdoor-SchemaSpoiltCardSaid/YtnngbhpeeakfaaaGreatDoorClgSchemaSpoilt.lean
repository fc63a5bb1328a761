/- Facts on the program's cut at SchemaSpoilt, for its card: the kernel decides them one by one (in one proof its memory ends). Conditions: none. -/
import Derived.Test.YtnngbhpeeakfaaaGreatDoorCards
import Derived.Test.YtnngbhpeeakfaaaGreatDoorTie
namespace Go.Proofs.YtnngbhpeeakfaaaGreatDoor
theorem schemaSpoilt_wf:OpenClaim.wfByText (OpenSpec.ofChange Rows.schemaSpoiltSpec) Rows.schemaSpoiltRow=true:=by kernel_rfl
theorem schemaSpoilt_main:Tryz.pinned.checked.prog.mainIs=some (Rows.schemaSpoiltCard.stood.harness.fst,Rows.schemaSpoiltCard.stood.harness.snd.toList):=by kernel_rfl
theorem schemaSpoilt_looks:Rows.schemaSpoiltCard.stood.looks=Tryz.pinned.checked.prog.looks []:=by kernel_rfl
theorem schemaSpoilt_goes:false=Rows.schemaSpoiltRow.goesBy Tryz.pinned.checked.prog:=by kernel_rfl
end Go.Proofs.YtnngbhpeeakfaaaGreatDoor
