/- Facts on the program's cut at SchemaSpoilt: the kernel decides them one by one (in one proof its memory ends). Conditions: none. -/
import Derived.JoinedOf
import Derived.Test.YtnngbhpeeakfaaaGreatDoorChecked
import Derived.Test.YtnngbhpeeakfaaaGreatDoorRows
namespace Go.Proofs.YtnngbhpeeakfaaaGreatDoor
theorem schemaSpoilt_in:Rows.schemaSpoiltRow.inPlace=Tryz.prog.inPlace 6:=by kernel_rfl
theorem schemaSpoilt_un:Rows.schemaSpoiltRow.unfollowed=Tryz.prog.unfollowed 6:=by kernel_rfl
theorem schemaSpoilt_re:Rows.schemaSpoiltRow.recurses=Tryz.prog.recurses 6:=by kernel_rfl
theorem schemaSpoilt_na:Rows.schemaSpoiltRow.named=Tryz.prog.varsNamed 6:=by kernel_rfl
theorem schemaSpoilt_closed:joinedFacts Tryz.prog 6 Tryz.f6 Rows.schemaSpoiltSpec Rows.schemaSpoiltRow=true:=by
 unfold joinedFacts
 rw [←schemaSpoilt_in,←schemaSpoilt_un,←schemaSpoilt_re,←schemaSpoilt_na]
 kernel_rfl
end Go.Proofs.YtnngbhpeeakfaaaGreatDoor
