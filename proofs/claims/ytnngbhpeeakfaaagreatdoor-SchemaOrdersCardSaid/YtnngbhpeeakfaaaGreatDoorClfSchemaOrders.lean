/- Facts on the program's cut at SchemaOrders: the kernel decides them one by one (in one proof its memory ends). Conditions: none. -/
import Derived.JoinedOf
import Derived.Test.YtnngbhpeeakfaaaGreatDoorChecked
import Derived.Test.YtnngbhpeeakfaaaGreatDoorRows
namespace Go.Proofs.YtnngbhpeeakfaaaGreatDoor
theorem schemaOrders_in:Rows.schemaOrdersRow.inPlace=Tryz.prog.inPlace 4:=by kernel_rfl
theorem schemaOrders_un:Rows.schemaOrdersRow.unfollowed=Tryz.prog.unfollowed 4:=by kernel_rfl
theorem schemaOrders_re:Rows.schemaOrdersRow.recurses=Tryz.prog.recurses 4:=by kernel_rfl
theorem schemaOrders_na:Rows.schemaOrdersRow.named=Tryz.prog.varsNamed 4:=by kernel_rfl
theorem schemaOrders_closed:joinedFacts Tryz.prog 4 Tryz.f4 Rows.schemaOrdersSpec Rows.schemaOrdersRow=true:=by
 unfold joinedFacts
 rw [←schemaOrders_in,←schemaOrders_un,←schemaOrders_re,←schemaOrders_na]
 kernel_rfl
end Go.Proofs.YtnngbhpeeakfaaaGreatDoor
