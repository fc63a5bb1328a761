/- Facts on the program's cut at SchemaStores, by the kernel. -/
import Derived.Test.YtnngbhpeeakfaaaGreatDoorRows
import Derived.Test.YtnngbhpeeakfaaaGreatDoorChecked
import Derived.JoinedOf
namespace Go.Proofs.YtnngbhpeeakfaaaGreatDoor
theorem schemaStores_in:Rows.schemaStoresRow.inPlace=Tryz.prog.inPlace 5:=by kernel_rfl
theorem schemaStores_un:Rows.schemaStoresRow.unfollowed=Tryz.prog.unfollowed 5:=by kernel_rfl
theorem schemaStores_re:Rows.schemaStoresRow.recurses=Tryz.prog.recurses 5:=by kernel_rfl
theorem schemaStores_na:Rows.schemaStoresRow.named=Tryz.prog.varsNamed 5:=by kernel_rfl
theorem schemaStores_closed:joinedFacts Tryz.prog 5 Tryz.f5 Rows.schemaStoresSpec Rows.schemaStoresRow=true:=by
  unfold joinedFacts
  rw [← schemaStores_in,← schemaStores_un,← schemaStores_re,← schemaStores_na]
  kernel_rfl
end Go.Proofs.YtnngbhpeeakfaaaGreatDoor
