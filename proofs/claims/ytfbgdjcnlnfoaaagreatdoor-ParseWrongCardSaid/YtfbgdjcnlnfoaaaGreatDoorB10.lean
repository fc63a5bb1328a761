/- Parts of the proof, joined: GrmF GrmG GrmH GrmI GrmJ GrmK GrmL GrmM. -/
import Derived.Deep.RegionHeld3
import Derived.Deep.Upon
import Derived.Test.YtfbgdjcnlnfoaaaGreatDoorB09
namespace Go.Proofs.YtfbgdjcnlnfoaaaGreatDoor
open Go.RowKit
open Cle

theorem wpl_stg {T : TypeId} (hsz : (Tryz.prog.info? T).map (·.size) = some 18) {ops : Array Oper} {rest : List Oper} {op : Oper} {a : Act} {w : World} {b : Nat} {Q : Exit → Act → World → Prop} {V : Array Value} (hgd : op.guard = none) (x y : Operand) (ho : op.op = .store T x y)
    (hb : b = w.heap.size) (hx : a.eval x = .pointer (some ⟨b, 0, none⟩)) (hy : a.eval y = .agg V) (hV : V.size = 18) (h1' : V.toList.all (·.oneCell') = true) (h : wpList Tryz.prog ops Q rest (a.put op.dst undef) (w.alloc (.cells V T))) :
    wpList Tryz.prog ops Q (op :: rest) a (w.alloc (.cells #[.int .i64 0, .string ⟨#[]⟩, .string ⟨#[]⟩, .string ⟨#[]⟩, .string ⟨#[]⟩, .int .i64 0, .string ⟨#[]⟩, .int .i64 0, .string ⟨#[]⟩, .int .i64 0, .slice none 0 0, .slice none 0 0, .slice none 0 0, .slice none 0 0, .int .i64 0, .int .i64 0, .int .i64 0, .slice none 0 0] T)) := by
  have h1 : V.all (·.oneCell') = true := by rw [← Array.all_toList]; exact h1'
  refine wpList_plain hgd fun K hK => ?_
  unfold Oper.wp execOp
  have : (Instr.storeAt T (.pointer (some ⟨b, 0, none⟩)) (.agg V)).run Tryz.prog (w.alloc (.cells #[.int .i64 0, .string ⟨#[]⟩, .string ⟨#[]⟩, .string ⟨#[]⟩, .string ⟨#[]⟩, .int .i64 0, .string ⟨#[]⟩, .int .i64 0, .string ⟨#[]⟩, .int .i64 0, .slice none 0 0, .slice none 0 0, .slice none 0 0, .slice none 0 0, .int .i64 0, .int .i64 0, .int .i64 0, .slice none 0 0] T)) = .ok () (w.alloc (.cells V T)) := by
    rw [hb]; exact run_storeAt_new w _ _ V (by rw [hV]; exact hsz) (by rw [hV]; rfl) h1
  simp only [ho, hx, hy, Sem.run_bind, this, Result.andThen_ok, Sem.run_pure]
  exact hK _ _ h
def kindV (k : Int) (V : Array Value) : Value :=
  if k = 1 then .iface 83 (.agg V) else if k = 2 then .iface 86 (.agg V) else if k = 3 then .iface 90 (.agg V) else if k = 4 then .iface 91 (.agg V) else if k = 5 then .iface 92 (.agg V) else if k = 6 then .iface 95 (.agg V) else if k = 7 then .iface 97 (.agg V) else if k = 8 then .iface 98 (.agg V) else if k = 9 then .iface 100 (.agg V) else .nilIface
theorem sz_table : (Tryz.prog.info? 83).map (·.size) = some 18 := by kernel_rfl
theorem mki_table (V : Array Value) (w : World) : (Instr.makeInterface 83 (.agg V)).run Tryz.prog w = .ok (.iface 83 (.agg V)) w := by kernel_rfl
theorem sz_view : (Tryz.prog.info? 86).map (·.size) = some 18 := by kernel_rfl
theorem mki_view (V : Array Value) (w : World) : (Instr.makeInterface 86 (.agg V)).run Tryz.prog w = .ok (.iface 86 (.agg V)) w := by kernel_rfl
theorem sz_index : (Tryz.prog.info? 90).map (·.size) = some 18 := by kernel_rfl
theorem mki_index (V : Array Value) (w : World) : (Instr.makeInterface 90 (.agg V)).run Tryz.prog w = .ok (.iface 90 (.agg V)) w := by kernel_rfl
theorem sz_drop : (Tryz.prog.info? 91).map (·.size) = some 18 := by kernel_rfl
theorem mki_drop (V : Array Value) (w : World) : (Instr.makeInterface 91 (.agg V)).run Tryz.prog w = .ok (.iface 91 (.agg V)) w := by kernel_rfl
theorem sz_insert : (Tryz.prog.info? 92).map (·.size) = some 18 := by kernel_rfl
theorem mki_insert (V : Array Value) (w : World) : (Instr.makeInterface 92 (.agg V)).run Tryz.prog w = .ok (.iface 92 (.agg V)) w := by kernel_rfl
theorem sz_update : (Tryz.prog.info? 95).map (·.size) = some 18 := by kernel_rfl
theorem mki_update (V : Array Value) (w : World) : (Instr.makeInterface 95 (.agg V)).run Tryz.prog w = .ok (.iface 95 (.agg V)) w := by kernel_rfl
theorem sz_remove : (Tryz.prog.info? 97).map (·.size) = some 18 := by kernel_rfl
theorem mki_remove (V : Array Value) (w : World) : (Instr.makeInterface 97 (.agg V)).run Tryz.prog w = .ok (.iface 97 (.agg V)) w := by kernel_rfl
theorem sz_ask : (Tryz.prog.info? 98).map (·.size) = some 18 := by kernel_rfl
theorem mki_ask (V : Array Value) (w : World) : (Instr.makeInterface 98 (.agg V)).run Tryz.prog w = .ok (.iface 98 (.agg V)) w := by kernel_rfl
theorem sz_batch : (Tryz.prog.info? 100).map (·.size) = some 18 := by kernel_rfl
theorem mki_batch (V : Array Value) (w : World) : (Instr.makeInterface 100 (.agg V)).run Tryz.prog w = .ok (.iface 100 (.agg V)) w := by kernel_rfl
theorem ta_table (V : Array Value) (w : World) : (Instr.typeAssert (.iface 83 (.agg V)) 20 83 true).run Tryz.prog w = .ok (.tuple #[.agg V, .bool true]) w := by kernel_rfl
theorem ta_view (V : Array Value) (w : World) : (Instr.typeAssert (.iface 86 (.agg V)) 20 86 true).run Tryz.prog w = .ok (.tuple #[.agg V, .bool true]) w := by kernel_rfl
theorem ta_view_table (V : Array Value) (w : World) : (Instr.typeAssert (.iface 86 (.agg V)) 20 83 true).run Tryz.prog w = .ok (.tuple #[.agg #[.int .i64 0, .string ⟨#[]⟩, .string ⟨#[]⟩, .string ⟨#[]⟩, .string ⟨#[]⟩, .int .i64 0, .string ⟨#[]⟩, .int .i64 0, .string ⟨#[]⟩, .int .i64 0, .slice none 0 0, .slice none 0 0, .slice none 0 0, .slice none 0 0, .int .i64 0, .int .i64 0, .int .i64 0, .slice none 0 0], .bool false]) w := by kernel_rfl
theorem ta_index (V : Array Value) (w : World) : (Instr.typeAssert (.iface 90 (.agg V)) 20 90 true).run Tryz.prog w = .ok (.tuple #[.agg V, .bool true]) w := by kernel_rfl
theorem ta_index_table (V : Array Value) (w : World) : (Instr.typeAssert (.iface 90 (.agg V)) 20 83 true).run Tryz.prog w = .ok (.tuple #[.agg #[.int .i64 0, .string ⟨#[]⟩, .string ⟨#[]⟩, .string ⟨#[]⟩, .string ⟨#[]⟩, .int .i64 0, .string ⟨#[]⟩, .int .i64 0, .string ⟨#[]⟩, .int .i64 0, .slice none 0 0, .slice none 0 0, .slice none 0 0, .slice none 0 0, .int .i64 0, .int .i64 0, .int .i64 0, .slice none 0 0], .bool false]) w := by kernel_rfl
theorem ta_index_view (V : Array Value) (w : World) : (Instr.typeAssert (.iface 90 (.agg V)) 20 86 true).run Tryz.prog w = .ok (.tuple #[.agg #[.int .i64 0, .string ⟨#[]⟩, .string ⟨#[]⟩, .string ⟨#[]⟩, .string ⟨#[]⟩, .int .i64 0, .string ⟨#[]⟩, .int .i64 0, .string ⟨#[]⟩, .int .i64 0, .slice none 0 0, .slice none 0 0, .slice none 0 0, .slice none 0 0, .int .i64 0, .int .i64 0, .int .i64 0, .slice none 0 0], .bool false]) w := by kernel_rfl
theorem ta_drop (V : Array Value) (w : World) : (Instr.typeAssert (.iface 91 (.agg V)) 20 91 true).run Tryz.prog w = .ok (.tuple #[.agg V, .bool true]) w := by kernel_rfl
theorem ta_drop_table (V : Array Value) (w : World) : (Instr.typeAssert (.iface 91 (.agg V)) 20 83 true).run Tryz.prog w = .ok (.tuple #[.agg #[.int .i64 0, .string ⟨#[]⟩, .string ⟨#[]⟩, .string ⟨#[]⟩, .string ⟨#[]⟩, .int .i64 0, .string ⟨#[]⟩, .int .i64 0, .string ⟨#[]⟩, .int .i64 0, .slice none 0 0, .slice none 0 0, .slice none 0 0, .slice none 0 0, .int .i64 0, .int .i64 0, .int .i64 0, .slice none 0 0], .bool false]) w := by kernel_rfl
theorem ta_drop_view (V : Array Value) (w : World) : (Instr.typeAssert (.iface 91 (.agg V)) 20 86 true).run Tryz.prog w = .ok (.tuple #[.agg #[.int .i64 0, .string ⟨#[]⟩, .string ⟨#[]⟩, .string ⟨#[]⟩, .string ⟨#[]⟩, .int .i64 0, .string ⟨#[]⟩, .int .i64 0, .string ⟨#[]⟩, .int .i64 0, .slice none 0 0, .slice none 0 0, .slice none 0 0, .slice none 0 0, .int .i64 0, .int .i64 0, .int .i64 0, .slice none 0 0], .bool false]) w := by kernel_rfl
theorem ta_drop_index (V : Array Value) (w : World) : (Instr.typeAssert (.iface 91 (.agg V)) 20 90 true).run Tryz.prog w = .ok (.tuple #[.agg #[.int .i64 0, .string ⟨#[]⟩, .string ⟨#[]⟩, .string ⟨#[]⟩, .string ⟨#[]⟩, .int .i64 0, .string ⟨#[]⟩, .int .i64 0, .string ⟨#[]⟩, .int .i64 0, .slice none 0 0, .slice none 0 0, .slice none 0 0, .slice none 0 0, .int .i64 0, .int .i64 0, .int .i64 0, .slice none 0 0], .bool false]) w := by kernel_rfl
theorem ta_insert (V : Array Value) (w : World) : (Instr.typeAssert (.iface 92 (.agg V)) 20 92 true).run Tryz.prog w = .ok (.tuple #[.agg V, .bool true]) w := by kernel_rfl
theorem ta_insert_table (V : Array Value) (w : World) : (Instr.typeAssert (.iface 92 (.agg V)) 20 83 true).run Tryz.prog w = .ok (.tuple #[.agg #[.int .i64 0, .string ⟨#[]⟩, .string ⟨#[]⟩, .string ⟨#[]⟩, .string ⟨#[]⟩, .int .i64 0, .string ⟨#[]⟩, .int .i64 0, .string ⟨#[]⟩, .int .i64 0, .slice none 0 0, .slice none 0 0, .slice none 0 0, .slice none 0 0, .int .i64 0, .int .i64 0, .int .i64 0, .slice none 0 0], .bool false]) w := by kernel_rfl
theorem ta_insert_view (V : Array Value) (w : World) : (Instr.typeAssert (.iface 92 (.agg V)) 20 86 true).run Tryz.prog w = .ok (.tuple #[.agg #[.int .i64 0, .string ⟨#[]⟩, .string ⟨#[]⟩, .string ⟨#[]⟩, .string ⟨#[]⟩, .int .i64 0, .string ⟨#[]⟩, .int .i64 0, .string ⟨#[]⟩, .int .i64 0, .slice none 0 0, .slice none 0 0, .slice none 0 0, .slice none 0 0, .int .i64 0, .int .i64 0, .int .i64 0, .slice none 0 0], .bool false]) w := by kernel_rfl
theorem ta_insert_index (V : Array Value) (w : World) : (Instr.typeAssert (.iface 92 (.agg V)) 20 90 true).run Tryz.prog w = .ok (.tuple #[.agg #[.int .i64 0, .string ⟨#[]⟩, .string ⟨#[]⟩, .string ⟨#[]⟩, .string ⟨#[]⟩, .int .i64 0, .string ⟨#[]⟩, .int .i64 0, .string ⟨#[]⟩, .int .i64 0, .slice none 0 0, .slice none 0 0, .slice none 0 0, .slice none 0 0, .int .i64 0, .int .i64 0, .int .i64 0, .slice none 0 0], .bool false]) w := by kernel_rfl
theorem ta_insert_drop (V : Array Value) (w : World) : (Instr.typeAssert (.iface 92 (.agg V)) 20 91 true).run Tryz.prog w = .ok (.tuple #[.agg #[.int .i64 0, .string ⟨#[]⟩, .string ⟨#[]⟩, .string ⟨#[]⟩, .string ⟨#[]⟩, .int .i64 0, .string ⟨#[]⟩, .int .i64 0, .string ⟨#[]⟩, .int .i64 0, .slice none 0 0, .slice none 0 0, .slice none 0 0, .slice none 0 0, .int .i64 0, .int .i64 0, .int .i64 0, .slice none 0 0], .bool false]) w := by kernel_rfl
theorem ta_update (V : Array Value) (w : World) : (Instr.typeAssert (.iface 95 (.agg V)) 20 95 true).run Tryz.prog w = .ok (.tuple #[.agg V, .bool true]) w := by kernel_rfl
theorem ta_update_table (V : Array Value) (w : World) : (Instr.typeAssert (.iface 95 (.agg V)) 20 83 true).run Tryz.prog w = .ok (.tuple #[.agg #[.int .i64 0, .string ⟨#[]⟩, .string ⟨#[]⟩, .string ⟨#[]⟩, .string ⟨#[]⟩, .int .i64 0, .string ⟨#[]⟩, .int .i64 0, .string ⟨#[]⟩, .int .i64 0, .slice none 0 0, .slice none 0 0, .slice none 0 0, .slice none 0 0, .int .i64 0, .int .i64 0, .int .i64 0, .slice none 0 0], .bool false]) w := by kernel_rfl
theorem ta_update_view (V : Array Value) (w : World) : (Instr.typeAssert (.iface 95 (.agg V)) 20 86 true).run Tryz.prog w = .ok (.tuple #[.agg #[.int .i64 0, .string ⟨#[]⟩, .string ⟨#[]⟩, .string ⟨#[]⟩, .string ⟨#[]⟩, .int .i64 0, .string ⟨#[]⟩, .int .i64 0, .string ⟨#[]⟩, .int .i64 0, .slice none 0 0, .slice none 0 0, .slice none 0 0, .slice none 0 0, .int .i64 0, .int .i64 0, .int .i64 0, .slice none 0 0], .bool false]) w := by kernel_rfl
theorem ta_update_index (V : Array Value) (w : World) : (Instr.typeAssert (.iface 95 (.agg V)) 20 90 true).run Tryz.prog w = .ok (.tuple #[.agg #[.int .i64 0, .string ⟨#[]⟩, .string ⟨#[]⟩, .string ⟨#[]⟩, .string ⟨#[]⟩, .int .i64 0, .string ⟨#[]⟩, .int .i64 0, .string ⟨#[]⟩, .int .i64 0, .slice none 0 0, .slice none 0 0, .slice none 0 0, .slice none 0 0, .int .i64 0, .int .i64 0, .int .i64 0, .slice none 0 0], .bool false]) w := by kernel_rfl
theorem ta_update_drop (V : Array Value) (w : World) : (Instr.typeAssert (.iface 95 (.agg V)) 20 91 true).run Tryz.prog w = .ok (.tuple #[.agg #[.int .i64 0, .string ⟨#[]⟩, .string ⟨#[]⟩, .string ⟨#[]⟩, .string ⟨#[]⟩, .int .i64 0, .string ⟨#[]⟩, .int .i64 0, .string ⟨#[]⟩, .int .i64 0, .slice none 0 0, .slice none 0 0, .slice none 0 0, .slice none 0 0, .int .i64 0, .int .i64 0, .int .i64 0, .slice none 0 0], .bool false]) w := by kernel_rfl
theorem ta_update_insert (V : Array Value) (w : World) : (Instr.typeAssert (.iface 95 (.agg V)) 20 92 true).run Tryz.prog w = .ok (.tuple #[.agg #[.int .i64 0, .string ⟨#[]⟩, .string ⟨#[]⟩, .string ⟨#[]⟩, .string ⟨#[]⟩, .int .i64 0, .string ⟨#[]⟩, .int .i64 0, .string ⟨#[]⟩, .int .i64 0, .slice none 0 0, .slice none 0 0, .slice none 0 0, .slice none 0 0, .int .i64 0, .int .i64 0, .int .i64 0, .slice none 0 0], .bool false]) w := by kernel_rfl
theorem ta_remove (V : Array Value) (w : World) : (Instr.typeAssert (.iface 97 (.agg V)) 20 97 true).run Tryz.prog w = .ok (.tuple #[.agg V, .bool true]) w := by kernel_rfl
theorem ta_remove_table (V : Array Value) (w : World) : (Instr.typeAssert (.iface 97 (.agg V)) 20 83 true).run Tryz.prog w = .ok (.tuple #[.agg #[.int .i64 0, .string ⟨#[]⟩, .string ⟨#[]⟩, .string ⟨#[]⟩, .string ⟨#[]⟩, .int .i64 0, .string ⟨#[]⟩, .int .i64 0, .string ⟨#[]⟩, .int .i64 0, .slice none 0 0, .slice none 0 0, .slice none 0 0, .slice none 0 0, .int .i64 0, .int .i64 0, .int .i64 0, .slice none 0 0], .bool false]) w := by kernel_rfl
theorem ta_remove_view (V : Array Value) (w : World) : (Instr.typeAssert (.iface 97 (.agg V)) 20 86 true).run Tryz.prog w = .ok (.tuple #[.agg #[.int .i64 0, .string ⟨#[]⟩, .string ⟨#[]⟩, .string ⟨#[]⟩, .string ⟨#[]⟩, .int .i64 0, .string ⟨#[]⟩, .int .i64 0, .string ⟨#[]⟩, .int .i64 0, .slice none 0 0, .slice none 0 0, .slice none 0 0, .slice none 0 0, .int .i64 0, .int .i64 0, .int .i64 0, .slice none 0 0], .bool false]) w := by kernel_rfl
theorem ta_remove_index (V : Array Value) (w : World) : (Instr.typeAssert (.iface 97 (.agg V)) 20 90 true).run Tryz.prog w = .ok (.tuple #[.agg #[.int .i64 0, .string ⟨#[]⟩, .string ⟨#[]⟩, .string ⟨#[]⟩, .string ⟨#[]⟩, .int .i64 0, .string ⟨#[]⟩, .int .i64 0, .string ⟨#[]⟩, .int .i64 0, .slice none 0 0, .slice none 0 0, .slice none 0 0, .slice none 0 0, .int .i64 0, .int .i64 0, .int .i64 0, .slice none 0 0], .bool false]) w := by kernel_rfl
theorem ta_remove_drop (V : Array Value) (w : World) : (Instr.typeAssert (.iface 97 (.agg V)) 20 91 true).run Tryz.prog w = .ok (.tuple #[.agg #[.int .i64 0, .string ⟨#[]⟩, .string ⟨#[]⟩, .string ⟨#[]⟩, .string ⟨#[]⟩, .int .i64 0, .string ⟨#[]⟩, .int .i64 0, .string ⟨#[]⟩, .int .i64 0, .slice none 0 0, .slice none 0 0, .slice none 0 0, .slice none 0 0, .int .i64 0, .int .i64 0, .int .i64 0, .slice none 0 0], .bool false]) w := by kernel_rfl
theorem ta_remove_insert (V : Array Value) (w : World) : (Instr.typeAssert (.iface 97 (.agg V)) 20 92 true).run Tryz.prog w = .ok (.tuple #[.agg #[.int .i64 0, .string ⟨#[]⟩, .string ⟨#[]⟩, .string ⟨#[]⟩, .string ⟨#[]⟩, .int .i64 0, .string ⟨#[]⟩, .int .i64 0, .string ⟨#[]⟩, .int .i64 0, .slice none 0 0, .slice none 0 0, .slice none 0 0, .slice none 0 0, .int .i64 0, .int .i64 0, .int .i64 0, .slice none 0 0], .bool false]) w := by kernel_rfl
theorem ta_remove_update (V : Array Value) (w : World) : (Instr.typeAssert (.iface 97 (.agg V)) 20 95 true).run Tryz.prog w = .ok (.tuple #[.agg #[.int .i64 0, .string ⟨#[]⟩, .string ⟨#[]⟩, .string ⟨#[]⟩, .string ⟨#[]⟩, .int .i64 0, .string ⟨#[]⟩, .int .i64 0, .string ⟨#[]⟩, .int .i64 0, .slice none 0 0, .slice none 0 0, .slice none 0 0, .slice none 0 0, .int .i64 0, .int .i64 0, .int .i64 0, .slice none 0 0], .bool false]) w := by kernel_rfl
theorem ta_ask (V : Array Value) (w : World) : (Instr.typeAssert (.iface 98 (.agg V)) 20 98 true).run Tryz.prog w = .ok (.tuple #[.agg V, .bool true]) w := by kernel_rfl
theorem ta_ask_table (V : Array Value) (w : World) : (Instr.typeAssert (.iface 98 (.agg V)) 20 83 true).run Tryz.prog w = .ok (.tuple #[.agg #[.int .i64 0, .string ⟨#[]⟩, .string ⟨#[]⟩, .string ⟨#[]⟩, .string ⟨#[]⟩, .int .i64 0, .string ⟨#[]⟩, .int .i64 0, .string ⟨#[]⟩, .int .i64 0, .slice none 0 0, .slice none 0 0, .slice none 0 0, .slice none 0 0, .int .i64 0, .int .i64 0, .int .i64 0, .slice none 0 0], .bool false]) w := by kernel_rfl
theorem ta_ask_view (V : Array Value) (w : World) : (Instr.typeAssert (.iface 98 (.agg V)) 20 86 true).run Tryz.prog w = .ok (.tuple #[.agg #[.int .i64 0, .string ⟨#[]⟩, .string ⟨#[]⟩, .string ⟨#[]⟩, .string ⟨#[]⟩, .int .i64 0, .string ⟨#[]⟩, .int .i64 0, .string ⟨#[]⟩, .int .i64 0, .slice none 0 0, .slice none 0 0, .slice none 0 0, .slice none 0 0, .int .i64 0, .int .i64 0, .int .i64 0, .slice none 0 0], .bool false]) w := by kernel_rfl
theorem ta_ask_index (V : Array Value) (w : World) : (Instr.typeAssert (.iface 98 (.agg V)) 20 90 true).run Tryz.prog w = .ok (.tuple #[.agg #[.int .i64 0, .string ⟨#[]⟩, .string ⟨#[]⟩, .string ⟨#[]⟩, .string ⟨#[]⟩, .int .i64 0, .string ⟨#[]⟩, .int .i64 0, .string ⟨#[]⟩, .int .i64 0, .slice none 0 0, .slice none 0 0, .slice none 0 0, .slice none 0 0, .int .i64 0, .int .i64 0, .int .i64 0, .slice none 0 0], .bool false]) w := by kernel_rfl
theorem ta_ask_drop (V : Array Value) (w : World) : (Instr.typeAssert (.iface 98 (.agg V)) 20 91 true).run Tryz.prog w = .ok (.tuple #[.agg #[.int .i64 0, .string ⟨#[]⟩, .string ⟨#[]⟩, .string ⟨#[]⟩, .string ⟨#[]⟩, .int .i64 0, .string ⟨#[]⟩, .int .i64 0, .string ⟨#[]⟩, .int .i64 0, .slice none 0 0, .slice none 0 0, .slice none 0 0, .slice none 0 0, .int .i64 0, .int .i64 0, .int .i64 0, .slice none 0 0], .bool false]) w := by kernel_rfl
theorem ta_ask_insert (V : Array Value) (w : World) : (Instr.typeAssert (.iface 98 (.agg V)) 20 92 true).run Tryz.prog w = .ok (.tuple #[.agg #[.int .i64 0, .string ⟨#[]⟩, .string ⟨#[]⟩, .string ⟨#[]⟩, .string ⟨#[]⟩, .int .i64 0, .string ⟨#[]⟩, .int .i64 0, .string ⟨#[]⟩, .int .i64 0, .slice none 0 0, .slice none 0 0, .slice none 0 0, .slice none 0 0, .int .i64 0, .int .i64 0, .int .i64 0, .slice none 0 0], .bool false]) w := by kernel_rfl
theorem ta_ask_update (V : Array Value) (w : World) : (Instr.typeAssert (.iface 98 (.agg V)) 20 95 true).run Tryz.prog w = .ok (.tuple #[.agg #[.int .i64 0, .string ⟨#[]⟩, .string ⟨#[]⟩, .string ⟨#[]⟩, .string ⟨#[]⟩, .int .i64 0, .string ⟨#[]⟩, .int .i64 0, .string ⟨#[]⟩, .int .i64 0, .slice none 0 0, .slice none 0 0, .slice none 0 0, .slice none 0 0, .int .i64 0, .int .i64 0, .int .i64 0, .slice none 0 0], .bool false]) w := by kernel_rfl
theorem ta_ask_remove (V : Array Value) (w : World) : (Instr.typeAssert (.iface 98 (.agg V)) 20 97 true).run Tryz.prog w = .ok (.tuple #[.agg #[.int .i64 0, .string ⟨#[]⟩, .string ⟨#[]⟩, .string ⟨#[]⟩, .string ⟨#[]⟩, .int .i64 0, .string ⟨#[]⟩, .int .i64 0, .string ⟨#[]⟩, .int .i64 0, .slice none 0 0, .slice none 0 0, .slice none 0 0, .slice none 0 0, .int .i64 0, .int .i64 0, .int .i64 0, .slice none 0 0], .bool false]) w := by kernel_rfl
theorem ta_batch (V : Array Value) (w : World) : (Instr.typeAssert (.iface 100 (.agg V)) 20 100 true).run Tryz.prog w = .ok (.tuple #[.agg V, .bool true]) w := by kernel_rfl
theorem ta_batch_table (V : Array Value) (w : World) : (Instr.typeAssert (.iface 100 (.agg V)) 20 83 true).run Tryz.prog w = .ok (.tuple #[.agg #[.int .i64 0, .string ⟨#[]⟩, .string ⟨#[]⟩, .string ⟨#[]⟩, .string ⟨#[]⟩, .int .i64 0, .string ⟨#[]⟩, .int .i64 0, .string ⟨#[]⟩, .int .i64 0, .slice none 0 0, .slice none 0 0, .slice none 0 0, .slice none 0 0, .int .i64 0, .int .i64 0, .int .i64 0, .slice none 0 0], .bool false]) w := by kernel_rfl
theorem ta_batch_view (V : Array Value) (w : World) : (Instr.typeAssert (.iface 100 (.agg V)) 20 86 true).run Tryz.prog w = .ok (.tuple #[.agg #[.int .i64 0, .string ⟨#[]⟩, .string ⟨#[]⟩, .string ⟨#[]⟩, .string ⟨#[]⟩, .int .i64 0, .string ⟨#[]⟩, .int .i64 0, .string ⟨#[]⟩, .int .i64 0, .slice none 0 0, .slice none 0 0, .slice none 0 0, .slice none 0 0, .int .i64 0, .int .i64 0, .int .i64 0, .slice none 0 0], .bool false]) w := by kernel_rfl
theorem ta_batch_index (V : Array Value) (w : World) : (Instr.typeAssert (.iface 100 (.agg V)) 20 90 true).run Tryz.prog w = .ok (.tuple #[.agg #[.int .i64 0, .string ⟨#[]⟩, .string ⟨#[]⟩, .string ⟨#[]⟩, .string ⟨#[]⟩, .int .i64 0, .string ⟨#[]⟩, .int .i64 0, .string ⟨#[]⟩, .int .i64 0, .slice none 0 0, .slice none 0 0, .slice none 0 0, .slice none 0 0, .int .i64 0, .int .i64 0, .int .i64 0, .slice none 0 0], .bool false]) w := by kernel_rfl
theorem ta_batch_drop (V : Array Value) (w : World) : (Instr.typeAssert (.iface 100 (.agg V)) 20 91 true).run Tryz.prog w = .ok (.tuple #[.agg #[.int .i64 0, .string ⟨#[]⟩, .string ⟨#[]⟩, .string ⟨#[]⟩, .string ⟨#[]⟩, .int .i64 0, .string ⟨#[]⟩, .int .i64 0, .string ⟨#[]⟩, .int .i64 0, .slice none 0 0, .slice none 0 0, .slice none 0 0, .slice none 0 0, .int .i64 0, .int .i64 0, .int .i64 0, .slice none 0 0], .bool false]) w := by kernel_rfl
theorem ta_batch_insert (V : Array Value) (w : World) : (Instr.typeAssert (.iface 100 (.agg V)) 20 92 true).run Tryz.prog w = .ok (.tuple #[.agg #[.int .i64 0, .string ⟨#[]⟩, .string ⟨#[]⟩, .string ⟨#[]⟩, .string ⟨#[]⟩, .int .i64 0, .string ⟨#[]⟩, .int .i64 0, .string ⟨#[]⟩, .int .i64 0, .slice none 0 0, .slice none 0 0, .slice none 0 0, .slice none 0 0, .int .i64 0, .int .i64 0, .int .i64 0, .slice none 0 0], .bool false]) w := by kernel_rfl
theorem ta_batch_update (V : Array Value) (w : World) : (Instr.typeAssert (.iface 100 (.agg V)) 20 95 true).run Tryz.prog w = .ok (.tuple #[.agg #[.int .i64 0, .string ⟨#[]⟩, .string ⟨#[]⟩, .string ⟨#[]⟩, .string ⟨#[]⟩, .int .i64 0, .string ⟨#[]⟩, .int .i64 0, .string ⟨#[]⟩, .int .i64 0, .slice none 0 0, .slice none 0 0, .slice none 0 0, .slice none 0 0, .int .i64 0, .int .i64 0, .int .i64 0, .slice none 0 0], .bool false]) w := by kernel_rfl
theorem ta_batch_remove (V : Array Value) (w : World) : (Instr.typeAssert (.iface 100 (.agg V)) 20 97 true).run Tryz.prog w = .ok (.tuple #[.agg #[.int .i64 0, .string ⟨#[]⟩, .string ⟨#[]⟩, .string ⟨#[]⟩, .string ⟨#[]⟩, .int .i64 0, .string ⟨#[]⟩, .int .i64 0, .string ⟨#[]⟩, .int .i64 0, .slice none 0 0, .slice none 0 0, .slice none 0 0, .slice none 0 0, .int .i64 0, .int .i64 0, .int .i64 0, .slice none 0 0], .bool false]) w := by kernel_rfl
theorem ta_batch_ask (V : Array Value) (w : World) : (Instr.typeAssert (.iface 100 (.agg V)) 20 98 true).run Tryz.prog w = .ok (.tuple #[.agg #[.int .i64 0, .string ⟨#[]⟩, .string ⟨#[]⟩, .string ⟨#[]⟩, .string ⟨#[]⟩, .int .i64 0, .string ⟨#[]⟩, .int .i64 0, .string ⟨#[]⟩, .int .i64 0, .slice none 0 0, .slice none 0 0, .slice none 0 0, .slice none 0 0, .int .i64 0, .int .i64 0, .int .i64 0, .slice none 0 0], .bool false]) w := by kernel_rfl
theorem ta_nil_table (w : World) : (Instr.typeAssert .nilIface 20 83 true).run Tryz.prog w = .ok (.tuple #[.agg #[.int .i64 0, .string ⟨#[]⟩, .string ⟨#[]⟩, .string ⟨#[]⟩, .string ⟨#[]⟩, .int .i64 0, .string ⟨#[]⟩, .int .i64 0, .string ⟨#[]⟩, .int .i64 0, .slice none 0 0, .slice none 0 0, .slice none 0 0, .slice none 0 0, .int .i64 0, .int .i64 0, .int .i64 0, .slice none 0 0], .bool false]) w := by kernel_rfl
theorem ta_nil_view (w : World) : (Instr.typeAssert .nilIface 20 86 true).run Tryz.prog w = .ok (.tuple #[.agg #[.int .i64 0, .string ⟨#[]⟩, .string ⟨#[]⟩, .string ⟨#[]⟩, .string ⟨#[]⟩, .int .i64 0, .string ⟨#[]⟩, .int .i64 0, .string ⟨#[]⟩, .int .i64 0, .slice none 0 0, .slice none 0 0, .slice none 0 0, .slice none 0 0, .int .i64 0, .int .i64 0, .int .i64 0, .slice none 0 0], .bool false]) w := by kernel_rfl
theorem ta_nil_index (w : World) : (Instr.typeAssert .nilIface 20 90 true).run Tryz.prog w = .ok (.tuple #[.agg #[.int .i64 0, .string ⟨#[]⟩, .string ⟨#[]⟩, .string ⟨#[]⟩, .string ⟨#[]⟩, .int .i64 0, .string ⟨#[]⟩, .int .i64 0, .string ⟨#[]⟩, .int .i64 0, .slice none 0 0, .slice none 0 0, .slice none 0 0, .slice none 0 0, .int .i64 0, .int .i64 0, .int .i64 0, .slice none 0 0], .bool false]) w := by kernel_rfl
theorem ta_nil_drop (w : World) : (Instr.typeAssert .nilIface 20 91 true).run Tryz.prog w = .ok (.tuple #[.agg #[.int .i64 0, .string ⟨#[]⟩, .string ⟨#[]⟩, .string ⟨#[]⟩, .string ⟨#[]⟩, .int .i64 0, .string ⟨#[]⟩, .int .i64 0, .string ⟨#[]⟩, .int .i64 0, .slice none 0 0, .slice none 0 0, .slice none 0 0, .slice none 0 0, .int .i64 0, .int .i64 0, .int .i64 0, .slice none 0 0], .bool false]) w := by kernel_rfl
theorem ta_nil_insert (w : World) : (Instr.typeAssert .nilIface 20 92 true).run Tryz.prog w = .ok (.tuple #[.agg #[.int .i64 0, .string ⟨#[]⟩, .string ⟨#[]⟩, .string ⟨#[]⟩, .string ⟨#[]⟩, .int .i64 0, .string ⟨#[]⟩, .int .i64 0, .string ⟨#[]⟩, .int .i64 0, .slice none 0 0, .slice none 0 0, .slice none 0 0, .slice none 0 0, .int .i64 0, .int .i64 0, .int .i64 0, .slice none 0 0], .bool false]) w := by kernel_rfl
theorem ta_nil_update (w : World) : (Instr.typeAssert .nilIface 20 95 true).run Tryz.prog w = .ok (.tuple #[.agg #[.int .i64 0, .string ⟨#[]⟩, .string ⟨#[]⟩, .string ⟨#[]⟩, .string ⟨#[]⟩, .int .i64 0, .string ⟨#[]⟩, .int .i64 0, .string ⟨#[]⟩, .int .i64 0, .slice none 0 0, .slice none 0 0, .slice none 0 0, .slice none 0 0, .int .i64 0, .int .i64 0, .int .i64 0, .slice none 0 0], .bool false]) w := by kernel_rfl
theorem ta_nil_remove (w : World) : (Instr.typeAssert .nilIface 20 97 true).run Tryz.prog w = .ok (.tuple #[.agg #[.int .i64 0, .string ⟨#[]⟩, .string ⟨#[]⟩, .string ⟨#[]⟩, .string ⟨#[]⟩, .int .i64 0, .string ⟨#[]⟩, .int .i64 0, .string ⟨#[]⟩, .int .i64 0, .slice none 0 0, .slice none 0 0, .slice none 0 0, .slice none 0 0, .int .i64 0, .int .i64 0, .int .i64 0, .slice none 0 0], .bool false]) w := by kernel_rfl
theorem ta_nil_ask (w : World) : (Instr.typeAssert .nilIface 20 98 true).run Tryz.prog w = .ok (.tuple #[.agg #[.int .i64 0, .string ⟨#[]⟩, .string ⟨#[]⟩, .string ⟨#[]⟩, .string ⟨#[]⟩, .int .i64 0, .string ⟨#[]⟩, .int .i64 0, .string ⟨#[]⟩, .int .i64 0, .slice none 0 0, .slice none 0 0, .slice none 0 0, .slice none 0 0, .int .i64 0, .int .i64 0, .int .i64 0, .slice none 0 0], .bool false]) w := by kernel_rfl
theorem ta_nil_batch (w : World) : (Instr.typeAssert .nilIface 20 100 true).run Tryz.prog w = .ok (.tuple #[.agg #[.int .i64 0, .string ⟨#[]⟩, .string ⟨#[]⟩, .string ⟨#[]⟩, .string ⟨#[]⟩, .int .i64 0, .string ⟨#[]⟩, .int .i64 0, .string ⟨#[]⟩, .int .i64 0, .slice none 0 0, .slice none 0 0, .slice none 0 0, .slice none 0 0, .int .i64 0, .int .i64 0, .int .i64 0, .slice none 0 0], .bool false]) w := by kernel_rfl
set_option maxRecDepth 100000 in
set_option maxHeartbeats 4000000 in
theorem of_any {w : World} (x : Sx) (tc c s wv pv : Value) :
    Calls Tryz.prog 48 #[.agg (stC x tc c s wv pv)] w fun e w' => e = .returned (kindV x.kind (stC x tc c s wv pv)) ∧ Below w.heap.size w w' := by
  have hB := (Below.refl w.heap.size w).alloc (Nat.le_refl _) (.cells (stC x tc c s wv pv) 31)
  have hbl : (w.alloc (.cells (stC x tc c s wv pv) 31)).heap[w.heap.size]? = some (.cells (stC x tc c s wv pv) 31 (0, 0)) := blk_new w _
  have c0 := (st18 hbl).1
  have u0 := blk_frozen0 hbl 0
  by_cases h1 : x.kind = 1
  · have HE : Hid (kindV x.kind (stC x tc c s wv pv) = .iface 83 (.agg (stC x tc c s wv pv))) := by show _ = _; unfold kindV; rw [if_pos h1]
    have q1 : (x.kind == 1) = true := by rw [h1]; rfl
    clear h1
    have hm := mki_table
    go_enter Tryz.func48, Tryz.ntmps48
    go_wp2_with (refine wpl_st rfl _ rfl rfl rfl hbl ?_)
    go_ret
    rw [HE.out]
    exact ⟨rfl, hB⟩
  · skip
    by_cases h2 : x.kind = 2
    · have HE : Hid (kindV x.kind (stC x tc c s wv pv) = .iface 86 (.agg (stC x tc c s wv pv))) := by show _ = _; unfold kindV; rw [if_neg h1, if_pos h2]
      have q1 : (x.kind == 1) = false := by rw [beq_eq_false_iff_ne]; exact h1
      have q2 : (x.kind == 2) = true := by rw [h2]; rfl
      clear h1 h2
      have hm := mki_view
      go_enter Tryz.func48, Tryz.ntmps48
      go_wp2_with (refine wpl_st rfl _ rfl rfl rfl hbl ?_)
      go_ret
      rw [HE.out]
      exact ⟨rfl, hB⟩
    · skip
      by_cases h3 : x.kind = 3
      · have HE : Hid (kindV x.kind (stC x tc c s wv pv) = .iface 90 (.agg (stC x tc c s wv pv))) := by show _ = _; unfold kindV; rw [if_neg h1, if_neg h2, if_pos h3]
        have q1 : (x.kind == 1) = false := by rw [beq_eq_false_iff_ne]; exact h1
        have q2 : (x.kind == 2) = false := by rw [beq_eq_false_iff_ne]; exact h2
        have q3 : (x.kind == 3) = true := by rw [h3]; rfl
        clear h1 h2 h3
        have hm := mki_index
        go_enter Tryz.func48, Tryz.ntmps48
        go_wp2_with (refine wpl_st rfl _ rfl rfl rfl hbl ?_)
        go_ret
        rw [HE.out]
        exact ⟨rfl, hB⟩
      · skip
        by_cases h4 : x.kind = 4
        · have HE : Hid (kindV x.kind (stC x tc c s wv pv) = .iface 91 (.agg (stC x tc c s wv pv))) := by show _ = _; unfold kindV; rw [if_neg h1, if_neg h2, if_neg h3, if_pos h4]
          have q1 : (x.kind == 1) = false := by rw [beq_eq_false_iff_ne]; exact h1
          have q2 : (x.kind == 2) = false := by rw [beq_eq_false_iff_ne]; exact h2
          have q3 : (x.kind == 3) = false := by rw [beq_eq_false_iff_ne]; exact h3
          have q4 : (x.kind == 4) = true := by rw [h4]; rfl
          clear h1 h2 h3 h4
          have hm := mki_drop
          go_enter Tryz.func48, Tryz.ntmps48
          go_wp2_with (refine wpl_st rfl _ rfl rfl rfl hbl ?_)
          go_ret
          rw [HE.out]
          exact ⟨rfl, hB⟩
        · skip
          by_cases h5 : x.kind = 5
          · have HE : Hid (kindV x.kind (stC x tc c s wv pv) = .iface 92 (.agg (stC x tc c s wv pv))) := by show _ = _; unfold kindV; rw [if_neg h1, if_neg h2, if_neg h3, if_neg h4, if_pos h5]
            have q1 : (x.kind == 1) = false := by rw [beq_eq_false_iff_ne]; exact h1
            have q2 : (x.kind == 2) = false := by rw [beq_eq_false_iff_ne]; exact h2
            have q3 : (x.kind == 3) = false := by rw [beq_eq_false_iff_ne]; exact h3
            have q4 : (x.kind == 4) = false := by rw [beq_eq_false_iff_ne]; exact h4
            have q5 : (x.kind == 5) = true := by rw [h5]; rfl
            clear h1 h2 h3 h4 h5
            have hm := mki_insert
            go_enter Tryz.func48, Tryz.ntmps48
            go_wp2_with (refine wpl_st rfl _ rfl rfl rfl hbl ?_)
            go_ret
            rw [HE.out]
            exact ⟨rfl, hB⟩
          · skip
            by_cases h6 : x.kind = 6
            · have HE : Hid (kindV x.kind (stC x tc c s wv pv) = .iface 95 (.agg (stC x tc c s wv pv))) := by show _ = _; unfold kindV; rw [if_neg h1, if_neg h2, if_neg h3, if_neg h4, if_neg h5, if_pos h6]
              have q1 : (x.kind == 1) = false := by rw [beq_eq_false_iff_ne]; exact h1
              have q2 : (x.kind == 2) = false := by rw [beq_eq_false_iff_ne]; exact h2
              have q3 : (x.kind == 3) = false := by rw [beq_eq_false_iff_ne]; exact h3
              have q4 : (x.kind == 4) = false := by rw [beq_eq_false_iff_ne]; exact h4
              have q5 : (x.kind == 5) = false := by rw [beq_eq_false_iff_ne]; exact h5
              have q6 : (x.kind == 6) = true := by rw [h6]; rfl
              clear h1 h2 h3 h4 h5 h6
              have hm := mki_update
              go_enter Tryz.func48, Tryz.ntmps48
              go_wp2_with (refine wpl_st rfl _ rfl rfl rfl hbl ?_)
              go_ret
              rw [HE.out]
              exact ⟨rfl, hB⟩
            · skip
              by_cases h7 : x.kind = 7
              · have HE : Hid (kindV x.kind (stC x tc c s wv pv) = .iface 97 (.agg (stC x tc c s wv pv))) := by show _ = _; unfold kindV; rw [if_neg h1, if_neg h2, if_neg h3, if_neg h4, if_neg h5, if_neg h6, if_pos h7]
                have q1 : (x.kind == 1) = false := by rw [beq_eq_false_iff_ne]; exact h1
                have q2 : (x.kind == 2) = false := by rw [beq_eq_false_iff_ne]; exact h2
                have q3 : (x.kind == 3) = false := by rw [beq_eq_false_iff_ne]; exact h3
                have q4 : (x.kind == 4) = false := by rw [beq_eq_false_iff_ne]; exact h4
                have q5 : (x.kind == 5) = false := by rw [beq_eq_false_iff_ne]; exact h5
                have q6 : (x.kind == 6) = false := by rw [beq_eq_false_iff_ne]; exact h6
                have q7 : (x.kind == 7) = true := by rw [h7]; rfl
                clear h1 h2 h3 h4 h5 h6 h7
                have hm := mki_remove
                go_enter Tryz.func48, Tryz.ntmps48
                go_wp2_with (refine wpl_st rfl _ rfl rfl rfl hbl ?_)
                go_ret
                rw [HE.out]
                exact ⟨rfl, hB⟩
              · skip
                by_cases h8 : x.kind = 8
                · have HE : Hid (kindV x.kind (stC x tc c s wv pv) = .iface 98 (.agg (stC x tc c s wv pv))) := by show _ = _; unfold kindV; rw [if_neg h1, if_neg h2, if_neg h3, if_neg h4, if_neg h5, if_neg h6, if_neg h7, if_pos h8]
                  have q1 : (x.kind == 1) = false := by rw [beq_eq_false_iff_ne]; exact h1
                  have q2 : (x.kind == 2) = false := by rw [beq_eq_false_iff_ne]; exact h2
                  have q3 : (x.kind == 3) = false := by rw [beq_eq_false_iff_ne]; exact h3
                  have q4 : (x.kind == 4) = false := by rw [beq_eq_false_iff_ne]; exact h4
                  have q5 : (x.kind == 5) = false := by rw [beq_eq_false_iff_ne]; exact h5
                  have q6 : (x.kind == 6) = false := by rw [beq_eq_false_iff_ne]; exact h6
                  have q7 : (x.kind == 7) = false := by rw [beq_eq_false_iff_ne]; exact h7
                  have q8 : (x.kind == 8) = true := by rw [h8]; rfl
                  clear h1 h2 h3 h4 h5 h6 h7 h8
                  have hm := mki_ask
                  go_enter Tryz.func48, Tryz.ntmps48
                  go_wp2_with (refine wpl_st rfl _ rfl rfl rfl hbl ?_)
                  go_ret
                  rw [HE.out]
                  exact ⟨rfl, hB⟩
                · skip
                  by_cases h9 : x.kind = 9
                  · have HE : Hid (kindV x.kind (stC x tc c s wv pv) = .iface 100 (.agg (stC x tc c s wv pv))) := by show _ = _; unfold kindV; rw [if_neg h1, if_neg h2, if_neg h3, if_neg h4, if_neg h5, if_neg h6, if_neg h7, if_neg h8, if_pos h9]
                    have q1 : (x.kind == 1) = false := by rw [beq_eq_false_iff_ne]; exact h1
                    have q2 : (x.kind == 2) = false := by rw [beq_eq_false_iff_ne]; exact h2
                    have q3 : (x.kind == 3) = false := by rw [beq_eq_false_iff_ne]; exact h3
                    have q4 : (x.kind == 4) = false := by rw [beq_eq_false_iff_ne]; exact h4
                    have q5 : (x.kind == 5) = false := by rw [beq_eq_false_iff_ne]; exact h5
                    have q6 : (x.kind == 6) = false := by rw [beq_eq_false_iff_ne]; exact h6
                    have q7 : (x.kind == 7) = false := by rw [beq_eq_false_iff_ne]; exact h7
                    have q8 : (x.kind == 8) = false := by rw [beq_eq_false_iff_ne]; exact h8
                    have q9 : (x.kind == 9) = true := by rw [h9]; rfl
                    clear h1 h2 h3 h4 h5 h6 h7 h8 h9
                    have hm := mki_batch
                    go_enter Tryz.func48, Tryz.ntmps48
                    go_wp2_with (refine wpl_st rfl _ rfl rfl rfl hbl ?_)
                    go_ret
                    rw [HE.out]
                    exact ⟨rfl, hB⟩
                  · skip
                    have HE : Hid (kindV x.kind (stC x tc c s wv pv) = .nilIface) := by show _ = _; unfold kindV; rw [if_neg h1, if_neg h2, if_neg h3, if_neg h4, if_neg h5, if_neg h6, if_neg h7, if_neg h8, if_neg h9]
                    have q1 : (x.kind == 1) = false := by rw [beq_eq_false_iff_ne]; exact h1
                    have q2 : (x.kind == 2) = false := by rw [beq_eq_false_iff_ne]; exact h2
                    have q3 : (x.kind == 3) = false := by rw [beq_eq_false_iff_ne]; exact h3
                    have q4 : (x.kind == 4) = false := by rw [beq_eq_false_iff_ne]; exact h4
                    have q5 : (x.kind == 5) = false := by rw [beq_eq_false_iff_ne]; exact h5
                    have q6 : (x.kind == 6) = false := by rw [beq_eq_false_iff_ne]; exact h6
                    have q7 : (x.kind == 7) = false := by rw [beq_eq_false_iff_ne]; exact h7
                    have q8 : (x.kind == 8) = false := by rw [beq_eq_false_iff_ne]; exact h8
                    have q9 : (x.kind == 9) = false := by rw [beq_eq_false_iff_ne]; exact h9
                    clear h1 h2 h3 h4 h5 h6 h7 h8 h9
                    go_enter Tryz.func48, Tryz.ntmps48
                    go_wp2_with (refine wpl_st rfl _ rfl rfl rfl hbl ?_)
                    go_ret
                    rw [HE.out]
                    exact ⟨rfl, hB⟩
end Go.Proofs.YtfbgdjcnlnfoaaaGreatDoor

namespace Go.Proofs.YtfbgdjcnlnfoaaaGreatDoor
open Go.RowKit
open Cle

structure StOK (x : Sx) : Prop where
  name : x.name.size ≤ 1000000
  of_ : x.of_.size ≤ 1000000
  on : x.on.size ≤ 1000000
  part : x.part.name.size ≤ 1000000
  clus : x.clus.name.size ≤ 1000000
  tcols : x.tcols.length ≤ 90 ∧ ∀ q ∈ x.tcols, q.name.size ≤ 1000000
  cols : x.cols.length ≤ 90 ∧ ∀ q ∈ x.cols, q.size ≤ 1000000
  sets : prsOK x.sets
  wher : prsOK x.wher
  wher90 : x.wher.length ≤ 90
  stamp : I64 x.stamp
  ttl : I64 x.ttl
  limit : I64 x.limit
structure StIn (w : World) (x : Sx) (tc c s wv : Value) : Prop where
  tc : Rd w tc x.tcols.length (flatC x.tcols)
  c : Rd w c x.cols.length (x.cols.map Value.string)
  s : Rd w s x.sets.length (flatR x.sets)
  wv : Rd w wv x.wher.length (flatR x.wher)
theorem StIn.below {w w' : World} {x : Sx} {tc c s wv : Value} (h : StIn w x tc c s wv) (hb : Below w.heap.size w w') : StIn w' x tc c s wv := ⟨h.tc.below hb, h.c.below hb, h.s.below hb, h.wv.below hb⟩
theorem StIn.one {w : World} {x : Sx} {tc c s wv pv : Value} (h : StIn w x tc c s wv) (hp : pv.oneCell' = true) : (stC x tc c s wv pv).toList.all (·.oneCell') = true := by
  obtain ⟨_, _, e1, _⟩ := h.tc
  obtain ⟨_, _, e2, _⟩ := h.c
  obtain ⟨_, _, e3, _⟩ := h.s
  obtain ⟨_, _, e4, _⟩ := h.wv
  rw [e1, e2, e3, e4]
  simp only [List.all_cons, List.all_nil, hp, Bool.and_true]
  rfl
theorem names_le {L : List Pr} (h : prsOK L) : (joinB (⟨#[44, 32]⟩ : ByteArray) (L.map Pr.name)).size ≤ 100 * 1000002 := by
  have := joinB_le (⟨#[44, 32]⟩ : ByteArray) (L.map Pr.name) 1000000 (fun y hy => by obtain ⟨q, hq, rfl⟩ := List.mem_map.1 hy; exact (h.2 q hq).2)
  rw [List.length_map] at this
  exact Nat.le_trans this (Nat.mul_le_mul h.1 (by decide))
theorem terms_le {L : List Pr} (h : prsOK L) : (joinB (⟨#[44, 32]⟩ : ByteArray) (L.map fun q => (termP q.t).text)).size ≤ 100 * 2000023 := by
  have := joinB_le (⟨#[44, 32]⟩ : ByteArray) (L.map fun q => (termP q.t).text) 2000021 (fun y hy => by obtain ⟨q, hq, rfl⟩ := List.mem_map.1 hy; exact term_le q.t (h.2 q hq).1)
  rw [List.length_map] at this
  exact Nat.le_trans this (Nat.mul_le_mul h.1 (by decide))
theorem equals_le {L : List Pr} (h : prsOK L) (sep : ByteArray) (hs : sep.size ≤ 10) : (joinB sep (L.map fun q => catP (equalP q))).size ≤ 100 * 4000010 := by
  have := joinB_le sep (L.map fun q => catP (equalP q)) 4000000 (fun y hy => by obtain ⟨q, hq, rfl⟩ := List.mem_map.1 hy; exact equal_le q (h.2 q hq))
  rw [List.length_map] at this
  exact Nat.le_trans this (Nat.mul_le_mul h.1 (by omega))
theorem names_cat (L : List Pr) : joinB (⟨#[44, 32]⟩ : ByteArray) (L.map Pr.name) = catP (sepP commaP (L.map fun p => [Pc.wd p.name])) := by
  rw [← comma_cat, ← joinB_cat, List.map_map]
  congr 1
  refine List.map_congr_left fun q _ => ?_
  show q.name = q.name ++ ⟨#[]⟩
  rw [app_nil]
theorem terms_cat (L : List Pr) : joinB (⟨#[44, 32]⟩ : ByteArray) (L.map fun q => (termP q.t).text) = catP (sepP commaP (L.map fun p => [termP p.t])) := by
  rw [← comma_cat, ← joinB_cat, List.map_map]
  congr 1
  refine List.map_congr_left fun q _ => ?_
  show _ = (termP q.t).text ++ ⟨#[]⟩
  rw [app_nil]
theorem equals_cat (L : List Pr) : joinB (⟨#[44, 32]⟩ : ByteArray) (L.map fun q => catP (equalP q)) = catP (sepP commaP (L.map equalP)) := by
  rw [← comma_cat, ← joinB_cat, List.map_map]; rfl
theorem where_le {L : List Pr} (h : prsOK L) : (catP (whereP L)).size ≤ 100 * 4000020 := by
  have e : catP (whereP L) = (⟨#[32, 87, 72, 69, 82, 69, 32]⟩ : ByteArray) ++ joinB (⟨#[32, 65, 78, 68, 32]⟩ : ByteArray) (L.map fun q => catP (equalP q)) := by
    unfold whereP
    rw [catP_app, ← joinB_cat, and_cat, List.map_map]; rfl
  rw [e, ByteArray.size_append]
  have := equals_le h (⟨#[32, 65, 78, 68, 32]⟩ : ByteArray) (by decide)
  show 7 + _ ≤ _
  omega
theorem some_le {L : List ByteArray} (hl : L.length ≤ 100) (h : ∀ q ∈ L, q.size ≤ 1000000) : (catP (someP L)).size ≤ 100 * 1000003 := by
  unfold someP
  split
  · decide
  · rw [← joinB_cat, comma_cat, ← mapcat]
    exact Nat.le_trans (joinB_le _ _ 1000000 h) (Nat.mul_le_mul hl (by decide))
theorem using_le (a b : Int) (ha : I64 a) (hb : I64 b) : (catP (usingP a b)).size ≤ 1000 := by
  have h1 := itoaS_le a ha
  have h2 := itoaS_le b hb
  have cs : ∀ (p : Pc) (l : List Pc), (catP (p :: l)).size = p.text.size + (catP l).size := fun p l => ByteArray.size_append ..
  have cn : (catP []).size = 0 := rfl
  have n1 : (Pc.nm a).text.size ≤ 21 := h1
  have n2 : (Pc.nm b).text.size ≤ 21 := h2
  have e1 : (Pc.wd (⟨#[85, 83, 73, 78, 71]⟩ : ByteArray)).text.size = 5 := rfl
  have e2 : (Pc.wd (⟨#[84, 84, 76]⟩ : ByteArray)).text.size = 3 := rfl
  have e3 : (Pc.wd (⟨#[84, 73, 77, 69, 83, 84, 65, 77, 80]⟩ : ByteArray)).text.size = 9 := rfl
  have e4 : (Pc.wd (⟨#[65, 78, 68]⟩ : ByteArray)).text.size = 3 := rfl
  have e5 : Pc.bl.text.size = 1 := rfl
  unfold usingP
  split
  · split
    · decide
    · simp only [cs, cn]; omega
  · split
    · simp only [cs, cn]; omega
    · simp only [cs, cn]; omega
theorem tws3 {w0 w w' : World} {a0 a1 a2 : Addr} {v0 v1 v2 : Value} (h : Below w0.heap.size w0 w ∧ w.cell? a0 = some v0 ∧ w.cell? a1 = some v1 ∧ w.cell? a2 = some v2) (hb : Below w.heap.size w w') : Below w0.heap.size w0 w' ∧ w'.cell? a0 = some v0 ∧ w'.cell? a1 = some v1 ∧ w'.cell? a2 = some v2 := by
  obtain ⟨hB, h0, h1, h2⟩ := h
  exact ⟨hB.trans (hb.mono hB.size), blk_cellB hb h0, blk_cellB hb h1, blk_cellB hb h2⟩
theorem tws4 {w0 w w' : World} {a0 a1 a2 a3 : Addr} {v0 v1 v2 v3 : Value} (h : Below w0.heap.size w0 w ∧ w.cell? a0 = some v0 ∧ w.cell? a1 = some v1 ∧ w.cell? a2 = some v2 ∧ w.cell? a3 = some v3) (hb : Below w.heap.size w w') : Below w0.heap.size w0 w' ∧ w'.cell? a0 = some v0 ∧ w'.cell? a1 = some v1 ∧ w'.cell? a2 = some v2 ∧ w'.cell? a3 = some v3 := by
  obtain ⟨hB, h0, h1, h2, h3⟩ := h
  exact ⟨hB.trans (hb.mono hB.size), blk_cellB hb h0, blk_cellB hb h1, blk_cellB hb h2, blk_cellB hb h3⟩
theorem tws5 {w0 w w' : World} {a0 a1 a2 a3 a4 : Addr} {v0 v1 v2 v3 v4 : Value} (h : Below w0.heap.size w0 w ∧ w.cell? a0 = some v0 ∧ w.cell? a1 = some v1 ∧ w.cell? a2 = some v2 ∧ w.cell? a3 = some v3 ∧ w.cell? a4 = some v4) (hb : Below w.heap.size w w') : Below w0.heap.size w0 w' ∧ w'.cell? a0 = some v0 ∧ w'.cell? a1 = some v1 ∧ w'.cell? a2 = some v2 ∧ w'.cell? a3 = some v3 ∧ w'.cell? a4 = some v4 := by
  obtain ⟨hB, h0, h1, h2, h3, h4⟩ := h
  exact ⟨hB.trans (hb.mono hB.size), blk_cellB hb h0, blk_cellB hb h1, blk_cellB hb h2, blk_cellB hb h3, blk_cellB hb h4⟩
set_option maxRecDepth 100000 in
set_option maxHeartbeats 8000000 in
theorem text_index {w : World} {x : Sx} {tc c s wv pv : Value} (hk : x.kind = 3) (_hG : Gp w) (hok : StOK x) (hin : StIn w x tc c s wv) (hpv : pv.oneCell' = true) :
    Calls Tryz.prog 30 #[.agg (stC x tc c s wv pv)] w fun e w' => e = .returned (.string (catP (indexP x))) ∧ Below w.heap.size w w' := by
  have hone := hin.one hpv
  have hB1 := (Below.refl w.heap.size w).alloc (Nat.le_refl _) (.cells (stC x tc c s wv pv) 31)
  have hbl : (w.alloc (.cells (stC x tc c s wv pv) 31)).heap[w.heap.size]? = some (.cells (stC x tc c s wv pv) 31 (0, 0)) := blk_new w _
  have hof := of_any (w := w.alloc (.cells (stC x tc c s wv pv) 31)) x tc c s wv pv
  have hkv : kindV x.kind (stC x tc c s wv pv) = .iface 90 (.agg (stC x tc c s wv pv)) := by unfold kindV; rw [hk]; rfl
  rw [hkv] at hof
  clear hkv
  have Az0 : ((⟨#[67, 82, 69, 65, 84, 69, 32, 73, 78, 68, 69, 88, 32]⟩ : ByteArray)).size ≤ 13 := by decide
  have Ay1 : (x.name).size ≤ 1000000 := hok.name
  obtain ⟨A1, Ae1⟩ : ∃ r, (⟨#[67, 82, 69, 65, 84, 69, 32, 73, 78, 68, 69, 88, 32]⟩ : ByteArray) ++ x.name = r := ⟨_, rfl⟩
  have Ah1 := add_str ((⟨#[67, 82, 69, 65, 84, 69, 32, 73, 78, 68, 69, 88, 32]⟩ : ByteArray)) (x.name) (by omega)
  rw [Ae1] at Ah1
  have Az1 : A1.size ≤ 1000013 := by rw [← Ae1, ByteArray.size_append]; omega
  have Ay2 : ((⟨#[32, 79, 78, 32]⟩ : ByteArray)).size ≤ 4 := by decide
  obtain ⟨A2, Ae2⟩ : ∃ r, A1 ++ (⟨#[32, 79, 78, 32]⟩ : ByteArray) = r := ⟨_, rfl⟩
  have Ah2 := add_str (A1) ((⟨#[32, 79, 78, 32]⟩ : ByteArray)) (by omega)
  rw [Ae2] at Ah2
  have Az2 : A2.size ≤ 1000017 := by rw [← Ae2, ByteArray.size_append]; omega
  have Ay3 : (x.of_).size ≤ 1000000 := hok.of_
  obtain ⟨A3, Ae3⟩ : ∃ r, A2 ++ x.of_ = r := ⟨_, rfl⟩
  have Ah3 := add_str (A2) (x.of_) (by omega)
  rw [Ae3] at Ah3
  have Az3 : A3.size ≤ 2000017 := by rw [← Ae3, ByteArray.size_append]; omega
  have Ay4 : ((⟨#[32, 40]⟩ : ByteArray)).size ≤ 2 := by decide
  obtain ⟨A4, Ae4⟩ : ∃ r, A3 ++ (⟨#[32, 40]⟩ : ByteArray) = r := ⟨_, rfl⟩
  have Ah4 := add_str (A3) ((⟨#[32, 40]⟩ : ByteArray)) (by omega)
  rw [Ae4] at Ah4
  have Az4 : A4.size ≤ 2000019 := by rw [← Ae4, ByteArray.size_append]; omega
  have Ay5 : (x.on).size ≤ 1000000 := hok.on
  obtain ⟨A5, Ae5⟩ : ∃ r, A4 ++ x.on = r := ⟨_, rfl⟩
  have Ah5 := add_str (A4) (x.on) (by omega)
  rw [Ae5] at Ah5
  have Az5 : A5.size ≤ 3000019 := by rw [← Ae5, ByteArray.size_append]; omega
  have Ay6 : ((⟨#[41]⟩ : ByteArray)).size ≤ 1 := by decide
  obtain ⟨A6, Ae6⟩ : ∃ r, A5 ++ (⟨#[41]⟩ : ByteArray) = r := ⟨_, rfl⟩
  have Ah6 := add_str (A5) ((⟨#[41]⟩ : ByteArray)) (by omega)
  rw [Ae6] at Ah6
  have Az6 : A6.size ≤ 3000020 := by rw [← Ae6, ByteArray.size_append]; omega
  have HE : Hid (A6 = catP (indexP x)) := by
      show _ = _
      rw [← Ae6, ← Ae5, ← Ae4, ← Ae3, ← Ae2, ← Ae1]
      unfold indexP
      apply ByteArray.ext; apply Array.ext'; simp [catP, Pc.text]
  clear Ae1 Ae2 Ae3 Ae4 Ae5 Ae6
  clear Az0 Az1 Az2 Az3 Az4 Az5 Az6 Ay1 Ay2 Ay3 Ay4 Ay5 Ay6
  clear hok hin hk
  have hta := ta_index
  have hta0 := ta_index_table
  have hta1 := ta_index_view
  go_enter Tryz.func30, Tryz.ntmps30
  go_wp2_with (refine wpl_st rfl _ rfl rfl rfl hbl ?_)
  refine hof.mono ?_; rintro e w2 ⟨rfl, hb2⟩
  have hB2 := hB1.trans (hb2.mono hB1.size)
  have hV : (w2.alloc (.cells (stC x tc c s wv pv) 90)).heap[w2.heap.size]? = some (.cells (stC x tc c s wv pv) 90 (0, 0)) := blk_new w2 _
  have hB3 := hB2.alloc hB2.size (.cells (stC x tc c s wv pv) 90)
  have c1 := (st18 hV).2.1
  have c2 := (st18 hV).2.2.1
  have c3 := (st18 hV).2.2.2.1
  go_wp2_with (refine wpl_stg sz_index rfl _ _ rfl rfl rfl rfl rfl hone ?_)
  go_ret
  rw [← HE.out]
  exact ⟨rfl, hB3⟩
set_option maxRecDepth 100000 in
set_option maxHeartbeats 8000000 in
theorem text_drop {w : World} {x : Sx} {tc c s wv pv : Value} (hk : x.kind = 4) (_hG : Gp w) (hok : StOK x) (hin : StIn w x tc c s wv) (hpv : pv.oneCell' = true) :
    Calls Tryz.prog 30 #[.agg (stC x tc c s wv pv)] w fun e w' => e = .returned (.string (catP (dropP x))) ∧ Below w.heap.size w w' := by
  have hone := hin.one hpv
  have hB1 := (Below.refl w.heap.size w).alloc (Nat.le_refl _) (.cells (stC x tc c s wv pv) 31)
  have hbl : (w.alloc (.cells (stC x tc c s wv pv) 31)).heap[w.heap.size]? = some (.cells (stC x tc c s wv pv) 31 (0, 0)) := blk_new w _
  have hof := of_any (w := w.alloc (.cells (stC x tc c s wv pv) 31)) x tc c s wv pv
  have hkv : kindV x.kind (stC x tc c s wv pv) = .iface 91 (.agg (stC x tc c s wv pv)) := by unfold kindV; rw [hk]; rfl
  rw [hkv] at hof
  clear hkv
  have Az0 : ((⟨#[68, 82, 79, 80, 32]⟩ : ByteArray)).size ≤ 5 := by decide
  have Ay1 : (x.name).size ≤ 1000000 := hok.name
  obtain ⟨A1, Ae1⟩ : ∃ r, (⟨#[68, 82, 79, 80, 32]⟩ : ByteArray) ++ x.name = r := ⟨_, rfl⟩
  have Ah1 := add_str ((⟨#[68, 82, 79, 80, 32]⟩ : ByteArray)) (x.name) (by omega)
  rw [Ae1] at Ah1
  have Az1 : A1.size ≤ 1000005 := by rw [← Ae1, ByteArray.size_append]; omega
  have HE : Hid (A1 = catP (dropP x)) := by
      show _ = _
      rw [← Ae1]
      unfold dropP
      apply ByteArray.ext; apply Array.ext'; simp [catP, Pc.text]
  clear Ae1
  clear Az0 Az1 Ay1
  clear hok hin hk
  have hta := ta_drop
  have hta0 := ta_drop_table
  have hta1 := ta_drop_view
  have hta2 := ta_drop_index
  go_enter Tryz.func30, Tryz.ntmps30
  go_wp2_with (refine wpl_st rfl _ rfl rfl rfl hbl ?_)
  refine hof.mono ?_; rintro e w2 ⟨rfl, hb2⟩
  have hB2 := hB1.trans (hb2.mono hB1.size)
  have hV : (w2.alloc (.cells (stC x tc c s wv pv) 91)).heap[w2.heap.size]? = some (.cells (stC x tc c s wv pv) 91 (0, 0)) := blk_new w2 _
  have hB3 := hB2.alloc hB2.size (.cells (stC x tc c s wv pv) 91)
  have c1 := (st18 hV).2.1
  go_wp2_with (refine wpl_stg sz_drop rfl _ _ rfl rfl rfl rfl rfl hone ?_)
  go_ret
  rw [← HE.out]
  exact ⟨rfl, hB3⟩
end Go.Proofs.YtfbgdjcnlnfoaaaGreatDoor

namespace Go.Proofs.YtfbgdjcnlnfoaaaGreatDoor
open Go.RowKit
open Cle

set_option maxRecDepth 100000 in
set_option maxHeartbeats 8000000 in
theorem text_insert {w : World} {x : Sx} {tc c s wv pv : Value} (hk : x.kind = 5) (hG : Gp w) (hok : StOK x) (hin : StIn w x tc c s wv) (hpv : pv.oneCell' = true) :
    Calls Tryz.prog 30 #[.agg (stC x tc c s wv pv)] w fun e w' => e = .returned (.string (catP (insertP x))) ∧ Below w.heap.size w w' := by
  have hone := hin.one hpv
  have hB1 := (Below.refl w.heap.size w).alloc (Nat.le_refl _) (.cells (stC x tc c s wv pv) 31)
  have hbl : (w.alloc (.cells (stC x tc c s wv pv) 31)).heap[w.heap.size]? = some (.cells (stC x tc c s wv pv) 31 (0, 0)) := blk_new w _
  have hof := of_any (w := w.alloc (.cells (stC x tc c s wv pv) 31)) x tc c s wv pv
  have hkv : kindV x.kind (stC x tc c s wv pv) = .iface 92 (.agg (stC x tc c s wv pv)) := by unfold kindV; rw [hk]; rfl
  rw [hkv] at hof
  clear hkv
  obtain ⟨Jn, eJn⟩ : ∃ r, joinB (⟨#[44, 32]⟩ : ByteArray) (x.sets.map Pr.name) = r := ⟨_, rfl⟩
  have zJn : Jn.size ≤ 100000200 := by rw [← eJn]; exact names_le hok.sets
  obtain ⟨Jt, eJt⟩ : ∃ r, joinB (⟨#[44, 32]⟩ : ByteArray) (x.sets.map fun q => (termP q.t).text) = r := ⟨_, rfl⟩
  have zJt : Jt.size ≤ 200002300 := by rw [← eJt]; exact terms_le hok.sets
  obtain ⟨Ju, eJu⟩ : ∃ r, catP (usingP x.stamp x.ttl) = r := ⟨_, rfl⟩
  have zJu : Ju.size ≤ 1000 := by rw [← eJu]; exact using_le _ _ hok.stamp hok.ttl
  have Az0 : ((⟨#[73, 78, 83, 69, 82, 84, 32, 73, 78, 84, 79, 32]⟩ : ByteArray)).size ≤ 12 := by decide
  have Ay1 : (x.of_).size ≤ 1000000 := hok.of_
  obtain ⟨A1, Ae1⟩ : ∃ r, (⟨#[73, 78, 83, 69, 82, 84, 32, 73, 78, 84, 79, 32]⟩ : ByteArray) ++ x.of_ = r := ⟨_, rfl⟩
  have Ah1 := add_str ((⟨#[73, 78, 83, 69, 82, 84, 32, 73, 78, 84, 79, 32]⟩ : ByteArray)) (x.of_) (by omega)
  rw [Ae1] at Ah1
  have Az1 : A1.size ≤ 1000012 := by rw [← Ae1, ByteArray.size_append]; omega
  have Ay2 : ((⟨#[32, 40]⟩ : ByteArray)).size ≤ 2 := by decide
  obtain ⟨A2, Ae2⟩ : ∃ r, A1 ++ (⟨#[32, 40]⟩ : ByteArray) = r := ⟨_, rfl⟩
  have Ah2 := add_str (A1) ((⟨#[32, 40]⟩ : ByteArray)) (by omega)
  rw [Ae2] at Ah2
  have Az2 : A2.size ≤ 1000014 := by rw [← Ae2, ByteArray.size_append]; omega
  have Ay3 : (Jn).size ≤ 100000200 := zJn
  obtain ⟨A3, Ae3⟩ : ∃ r, A2 ++ Jn = r := ⟨_, rfl⟩
  have Ah3 := add_str (A2) (Jn) (by omega)
  rw [Ae3] at Ah3
  have Az3 : A3.size ≤ 101000214 := by rw [← Ae3, ByteArray.size_append]; omega
  have Ay4 : ((⟨#[41, 32, 86, 65, 76, 85, 69, 83, 32, 40]⟩ : ByteArray)).size ≤ 10 := by decide
  obtain ⟨A4, Ae4⟩ : ∃ r, A3 ++ (⟨#[41, 32, 86, 65, 76, 85, 69, 83, 32, 40]⟩ : ByteArray) = r := ⟨_, rfl⟩
  have Ah4 := add_str (A3) ((⟨#[41, 32, 86, 65, 76, 85, 69, 83, 32, 40]⟩ : ByteArray)) (by omega)
  rw [Ae4] at Ah4
  have Az4 : A4.size ≤ 101000224 := by rw [← Ae4, ByteArray.size_append]; omega
  have Ay5 : (Jt).size ≤ 200002300 := zJt
  obtain ⟨A5, Ae5⟩ : ∃ r, A4 ++ Jt = r := ⟨_, rfl⟩
  have Ah5 := add_str (A4) (Jt) (by omega)
  rw [Ae5] at Ah5
  have Az5 : A5.size ≤ 301002524 := by rw [← Ae5, ByteArray.size_append]; omega
  have Ay6 : ((⟨#[41]⟩ : ByteArray)).size ≤ 1 := by decide
  obtain ⟨A6, Ae6⟩ : ∃ r, A5 ++ (⟨#[41]⟩ : ByteArray) = r := ⟨_, rfl⟩
  have Ah6 := add_str (A5) ((⟨#[41]⟩ : ByteArray)) (by omega)
  rw [Ae6] at Ah6
  have Az6 : A6.size ≤ 301002525 := by rw [← Ae6, ByteArray.size_append]; omega
  have Ay7 : (Ju).size ≤ 1000 := zJu
  obtain ⟨A7, Ae7⟩ : ∃ r, A6 ++ Ju = r := ⟨_, rfl⟩
  have Ah7 := add_str (A6) (Ju) (by omega)
  rw [Ae7] at Ah7
  have Az7 : A7.size ≤ 301003525 := by rw [← Ae7, ByteArray.size_append]; omega
  have HE : Hid (A7 = catP (insertP x)) := by
      show _ = _
      rw [← Ae7, ← Ae6, ← Ae5, ← Ae4, ← Ae3, ← Ae2, ← Ae1, ← eJn, ← eJt, ← eJu]
      unfold insertP
      rw [names_cat, terms_cat]
      apply ByteArray.ext; apply Array.ext'; simp [catP_app, catP, Pc.text]
  clear Ae1 Ae2 Ae3 Ae4 Ae5 Ae6 Ae7
  clear Az0 Az1 Az2 Az3 Az4 Az5 Az6 Az7 Ay1 Ay2 Ay3 Ay4 Ay5 Ay6 Ay7
  clear zJn zJt zJu
  have HC := Lib.hid (fun (wq : World) (hBq : Below w.heap.size w wq) => And.intro (hG.below hBq) (hin.below hBq))
  have HOK := Lib.hid hok
  have HJ : Hid (joinB (⟨#[44, 32]⟩ : ByteArray) (x.sets.map Pr.name) = Jn ∧ joinB (⟨#[44, 32]⟩ : ByteArray) (x.sets.map fun q => (termP q.t).text) = Jt ∧ catP (usingP x.stamp x.ttl) = Ju) := ⟨eJn, eJt, eJu⟩
  clear eJn eJt eJu
  clear hok hin hG hk
  have hta := ta_insert
  have hta0 := ta_insert_table
  have hta1 := ta_insert_view
  have hta2 := ta_insert_index
  have hta3 := ta_insert_drop
  go_enter Tryz.func30, Tryz.ntmps30
  go_wp2_with (refine wpl_st rfl _ rfl rfl rfl hbl ?_)
  refine hof.mono ?_; rintro e w2 ⟨rfl, hb2⟩
  have hB2 := hB1.trans (hb2.mono hB1.size)
  have hV : (w2.alloc (.cells (stC x tc c s wv pv) 92)).heap[w2.heap.size]? = some (.cells (stC x tc c s wv pv) 92 (0, 0)) := blk_new w2 _
  have hB3 := hB2.alloc hB2.size (.cells (stC x tc c s wv pv) 92)
  go_wp2_with (refine wpl_stg sz_insert rfl _ _ rfl rfl rfl rfl rfl hone ?_)
  obtain ⟨wq, hwq⟩ : ∃ wq, wq = w2.alloc (.cells (stC x tc c s wv pv) 92) := ⟨_, rfl⟩
  rw [← hwq] at hV hB3 ⊢
  clear hwq
  obtain ⟨hGq, hinq⟩ := HC.out wq hB3
  have hok := HOK.out
  obtain ⟨eJn, eJt, eJu⟩ := HJ.out
  have HJn : Hid (∀ (w' : World), Below wq.heap.size wq w' → Calls Tryz.prog 52 #[s, .string (⟨#[44, 32]⟩ : ByteArray), .func (.func 53) #[] #[]] w' (fun e w'' => e = .returned (.string Jn) ∧ Below w'.heap.size w' w'')) := fun w' hB' => by rw [← eJn]; exact ln_any (T := Pr.name) hok.sets.1 (hinq.s.below hB') (fun q _ w'' _ => name_of_any q w'') (Nat.le_trans (names_le hok.sets) (by decide))
  have HJt : Hid (∀ (w' : World), Below wq.heap.size wq w' → Calls Tryz.prog 52 #[s, .string (⟨#[44, 32]⟩ : ByteArray), .func (.func 54) #[] #[]] w' (fun e w'' => e = .returned (.string Jt) ∧ Below w'.heap.size w' w'')) := fun w' hB' => by rw [← eJt]; exact lt_any (T := fun q => (termP q.t).text) hok.sets.1 (hinq.s.below hB') (fun q hq w'' hb => text1_any q w'' ((hGq.below hB').below hb) (hok.sets.2 q hq).1) (Nat.le_trans (terms_le hok.sets) (by decide))
  have HJu : Hid (∀ (w' : World), Below wq.heap.size wq w' → Calls Tryz.prog 56 #[.int .i64 x.stamp, .int .i64 x.ttl] w' (fun e w'' => e = .returned (.string Ju) ∧ Below w'.heap.size w' w'')) := fun w' hB' => by rw [← eJu]; exact gusing_any (hGq.below hB') hok.stamp hok.ttl
  clear hGq hinq hok eJn eJt eJu
  clear HC HOK HJ hof hbl hB1 hb2 hB2 hone hta hta0 hta1 hta2 hta3
  have d2 : wq.cell? ⟨w2.heap.size, 2, none⟩ = some (.string x.of_) := (st18 hV).2.2.1
  have d12 : wq.cell? ⟨w2.heap.size, 12, none⟩ = some (s) := (st18 hV).2.2.2.2.2.2.2.2.2.2.2.2.1
  have d14 : wq.cell? ⟨w2.heap.size, 14, none⟩ = some (.int .i64 x.stamp) := (st18 hV).2.2.2.2.2.2.2.2.2.2.2.2.2.2.1
  have d15 : wq.cell? ⟨w2.heap.size, 15, none⟩ = some (.int .i64 x.ttl) := (st18 hV).2.2.2.2.2.2.2.2.2.2.2.2.2.2.2.1
  have hS : Below wq.heap.size wq wq ∧ wq.cell? ⟨w2.heap.size, 2, none⟩ = some (.string x.of_) ∧ wq.cell? ⟨w2.heap.size, 12, none⟩ = some (s) ∧ wq.cell? ⟨w2.heap.size, 14, none⟩ = some (.int .i64 x.stamp) ∧ wq.cell? ⟨w2.heap.size, 15, none⟩ = some (.int .i64 x.ttl) := ⟨Below.refl _ _, d2, d12, d14, d15⟩
  go_region_held3 (fun w' => Below wq.heap.size wq w' ∧ w'.cell? ⟨w2.heap.size, 2, none⟩ = some (.string x.of_) ∧ w'.cell? ⟨w2.heap.size, 12, none⟩ = some (s) ∧ w'.cell? ⟨w2.heap.size, 14, none⟩ = some (.int .i64 x.stamp) ∧ w'.cell? ⟨w2.heap.size, 15, none⟩ = some (.int .i64 x.ttl)) (first | exact tws4 (by assumption) hbJn | exact tws4 (by assumption) hbJt | exact tws4 (by assumption) hbJu | exact ⟨(Below.refl _ _).drew, d2, d12, d14, d15⟩)
    (first
    | (go_at_call 52; with_reducible refine (HJn.out _ (And.left (by assumption))).mono ?_; rintro e wJn ⟨rfl, hbJn⟩)
    | (go_at_call 52; with_reducible refine (HJt.out _ (And.left (by assumption))).mono ?_; rintro e wJt ⟨rfl, hbJt⟩)
    | (go_at_call 56; with_reducible refine (HJu.out _ (And.left (by assumption))).mono ?_; rintro e wJu ⟨rfl, hbJu⟩))
  go_wp2_with fail
  go_ret
  rw [← HE.out]
  exact ⟨rfl, hB3.trans (Below.mono (And.left (by assumption)) hB3.size)⟩
end Go.Proofs.YtfbgdjcnlnfoaaaGreatDoor

namespace Go.Proofs.YtfbgdjcnlnfoaaaGreatDoor
open Go.RowKit
open Cle

set_option maxRecDepth 100000 in
set_option maxHeartbeats 8000000 in
theorem text_update {w : World} {x : Sx} {tc c s wv pv : Value} (hk : x.kind = 6) (hG : Gp w) (hok : StOK x) (hin : StIn w x tc c s wv) (hpv : pv.oneCell' = true) :
    Calls Tryz.prog 30 #[.agg (stC x tc c s wv pv)] w fun e w' => e = .returned (.string (catP (updateP x))) ∧ Below w.heap.size w w' := by
  have hone := hin.one hpv
  have hB1 := (Below.refl w.heap.size w).alloc (Nat.le_refl _) (.cells (stC x tc c s wv pv) 31)
  have hbl : (w.alloc (.cells (stC x tc c s wv pv) 31)).heap[w.heap.size]? = some (.cells (stC x tc c s wv pv) 31 (0, 0)) := blk_new w _
  have hof := of_any (w := w.alloc (.cells (stC x tc c s wv pv) 31)) x tc c s wv pv
  have hkv : kindV x.kind (stC x tc c s wv pv) = .iface 95 (.agg (stC x tc c s wv pv)) := by unfold kindV; rw [hk]; rfl
  rw [hkv] at hof
  clear hkv
  obtain ⟨Ju, eJu⟩ : ∃ r, catP (usingP x.stamp x.ttl) = r := ⟨_, rfl⟩
  have zJu : Ju.size ≤ 1000 := by rw [← eJu]; exact using_le _ _ hok.stamp hok.ttl
  obtain ⟨Je, eJe⟩ : ∃ r, joinB (⟨#[44, 32]⟩ : ByteArray) (x.sets.map fun q => catP (equalP q)) = r := ⟨_, rfl⟩
  have zJe : Je.size ≤ 400001000 := by rw [← eJe]; exact equals_le hok.sets _ (by decide)
  obtain ⟨Jw, eJw⟩ : ∃ r, catP (whereP x.wher) = r := ⟨_, rfl⟩
  have zJw : Jw.size ≤ 400002000 := by rw [← eJw]; exact where_le hok.wher
  have Az0 : ((⟨#[85, 80, 68, 65, 84, 69, 32]⟩ : ByteArray)).size ≤ 7 := by decide
  have Ay1 : (x.of_).size ≤ 1000000 := hok.of_
  obtain ⟨A1, Ae1⟩ : ∃ r, (⟨#[85, 80, 68, 65, 84, 69, 32]⟩ : ByteArray) ++ x.of_ = r := ⟨_, rfl⟩
  have Ah1 := add_str ((⟨#[85, 80, 68, 65, 84, 69, 32]⟩ : ByteArray)) (x.of_) (by omega)
  rw [Ae1] at Ah1
  have Az1 : A1.size ≤ 1000007 := by rw [← Ae1, ByteArray.size_append]; omega
  have Ay2 : (Ju).size ≤ 1000 := zJu
  obtain ⟨A2, Ae2⟩ : ∃ r, A1 ++ Ju = r := ⟨_, rfl⟩
  have Ah2 := add_str (A1) (Ju) (by omega)
  rw [Ae2] at Ah2
  have Az2 : A2.size ≤ 1001007 := by rw [← Ae2, ByteArray.size_append]; omega
  have Ay3 : ((⟨#[32, 83, 69, 84, 32]⟩ : ByteArray)).size ≤ 5 := by decide
  obtain ⟨A3, Ae3⟩ : ∃ r, A2 ++ (⟨#[32, 83, 69, 84, 32]⟩ : ByteArray) = r := ⟨_, rfl⟩
  have Ah3 := add_str (A2) ((⟨#[32, 83, 69, 84, 32]⟩ : ByteArray)) (by omega)
  rw [Ae3] at Ah3
  have Az3 : A3.size ≤ 1001012 := by rw [← Ae3, ByteArray.size_append]; omega
  have Ay4 : (Je).size ≤ 400001000 := zJe
  obtain ⟨A4, Ae4⟩ : ∃ r, A3 ++ Je = r := ⟨_, rfl⟩
  have Ah4 := add_str (A3) (Je) (by omega)
  rw [Ae4] at Ah4
  have Az4 : A4.size ≤ 401002012 := by rw [← Ae4, ByteArray.size_append]; omega
  have Ay5 : (Jw).size ≤ 400002000 := zJw
  obtain ⟨A5, Ae5⟩ : ∃ r, A4 ++ Jw = r := ⟨_, rfl⟩
  have Ah5 := add_str (A4) (Jw) (by omega)
  rw [Ae5] at Ah5
  have Az5 : A5.size ≤ 801004012 := by rw [← Ae5, ByteArray.size_append]; omega
  have HE : Hid (A5 = catP (updateP x)) := by
      show _ = _
      rw [← Ae5, ← Ae4, ← Ae3, ← Ae2, ← Ae1, ← eJu, ← eJe, ← eJw]
      unfold updateP
      rw [catP_app, catP_app, catP_app, catP_app, ← equals_cat]
      apply ByteArray.ext; apply Array.ext'; simp [catP, Pc.text]
  clear Ae1 Ae2 Ae3 Ae4 Ae5
  clear Az0 Az1 Az2 Az3 Az4 Az5 Ay1 Ay2 Ay3 Ay4 Ay5
  clear zJu zJe zJw
  have HC := Lib.hid (fun (wq : World) (hBq : Below w.heap.size w wq) => And.intro (hG.below hBq) (hin.below hBq))
  have HOK := Lib.hid hok
  have HJ : Hid (catP (usingP x.stamp x.ttl) = Ju ∧ joinB (⟨#[44, 32]⟩ : ByteArray) (x.sets.map fun q => catP (equalP q)) = Je ∧ catP (whereP x.wher) = Jw) := ⟨eJu, eJe, eJw⟩
  clear eJu eJe eJw
  clear hok hin hG hk
  have hta := ta_update
  have hta0 := ta_update_table
  have hta1 := ta_update_view
  have hta2 := ta_update_index
  have hta3 := ta_update_drop
  have hta4 := ta_update_insert
  go_enter Tryz.func30, Tryz.ntmps30
  go_wp2_with (refine wpl_st rfl _ rfl rfl rfl hbl ?_)
  refine hof.mono ?_; rintro e w2 ⟨rfl, hb2⟩
  have hB2 := hB1.trans (hb2.mono hB1.size)
  have hV : (w2.alloc (.cells (stC x tc c s wv pv) 95)).heap[w2.heap.size]? = some (.cells (stC x tc c s wv pv) 95 (0, 0)) := blk_new w2 _
  have hB3 := hB2.alloc hB2.size (.cells (stC x tc c s wv pv) 95)
  go_wp2_with (refine wpl_stg sz_update rfl _ _ rfl rfl rfl rfl rfl hone ?_)
  obtain ⟨wq, hwq⟩ : ∃ wq, wq = w2.alloc (.cells (stC x tc c s wv pv) 95) := ⟨_, rfl⟩
  rw [← hwq] at hV hB3 ⊢
  clear hwq
  obtain ⟨hGq, hinq⟩ := HC.out wq hB3
  have hok := HOK.out
  obtain ⟨eJu, eJe, eJw⟩ := HJ.out
  have HJu : Hid (∀ (w' : World), Below wq.heap.size wq w' → Calls Tryz.prog 56 #[.int .i64 x.stamp, .int .i64 x.ttl] w' (fun e w'' => e = .returned (.string Ju) ∧ Below w'.heap.size w' w'')) := fun w' hB' => by rw [← eJu]; exact gusing_any (hGq.below hB') hok.stamp hok.ttl
  have HJe : Hid (∀ (w' : World), Below wq.heap.size wq w' → Calls Tryz.prog 52 #[s, .string (⟨#[44, 32]⟩ : ByteArray), .func (.func 57) #[] #[]] w' (fun e w'' => e = .returned (.string Je) ∧ Below w'.heap.size w' w'')) := fun w' hB' => by rw [← eJe]; exact pairs_any (hGq.below hB') hok.sets (hinq.s.below hB') (by decide)
  have HJw : Hid (∀ (w' : World), Below wq.heap.size wq w' → Calls Tryz.prog 58 #[wv] w' (fun e w'' => e = .returned (.string Jw) ∧ Below w'.heap.size w' w'')) := fun w' hB' => by rw [← eJw]; exact gwhere_any (hGq.below hB') hok.wher (hinq.wv.below hB')
  clear hGq hinq hok eJu eJe eJw
  clear HC HOK HJ hof hbl hB1 hb2 hB2 hone hta hta0 hta1 hta2 hta3 hta4
  have d2 : wq.cell? ⟨w2.heap.size, 2, none⟩ = some (.string x.of_) := (st18 hV).2.2.1
  have d12 : wq.cell? ⟨w2.heap.size, 12, none⟩ = some (s) := (st18 hV).2.2.2.2.2.2.2.2.2.2.2.2.1
  have d13 : wq.cell? ⟨w2.heap.size, 13, none⟩ = some (wv) := (st18 hV).2.2.2.2.2.2.2.2.2.2.2.2.2.1
  have d14 : wq.cell? ⟨w2.heap.size, 14, none⟩ = some (.int .i64 x.stamp) := (st18 hV).2.2.2.2.2.2.2.2.2.2.2.2.2.2.1
  have d15 : wq.cell? ⟨w2.heap.size, 15, none⟩ = some (.int .i64 x.ttl) := (st18 hV).2.2.2.2.2.2.2.2.2.2.2.2.2.2.2.1
  have hS : Below wq.heap.size wq wq ∧ wq.cell? ⟨w2.heap.size, 2, none⟩ = some (.string x.of_) ∧ wq.cell? ⟨w2.heap.size, 12, none⟩ = some (s) ∧ wq.cell? ⟨w2.heap.size, 13, none⟩ = some (wv) ∧ wq.cell? ⟨w2.heap.size, 14, none⟩ = some (.int .i64 x.stamp) ∧ wq.cell? ⟨w2.heap.size, 15, none⟩ = some (.int .i64 x.ttl) := ⟨Below.refl _ _, d2, d12, d13, d14, d15⟩
  go_region_held3 (fun w' => Below wq.heap.size wq w' ∧ w'.cell? ⟨w2.heap.size, 2, none⟩ = some (.string x.of_) ∧ w'.cell? ⟨w2.heap.size, 12, none⟩ = some (s) ∧ w'.cell? ⟨w2.heap.size, 13, none⟩ = some (wv) ∧ w'.cell? ⟨w2.heap.size, 14, none⟩ = some (.int .i64 x.stamp) ∧ w'.cell? ⟨w2.heap.size, 15, none⟩ = some (.int .i64 x.ttl)) (first | exact tws5 (by assumption) hbJu | exact tws5 (by assumption) hbJe | exact tws5 (by assumption) hbJw | exact ⟨(Below.refl _ _).drew, d2, d12, d13, d14, d15⟩)
    (first
    | (go_at_call 56; with_reducible refine (HJu.out _ (And.left (by assumption))).mono ?_; rintro e wJu ⟨rfl, hbJu⟩)
    | (go_at_call 52; with_reducible refine (HJe.out _ (And.left (by assumption))).mono ?_; rintro e wJe ⟨rfl, hbJe⟩)
    | (go_at_call 58; with_reducible refine (HJw.out _ (And.left (by assumption))).mono ?_; rintro e wJw ⟨rfl, hbJw⟩))
  go_wp2_with fail
  go_ret
  rw [← HE.out]
  exact ⟨rfl, hB3.trans (Below.mono (And.left (by assumption)) hB3.size)⟩
end Go.Proofs.YtfbgdjcnlnfoaaaGreatDoor

namespace Go.Proofs.YtfbgdjcnlnfoaaaGreatDoor
open Go.RowKit
open Cle

set_option maxRecDepth 100000 in
set_option maxHeartbeats 8000000 in
theorem text_remove1 {w : World} {x : Sx} {tc c s wv pv : Value} (hc0 : ¬ x.cols = []) (hk : x.kind = 7) (hG : Gp w) (hok : StOK x) (hin : StIn w x tc c s wv) (hpv : pv.oneCell' = true) :
    Calls Tryz.prog 30 #[.agg (stC x tc c s wv pv)] w fun e w' => e = .returned (.string (catP (removeP x))) ∧ Below w.heap.size w w' := by
  obtain ⟨cA, cC, hce, _⟩ := hin.c
  subst hce
  have hone := hin.one hpv
  have hB1 := (Below.refl w.heap.size w).alloc (Nat.le_refl _) (.cells (stC x tc (.slice cA x.cols.length cC) s wv pv) 31)
  have hbl : (w.alloc (.cells (stC x tc (.slice cA x.cols.length cC) s wv pv) 31)).heap[w.heap.size]? = some (.cells (stC x tc (.slice cA x.cols.length cC) s wv pv) 31 (0, 0)) := blk_new w _
  have hof := of_any (w := w.alloc (.cells (stC x tc (.slice cA x.cols.length cC) s wv pv) 31)) x tc (.slice cA x.cols.length cC) s wv pv
  have hkv : kindV x.kind (stC x tc (.slice cA x.cols.length cC) s wv pv) = .iface 97 (.agg (stC x tc (.slice cA x.cols.length cC) s wv pv)) := by unfold kindV; rw [hk]; rfl
  rw [hkv] at hof
  clear hkv
  obtain ⟨Ju, eJu⟩ : ∃ r, catP (usingP x.stamp x.ttl) = r := ⟨_, rfl⟩
  have zJu : Ju.size ≤ 1000 := by rw [← eJu]; exact using_le _ _ hok.stamp hok.ttl
  obtain ⟨Jw, eJw⟩ : ∃ r, catP (whereP x.wher) = r := ⟨_, rfl⟩
  have zJw : Jw.size ≤ 400002000 := by rw [← eJw]; exact where_le hok.wher
  obtain ⟨Js, eJs⟩ : ∃ r, catP (someP x.cols) = r := ⟨_, rfl⟩
  have zJs : Js.size ≤ 100 * 1000003 := by rw [← eJs]; exact some_le (Nat.le_trans hok.cols.1 (by decide)) hok.cols.2
  have hPa := add_str Js (⟨#[32]⟩ : ByteArray) (by show _ + 1 ≤ _; omega)
  obtain ⟨P, eP⟩ : ∃ r, Js ++ (⟨#[32]⟩ : ByteArray) = r := ⟨_, rfl⟩
  have zP : P.size ≤ 100 * 1000003 + 1 := by rw [← eP, ByteArray.size_append]; show _ + 1 ≤ _; omega
  rw [eP] at hPa
  have Az0 : ((⟨#[68, 69, 76, 69, 84, 69, 32]⟩ : ByteArray)).size ≤ 7 := by decide
  have Ay1 : (P).size ≤ 100000301 := zP
  obtain ⟨A1, Ae1⟩ : ∃ r, (⟨#[68, 69, 76, 69, 84, 69, 32]⟩ : ByteArray) ++ P = r := ⟨_, rfl⟩
  have Ah1 := add_str ((⟨#[68, 69, 76, 69, 84, 69, 32]⟩ : ByteArray)) (P) (by omega)
  rw [Ae1] at Ah1
  have Az1 : A1.size ≤ 100000308 := by rw [← Ae1, ByteArray.size_append]; omega
  have Ay2 : ((⟨#[70, 82, 79, 77, 32]⟩ : ByteArray)).size ≤ 5 := by decide
  obtain ⟨A2, Ae2⟩ : ∃ r, A1 ++ (⟨#[70, 82, 79, 77, 32]⟩ : ByteArray) = r := ⟨_, rfl⟩
  have Ah2 := add_str (A1) ((⟨#[70, 82, 79, 77, 32]⟩ : ByteArray)) (by omega)
  rw [Ae2] at Ah2
  have Az2 : A2.size ≤ 100000313 := by rw [← Ae2, ByteArray.size_append]; omega
  have Ay3 : (x.of_).size ≤ 1000000 := hok.of_
  obtain ⟨A3, Ae3⟩ : ∃ r, A2 ++ x.of_ = r := ⟨_, rfl⟩
  have Ah3 := add_str (A2) (x.of_) (by omega)
  rw [Ae3] at Ah3
  have Az3 : A3.size ≤ 101000313 := by rw [← Ae3, ByteArray.size_append]; omega
  have Ay4 : (Ju).size ≤ 1000 := zJu
  obtain ⟨A4, Ae4⟩ : ∃ r, A3 ++ Ju = r := ⟨_, rfl⟩
  have Ah4 := add_str (A3) (Ju) (by omega)
  rw [Ae4] at Ah4
  have Az4 : A4.size ≤ 101001313 := by rw [← Ae4, ByteArray.size_append]; omega
  have Ay5 : (Jw).size ≤ 400002000 := zJw
  obtain ⟨A5, Ae5⟩ : ∃ r, A4 ++ Jw = r := ⟨_, rfl⟩
  have Ah5 := add_str (A4) (Jw) (by omega)
  rw [Ae5] at Ah5
  have Az5 : A5.size ≤ 501003313 := by rw [← Ae5, ByteArray.size_append]; omega
  have HE : Hid (A5 = catP (removeP x)) := by
      show _ = _
      rw [← Ae5, ← Ae4, ← Ae3, ← Ae2, ← Ae1, ← eJu, ← eJw, ← eP, ← eJs]
      unfold removeP
      rw [if_neg hc0]
      apply ByteArray.ext; apply Array.ext'; simp [catP_app, catP, Pc.text]
  clear Ae1 Ae2 Ae3 Ae4 Ae5
  clear Az0 Az1 Az2 Az3 Az4 Az5 Ay1 Ay2 Ay3 Ay4 Ay5
  clear zJu zJw
  have HC := Lib.hid (fun (wq : World) (hBq : Below w.heap.size w wq) => And.intro (hG.below hBq) (hin.below hBq))
  have HOK := Lib.hid hok
  have HJ : Hid (catP (usingP x.stamp x.ttl) = Ju ∧ catP (whereP x.wher) = Jw) := ⟨eJu, eJw⟩
  clear eJu eJw hok hin hG hk
  have hta := ta_remove
  have hta0 := ta_remove_table
  have hta1 := ta_remove_view
  have hta2 := ta_remove_index
  have hta3 := ta_remove_drop
  have hta4 := ta_remove_insert
  have hta5 := ta_remove_update
  go_enter Tryz.func30, Tryz.ntmps30
  go_wp2_with (refine wpl_st rfl _ rfl rfl rfl hbl ?_)
  refine hof.mono ?_; rintro e w2 ⟨rfl, hb2⟩
  have hB2 := hB1.trans (hb2.mono hB1.size)
  have hV : (w2.alloc (.cells (stC x tc (.slice cA x.cols.length cC) s wv pv) 97)).heap[w2.heap.size]? = some (.cells (stC x tc (.slice cA x.cols.length cC) s wv pv) 97 (0, 0)) := blk_new w2 _
  have hB3 := hB2.alloc hB2.size (.cells (stC x tc (.slice cA x.cols.length cC) s wv pv) 97)
  have m11 := (st18 hV).2.2.2.2.2.2.2.2.2.2.2.1
  have p0 : (0 : Int) < (x.cols.length : Int) := by have := List.length_pos_iff.2 hc0; omega
  have p0' : ¬ x.cols = [] := hc0
  clear hc0
  obtain ⟨hG0, hin0⟩ := HC.out _ hB3
  have hok := HOK.out
  have hmid : Calls Tryz.prog 51 #[(.slice cA x.cols.length cC)] (w2.alloc (.cells (stC x tc (.slice cA x.cols.length cC) s wv pv) 97)) fun e w'' => e = .returned (.string Js) ∧ Below (w2.alloc (.cells (stC x tc (.slice cA x.cols.length cC) s wv pv) 97)).heap.size (w2.alloc (.cells (stC x tc (.slice cA x.cols.length cC) s wv pv) 97)) w'' := by rw [← eJs]; exact gsome_any (Nat.le_trans hok.cols.1 (by decide)) hin0.c hok.cols.2
  clear eJs eP p0' zP zJs
  clear hG0 hin0 hok
  go_wp2_with (refine wpl_stg sz_remove rfl _ _ rfl rfl rfl rfl rfl hone ?_)
  refine hmid.mono ?_; rintro e wq ⟨rfl, hbq⟩
  replace hV := blk_below hV hbq (blk_lt hV)
  replace hB3 := hB3.trans (hbq.mono hB3.size)
  go_wp2_with fail
  obtain ⟨hGq, hinq⟩ := HC.out wq hB3
  have hok := HOK.out
  obtain ⟨eJu, eJw⟩ := HJ.out
  have HJu : Hid (∀ (w' : World), Below wq.heap.size wq w' → Calls Tryz.prog 56 #[.int .i64 x.stamp, .int .i64 x.ttl] w' (fun e w'' => e = .returned (.string Ju) ∧ Below w'.heap.size w' w'')) := fun w' hB' => by rw [← eJu]; exact gusing_any (hGq.below hB') hok.stamp hok.ttl
  have HJw : Hid (∀ (w' : World), Below wq.heap.size wq w' → Calls Tryz.prog 58 #[wv] w' (fun e w'' => e = .returned (.string Jw) ∧ Below w'.heap.size w' w'')) := fun w' hB' => by rw [← eJw]; exact gwhere_any (hGq.below hB') hok.wher (hinq.wv.below hB')
  clear hGq hinq hok eJu eJw
  clear HC HOK HJ hof hbl hB1 hb2 hB2 hone hta hta0 hta1 hta2 hta3 hta4 hta5
  have d2 : wq.cell? ⟨w2.heap.size, 2, none⟩ = some (.string x.of_) := (st18 hV).2.2.1
  have d13 : wq.cell? ⟨w2.heap.size, 13, none⟩ = some (wv) := (st18 hV).2.2.2.2.2.2.2.2.2.2.2.2.2.1
  have d14 : wq.cell? ⟨w2.heap.size, 14, none⟩ = some (.int .i64 x.stamp) := (st18 hV).2.2.2.2.2.2.2.2.2.2.2.2.2.2.1
  have d15 : wq.cell? ⟨w2.heap.size, 15, none⟩ = some (.int .i64 x.ttl) := (st18 hV).2.2.2.2.2.2.2.2.2.2.2.2.2.2.2.1
  have hS : Below wq.heap.size wq wq ∧ wq.cell? ⟨w2.heap.size, 2, none⟩ = some (.string x.of_) ∧ wq.cell? ⟨w2.heap.size, 13, none⟩ = some (wv) ∧ wq.cell? ⟨w2.heap.size, 14, none⟩ = some (.int .i64 x.stamp) ∧ wq.cell? ⟨w2.heap.size, 15, none⟩ = some (.int .i64 x.ttl) := ⟨Below.refl _ _, d2, d13, d14, d15⟩
  go_region_held3 (fun w' => Below wq.heap.size wq w' ∧ w'.cell? ⟨w2.heap.size, 2, none⟩ = some (.string x.of_) ∧ w'.cell? ⟨w2.heap.size, 13, none⟩ = some (wv) ∧ w'.cell? ⟨w2.heap.size, 14, none⟩ = some (.int .i64 x.stamp) ∧ w'.cell? ⟨w2.heap.size, 15, none⟩ = some (.int .i64 x.ttl)) (first | exact tws4 (by assumption) hbJu | exact tws4 (by assumption) hbJw | exact ⟨(Below.refl _ _).drew, d2, d13, d14, d15⟩)
    (first
    | (go_at_call 56; with_reducible refine (HJu.out _ (And.left (by assumption))).mono ?_; rintro e wJu ⟨rfl, hbJu⟩)
    | (go_at_call 58; with_reducible refine (HJw.out _ (And.left (by assumption))).mono ?_; rintro e wJw ⟨rfl, hbJw⟩))
  go_wp2_with fail
  go_ret
  rw [← HE.out]
  exact ⟨rfl, hB3.trans (Below.mono (And.left (by assumption)) hB3.size)⟩
end Go.Proofs.YtfbgdjcnlnfoaaaGreatDoor

namespace Go.Proofs.YtfbgdjcnlnfoaaaGreatDoor
open Go.RowKit
open Cle

set_option maxRecDepth 100000 in
set_option maxHeartbeats 8000000 in
theorem text_ask0 {w : World} {x : Sx} {tc c s wv pv : Value} (hl0 : x.limit = 0) (hk : x.kind = 8) (hG : Gp w) (hok : StOK x) (hin : StIn w x tc c s wv) (hpv : pv.oneCell' = true) :
    Calls Tryz.prog 30 #[.agg (stC x tc c s wv pv)] w fun e w' => e = .returned (.string (catP (askP x))) ∧ Below w.heap.size w w' := by
  have hone := hin.one hpv
  have hB1 := (Below.refl w.heap.size w).alloc (Nat.le_refl _) (.cells (stC x tc c s wv pv) 31)
  have hbl : (w.alloc (.cells (stC x tc c s wv pv) 31)).heap[w.heap.size]? = some (.cells (stC x tc c s wv pv) 31 (0, 0)) := blk_new w _
  have hof := of_any (w := w.alloc (.cells (stC x tc c s wv pv) 31)) x tc c s wv pv
  have hkv : kindV x.kind (stC x tc c s wv pv) = .iface 98 (.agg (stC x tc c s wv pv)) := by unfold kindV; rw [hk]; rfl
  rw [hkv] at hof
  clear hkv
  obtain ⟨Js, eJs⟩ : ∃ r, catP (someP x.cols) = r := ⟨_, rfl⟩
  have zJs : Js.size ≤ 100000300 := by rw [← eJs]; exact some_le (Nat.le_trans hok.cols.1 (by decide)) hok.cols.2
  obtain ⟨Jw, eJw⟩ : ∃ r, catP (whereP x.wher) = r := ⟨_, rfl⟩
  have zJw : Jw.size ≤ 400002000 := by rw [← eJw]; exact where_le hok.wher
  have Az0 : ((⟨#[83, 69, 76, 69, 67, 84, 32]⟩ : ByteArray)).size ≤ 7 := by decide
  have Ay1 : (Js).size ≤ 100000300 := zJs
  obtain ⟨A1, Ae1⟩ : ∃ r, (⟨#[83, 69, 76, 69, 67, 84, 32]⟩ : ByteArray) ++ Js = r := ⟨_, rfl⟩
  have Ah1 := add_str ((⟨#[83, 69, 76, 69, 67, 84, 32]⟩ : ByteArray)) (Js) (by omega)
  rw [Ae1] at Ah1
  have Az1 : A1.size ≤ 100000307 := by rw [← Ae1, ByteArray.size_append]; omega
  have Ay2 : ((⟨#[32, 70, 82, 79, 77, 32]⟩ : ByteArray)).size ≤ 6 := by decide
  obtain ⟨A2, Ae2⟩ : ∃ r, A1 ++ (⟨#[32, 70, 82, 79, 77, 32]⟩ : ByteArray) = r := ⟨_, rfl⟩
  have Ah2 := add_str (A1) ((⟨#[32, 70, 82, 79, 77, 32]⟩ : ByteArray)) (by omega)
  rw [Ae2] at Ah2
  have Az2 : A2.size ≤ 100000313 := by rw [← Ae2, ByteArray.size_append]; omega
  have Ay3 : (x.of_).size ≤ 1000000 := hok.of_
  obtain ⟨A3, Ae3⟩ : ∃ r, A2 ++ x.of_ = r := ⟨_, rfl⟩
  have Ah3 := add_str (A2) (x.of_) (by omega)
  rw [Ae3] at Ah3
  have Az3 : A3.size ≤ 101000313 := by rw [← Ae3, ByteArray.size_append]; omega
  have Ay4 : (Jw).size ≤ 400002000 := zJw
  obtain ⟨A4, Ae4⟩ : ∃ r, A3 ++ Jw = r := ⟨_, rfl⟩
  have Ah4 := add_str (A3) (Jw) (by omega)
  rw [Ae4] at Ah4
  have Az4 : A4.size ≤ 501002313 := by rw [← Ae4, ByteArray.size_append]; omega
  have Ay5 : ((⟨#[]⟩ : ByteArray)).size ≤ 0 := by decide
  obtain ⟨A5, Ae5⟩ : ∃ r, A4 ++ (⟨#[]⟩ : ByteArray) = r := ⟨_, rfl⟩
  have Ah5 := add_str (A4) ((⟨#[]⟩ : ByteArray)) (by omega)
  rw [Ae5] at Ah5
  have Az5 : A5.size ≤ 501002313 := by rw [← Ae5, ByteArray.size_append]; omega
  have HE : Hid (A5 = catP (askP x)) := by
      show _ = _
      rw [← Ae5, ← Ae4, ← Ae3, ← Ae2, ← Ae1, ← eJs, ← eJw]
      unfold askP
      rw [if_pos hl0]
      apply ByteArray.ext; apply Array.ext'; simp [catP_app, catP, Pc.text]
  clear Ae1 Ae2 Ae3 Ae4 Ae5
  clear Az0 Az1 Az2 Az3 Az4 Az5 Ay1 Ay2 Ay3 Ay4 Ay5
  clear zJs zJw
  have HC := Lib.hid (fun (wq : World) (hBq : Below w.heap.size w wq) => And.intro (hG.below hBq) (hin.below hBq))
  have HOK := Lib.hid hok
  have HJ : Hid (catP (someP x.cols) = Js ∧ catP (whereP x.wher) = Jw) := ⟨eJs, eJw⟩
  clear eJs eJw hok hin hG hk
  have hta := ta_ask
  have hta0 := ta_ask_table
  have hta1 := ta_ask_view
  have hta2 := ta_ask_index
  have hta3 := ta_ask_drop
  have hta4 := ta_ask_insert
  have hta5 := ta_ask_update
  have hta6 := ta_ask_remove
  go_enter Tryz.func30, Tryz.ntmps30
  go_wp2_with (refine wpl_st rfl _ rfl rfl rfl hbl ?_)
  refine hof.mono ?_; rintro e w2 ⟨rfl, hb2⟩
  have hB2 := hB1.trans (hb2.mono hB1.size)
  have hV : (w2.alloc (.cells (stC x tc c s wv pv) 98)).heap[w2.heap.size]? = some (.cells (stC x tc c s wv pv) 98 (0, 0)) := blk_new w2 _
  have hB3 := hB2.alloc hB2.size (.cells (stC x tc c s wv pv) 98)
  have m16 := (st18 hV).2.2.2.2.2.2.2.2.2.2.2.2.2.2.2.2.1
  have p0 : (x.limit != 0) = false := by rw [hl0]; rfl
  clear hl0
  go_wp2_with (refine wpl_stg sz_ask rfl _ _ rfl rfl rfl rfl rfl hone ?_)
  obtain ⟨wq, hwq⟩ : ∃ wq, wq = w2.alloc (.cells (stC x tc c s wv pv) 98) := ⟨_, rfl⟩
  rw [← hwq] at hV hB3 ⊢
  clear hwq
  obtain ⟨hGq, hinq⟩ := HC.out wq hB3
  have hok := HOK.out
  obtain ⟨eJs, eJw⟩ := HJ.out
  have HJs : Hid (∀ (w' : World), Below wq.heap.size wq w' → Calls Tryz.prog 51 #[c] w' (fun e w'' => e = .returned (.string Js) ∧ Below w'.heap.size w' w'')) := fun w' hB' => by rw [← eJs]; exact gsome_any (Nat.le_trans hok.cols.1 (by decide)) (hinq.c.below hB') hok.cols.2
  have HJw : Hid (∀ (w' : World), Below wq.heap.size wq w' → Calls Tryz.prog 58 #[wv] w' (fun e w'' => e = .returned (.string Jw) ∧ Below w'.heap.size w' w'')) := fun w' hB' => by rw [← eJw]; exact gwhere_any (hGq.below hB') hok.wher (hinq.wv.below hB')
  clear hGq hinq hok eJs eJw
  clear HC HOK HJ hof hbl hB1 hb2 hB2 hone hta hta0 hta1 hta2 hta3 hta4 hta5 hta6
  have d2 : wq.cell? ⟨w2.heap.size, 2, none⟩ = some (.string x.of_) := (st18 hV).2.2.1
  have d11 : wq.cell? ⟨w2.heap.size, 11, none⟩ = some (c) := (st18 hV).2.2.2.2.2.2.2.2.2.2.2.1
  have d13 : wq.cell? ⟨w2.heap.size, 13, none⟩ = some (wv) := (st18 hV).2.2.2.2.2.2.2.2.2.2.2.2.2.1
  have hS : Below wq.heap.size wq wq ∧ wq.cell? ⟨w2.heap.size, 2, none⟩ = some (.string x.of_) ∧ wq.cell? ⟨w2.heap.size, 11, none⟩ = some (c) ∧ wq.cell? ⟨w2.heap.size, 13, none⟩ = some (wv) := ⟨Below.refl _ _, d2, d11, d13⟩
  go_region_held3 (fun w' => Below wq.heap.size wq w' ∧ w'.cell? ⟨w2.heap.size, 2, none⟩ = some (.string x.of_) ∧ w'.cell? ⟨w2.heap.size, 11, none⟩ = some (c) ∧ w'.cell? ⟨w2.heap.size, 13, none⟩ = some (wv)) (first | exact tws3 (by assumption) hbJs | exact tws3 (by assumption) hbJw | exact ⟨(Below.refl _ _).drew, d2, d11, d13⟩)
    (first
    | (go_at_call 51; with_reducible refine (HJs.out _ (And.left (by assumption))).mono ?_; rintro e wJs ⟨rfl, hbJs⟩)
    | (go_at_call 58; with_reducible refine (HJw.out _ (And.left (by assumption))).mono ?_; rintro e wJw ⟨rfl, hbJw⟩))
  go_wp2_with fail
  go_ret
  rw [← HE.out]
  exact ⟨rfl, hB3.trans (Below.mono (And.left (by assumption)) hB3.size)⟩
set_option maxRecDepth 100000 in
set_option maxHeartbeats 8000000 in
theorem text_ask1 {w : World} {x : Sx} {tc c s wv pv : Value} (hl0 : ¬ x.limit = 0) (hk : x.kind = 8) (hG : Gp w) (hok : StOK x) (hin : StIn w x tc c s wv) (hpv : pv.oneCell' = true) :
    Calls Tryz.prog 30 #[.agg (stC x tc c s wv pv)] w fun e w' => e = .returned (.string (catP (askP x))) ∧ Below w.heap.size w w' := by
  have hone := hin.one hpv
  have hB1 := (Below.refl w.heap.size w).alloc (Nat.le_refl _) (.cells (stC x tc c s wv pv) 31)
  have hbl : (w.alloc (.cells (stC x tc c s wv pv) 31)).heap[w.heap.size]? = some (.cells (stC x tc c s wv pv) 31 (0, 0)) := blk_new w _
  have hof := of_any (w := w.alloc (.cells (stC x tc c s wv pv) 31)) x tc c s wv pv
  have hkv : kindV x.kind (stC x tc c s wv pv) = .iface 98 (.agg (stC x tc c s wv pv)) := by unfold kindV; rw [hk]; rfl
  rw [hkv] at hof
  clear hkv
  obtain ⟨Js, eJs⟩ : ∃ r, catP (someP x.cols) = r := ⟨_, rfl⟩
  have zJs : Js.size ≤ 100000300 := by rw [← eJs]; exact some_le (Nat.le_trans hok.cols.1 (by decide)) hok.cols.2
  obtain ⟨Jw, eJw⟩ : ∃ r, catP (whereP x.wher) = r := ⟨_, rfl⟩
  have zJw : Jw.size ≤ 400002000 := by rw [← eJw]; exact where_le hok.wher
  obtain ⟨Ji, eJi⟩ : ∃ r, itoaS x.limit = r := ⟨_, rfl⟩
  have zJi : Ji.size ≤ 21 := by rw [← eJi]; exact itoaS_le _ hok.limit
  have hPa := add_str (⟨#[32, 76, 73, 77, 73, 84, 32]⟩ : ByteArray) Ji (by show 7 + _ ≤ _; omega)
  obtain ⟨P, eP⟩ : ∃ r, (⟨#[32, 76, 73, 77, 73, 84, 32]⟩ : ByteArray) ++ Ji = r := ⟨_, rfl⟩
  have zP : P.size ≤ 28 := by rw [← eP, ByteArray.size_append]; show 7 + _ ≤ _; omega
  rw [eP] at hPa
  have Az0 : ((⟨#[83, 69, 76, 69, 67, 84, 32]⟩ : ByteArray)).size ≤ 7 := by decide
  have Ay1 : (Js).size ≤ 100000300 := zJs
  obtain ⟨A1, Ae1⟩ : ∃ r, (⟨#[83, 69, 76, 69, 67, 84, 32]⟩ : ByteArray) ++ Js = r := ⟨_, rfl⟩
  have Ah1 := add_str ((⟨#[83, 69, 76, 69, 67, 84, 32]⟩ : ByteArray)) (Js) (by omega)
  rw [Ae1] at Ah1
  have Az1 : A1.size ≤ 100000307 := by rw [← Ae1, ByteArray.size_append]; omega
  have Ay2 : ((⟨#[32, 70, 82, 79, 77, 32]⟩ : ByteArray)).size ≤ 6 := by decide
  obtain ⟨A2, Ae2⟩ : ∃ r, A1 ++ (⟨#[32, 70, 82, 79, 77, 32]⟩ : ByteArray) = r := ⟨_, rfl⟩
  have Ah2 := add_str (A1) ((⟨#[32, 70, 82, 79, 77, 32]⟩ : ByteArray)) (by omega)
  rw [Ae2] at Ah2
  have Az2 : A2.size ≤ 100000313 := by rw [← Ae2, ByteArray.size_append]; omega
  have Ay3 : (x.of_).size ≤ 1000000 := hok.of_
  obtain ⟨A3, Ae3⟩ : ∃ r, A2 ++ x.of_ = r := ⟨_, rfl⟩
  have Ah3 := add_str (A2) (x.of_) (by omega)
  rw [Ae3] at Ah3
  have Az3 : A3.size ≤ 101000313 := by rw [← Ae3, ByteArray.size_append]; omega
  have Ay4 : (Jw).size ≤ 400002000 := zJw
  obtain ⟨A4, Ae4⟩ : ∃ r, A3 ++ Jw = r := ⟨_, rfl⟩
  have Ah4 := add_str (A3) (Jw) (by omega)
  rw [Ae4] at Ah4
  have Az4 : A4.size ≤ 501002313 := by rw [← Ae4, ByteArray.size_append]; omega
  have Ay5 : (P).size ≤ 28 := zP
  obtain ⟨A5, Ae5⟩ : ∃ r, A4 ++ P = r := ⟨_, rfl⟩
  have Ah5 := add_str (A4) (P) (by omega)
  rw [Ae5] at Ah5
  have Az5 : A5.size ≤ 501002341 := by rw [← Ae5, ByteArray.size_append]; omega
  have HE : Hid (A5 = catP (askP x)) := by
      show _ = _
      rw [← Ae5, ← Ae4, ← Ae3, ← Ae2, ← Ae1, ← eJs, ← eJw, ← eP, ← eJi]
      unfold askP
      rw [if_neg hl0]
      apply ByteArray.ext; apply Array.ext'; simp [catP_app, catP, Pc.text]
  clear Ae1 Ae2 Ae3 Ae4 Ae5
  clear Az0 Az1 Az2 Az3 Az4 Az5 Ay1 Ay2 Ay3 Ay4 Ay5
  clear zJs zJw
  have HC := Lib.hid (fun (wq : World) (hBq : Below w.heap.size w wq) => And.intro (hG.below hBq) (hin.below hBq))
  have HOK := Lib.hid hok
  have HJ : Hid (catP (someP x.cols) = Js ∧ catP (whereP x.wher) = Jw) := ⟨eJs, eJw⟩
  clear eJs eJw hok hin hG hk
  have hta := ta_ask
  have hta0 := ta_ask_table
  have hta1 := ta_ask_view
  have hta2 := ta_ask_index
  have hta3 := ta_ask_drop
  have hta4 := ta_ask_insert
  have hta5 := ta_ask_update
  have hta6 := ta_ask_remove
  go_enter Tryz.func30, Tryz.ntmps30
  go_wp2_with (refine wpl_st rfl _ rfl rfl rfl hbl ?_)
  refine hof.mono ?_; rintro e w2 ⟨rfl, hb2⟩
  have hB2 := hB1.trans (hb2.mono hB1.size)
  have hV : (w2.alloc (.cells (stC x tc c s wv pv) 98)).heap[w2.heap.size]? = some (.cells (stC x tc c s wv pv) 98 (0, 0)) := blk_new w2 _
  have hB3 := hB2.alloc hB2.size (.cells (stC x tc c s wv pv) 98)
  have m16 := (st18 hV).2.2.2.2.2.2.2.2.2.2.2.2.2.2.2.2.1
  have p0 : (x.limit != 0) = true := bne_iff_ne.2 hl0
  clear hl0
  obtain ⟨hG0, hin0⟩ := HC.out _ hB3
  have hok := HOK.out
  have hmid : Calls Tryz.prog 59 #[.int .i64 x.limit] (w2.alloc (.cells (stC x tc c s wv pv) 98)) fun e w'' => e = .returned (.string Ji) ∧ Below (w2.alloc (.cells (stC x tc c s wv pv) 98)).heap.size (w2.alloc (.cells (stC x tc c s wv pv) 98)) w'' := by rw [← eJi]; exact itoa_any x.limit hok.limit.1 hok.limit.2 _ hG0
  clear eJi eP zP zJi
  clear hG0 hin0 hok
  go_wp2_with (refine wpl_stg sz_ask rfl _ _ rfl rfl rfl rfl rfl hone ?_)
  refine hmid.mono ?_; rintro e wq ⟨rfl, hbq⟩
  replace hV := blk_below hV hbq (blk_lt hV)
  replace hB3 := hB3.trans (hbq.mono hB3.size)
  go_wp2_with fail
  obtain ⟨hGq, hinq⟩ := HC.out wq hB3
  have hok := HOK.out
  obtain ⟨eJs, eJw⟩ := HJ.out
  have HJs : Hid (∀ (w' : World), Below wq.heap.size wq w' → Calls Tryz.prog 51 #[c] w' (fun e w'' => e = .returned (.string Js) ∧ Below w'.heap.size w' w'')) := fun w' hB' => by rw [← eJs]; exact gsome_any (Nat.le_trans hok.cols.1 (by decide)) (hinq.c.below hB') hok.cols.2
  have HJw : Hid (∀ (w' : World), Below wq.heap.size wq w' → Calls Tryz.prog 58 #[wv] w' (fun e w'' => e = .returned (.string Jw) ∧ Below w'.heap.size w' w'')) := fun w' hB' => by rw [← eJw]; exact gwhere_any (hGq.below hB') hok.wher (hinq.wv.below hB')
  clear hGq hinq hok eJs eJw
  clear HC HOK HJ hof hbl hB1 hb2 hB2 hone hta hta0 hta1 hta2 hta3 hta4 hta5 hta6
  have d2 : wq.cell? ⟨w2.heap.size, 2, none⟩ = some (.string x.of_) := (st18 hV).2.2.1
  have d11 : wq.cell? ⟨w2.heap.size, 11, none⟩ = some (c) := (st18 hV).2.2.2.2.2.2.2.2.2.2.2.1
  have d13 : wq.cell? ⟨w2.heap.size, 13, none⟩ = some (wv) := (st18 hV).2.2.2.2.2.2.2.2.2.2.2.2.2.1
  have hS : Below wq.heap.size wq wq ∧ wq.cell? ⟨w2.heap.size, 2, none⟩ = some (.string x.of_) ∧ wq.cell? ⟨w2.heap.size, 11, none⟩ = some (c) ∧ wq.cell? ⟨w2.heap.size, 13, none⟩ = some (wv) := ⟨Below.refl _ _, d2, d11, d13⟩
  go_region_held3 (fun w' => Below wq.heap.size wq w' ∧ w'.cell? ⟨w2.heap.size, 2, none⟩ = some (.string x.of_) ∧ w'.cell? ⟨w2.heap.size, 11, none⟩ = some (c) ∧ w'.cell? ⟨w2.heap.size, 13, none⟩ = some (wv)) (first | exact tws3 (by assumption) hbJs | exact tws3 (by assumption) hbJw | exact ⟨(Below.refl _ _).drew, d2, d11, d13⟩)
    (first
    | (go_at_call 51; with_reducible refine (HJs.out _ (And.left (by assumption))).mono ?_; rintro e wJs ⟨rfl, hbJs⟩)
    | (go_at_call 58; with_reducible refine (HJw.out _ (And.left (by assumption))).mono ?_; rintro e wJw ⟨rfl, hbJw⟩))
  go_wp2_with fail
  go_ret
  rw [← HE.out]
  exact ⟨rfl, hB3.trans (Below.mono (And.left (by assumption)) hB3.size)⟩
end Go.Proofs.YtfbgdjcnlnfoaaaGreatDoor

namespace Go.Proofs.YtfbgdjcnlnfoaaaGreatDoor
open Go.RowKit
open Cle

theorem appM {P : Program} {t e : TypeId} {z : Value} {size bytes : Nat} (E : Elt P t e z size bytes) {w : World} {ops : Array Oper} {rest : List Oper} {o : Oper} {a : Act} {Q : Exit → Act → World → Prop} (hgd : o.guard = none) (s x : Operand)
    (ho : o.op = .call { callee := .builtin .append, args := #[s, x], argTypes := #[t, t] })
    (base : Nat) (v : Value) (n : Nat) (xs : List Value) (hs : a.eval s = v) (hown : w.ownsRow base e size v n xs)
    (u : Value) (m : Nat) (ys : List Value) (hx : a.eval x = u) (hu : Rd w u m ys) (hl : ys.length = m * size) (h1 : ∀ u ∈ ys, u.oneCell' = true)
    (hn : (n + m) * bytes ≤ 140737488355328 ∧ n + m < 140737488355328) (hbase : base ≤ w.heap.size)
    (h : ∀ a' cap' w', w'.ownsRow base e size (.slice a' (n + m) cap') (n + m) (xs ++ ys) → w.grownBy w' v.ownBlock → wpList P ops Q rest (a.put o.dst (.slice a' (n + m) cap')) w') : wpList P ops Q (o :: rest) a w := by
  refine wpList_plain hgd fun K hK => ?_
  obtain ⟨ua, uc, rfl, hug⟩ := hu
  have hrun : ∃ v' w', (Builtin.append_ #[t, t] o.type #[v, .slice ua m uc]).run P w = .ok v' w' ∧ w'.ownsRow base e size v' (n + m) (xs ++ ys) ∧ w.grownBy w' v.ownBlock := by
    by_cases hm : 0 < m
    · obtain ⟨g, off, rfl, hg⟩ := hug hm
      obtain ⟨v', w', hr, h2, h3, _⟩ := run_app (P := P) (ty := o.type) E v n xs hown ⟨g, off, none⟩ m uc ys hl (fun j u hj => by rw [Addr.add_mid]; exact hg j u hj) h1 (by have := hn.2; unfold maxLen; omega) hn.1 hbase hm
      exact ⟨v', w', hr, h2, h3⟩
    · have hm0 : m = 0 := by omega
      subst hm0
      have hys : ys = [] := by rw [Nat.zero_mul] at hl; exact List.length_eq_zero_iff.1 hl
      subst hys
      obtain ⟨i, hi, hz, hsize, hby⟩ := E.info
      obtain ⟨va, vc, rfl, _⟩ := row_read hown
      have hle := ownsRow_cap hown va vc rfl
      refine ⟨.slice va n vc, w, ?_, by rw [List.append_nil]; exact hown, gb_refl _ _⟩
      refine run_append_nothing w t t o.type e i E.und hi va n vc hle _ ?_
      cases ua with
      | none => exact Src.ofNil w E.und uc
      | some ad => exact Src.ofSlice w E.und ad 0 uc [] (by simp) (fun j u hj => by simp at hj) (by simp)
  obtain ⟨v', w', hr, h2, h3⟩ := hrun
  obtain ⟨a', cap', rfl, _⟩ := row_read h2
  unfold Oper.wp execOp
  simp only [ho, resolve, invoke, builtin, Sem.run_bind, Sem.run_pure, Result.andThen_ok, List.map_toArray, List.map_cons, List.map_nil, hs, hx, hr]
  exact hK _ _ (h a' cap' w' h2 h3)
theorem flatC_one (L : List Cl) : ∀ u ∈ flatC L, u.oneCell' = true := by
  intro u hu
  obtain ⟨c, _, hc⟩ := List.mem_flatMap.1 hu
  unfold clCells at hc
  simp only [List.mem_cons, List.not_mem_nil, or_false] at hc
  rcases hc with rfl | rfl <;> rfl
theorem flatR_one (L : List Pr) : ∀ u ∈ flatR L, u.oneCell' = true := by
  intro u hu
  obtain ⟨c, _, hc⟩ := List.mem_flatMap.1 hu
  unfold prCells at hc
  simp only [List.mem_cons, List.not_mem_nil, or_false] at hc
  rcases hc with rfl | rfl | rfl | rfl <;> rfl
theorem flatC_len (L : List Cl) : (flatC L).length = L.length * 2 := by
  induction L with
  | nil => rfl
  | cons a l ih => unfold flatC at ih ⊢; rw [List.flatMap_cons, List.length_append, ih]; simp [clCells]; omega
theorem flatR_len (L : List Pr) : (flatR L).length = L.length * 4 := by
  induction L with
  | nil => rfl
  | cons a l ih => unfold flatR at ih ⊢; rw [List.flatMap_cons, List.length_append, ih]; simp [prCells]; omega
theorem typed_le (q : Cl) (h : q.name.size ≤ 1000000) : (catP (typedP q)).size ≤ 1000005 := by
  unfold typedP
  split
  · have e : catP [.wd q.name, .bl, .wd (⟨#[84, 69, 88, 84]⟩ : ByteArray)] = q.name ++ (⟨#[32, 84, 69, 88, 84]⟩ : ByteArray) := by apply ByteArray.ext; apply Array.ext'; simp [catP, Pc.text]
    rw [e, ByteArray.size_append]; show _ + 5 ≤ _; omega
  · have e : catP [.wd q.name, .bl, .wd (⟨#[73, 78, 84]⟩ : ByteArray)] = q.name ++ (⟨#[32, 73, 78, 84]⟩ : ByteArray) := by apply ByteArray.ext; apply Array.ext'; simp [catP, Pc.text]
    rw [e, ByteArray.size_append]; show _ + 4 ≤ _; omega
end Go.Proofs.YtfbgdjcnlnfoaaaGreatDoor

namespace Go.Proofs.YtfbgdjcnlnfoaaaGreatDoor
open Go.RowKit
open Cle

set_option maxRecDepth 100000 in
set_option maxHeartbeats 8000000 in
theorem text_table {w : World} {x : Sx} {tc c s wv pv : Value} (hk : x.kind = 1) (hG : Gp w) (hok : StOK x) (hin : StIn w x tc c s wv) (hpv : pv.oneCell' = true) :
    Calls Tryz.prog 30 #[.agg (stC x tc c s wv pv)] w fun e w' => e = .returned (.string (catP (tableP x))) ∧ Below w.heap.size w w' := by
  obtain ⟨tA, tC, hte, _⟩ := hin.tc
  subst hte
  have hone := hin.one hpv
  have hB1 := (Below.refl w.heap.size w).alloc (Nat.le_refl _) (.cells (stC x (.slice tA x.tcols.length tC) c s wv pv) 31)
  have hbl : (w.alloc (.cells (stC x (.slice tA x.tcols.length tC) c s wv pv) 31)).heap[w.heap.size]? = some (.cells (stC x (.slice tA x.tcols.length tC) c s wv pv) 31 (0, 0)) := blk_new w _
  have hof := of_any (w := w.alloc (.cells (stC x (.slice tA x.tcols.length tC) c s wv pv) 31)) x (.slice tA x.tcols.length tC) c s wv pv
  have hkv : kindV x.kind (stC x (.slice tA x.tcols.length tC) c s wv pv) = .iface 83 (.agg (stC x (.slice tA x.tcols.length tC) c s wv pv)) := by unfold kindV; rw [hk]; rfl
  rw [hkv] at hof
  clear hkv
  obtain ⟨Jc, eJc⟩ : ∃ r, joinB (⟨#[44, 32]⟩ : ByteArray) ((x.part :: x.clus :: x.tcols).map fun q => catP (typedP q)) = r := ⟨_, rfl⟩
  have hcl : ∀ q ∈ x.part :: x.clus :: x.tcols, q.name.size ≤ 1000000 := by intro q hq; rcases List.mem_cons.1 hq with rfl | hq; exact hok.part; rcases List.mem_cons.1 hq with rfl | hq; exact hok.clus; exact hok.tcols.2 q hq
  have hln : (x.part :: x.clus :: x.tcols).length ≤ 100 := by have := hok.tcols.1; simp; omega
  have zJc : Jc.size ≤ 100 * 1000007 := by
      rw [← eJc]
      have := joinB_le (⟨#[44, 32]⟩ : ByteArray) ((x.part :: x.clus :: x.tcols).map fun q => catP (typedP q)) 1000005 (fun y hy => by obtain ⟨q, hq, rfl⟩ := List.mem_map.1 hy; exact typed_le q (hcl q hq))
      rw [List.length_map] at this
      exact Nat.le_trans this (Nat.mul_le_mul hln (by decide))
  have Az0 : ((⟨#[67, 82, 69, 65, 84, 69, 32, 84, 65, 66, 76, 69, 32]⟩ : ByteArray)).size ≤ 13 := by decide
  have Ay1 : (x.name).size ≤ 1000000 := hok.name
  obtain ⟨A1, Ae1⟩ : ∃ r, (⟨#[67, 82, 69, 65, 84, 69, 32, 84, 65, 66, 76, 69, 32]⟩ : ByteArray) ++ x.name = r := ⟨_, rfl⟩
  have Ah1 := add_str ((⟨#[67, 82, 69, 65, 84, 69, 32, 84, 65, 66, 76, 69, 32]⟩ : ByteArray)) (x.name) (by omega)
  rw [Ae1] at Ah1
  have Az1 : A1.size ≤ 1000013 := by rw [← Ae1, ByteArray.size_append]; omega
  have Ay2 : ((⟨#[32, 40]⟩ : ByteArray)).size ≤ 2 := by decide
  obtain ⟨A2, Ae2⟩ : ∃ r, A1 ++ (⟨#[32, 40]⟩ : ByteArray) = r := ⟨_, rfl⟩
  have Ah2 := add_str (A1) ((⟨#[32, 40]⟩ : ByteArray)) (by omega)
  rw [Ae2] at Ah2
  have Az2 : A2.size ≤ 1000015 := by rw [← Ae2, ByteArray.size_append]; omega
  have Ay3 : (Jc).size ≤ 100000700 := zJc
  obtain ⟨A3, Ae3⟩ : ∃ r, A2 ++ Jc = r := ⟨_, rfl⟩
  have Ah3 := add_str (A2) (Jc) (by omega)
  rw [Ae3] at Ah3
  have Az3 : A3.size ≤ 101000715 := by rw [← Ae3, ByteArray.size_append]; omega
  have Ay4 : ((⟨#[44, 32, 80, 82, 73, 77, 65, 82, 89, 32, 75, 69, 89, 32, 40]⟩ : ByteArray)).size ≤ 15 := by decide
  obtain ⟨A4, Ae4⟩ : ∃ r, A3 ++ (⟨#[44, 32, 80, 82, 73, 77, 65, 82, 89, 32, 75, 69, 89, 32, 40]⟩ : ByteArray) = r := ⟨_, rfl⟩
  have Ah4 := add_str (A3) ((⟨#[44, 32, 80, 82, 73, 77, 65, 82, 89, 32, 75, 69, 89, 32, 40]⟩ : ByteArray)) (by omega)
  rw [Ae4] at Ah4
  have Az4 : A4.size ≤ 101000730 := by rw [← Ae4, ByteArray.size_append]; omega
  have Ay5 : (x.part.name).size ≤ 1000000 := hok.part
  obtain ⟨A5, Ae5⟩ : ∃ r, A4 ++ x.part.name = r := ⟨_, rfl⟩
  have Ah5 := add_str (A4) (x.part.name) (by omega)
  rw [Ae5] at Ah5
  have Az5 : A5.size ≤ 102000730 := by rw [← Ae5, ByteArray.size_append]; omega
  have Ay6 : ((⟨#[44, 32]⟩ : ByteArray)).size ≤ 2 := by decide
  obtain ⟨A6, Ae6⟩ : ∃ r, A5 ++ (⟨#[44, 32]⟩ : ByteArray) = r := ⟨_, rfl⟩
  have Ah6 := add_str (A5) ((⟨#[44, 32]⟩ : ByteArray)) (by omega)
  rw [Ae6] at Ah6
  have Az6 : A6.size ≤ 102000732 := by rw [← Ae6, ByteArray.size_append]; omega
  have Ay7 : (x.clus.name).size ≤ 1000000 := hok.clus
  obtain ⟨A7, Ae7⟩ : ∃ r, A6 ++ x.clus.name = r := ⟨_, rfl⟩
  have Ah7 := add_str (A6) (x.clus.name) (by omega)
  rw [Ae7] at Ah7
  have Az7 : A7.size ≤ 103000732 := by rw [← Ae7, ByteArray.size_append]; omega
  have Ay8 : ((⟨#[41, 41]⟩ : ByteArray)).size ≤ 2 := by decide
  obtain ⟨A8, Ae8⟩ : ∃ r, A7 ++ (⟨#[41, 41]⟩ : ByteArray) = r := ⟨_, rfl⟩
  have Ah8 := add_str (A7) ((⟨#[41, 41]⟩ : ByteArray)) (by omega)
  rw [Ae8] at Ah8
  have Az8 : A8.size ≤ 103000734 := by rw [← Ae8, ByteArray.size_append]; omega
  have HE : Hid (A8 = catP (tableP x)) := by
      show _ = _
      rw [← Ae8, ← Ae7, ← Ae6, ← Ae5, ← Ae4, ← Ae3, ← Ae2, ← Ae1, ← eJc]
      unfold tableP
      rw [catP_app, catP_app, ← joinB_cat, comma_cat, List.map_map]
      apply ByteArray.ext; apply Array.ext'; simp [catP, Pc.text, Function.comp_def]
  clear Ae1 Ae2 Ae3 Ae4 Ae5 Ae6 Ae7 Ae8
  clear Az0 Az1 Az2 Az3 Az4 Az5 Az6 Az7 Az8 Ay1 Ay2 Ay3 Ay4 Ay5 Ay6 Ay7 Ay8
  clear zJc
  have HC := Lib.hid (fun (wq : World) (hBq : Below w.heap.size w wq) => And.intro (hG.below hBq) (hin.below hBq))
  have HCL := Lib.hid hcl
  have HLN := Lib.hid hln
  have HJ := Lib.hid eJc
  have HTL : Hid (x.tcols.length ≤ 90) := hok.tcols.1
  clear eJc hcl hln hok hin hG hk
  have hta := ta_table
  go_enter Tryz.func30, Tryz.ntmps30
  go_wp2_with (refine wpl_st rfl _ rfl rfl rfl hbl ?_)
  refine hof.mono ?_; rintro e w2 ⟨rfl, hb2⟩
  have hB2 := hB1.trans (hb2.mono hB1.size)
  have hV : (w2.alloc (.cells (stC x (.slice tA x.tcols.length tC) c s wv pv) 83)).heap[w2.heap.size]? = some (.cells (stC x (.slice tA x.tcols.length tC) c s wv pv) 83 (0, 0)) := blk_new w2 _
  have hB3 := hB2.alloc hB2.size (.cells (stC x (.slice tA x.tcols.length tC) c s wv pv) 83)
  have m4 := (st18 hV).2.2.2.2.1
  have m5 := (st18 hV).2.2.2.2.2.1
  have m6 := (st18 hV).2.2.2.2.2.2.1
  have m7 := (st18 hV).2.2.2.2.2.2.2.1
  have m8 := (st18 hV).2.2.2.2.2.2.2.2.1
  have m9 := (st18 hV).2.2.2.2.2.2.2.2.2.1
  have m10 := (st18 hV).2.2.2.2.2.2.2.2.2.2.1
  have hV1 := hV
  have hB4 := hB3.alloc hB3.size (.cells #[.string x.tname, .int .i64 x.tid, .string x.part.name, .int .i64 x.part.ty, .string x.clus.name, .int .i64 x.clus.ty, (.slice tA x.tcols.length tC)] 26)
  have hs0 := sz_alloc w2 (.cells (stC x (.slice tA x.tcols.length tC) c s wv pv) 83)
  have hV7 := blk_new (w2.alloc (.cells (stC x (.slice tA x.tcols.length tC) c s wv pv) 83)) (.cells #[.string x.tname, .int .i64 x.tid, .string x.part.name, .int .i64 x.part.ty, .string x.clus.name, .int .i64 x.clus.ty, (.slice tA x.tcols.length tC)] 26)
  rw [hs0] at hV7
  have hV0 := blk_alloc hV (.cells #[.string x.tname, .int .i64 x.tid, .string x.part.name, .int .i64 x.part.ty, .string x.clus.name, .int .i64 x.clus.ty, (.slice tA x.tcols.length tC)] 26)
  have hs1 := sz_alloc (w2.alloc (.cells (stC x (.slice tA x.tcols.length tC) c s wv pv) 83)) (.cells #[.string x.tname, .int .i64 x.tid, .string x.part.name, .int .i64 x.part.ty, .string x.clus.name, .int .i64 x.clus.ty, (.slice tA x.tcols.length tC)] 26)
  rw [hs0] at hs1
  have n2 : ((w2.alloc (.cells (stC x (.slice tA x.tcols.length tC) c s wv pv) 83)).alloc (.cells #[.string x.tname, .int .i64 x.tid, .string x.part.name, .int .i64 x.part.ty, .string x.clus.name, .int .i64 x.clus.ty, (.slice tA x.tcols.length tC)] 26)).cell? ⟨w2.heap.size + 1, 2, none⟩ = some (.string x.part.name) := by rw [blk_cell hV7]; rfl
  have n3 : ((w2.alloc (.cells (stC x (.slice tA x.tcols.length tC) c s wv pv) 83)).alloc (.cells #[.string x.tname, .int .i64 x.tid, .string x.part.name, .int .i64 x.part.ty, .string x.clus.name, .int .i64 x.clus.ty, (.slice tA x.tcols.length tC)] 26)).cell? ⟨w2.heap.size + 1, 3, none⟩ = some (.int .i64 x.part.ty) := by rw [blk_cell hV7]; rfl
  have n4 : ((w2.alloc (.cells (stC x (.slice tA x.tcols.length tC) c s wv pv) 83)).alloc (.cells #[.string x.tname, .int .i64 x.tid, .string x.part.name, .int .i64 x.part.ty, .string x.clus.name, .int .i64 x.clus.ty, (.slice tA x.tcols.length tC)] 26)).cell? ⟨w2.heap.size + 1, 4, none⟩ = some (.string x.clus.name) := by rw [blk_cell hV7]; rfl
  have n5 : ((w2.alloc (.cells (stC x (.slice tA x.tcols.length tC) c s wv pv) 83)).alloc (.cells #[.string x.tname, .int .i64 x.tid, .string x.part.name, .int .i64 x.part.ty, .string x.clus.name, .int .i64 x.clus.ty, (.slice tA x.tcols.length tC)] 26)).cell? ⟨w2.heap.size + 1, 5, none⟩ = some (.int .i64 x.clus.ty) := by rw [blk_cell hV7]; rfl
  have n6 : ((w2.alloc (.cells (stC x (.slice tA x.tcols.length tC) c s wv pv) 83)).alloc (.cells #[.string x.tname, .int .i64 x.tid, .string x.part.name, .int .i64 x.part.ty, .string x.clus.name, .int .i64 x.clus.ty, (.slice tA x.tcols.length tC)] 26)).cell? ⟨w2.heap.size + 1, 6, none⟩ = some (.slice tA x.tcols.length tC) := by rw [blk_cell hV7]; rfl
  have n6' : (((w2.alloc (.cells (stC x (.slice tA x.tcols.length tC) c s wv pv) 83)).alloc (.cells #[.string x.tname, .int .i64 x.tid, .string x.part.name, .int .i64 x.part.ty, .string x.clus.name, .int .i64 x.clus.ty, (.slice tA x.tcols.length tC)] 26)).alloc (.cells #[.string x.part.name, .int .i64 x.part.ty, .string x.clus.name, .int .i64 x.clus.ty] 23)).cell? ⟨w2.heap.size + 1, 6, none⟩ = some (.slice tA x.tcols.length tC) := by rw [blk_cell (blk_alloc hV7 _)]; rfl
  have hlit := row_lit ((w2.alloc (.cells (stC x (.slice tA x.tcols.length tC) c s wv pv) 83)).alloc (.cells #[.string x.tname, .int .i64 x.tid, .string x.part.name, .int .i64 x.part.ty, .string x.clus.name, .int .i64 x.clus.ty, (.slice tA x.tcols.length tC)] 26)) [.string x.part.name, .int .i64 x.part.ty, .string x.clus.name, .int .i64 x.clus.ty] 23 2 2 (w2.heap.size + 2) rfl (by decide) (Nat.le_of_eq hs1.symm)
  rw [hs1] at hlit
  have hB5 := hB4.alloc hB4.size (.cells #[.string x.part.name, .int .i64 x.part.ty, .string x.clus.name, .int .i64 x.clus.ty] 23)
  have hrd := ((HC.out _ hB5).2).tc
  have HT9 := HTL.out
  go_wp2_with (first | refine wpl_stg sz_table rfl _ _ rfl rfl rfl rfl rfl hone ?_ | (at_builtin; refine appM Tryz.eltC rfl _ _ rfl (w2.heap.size + 2) _ _ _ rfl hlit _ _ _ rfl hrd (flatC_len _) (flatC_one _) (by omega) (Nat.le_of_lt (by rw [sz_alloc, hs1]; omega)) ?_; intro a6 c6 wq h6 hg6))
  have hV7' := blk_alloc hV7 (.cells #[.string x.part.name, .int .i64 x.part.ty, .string x.clus.name, .int .i64 x.clus.ty] 23)
  have hV0' := blk_alloc hV0 (.cells #[.string x.part.name, .int .i64 x.part.ty, .string x.clus.name, .int .i64 x.clus.ty] 23)
  have hW0 := (hg6.block _ (blk_lt hV0') (fun e => by have := (hlit.lt _ e.symm).1; omega)).trans hV0'
  have hW7 := (hg6.block _ (blk_lt hV7') (fun e => by have := (hlit.lt _ e.symm).1; omega)).trans hV7'
  have hBq := below_app hB5 hB5.size hg6 (fun g2 hg2 => by have := (hlit.lt g2 hg2).1; have := hB2.size; omega)
  have d0 : wq.cell? ⟨w2.heap.size, 1, none⟩ = some (.string x.name) := by rw [blk_cell hW0]; rfl
  have d1 : wq.cell? ⟨w2.heap.size + 1, 2, none⟩ = some (.string x.part.name) := by rw [blk_cell hW7]; rfl
  have d2 : wq.cell? ⟨w2.heap.size + 1, 4, none⟩ = some (.string x.clus.name) := by rw [blk_cell hW7]; rfl
  have hrow : Rd wq (.slice a6 (x.part :: x.clus :: x.tcols).length c6) (x.part :: x.clus :: x.tcols).length (flatC (x.part :: x.clus :: x.tcols)) := by
      have e : (x.part :: x.clus :: x.tcols).length = 2 + x.tcols.length := by simp; omega
      rw [e]; exact Rd.own h6
  have HJc : Hid (∀ (w' : World), Below wq.heap.size wq w' → Calls Tryz.prog 49 #[.slice a6 (2 + x.tcols.length) c6, .string (⟨#[44, 32]⟩ : ByteArray), .func (.func 50) #[] #[]] w' (fun e w'' => e = .returned (.string Jc) ∧ Below w'.heap.size w' w'')) := fun w' hB' => by
      rw [← HJ.out]
      have e : (x.part :: x.clus :: x.tcols).length = 2 + x.tcols.length := by simp; omega
      have := lc_any (T := fun q => catP (typedP q)) (sep := (⟨#[44, 32]⟩ : ByteArray)) HLN.out (hrow.below hB') (fun q hq w'' _ => typed_any q w'' (HCL.out q hq)) (by
        have := joinB_le (⟨#[44, 32]⟩ : ByteArray) ((x.part :: x.clus :: x.tcols).map fun q => catP (typedP q)) 1000005 (fun y hy => by obtain ⟨q, hq, rfl⟩ := List.mem_map.1 hy; exact typed_le q (HCL.out q hq))
        rw [List.length_map] at this
        exact Nat.le_trans this (Nat.le_trans (Nat.mul_le_mul HLN.out (Nat.le_refl _)) (by decide)))
      rw [e] at this; exact this
  clear HC HCL HLN HJ HTL hof hbl hB1 hb2 hB2 hone hta hB3 hB4 hB5 hV1 hV hs0 hs1 hV7 hV0 n2 n3 n4 n5 n6 n6' hlit hrd HT9 hV7' hV0' hW0 hW7 hrow h6 hg6 m4 m5 m6 m7 m8 m9 m10
  go_wp2_with fail
  have hS : Below wq.heap.size wq wq ∧ wq.cell? ⟨w2.heap.size, 1, none⟩ = some (.string x.name) ∧ wq.cell? ⟨w2.heap.size + 1, 2, none⟩ = some (.string x.part.name) ∧ wq.cell? ⟨w2.heap.size + 1, 4, none⟩ = some (.string x.clus.name) := ⟨Below.refl _ _, d0, d1, d2⟩
  go_region_held3 (fun w' => Below wq.heap.size wq w' ∧ w'.cell? ⟨w2.heap.size, 1, none⟩ = some (.string x.name) ∧ w'.cell? ⟨w2.heap.size + 1, 2, none⟩ = some (.string x.part.name) ∧ w'.cell? ⟨w2.heap.size + 1, 4, none⟩ = some (.string x.clus.name)) (first | exact tws3 (by assumption) hbJc | exact ⟨(Below.refl _ _).drew, d0, d1, d2⟩)
    (first
    | (go_at_call 49; with_reducible refine (HJc.out _ (And.left (by assumption))).mono ?_; rintro e wJc ⟨rfl, hbJc⟩))
  go_wp2_with fail
  go_ret
  rw [← HE.out]
  exact ⟨rfl, hBq.trans (Below.mono (And.left (by assumption)) hBq.size)⟩
end Go.Proofs.YtfbgdjcnlnfoaaaGreatDoor

