/- Parts of the proof, joined: GrmF GrmG GrmH GrmI GrmJ GrmK GrmL GrmM. -/
import Derived.Deep.RegionHeld3
import Derived.Deep.Upon
import Derived.Test.YtfbgdjcnlnfoaaaGreatDoorB09
set_option maxHeartbeats 8000000
set_option maxRecDepth 100000
namespace Go.Proofs.YtfbgdjcnlnfoaaaGreatDoor
open Go.RowKit
open aH
theorem kg {T:TypeId}(hsz:(Tryz.prog.info? T).map (·.size)=some 18) {ops:Array Oper}{rest:List Oper}{op:Oper}{a:Act}{w:World}{b:Nat}{Q:Exit→Act→World→Prop}{V:Array Value}(hgd:op.guard=none) (x y:Operand) (ho:op.op= .store T x y)
 (hb:b=w.heap.size) (hx:a.eval x= .pointer (some ⟨b,0,none⟩)) (hy:a.eval y= .agg V) (hV:V.size=18) (h1' :V.toList.all (·.oneCell')=true) (h:wpList Tryz.prog ops Q rest (a.put op.dst undef) (w.alloc (.cells V T))):
 wpList Tryz.prog ops Q (op::rest) a (w.alloc (.cells #[.int .i64 0, .string ⟨#[]⟩, .string ⟨#[]⟩, .string ⟨#[]⟩, .string ⟨#[]⟩, .int .i64 0, .string ⟨#[]⟩, .int .i64 0, .string ⟨#[]⟩, .int .i64 0, .slice none 0 0, .slice none 0 0, .slice none 0 0, .slice none 0 0, .int .i64 0, .int .i64 0, .int .i64 0, .slice none 0 0] T)):=by
 have h1:V.all (·.oneCell')=true:=by rw [←Array.all_toList];exact h1'
 refine wpList_plain hgd fun K hK=> ?_
 unfold Oper.wp execOp
 have:(Instr.storeAt T (.pointer (some ⟨b,0,none⟩)) (.agg V)).run Tryz.prog (w.alloc (.cells #[.int .i64 0, .string ⟨#[]⟩, .string ⟨#[]⟩, .string ⟨#[]⟩, .string ⟨#[]⟩, .int .i64 0, .string ⟨#[]⟩, .int .i64 0, .string ⟨#[]⟩, .int .i64 0, .slice none 0 0, .slice none 0 0, .slice none 0 0, .slice none 0 0, .int .i64 0, .int .i64 0, .int .i64 0, .slice none 0 0] T))= .ok () (w.alloc (.cells V T)):=by
  rw [hb];exact run_storeAt_new w _ _ V (by rw [hV];exact hsz) (by rw [hV];rfl) h1
 simp only [ho,hx,hy,Sem.run_bind,this,Result.andThen_ok,Sem.run_pure]
 exact hK _ _ h
def dV (k:Int) (V:Array Value):Value:=
 if k=1 then .iface 83 (.agg V)else if k=2 then .iface 86 (.agg V)else if k=3 then .iface 90 (.agg V)else if k=4 then .iface 91 (.agg V)else if k=5 then .iface 92 (.agg V)else if k=6 then .iface 95 (.agg V)else if k=7 then .iface 97 (.agg V)else if k=8 then .iface 98 (.agg V)else if k=9 then .iface 100 (.agg V)else .nilIface
theorem RF:(Tryz.prog.info? 83).map (·.size)=some 18:=by kernel_rfl
theorem NP (V:Array Value) (w:World):(Instr.makeInterface 83 (.agg V)).run Tryz.prog w= .ok (.iface 83 (.agg V)) w:=by kernel_rfl
theorem UO:(Tryz.prog.info? 86).map (·.size)=some 18:=by kernel_rfl
theorem RG (V:Array Value) (w:World):(Instr.makeInterface 86 (.agg V)).run Tryz.prog w= .ok (.iface 86 (.agg V)) w:=by kernel_rfl
theorem RH:(Tryz.prog.info? 90).map (·.size)=some 18:=by kernel_rfl
theorem NQ (V:Array Value) (w:World):(Instr.makeInterface 90 (.agg V)).run Tryz.prog w= .ok (.iface 90 (.agg V)) w:=by kernel_rfl
theorem UQ:(Tryz.prog.info? 91).map (·.size)=some 18:=by kernel_rfl
theorem RI (V:Array Value) (w:World):(Instr.makeInterface 91 (.agg V)).run Tryz.prog w= .ok (.iface 91 (.agg V)) w:=by kernel_rfl
theorem NR:(Tryz.prog.info? 92).map (·.size)=some 18:=by kernel_rfl
theorem J7 (V:Array Value) (w:World):(Instr.makeInterface 92 (.agg V)).run Tryz.prog w= .ok (.iface 92 (.agg V)) w:=by kernel_rfl
theorem NS:(Tryz.prog.info? 95).map (·.size)=some 18:=by kernel_rfl
theorem J8 (V:Array Value) (w:World):(Instr.makeInterface 95 (.agg V)).run Tryz.prog w= .ok (.iface 95 (.agg V)) w:=by kernel_rfl
theorem Dw:(Tryz.prog.info? 97).map (·.size)=some 18:=by kernel_rfl
theorem J9 (V:Array Value) (w:World):(Instr.makeInterface 97 (.agg V)).run Tryz.prog w= .ok (.iface 97 (.agg V)) w:=by kernel_rfl
theorem RJ:(Tryz.prog.info? 98).map (·.size)=some 18:=by kernel_rfl
theorem UR (V:Array Value) (w:World):(Instr.makeInterface 98 (.agg V)).run Tryz.prog w= .ok (.iface 98 (.agg V)) w:=by kernel_rfl
theorem RL:(Tryz.prog.info? 100).map (·.size)=some 18:=by kernel_rfl
theorem NT (V:Array Value) (w:World):(Instr.makeInterface 100 (.agg V)).run Tryz.prog w= .ok (.iface 100 (.agg V)) w:=by kernel_rfl
theorem RN (V:Array Value) (w:World):(Instr.typeAssert (.iface 83 (.agg V)) 20 83 true).run Tryz.prog w= .ok (.tuple #[.agg V, .bool true]) w:=by kernel_rfl
theorem UU (V:Array Value) (w:World):(Instr.typeAssert (.iface 86 (.agg V)) 20 86 true).run Tryz.prog w= .ok (.tuple #[.agg V, .bool true]) w:=by kernel_rfl
theorem Cy (V:Array Value) (w:World):(Instr.typeAssert (.iface 86 (.agg V)) 20 83 true).run Tryz.prog w= .ok (.tuple #[.agg #[.int .i64 0, .string ⟨#[]⟩, .string ⟨#[]⟩, .string ⟨#[]⟩, .string ⟨#[]⟩, .int .i64 0, .string ⟨#[]⟩, .int .i64 0, .string ⟨#[]⟩, .int .i64 0, .slice none 0 0, .slice none 0 0, .slice none 0 0, .slice none 0 0, .int .i64 0, .int .i64 0, .int .i64 0, .slice none 0 0], .bool false]) w:=by kernel_rfl
theorem RO (V:Array Value) (w:World):(Instr.typeAssert (.iface 90 (.agg V)) 20 90 true).run Tryz.prog w= .ok (.tuple #[.agg V, .bool true]) w:=by kernel_rfl
theorem BA (V:Array Value) (w:World):(Instr.typeAssert (.iface 90 (.agg V)) 20 83 true).run Tryz.prog w= .ok (.tuple #[.agg #[.int .i64 0, .string ⟨#[]⟩, .string ⟨#[]⟩, .string ⟨#[]⟩, .string ⟨#[]⟩, .int .i64 0, .string ⟨#[]⟩, .int .i64 0, .string ⟨#[]⟩, .int .i64 0, .slice none 0 0, .slice none 0 0, .slice none 0 0, .slice none 0 0, .int .i64 0, .int .i64 0, .int .i64 0, .slice none 0 0], .bool false]) w:=by kernel_rfl
theorem Cz (V:Array Value) (w:World):(Instr.typeAssert (.iface 90 (.agg V)) 20 86 true).run Tryz.prog w= .ok (.tuple #[.agg #[.int .i64 0, .string ⟨#[]⟩, .string ⟨#[]⟩, .string ⟨#[]⟩, .string ⟨#[]⟩, .int .i64 0, .string ⟨#[]⟩, .int .i64 0, .string ⟨#[]⟩, .int .i64 0, .slice none 0 0, .slice none 0 0, .slice none 0 0, .slice none 0 0, .int .i64 0, .int .i64 0, .int .i64 0, .slice none 0 0], .bool false]) w:=by kernel_rfl
theorem UW (V:Array Value) (w:World):(Instr.typeAssert (.iface 91 (.agg V)) 20 91 true).run Tryz.prog w= .ok (.tuple #[.agg V, .bool true]) w:=by kernel_rfl
theorem CB (V:Array Value) (w:World):(Instr.typeAssert (.iface 91 (.agg V)) 20 83 true).run Tryz.prog w= .ok (.tuple #[.agg #[.int .i64 0, .string ⟨#[]⟩, .string ⟨#[]⟩, .string ⟨#[]⟩, .string ⟨#[]⟩, .int .i64 0, .string ⟨#[]⟩, .int .i64 0, .string ⟨#[]⟩, .int .i64 0, .slice none 0 0, .slice none 0 0, .slice none 0 0, .slice none 0 0, .int .i64 0, .int .i64 0, .int .i64 0, .slice none 0 0], .bool false]) w:=by kernel_rfl
theorem EZ (V:Array Value) (w:World):(Instr.typeAssert (.iface 91 (.agg V)) 20 86 true).run Tryz.prog w= .ok (.tuple #[.agg #[.int .i64 0, .string ⟨#[]⟩, .string ⟨#[]⟩, .string ⟨#[]⟩, .string ⟨#[]⟩, .int .i64 0, .string ⟨#[]⟩, .int .i64 0, .string ⟨#[]⟩, .int .i64 0, .slice none 0 0, .slice none 0 0, .slice none 0 0, .slice none 0 0, .int .i64 0, .int .i64 0, .int .i64 0, .slice none 0 0], .bool false]) w:=by kernel_rfl
theorem CF (V:Array Value) (w:World):(Instr.typeAssert (.iface 91 (.agg V)) 20 90 true).run Tryz.prog w= .ok (.tuple #[.agg #[.int .i64 0, .string ⟨#[]⟩, .string ⟨#[]⟩, .string ⟨#[]⟩, .string ⟨#[]⟩, .int .i64 0, .string ⟨#[]⟩, .int .i64 0, .string ⟨#[]⟩, .int .i64 0, .slice none 0 0, .slice none 0 0, .slice none 0 0, .slice none 0 0, .int .i64 0, .int .i64 0, .int .i64 0, .slice none 0 0], .bool false]) w:=by kernel_rfl
theorem NU (V:Array Value) (w:World):(Instr.typeAssert (.iface 92 (.agg V)) 20 92 true).run Tryz.prog w= .ok (.tuple #[.agg V, .bool true]) w:=by kernel_rfl
theorem zq (V:Array Value) (w:World):(Instr.typeAssert (.iface 92 (.agg V)) 20 83 true).run Tryz.prog w= .ok (.tuple #[.agg #[.int .i64 0, .string ⟨#[]⟩, .string ⟨#[]⟩, .string ⟨#[]⟩, .string ⟨#[]⟩, .int .i64 0, .string ⟨#[]⟩, .int .i64 0, .string ⟨#[]⟩, .int .i64 0, .slice none 0 0, .slice none 0 0, .slice none 0 0, .slice none 0 0, .int .i64 0, .int .i64 0, .int .i64 0, .slice none 0 0], .bool false]) w:=by kernel_rfl
theorem BD (V:Array Value) (w:World):(Instr.typeAssert (.iface 92 (.agg V)) 20 86 true).run Tryz.prog w= .ok (.tuple #[.agg #[.int .i64 0, .string ⟨#[]⟩, .string ⟨#[]⟩, .string ⟨#[]⟩, .string ⟨#[]⟩, .int .i64 0, .string ⟨#[]⟩, .int .i64 0, .string ⟨#[]⟩, .int .i64 0, .slice none 0 0, .slice none 0 0, .slice none 0 0, .slice none 0 0, .int .i64 0, .int .i64 0, .int .i64 0, .slice none 0 0], .bool false]) w:=by kernel_rfl
theorem zu (V:Array Value) (w:World):(Instr.typeAssert (.iface 92 (.agg V)) 20 90 true).run Tryz.prog w= .ok (.tuple #[.agg #[.int .i64 0, .string ⟨#[]⟩, .string ⟨#[]⟩, .string ⟨#[]⟩, .string ⟨#[]⟩, .int .i64 0, .string ⟨#[]⟩, .int .i64 0, .string ⟨#[]⟩, .int .i64 0, .slice none 0 0, .slice none 0 0, .slice none 0 0, .slice none 0 0, .int .i64 0, .int .i64 0, .int .i64 0, .slice none 0 0], .bool false]) w:=by kernel_rfl
theorem BF (V:Array Value) (w:World):(Instr.typeAssert (.iface 92 (.agg V)) 20 91 true).run Tryz.prog w= .ok (.tuple #[.agg #[.int .i64 0, .string ⟨#[]⟩, .string ⟨#[]⟩, .string ⟨#[]⟩, .string ⟨#[]⟩, .int .i64 0, .string ⟨#[]⟩, .int .i64 0, .string ⟨#[]⟩, .int .i64 0, .slice none 0 0, .slice none 0 0, .slice none 0 0, .slice none 0 0, .int .i64 0, .int .i64 0, .int .i64 0, .slice none 0 0], .bool false]) w:=by kernel_rfl
theorem NV (V:Array Value) (w:World):(Instr.typeAssert (.iface 95 (.agg V)) 20 95 true).run Tryz.prog w= .ok (.tuple #[.agg V, .bool true]) w:=by kernel_rfl
theorem zw (V:Array Value) (w:World):(Instr.typeAssert (.iface 95 (.agg V)) 20 83 true).run Tryz.prog w= .ok (.tuple #[.agg #[.int .i64 0, .string ⟨#[]⟩, .string ⟨#[]⟩, .string ⟨#[]⟩, .string ⟨#[]⟩, .int .i64 0, .string ⟨#[]⟩, .int .i64 0, .string ⟨#[]⟩, .int .i64 0, .slice none 0 0, .slice none 0 0, .slice none 0 0, .slice none 0 0, .int .i64 0, .int .i64 0, .int .i64 0, .slice none 0 0], .bool false]) w:=by kernel_rfl
theorem BG (V:Array Value) (w:World):(Instr.typeAssert (.iface 95 (.agg V)) 20 86 true).run Tryz.prog w= .ok (.tuple #[.agg #[.int .i64 0, .string ⟨#[]⟩, .string ⟨#[]⟩, .string ⟨#[]⟩, .string ⟨#[]⟩, .int .i64 0, .string ⟨#[]⟩, .int .i64 0, .string ⟨#[]⟩, .int .i64 0, .slice none 0 0, .slice none 0 0, .slice none 0 0, .slice none 0 0, .int .i64 0, .int .i64 0, .int .i64 0, .slice none 0 0], .bool false]) w:=by kernel_rfl
theorem zx (V:Array Value) (w:World):(Instr.typeAssert (.iface 95 (.agg V)) 20 90 true).run Tryz.prog w= .ok (.tuple #[.agg #[.int .i64 0, .string ⟨#[]⟩, .string ⟨#[]⟩, .string ⟨#[]⟩, .string ⟨#[]⟩, .int .i64 0, .string ⟨#[]⟩, .int .i64 0, .string ⟨#[]⟩, .int .i64 0, .slice none 0 0, .slice none 0 0, .slice none 0 0, .slice none 0 0, .int .i64 0, .int .i64 0, .int .i64 0, .slice none 0 0], .bool false]) w:=by kernel_rfl
theorem BH (V:Array Value) (w:World):(Instr.typeAssert (.iface 95 (.agg V)) 20 91 true).run Tryz.prog w= .ok (.tuple #[.agg #[.int .i64 0, .string ⟨#[]⟩, .string ⟨#[]⟩, .string ⟨#[]⟩, .string ⟨#[]⟩, .int .i64 0, .string ⟨#[]⟩, .int .i64 0, .string ⟨#[]⟩, .int .i64 0, .slice none 0 0, .slice none 0 0, .slice none 0 0, .slice none 0 0, .int .i64 0, .int .i64 0, .int .i64 0, .slice none 0 0], .bool false]) w:=by kernel_rfl
theorem xU (V:Array Value) (w:World):(Instr.typeAssert (.iface 95 (.agg V)) 20 92 true).run Tryz.prog w= .ok (.tuple #[.agg #[.int .i64 0, .string ⟨#[]⟩, .string ⟨#[]⟩, .string ⟨#[]⟩, .string ⟨#[]⟩, .int .i64 0, .string ⟨#[]⟩, .int .i64 0, .string ⟨#[]⟩, .int .i64 0, .slice none 0 0, .slice none 0 0, .slice none 0 0, .slice none 0 0, .int .i64 0, .int .i64 0, .int .i64 0, .slice none 0 0], .bool false]) w:=by kernel_rfl
theorem Dx (V:Array Value) (w:World):(Instr.typeAssert (.iface 97 (.agg V)) 20 97 true).run Tryz.prog w= .ok (.tuple #[.agg V, .bool true]) w:=by kernel_rfl
theorem qA (V:Array Value) (w:World):(Instr.typeAssert (.iface 97 (.agg V)) 20 83 true).run Tryz.prog w= .ok (.tuple #[.agg #[.int .i64 0, .string ⟨#[]⟩, .string ⟨#[]⟩, .string ⟨#[]⟩, .string ⟨#[]⟩, .int .i64 0, .string ⟨#[]⟩, .int .i64 0, .string ⟨#[]⟩, .int .i64 0, .slice none 0 0, .slice none 0 0, .slice none 0 0, .slice none 0 0, .int .i64 0, .int .i64 0, .int .i64 0, .slice none 0 0], .bool false]) w:=by kernel_rfl
theorem rX (V:Array Value) (w:World):(Instr.typeAssert (.iface 97 (.agg V)) 20 86 true).run Tryz.prog w= .ok (.tuple #[.agg #[.int .i64 0, .string ⟨#[]⟩, .string ⟨#[]⟩, .string ⟨#[]⟩, .string ⟨#[]⟩, .int .i64 0, .string ⟨#[]⟩, .int .i64 0, .string ⟨#[]⟩, .int .i64 0, .slice none 0 0, .slice none 0 0, .slice none 0 0, .slice none 0 0, .int .i64 0, .int .i64 0, .int .i64 0, .slice none 0 0], .bool false]) w:=by kernel_rfl
theorem qB (V:Array Value) (w:World):(Instr.typeAssert (.iface 97 (.agg V)) 20 90 true).run Tryz.prog w= .ok (.tuple #[.agg #[.int .i64 0, .string ⟨#[]⟩, .string ⟨#[]⟩, .string ⟨#[]⟩, .string ⟨#[]⟩, .int .i64 0, .string ⟨#[]⟩, .int .i64 0, .string ⟨#[]⟩, .int .i64 0, .slice none 0 0, .slice none 0 0, .slice none 0 0, .slice none 0 0, .int .i64 0, .int .i64 0, .int .i64 0, .slice none 0 0], .bool false]) w:=by kernel_rfl
theorem rY (V:Array Value) (w:World):(Instr.typeAssert (.iface 97 (.agg V)) 20 91 true).run Tryz.prog w= .ok (.tuple #[.agg #[.int .i64 0, .string ⟨#[]⟩, .string ⟨#[]⟩, .string ⟨#[]⟩, .string ⟨#[]⟩, .int .i64 0, .string ⟨#[]⟩, .int .i64 0, .string ⟨#[]⟩, .int .i64 0, .slice none 0 0, .slice none 0 0, .slice none 0 0, .slice none 0 0, .int .i64 0, .int .i64 0, .int .i64 0, .slice none 0 0], .bool false]) w:=by kernel_rfl
theorem oO (V:Array Value) (w:World):(Instr.typeAssert (.iface 97 (.agg V)) 20 92 true).run Tryz.prog w= .ok (.tuple #[.agg #[.int .i64 0, .string ⟨#[]⟩, .string ⟨#[]⟩, .string ⟨#[]⟩, .string ⟨#[]⟩, .int .i64 0, .string ⟨#[]⟩, .int .i64 0, .string ⟨#[]⟩, .int .i64 0, .slice none 0 0, .slice none 0 0, .slice none 0 0, .slice none 0 0, .int .i64 0, .int .i64 0, .int .i64 0, .slice none 0 0], .bool false]) w:=by kernel_rfl
theorem oQ (V:Array Value) (w:World):(Instr.typeAssert (.iface 97 (.agg V)) 20 95 true).run Tryz.prog w= .ok (.tuple #[.agg #[.int .i64 0, .string ⟨#[]⟩, .string ⟨#[]⟩, .string ⟨#[]⟩, .string ⟨#[]⟩, .int .i64 0, .string ⟨#[]⟩, .int .i64 0, .string ⟨#[]⟩, .int .i64 0, .slice none 0 0, .slice none 0 0, .slice none 0 0, .slice none 0 0, .int .i64 0, .int .i64 0, .int .i64 0, .slice none 0 0], .bool false]) w:=by kernel_rfl
theorem RP (V:Array Value) (w:World):(Instr.typeAssert (.iface 98 (.agg V)) 20 98 true).run Tryz.prog w= .ok (.tuple #[.agg V, .bool true]) w:=by kernel_rfl
theorem wM (V:Array Value) (w:World):(Instr.typeAssert (.iface 98 (.agg V)) 20 83 true).run Tryz.prog w= .ok (.tuple #[.agg #[.int .i64 0, .string ⟨#[]⟩, .string ⟨#[]⟩, .string ⟨#[]⟩, .string ⟨#[]⟩, .int .i64 0, .string ⟨#[]⟩, .int .i64 0, .string ⟨#[]⟩, .int .i64 0, .slice none 0 0, .slice none 0 0, .slice none 0 0, .slice none 0 0, .int .i64 0, .int .i64 0, .int .i64 0, .slice none 0 0], .bool false]) w:=by kernel_rfl
theorem ze (V:Array Value) (w:World):(Instr.typeAssert (.iface 98 (.agg V)) 20 86 true).run Tryz.prog w= .ok (.tuple #[.agg #[.int .i64 0, .string ⟨#[]⟩, .string ⟨#[]⟩, .string ⟨#[]⟩, .string ⟨#[]⟩, .int .i64 0, .string ⟨#[]⟩, .int .i64 0, .string ⟨#[]⟩, .int .i64 0, .slice none 0 0, .slice none 0 0, .slice none 0 0, .slice none 0 0, .int .i64 0, .int .i64 0, .int .i64 0, .slice none 0 0], .bool false]) w:=by kernel_rfl
theorem wN (V:Array Value) (w:World):(Instr.typeAssert (.iface 98 (.agg V)) 20 90 true).run Tryz.prog w= .ok (.tuple #[.agg #[.int .i64 0, .string ⟨#[]⟩, .string ⟨#[]⟩, .string ⟨#[]⟩, .string ⟨#[]⟩, .int .i64 0, .string ⟨#[]⟩, .int .i64 0, .string ⟨#[]⟩, .int .i64 0, .slice none 0 0, .slice none 0 0, .slice none 0 0, .slice none 0 0, .int .i64 0, .int .i64 0, .int .i64 0, .slice none 0 0], .bool false]) w:=by kernel_rfl
theorem zf (V:Array Value) (w:World):(Instr.typeAssert (.iface 98 (.agg V)) 20 91 true).run Tryz.prog w= .ok (.tuple #[.agg #[.int .i64 0, .string ⟨#[]⟩, .string ⟨#[]⟩, .string ⟨#[]⟩, .string ⟨#[]⟩, .int .i64 0, .string ⟨#[]⟩, .int .i64 0, .string ⟨#[]⟩, .int .i64 0, .slice none 0 0, .slice none 0 0, .slice none 0 0, .slice none 0 0, .int .i64 0, .int .i64 0, .int .i64 0, .slice none 0 0], .bool false]) w:=by kernel_rfl
theorem tX (V:Array Value) (w:World):(Instr.typeAssert (.iface 98 (.agg V)) 20 92 true).run Tryz.prog w= .ok (.tuple #[.agg #[.int .i64 0, .string ⟨#[]⟩, .string ⟨#[]⟩, .string ⟨#[]⟩, .string ⟨#[]⟩, .int .i64 0, .string ⟨#[]⟩, .int .i64 0, .string ⟨#[]⟩, .int .i64 0, .slice none 0 0, .slice none 0 0, .slice none 0 0, .slice none 0 0, .int .i64 0, .int .i64 0, .int .i64 0, .slice none 0 0], .bool false]) w:=by kernel_rfl
theorem tY (V:Array Value) (w:World):(Instr.typeAssert (.iface 98 (.agg V)) 20 95 true).run Tryz.prog w= .ok (.tuple #[.agg #[.int .i64 0, .string ⟨#[]⟩, .string ⟨#[]⟩, .string ⟨#[]⟩, .string ⟨#[]⟩, .int .i64 0, .string ⟨#[]⟩, .int .i64 0, .string ⟨#[]⟩, .int .i64 0, .slice none 0 0, .slice none 0 0, .slice none 0 0, .slice none 0 0, .int .i64 0, .int .i64 0, .int .i64 0, .slice none 0 0], .bool false]) w:=by kernel_rfl
theorem tZ (V:Array Value) (w:World):(Instr.typeAssert (.iface 98 (.agg V)) 20 97 true).run Tryz.prog w= .ok (.tuple #[.agg #[.int .i64 0, .string ⟨#[]⟩, .string ⟨#[]⟩, .string ⟨#[]⟩, .string ⟨#[]⟩, .int .i64 0, .string ⟨#[]⟩, .int .i64 0, .string ⟨#[]⟩, .int .i64 0, .slice none 0 0, .slice none 0 0, .slice none 0 0, .slice none 0 0, .int .i64 0, .int .i64 0, .int .i64 0, .slice none 0 0], .bool false]) w:=by kernel_rfl
theorem RQ (V:Array Value) (w:World):(Instr.typeAssert (.iface 100 (.agg V)) 20 100 true).run Tryz.prog w= .ok (.tuple #[.agg V, .bool true]) w:=by kernel_rfl
theorem BI (V:Array Value) (w:World):(Instr.typeAssert (.iface 100 (.agg V)) 20 83 true).run Tryz.prog w= .ok (.tuple #[.agg #[.int .i64 0, .string ⟨#[]⟩, .string ⟨#[]⟩, .string ⟨#[]⟩, .string ⟨#[]⟩, .int .i64 0, .string ⟨#[]⟩, .int .i64 0, .string ⟨#[]⟩, .int .i64 0, .slice none 0 0, .slice none 0 0, .slice none 0 0, .slice none 0 0, .int .i64 0, .int .i64 0, .int .i64 0, .slice none 0 0], .bool false]) w:=by kernel_rfl
theorem CG (V:Array Value) (w:World):(Instr.typeAssert (.iface 100 (.agg V)) 20 86 true).run Tryz.prog w= .ok (.tuple #[.agg #[.int .i64 0, .string ⟨#[]⟩, .string ⟨#[]⟩, .string ⟨#[]⟩, .string ⟨#[]⟩, .int .i64 0, .string ⟨#[]⟩, .int .i64 0, .string ⟨#[]⟩, .int .i64 0, .slice none 0 0, .slice none 0 0, .slice none 0 0, .slice none 0 0, .int .i64 0, .int .i64 0, .int .i64 0, .slice none 0 0], .bool false]) w:=by kernel_rfl
theorem BJ (V:Array Value) (w:World):(Instr.typeAssert (.iface 100 (.agg V)) 20 90 true).run Tryz.prog w= .ok (.tuple #[.agg #[.int .i64 0, .string ⟨#[]⟩, .string ⟨#[]⟩, .string ⟨#[]⟩, .string ⟨#[]⟩, .int .i64 0, .string ⟨#[]⟩, .int .i64 0, .string ⟨#[]⟩, .int .i64 0, .slice none 0 0, .slice none 0 0, .slice none 0 0, .slice none 0 0, .int .i64 0, .int .i64 0, .int .i64 0, .slice none 0 0], .bool false]) w:=by kernel_rfl
theorem CJ (V:Array Value) (w:World):(Instr.typeAssert (.iface 100 (.agg V)) 20 91 true).run Tryz.prog w= .ok (.tuple #[.agg #[.int .i64 0, .string ⟨#[]⟩, .string ⟨#[]⟩, .string ⟨#[]⟩, .string ⟨#[]⟩, .int .i64 0, .string ⟨#[]⟩, .int .i64 0, .string ⟨#[]⟩, .int .i64 0, .slice none 0 0, .slice none 0 0, .slice none 0 0, .slice none 0 0, .int .i64 0, .int .i64 0, .int .i64 0, .slice none 0 0], .bool false]) w:=by kernel_rfl
theorem zy (V:Array Value) (w:World):(Instr.typeAssert (.iface 100 (.agg V)) 20 92 true).run Tryz.prog w= .ok (.tuple #[.agg #[.int .i64 0, .string ⟨#[]⟩, .string ⟨#[]⟩, .string ⟨#[]⟩, .string ⟨#[]⟩, .int .i64 0, .string ⟨#[]⟩, .int .i64 0, .string ⟨#[]⟩, .int .i64 0, .slice none 0 0, .slice none 0 0, .slice none 0 0, .slice none 0 0, .int .i64 0, .int .i64 0, .int .i64 0, .slice none 0 0], .bool false]) w:=by kernel_rfl
theorem zA (V:Array Value) (w:World):(Instr.typeAssert (.iface 100 (.agg V)) 20 95 true).run Tryz.prog w= .ok (.tuple #[.agg #[.int .i64 0, .string ⟨#[]⟩, .string ⟨#[]⟩, .string ⟨#[]⟩, .string ⟨#[]⟩, .int .i64 0, .string ⟨#[]⟩, .int .i64 0, .string ⟨#[]⟩, .int .i64 0, .slice none 0 0, .slice none 0 0, .slice none 0 0, .slice none 0 0, .int .i64 0, .int .i64 0, .int .i64 0, .slice none 0 0], .bool false]) w:=by kernel_rfl
theorem zB (V:Array Value) (w:World):(Instr.typeAssert (.iface 100 (.agg V)) 20 97 true).run Tryz.prog w= .ok (.tuple #[.agg #[.int .i64 0, .string ⟨#[]⟩, .string ⟨#[]⟩, .string ⟨#[]⟩, .string ⟨#[]⟩, .int .i64 0, .string ⟨#[]⟩, .int .i64 0, .string ⟨#[]⟩, .int .i64 0, .slice none 0 0, .slice none 0 0, .slice none 0 0, .slice none 0 0, .int .i64 0, .int .i64 0, .int .i64 0, .slice none 0 0], .bool false]) w:=by kernel_rfl
theorem E5 (V:Array Value) (w:World):(Instr.typeAssert (.iface 100 (.agg V)) 20 98 true).run Tryz.prog w= .ok (.tuple #[.agg #[.int .i64 0, .string ⟨#[]⟩, .string ⟨#[]⟩, .string ⟨#[]⟩, .string ⟨#[]⟩, .int .i64 0, .string ⟨#[]⟩, .int .i64 0, .string ⟨#[]⟩, .int .i64 0, .slice none 0 0, .slice none 0 0, .slice none 0 0, .slice none 0 0, .int .i64 0, .int .i64 0, .int .i64 0, .slice none 0 0], .bool false]) w:=by kernel_rfl
theorem E8 (w:World):(Instr.typeAssert .nilIface 20 83 true).run Tryz.prog w= .ok (.tuple #[.agg #[.int .i64 0, .string ⟨#[]⟩, .string ⟨#[]⟩, .string ⟨#[]⟩, .string ⟨#[]⟩, .int .i64 0, .string ⟨#[]⟩, .int .i64 0, .string ⟨#[]⟩, .int .i64 0, .slice none 0 0, .slice none 0 0, .slice none 0 0, .slice none 0 0, .int .i64 0, .int .i64 0, .int .i64 0, .slice none 0 0], .bool false]) w:=by kernel_rfl
theorem H8 (w:World):(Instr.typeAssert .nilIface 20 86 true).run Tryz.prog w= .ok (.tuple #[.agg #[.int .i64 0, .string ⟨#[]⟩, .string ⟨#[]⟩, .string ⟨#[]⟩, .string ⟨#[]⟩, .int .i64 0, .string ⟨#[]⟩, .int .i64 0, .string ⟨#[]⟩, .int .i64 0, .slice none 0 0, .slice none 0 0, .slice none 0 0, .slice none 0 0, .int .i64 0, .int .i64 0, .int .i64 0, .slice none 0 0], .bool false]) w:=by kernel_rfl
theorem E9 (w:World):(Instr.typeAssert .nilIface 20 90 true).run Tryz.prog w= .ok (.tuple #[.agg #[.int .i64 0, .string ⟨#[]⟩, .string ⟨#[]⟩, .string ⟨#[]⟩, .string ⟨#[]⟩, .int .i64 0, .string ⟨#[]⟩, .int .i64 0, .string ⟨#[]⟩, .int .i64 0, .slice none 0 0, .slice none 0 0, .slice none 0 0, .slice none 0 0, .int .i64 0, .int .i64 0, .int .i64 0, .slice none 0 0], .bool false]) w:=by kernel_rfl
theorem Ia (w:World):(Instr.typeAssert .nilIface 20 91 true).run Tryz.prog w= .ok (.tuple #[.agg #[.int .i64 0, .string ⟨#[]⟩, .string ⟨#[]⟩, .string ⟨#[]⟩, .string ⟨#[]⟩, .int .i64 0, .string ⟨#[]⟩, .int .i64 0, .string ⟨#[]⟩, .int .i64 0, .slice none 0 0, .slice none 0 0, .slice none 0 0, .slice none 0 0, .int .i64 0, .int .i64 0, .int .i64 0, .slice none 0 0], .bool false]) w:=by kernel_rfl
theorem CK (w:World):(Instr.typeAssert .nilIface 20 92 true).run Tryz.prog w= .ok (.tuple #[.agg #[.int .i64 0, .string ⟨#[]⟩, .string ⟨#[]⟩, .string ⟨#[]⟩, .string ⟨#[]⟩, .int .i64 0, .string ⟨#[]⟩, .int .i64 0, .string ⟨#[]⟩, .int .i64 0, .slice none 0 0, .slice none 0 0, .slice none 0 0, .slice none 0 0, .int .i64 0, .int .i64 0, .int .i64 0, .slice none 0 0], .bool false]) w:=by kernel_rfl
theorem CO (w:World):(Instr.typeAssert .nilIface 20 95 true).run Tryz.prog w= .ok (.tuple #[.agg #[.int .i64 0, .string ⟨#[]⟩, .string ⟨#[]⟩, .string ⟨#[]⟩, .string ⟨#[]⟩, .int .i64 0, .string ⟨#[]⟩, .int .i64 0, .string ⟨#[]⟩, .int .i64 0, .slice none 0 0, .slice none 0 0, .slice none 0 0, .slice none 0 0, .int .i64 0, .int .i64 0, .int .i64 0, .slice none 0 0], .bool false]) w:=by kernel_rfl
theorem CP (w:World):(Instr.typeAssert .nilIface 20 97 true).run Tryz.prog w= .ok (.tuple #[.agg #[.int .i64 0, .string ⟨#[]⟩, .string ⟨#[]⟩, .string ⟨#[]⟩, .string ⟨#[]⟩, .int .i64 0, .string ⟨#[]⟩, .int .i64 0, .string ⟨#[]⟩, .int .i64 0, .slice none 0 0, .slice none 0 0, .slice none 0 0, .slice none 0 0, .int .i64 0, .int .i64 0, .int .i64 0, .slice none 0 0], .bool false]) w:=by kernel_rfl
theorem Ka (w:World):(Instr.typeAssert .nilIface 20 98 true).run Tryz.prog w= .ok (.tuple #[.agg #[.int .i64 0, .string ⟨#[]⟩, .string ⟨#[]⟩, .string ⟨#[]⟩, .string ⟨#[]⟩, .int .i64 0, .string ⟨#[]⟩, .int .i64 0, .string ⟨#[]⟩, .int .i64 0, .slice none 0 0, .slice none 0 0, .slice none 0 0, .slice none 0 0, .int .i64 0, .int .i64 0, .int .i64 0, .slice none 0 0], .bool false]) w:=by kernel_rfl
theorem Fa (w:World):(Instr.typeAssert .nilIface 20 100 true).run Tryz.prog w= .ok (.tuple #[.agg #[.int .i64 0, .string ⟨#[]⟩, .string ⟨#[]⟩, .string ⟨#[]⟩, .string ⟨#[]⟩, .int .i64 0, .string ⟨#[]⟩, .int .i64 0, .string ⟨#[]⟩, .int .i64 0, .slice none 0 0, .slice none 0 0, .slice none 0 0, .slice none 0 0, .int .i64 0, .int .i64 0, .int .i64 0, .slice none 0 0], .bool false]) w:=by kernel_rfl
theorem lI {w:World}(x:Sx) (tc c s wv pv:Value):
 Calls Tryz.prog 48 #[.agg (aF x tc c s wv pv)] w fun e w' =>e= .returned (dV x.kind (aF x tc c s wv pv))∧Below w.heap.size w w' :=by
 have hB:=(Below.refl w.heap.size w).alloc (Nat.le_refl _) (.cells (aF x tc c s wv pv) 31)
 have hbl:(w.alloc (.cells (aF x tc c s wv pv) 31)).heap[w.heap.size]? =some (.cells (aF x tc c s wv pv) 31 (0,0)):=aB w _
 have c0:=(aM hbl).1
 have u0:=ah hbl 0
 by_cases h1:x.kind=1
 · have HE:Hid (dV x.kind (aF x tc c s wv pv)= .iface 83 (.agg (aF x tc c s wv pv))):=by show _=_;unfold dV;rw [if_pos h1]
   have q1:(x.kind==1)=true:=by rw [h1];rfl
   clear h1
   have hm:=NP
   go_enter Tryz.func48,Tryz.ntmps48
   go_wp2_with (refine bA rfl _ rfl rfl rfl hbl ?_)
   go_ret
   rw [HE.out]
   exact ⟨rfl,hB⟩
 · skip
   by_cases h2:x.kind=2
   · have HE:Hid (dV x.kind (aF x tc c s wv pv)= .iface 86 (.agg (aF x tc c s wv pv))):=by show _=_;unfold dV;rw [if_neg h1,if_pos h2]
     have q1:(x.kind==1)=false:=by rw [beq_eq_false_iff_ne];exact h1
     have q2:(x.kind==2)=true:=by rw [h2];rfl
     clear h1 h2
     have hm:=RG
     go_enter Tryz.func48,Tryz.ntmps48
     go_wp2_with (refine bA rfl _ rfl rfl rfl hbl ?_)
     go_ret
     rw [HE.out]
     exact ⟨rfl,hB⟩
   · skip
     by_cases h3:x.kind=3
     · have HE:Hid (dV x.kind (aF x tc c s wv pv)= .iface 90 (.agg (aF x tc c s wv pv))):=by show _=_;unfold dV;rw [if_neg h1,if_neg h2,if_pos h3]
       have q1:(x.kind==1)=false:=by rw [beq_eq_false_iff_ne];exact h1
       have q2:(x.kind==2)=false:=by rw [beq_eq_false_iff_ne];exact h2
       have q3:(x.kind==3)=true:=by rw [h3];rfl
       clear h1 h2 h3
       have hm:=NQ
       go_enter Tryz.func48,Tryz.ntmps48
       go_wp2_with (refine bA rfl _ rfl rfl rfl hbl ?_)
       go_ret
       rw [HE.out]
       exact ⟨rfl,hB⟩
     · skip
       by_cases h4:x.kind=4
       · have HE:Hid (dV x.kind (aF x tc c s wv pv)= .iface 91 (.agg (aF x tc c s wv pv))):=by show _=_;unfold dV;rw [if_neg h1,if_neg h2,if_neg h3,if_pos h4]
         have q1:(x.kind==1)=false:=by rw [beq_eq_false_iff_ne];exact h1
         have q2:(x.kind==2)=false:=by rw [beq_eq_false_iff_ne];exact h2
         have q3:(x.kind==3)=false:=by rw [beq_eq_false_iff_ne];exact h3
         have q4:(x.kind==4)=true:=by rw [h4];rfl
         clear h1 h2 h3 h4
         have hm:=RI
         go_enter Tryz.func48,Tryz.ntmps48
         go_wp2_with (refine bA rfl _ rfl rfl rfl hbl ?_)
         go_ret
         rw [HE.out]
         exact ⟨rfl,hB⟩
       · skip
         by_cases h5:x.kind=5
         · have HE:Hid (dV x.kind (aF x tc c s wv pv)= .iface 92 (.agg (aF x tc c s wv pv))):=by show _=_;unfold dV;rw [if_neg h1,if_neg h2,if_neg h3,if_neg h4,if_pos h5]
           have q1:(x.kind==1)=false:=by rw [beq_eq_false_iff_ne];exact h1
           have q2:(x.kind==2)=false:=by rw [beq_eq_false_iff_ne];exact h2
           have q3:(x.kind==3)=false:=by rw [beq_eq_false_iff_ne];exact h3
           have q4:(x.kind==4)=false:=by rw [beq_eq_false_iff_ne];exact h4
           have q5:(x.kind==5)=true:=by rw [h5];rfl
           clear h1 h2 h3 h4 h5
           have hm:=J7
           go_enter Tryz.func48,Tryz.ntmps48
           go_wp2_with (refine bA rfl _ rfl rfl rfl hbl ?_)
           go_ret
           rw [HE.out]
           exact ⟨rfl,hB⟩
         · skip
           by_cases h6:x.kind=6
           · have HE:Hid (dV x.kind (aF x tc c s wv pv)= .iface 95 (.agg (aF x tc c s wv pv))):=by show _=_;unfold dV;rw [if_neg h1,if_neg h2,if_neg h3,if_neg h4,if_neg h5,if_pos h6]
             have q1:(x.kind==1)=false:=by rw [beq_eq_false_iff_ne];exact h1
             have q2:(x.kind==2)=false:=by rw [beq_eq_false_iff_ne];exact h2
             have q3:(x.kind==3)=false:=by rw [beq_eq_false_iff_ne];exact h3
             have q4:(x.kind==4)=false:=by rw [beq_eq_false_iff_ne];exact h4
             have q5:(x.kind==5)=false:=by rw [beq_eq_false_iff_ne];exact h5
             have q6:(x.kind==6)=true:=by rw [h6];rfl
             clear h1 h2 h3 h4 h5 h6
             have hm:=J8
             go_enter Tryz.func48,Tryz.ntmps48
             go_wp2_with (refine bA rfl _ rfl rfl rfl hbl ?_)
             go_ret
             rw [HE.out]
             exact ⟨rfl,hB⟩
           · skip
             by_cases h7:x.kind=7
             · have HE:Hid (dV x.kind (aF x tc c s wv pv)= .iface 97 (.agg (aF x tc c s wv pv))):=by show _=_;unfold dV;rw [if_neg h1,if_neg h2,if_neg h3,if_neg h4,if_neg h5,if_neg h6,if_pos h7]
               have q1:(x.kind==1)=false:=by rw [beq_eq_false_iff_ne];exact h1
               have q2:(x.kind==2)=false:=by rw [beq_eq_false_iff_ne];exact h2
               have q3:(x.kind==3)=false:=by rw [beq_eq_false_iff_ne];exact h3
               have q4:(x.kind==4)=false:=by rw [beq_eq_false_iff_ne];exact h4
               have q5:(x.kind==5)=false:=by rw [beq_eq_false_iff_ne];exact h5
               have q6:(x.kind==6)=false:=by rw [beq_eq_false_iff_ne];exact h6
               have q7:(x.kind==7)=true:=by rw [h7];rfl
               clear h1 h2 h3 h4 h5 h6 h7
               have hm:=J9
               go_enter Tryz.func48,Tryz.ntmps48
               go_wp2_with (refine bA rfl _ rfl rfl rfl hbl ?_)
               go_ret
               rw [HE.out]
               exact ⟨rfl,hB⟩
             · skip
               by_cases h8:x.kind=8
               · have HE:Hid (dV x.kind (aF x tc c s wv pv)= .iface 98 (.agg (aF x tc c s wv pv))):=by show _=_;unfold dV;rw [if_neg h1,if_neg h2,if_neg h3,if_neg h4,if_neg h5,if_neg h6,if_neg h7,if_pos h8]
                 have q1:(x.kind==1)=false:=by rw [beq_eq_false_iff_ne];exact h1
                 have q2:(x.kind==2)=false:=by rw [beq_eq_false_iff_ne];exact h2
                 have q3:(x.kind==3)=false:=by rw [beq_eq_false_iff_ne];exact h3
                 have q4:(x.kind==4)=false:=by rw [beq_eq_false_iff_ne];exact h4
                 have q5:(x.kind==5)=false:=by rw [beq_eq_false_iff_ne];exact h5
                 have q6:(x.kind==6)=false:=by rw [beq_eq_false_iff_ne];exact h6
                 have q7:(x.kind==7)=false:=by rw [beq_eq_false_iff_ne];exact h7
                 have q8:(x.kind==8)=true:=by rw [h8];rfl
                 clear h1 h2 h3 h4 h5 h6 h7 h8
                 have hm:=UR
                 go_enter Tryz.func48,Tryz.ntmps48
                 go_wp2_with (refine bA rfl _ rfl rfl rfl hbl ?_)
                 go_ret
                 rw [HE.out]
                 exact ⟨rfl,hB⟩
               · skip
                 by_cases h9:x.kind=9
                 · have HE:Hid (dV x.kind (aF x tc c s wv pv)= .iface 100 (.agg (aF x tc c s wv pv))):=by show _=_;unfold dV;rw [if_neg h1,if_neg h2,if_neg h3,if_neg h4,if_neg h5,if_neg h6,if_neg h7,if_neg h8,if_pos h9]
                   have q1:(x.kind==1)=false:=by rw [beq_eq_false_iff_ne];exact h1
                   have q2:(x.kind==2)=false:=by rw [beq_eq_false_iff_ne];exact h2
                   have q3:(x.kind==3)=false:=by rw [beq_eq_false_iff_ne];exact h3
                   have q4:(x.kind==4)=false:=by rw [beq_eq_false_iff_ne];exact h4
                   have q5:(x.kind==5)=false:=by rw [beq_eq_false_iff_ne];exact h5
                   have q6:(x.kind==6)=false:=by rw [beq_eq_false_iff_ne];exact h6
                   have q7:(x.kind==7)=false:=by rw [beq_eq_false_iff_ne];exact h7
                   have q8:(x.kind==8)=false:=by rw [beq_eq_false_iff_ne];exact h8
                   have q9:(x.kind==9)=true:=by rw [h9];rfl
                   clear h1 h2 h3 h4 h5 h6 h7 h8 h9
                   have hm:=NT
                   go_enter Tryz.func48,Tryz.ntmps48
                   go_wp2_with (refine bA rfl _ rfl rfl rfl hbl ?_)
                   go_ret
                   rw [HE.out]
                   exact ⟨rfl,hB⟩
                 · skip
                   have HE:Hid (dV x.kind (aF x tc c s wv pv)= .nilIface):=by show _=_;unfold dV;rw [if_neg h1,if_neg h2,if_neg h3,if_neg h4,if_neg h5,if_neg h6,if_neg h7,if_neg h8,if_neg h9]
                   have q1:(x.kind==1)=false:=by rw [beq_eq_false_iff_ne];exact h1
                   have q2:(x.kind==2)=false:=by rw [beq_eq_false_iff_ne];exact h2
                   have q3:(x.kind==3)=false:=by rw [beq_eq_false_iff_ne];exact h3
                   have q4:(x.kind==4)=false:=by rw [beq_eq_false_iff_ne];exact h4
                   have q5:(x.kind==5)=false:=by rw [beq_eq_false_iff_ne];exact h5
                   have q6:(x.kind==6)=false:=by rw [beq_eq_false_iff_ne];exact h6
                   have q7:(x.kind==7)=false:=by rw [beq_eq_false_iff_ne];exact h7
                   have q8:(x.kind==8)=false:=by rw [beq_eq_false_iff_ne];exact h8
                   have q9:(x.kind==9)=false:=by rw [beq_eq_false_iff_ne];exact h9
                   clear h1 h2 h3 h4 h5 h6 h7 h8 h9
                   go_enter Tryz.func48,Tryz.ntmps48
                   go_wp2_with (refine bA rfl _ rfl rfl rfl hbl ?_)
                   go_ret
                   rw [HE.out]
                   exact ⟨rfl,hB⟩
structure iR (x:Sx):Prop where
 name:x.name.size≤1000000
 bM:x.bM.size≤1000000
 on:x.on.size≤1000000
 part:x.part.name.size≤1000000
 aI:x.aI.name.size≤1000000
 aN:x.aN.length≤90∧∀q∈x.aN,q.name.size≤1000000
 aO:x.aO.length≤90∧∀q∈x.aO,q.size≤1000000
 sets:tV x.sets
 aP:tV x.aP
 Kc:x.aP.length≤90
 stamp:Lv x.stamp
 ttl:Lv x.ttl
 limit:Lv x.limit
structure jm (w:World) (x:Sx) (tc c s wv:Value):Prop where
 tc:Rd w tc x.aN.length (iM x.aN)
 c:Rd w c x.aO.length (x.aO.map Value.string)
 s:Rd w s x.sets.length (bQ x.sets)
 wv:Rd w wv x.aP.length (bQ x.aP)
theorem jm.below {w w' :World}{x:Sx}{tc c s wv:Value}(h:jm w x tc c s wv) (hb:Below w.heap.size w w'):jm w' x tc c s wv:=⟨h.tc.below hb,h.c.below hb,h.s.below hb,h.wv.below hb⟩
theorem jm.one {w:World}{x:Sx}{tc c s wv pv:Value}(h:jm w x tc c s wv) (hp:pv.oneCell' =true):(aF x tc c s wv pv).toList.all (·.oneCell')=true:=by
 obtain ⟨_,_,e1,_⟩:=h.tc
 obtain ⟨_,_,e2,_⟩:=h.c
 obtain ⟨_,_,e3,_⟩:=h.s
 obtain ⟨_,_,e4,_⟩:=h.wv
 rw [e1,e2,e3,e4]
 simp only [List.all_cons,List.all_nil,hp,Bool.and_true]
 rfl
theorem BK {L:List Pr}(h:tV L):(cB (⟨#[44,32]⟩:ByteArray) (L.map Pr.name)).size≤100*1000002:=by
 have:=gu (⟨#[44,32]⟩:ByteArray) (L.map Pr.name) 1000000 (fun y hy=>by obtain ⟨q,hq,rfl⟩:=List.mem_map.1 hy;exact (h.2 q hq).2)
 rw [List.length_map]at this
 exact Nat.le_trans this (Nat.mul_le_mul h.1 (by decide))
theorem BL {L:List Pr}(h:tV L):(cB (⟨#[44,32]⟩:ByteArray) (L.map fun q=>(fH q.t).text)).size≤100*2000023:=by
 have:=gu (⟨#[44,32]⟩:ByteArray) (L.map fun q=>(fH q.t).text) 2000021 (fun y hy=>by obtain ⟨q,hq,rfl⟩:=List.mem_map.1 hy;exact EX q.t (h.2 q hq).1)
 rw [List.length_map]at this
 exact Nat.le_trans this (Nat.mul_le_mul h.1 (by decide))
theorem xV {L:List Pr}(h:tV L) (sep:ByteArray) (hs:sep.size≤10):(cB sep (L.map fun q=>aG (dL q))).size≤100*4000010:=by
 have:=gu sep (L.map fun q=>aG (dL q)) 4000000 (fun y hy=>by obtain ⟨q,hq,rfl⟩:=List.mem_map.1 hy;exact mD q (h.2 q hq))
 rw [List.length_map]at this
 exact Nat.le_trans this (Nat.mul_le_mul h.1 (by omega))
theorem Dy (L:List Pr):cB (⟨#[44,32]⟩:ByteArray) (L.map Pr.name)=aG (iQ dw (L.map fun p=> [Pc.wd p.name])):=by
 rw [←jv,←iw,List.map_map]
 congr 1
 refine List.map_congr_left fun q _=> ?_
 show q.name=q.name++⟨#[]⟩
 rw [EH]
theorem Dz (L:List Pr):cB (⟨#[44,32]⟩:ByteArray) (L.map fun q=>(fH q.t).text)=aG (iQ dw (L.map fun p=> [fH p.t])):=by
 rw [←jv,←iw,List.map_map]
 congr 1
 refine List.map_congr_left fun q _=> ?_
 show _=(fH q.t).text++⟨#[]⟩
 rw [EH]
theorem BM (L:List Pr):cB (⟨#[44,32]⟩:ByteArray) (L.map fun q=>aG (dL q))=aG (iQ dw (L.map dL)):=by
 rw [←jv,←iw,List.map_map];rfl
theorem lG {L:List Pr}(h:tV L):(aG (dP L)).size≤100*4000020:=by
 have e:aG (dP L)=(⟨#[32,87,72,69,82,69,32]⟩:ByteArray)++cB (⟨#[32,65,78,68,32]⟩:ByteArray) (L.map fun q=>aG (dL q)):=by
  unfold dP
  rw [bP,←iw,LA,List.map_map];rfl
 rw [e,ByteArray.size_append]
 have:=xV h (⟨#[32,65,78,68,32]⟩:ByteArray) (by decide)
 show 7+_≤_
 omega
theorem kW {L:List ByteArray}(hl:L.length≤100) (h:∀q∈L,q.size≤1000000):(aG (gM L)).size≤100*1000003:=by
 unfold gM
 split
 · decide
 · rw [←iw,jv,←EY]
   exact Nat.le_trans (gu _ _ 1000000 h) (Nat.mul_le_mul hl (by decide))
theorem jk (a b:Int) (ha:Lv a) (hb:Lv b):(aG (dG a b)).size≤1000:=by
 have h1:=mM a ha
 have h2:=mM b hb
 have cs:∀(p:Pc) (l:List Pc),(aG (p::l)).size=p.text.size+(aG l).size:=fun p l=>ByteArray.size_append ..
 have cn:(aG []).size=0:=rfl
 have n1:(Pc.nm a).text.size≤21:=h1
 have n2:(Pc.nm b).text.size≤21:=h2
 have e1:(Pc.wd (⟨#[85,83,73,78,71]⟩:ByteArray)).text.size=5:=rfl
 have e2:(Pc.wd (⟨#[84,84,76]⟩:ByteArray)).text.size=3:=rfl
 have e3:(Pc.wd (⟨#[84,73,77,69,83,84,65,77,80]⟩:ByteArray)).text.size=9:=rfl
 have e4:(Pc.wd (⟨#[65,78,68]⟩:ByteArray)).text.size=3:=rfl
 have e5:Pc.bl.text.size=1:=rfl
 unfold dG
 split
 · split
   · decide
   · simp only [cs,cn];omega
 · split
   · simp only [cs,cn];omega
   · simp only [cs,cn];omega
theorem RS {w0 w w' :World}{a0 a1 a2:Addr}{v0 v1 v2:Value}(h:Below w0.heap.size w0 w∧w.cell? a0=some v0∧w.cell? a1=some v1∧w.cell? a2=some v2) (hb:Below w.heap.size w w'):Below w0.heap.size w0 w' ∧w'.cell? a0=some v0∧w'.cell? a1=some v1∧w'.cell? a2=some v2:=by
 obtain ⟨hB,h0,h1,h2⟩:=h
 exact ⟨hB.trans (hb.mono hB.size),aJ hb h0,aJ hb h1,aJ hb h2⟩
theorem Fb {w0 w w' :World}{a0 a1 a2 a3:Addr}{v0 v1 v2 v3:Value}(h:Below w0.heap.size w0 w∧w.cell? a0=some v0∧w.cell? a1=some v1∧w.cell? a2=some v2∧w.cell? a3=some v3) (hb:Below w.heap.size w w'):Below w0.heap.size w0 w' ∧w'.cell? a0=some v0∧w'.cell? a1=some v1∧w'.cell? a2=some v2∧w'.cell? a3=some v3:=by
 obtain ⟨hB,h0,h1,h2,h3⟩:=h
 exact ⟨hB.trans (hb.mono hB.size),aJ hb h0,aJ hb h1,aJ hb h2,aJ hb h3⟩
theorem XM {w0 w w' :World}{a0 a1 a2 a3 a4:Addr}{v0 v1 v2 v3 v4:Value}(h:Below w0.heap.size w0 w∧w.cell? a0=some v0∧w.cell? a1=some v1∧w.cell? a2=some v2∧w.cell? a3=some v3∧w.cell? a4=some v4) (hb:Below w.heap.size w w'):Below w0.heap.size w0 w' ∧w'.cell? a0=some v0∧w'.cell? a1=some v1∧w'.cell? a2=some v2∧w'.cell? a3=some v3∧w'.cell? a4=some v4:=by
 obtain ⟨hB,h0,h1,h2,h3,h4⟩:=h
 exact ⟨hB.trans (hb.mono hB.size),aJ hb h0,aJ hb h1,aJ hb h2,aJ hb h3,aJ hb h4⟩
theorem Ke {w:World}{x:Sx}{tc c s wv pv:Value}(hk:x.kind=3) (_hG:Gp w) (hok:iR x) (hin:jm w x tc c s wv) (hpv:pv.oneCell' =true):
 Calls Tryz.prog 30 #[.agg (aF x tc c s wv pv)] w fun e w' =>e= .returned (.string (aG (xO x)))∧Below w.heap.size w w' :=by
 have hone:=hin.one hpv
 have hB1:=(Below.refl w.heap.size w).alloc (Nat.le_refl _) (.cells (aF x tc c s wv pv) 31)
 have hbl:(w.alloc (.cells (aF x tc c s wv pv) 31)).heap[w.heap.size]? =some (.cells (aF x tc c s wv pv) 31 (0,0)):=aB w _
 have hof:=lI (w:=w.alloc (.cells (aF x tc c s wv pv) 31)) x tc c s wv pv
 have hkv:dV x.kind (aF x tc c s wv pv)= .iface 90 (.agg (aF x tc c s wv pv)):=by unfold dV;rw [hk];rfl
 rw [hkv]at hof
 clear hkv
 have Fe:((⟨#[67,82,69,65,84,69,32,73,78,68,69,88,32]⟩:ByteArray)).size≤13:=by decide
 have Fg:(x.name).size≤1000000:=hok.name
 obtain ⟨A1,lU⟩:∃r,(⟨#[67,82,69,65,84,69,32,73,78,68,69,88,32]⟩:ByteArray)++x.name=r:=⟨_,rfl⟩
 have Fh:=aU ((⟨#[67,82,69,65,84,69,32,73,78,68,69,88,32]⟩:ByteArray)) (x.name) (by omega)
 rw [lU]at Fh
 have Fj:A1.size≤1000013:=by rw [←lU,ByteArray.size_append];omega
 have Ib:((⟨#[32,79,78,32]⟩:ByteArray)).size≤4:=by decide
 obtain ⟨A2,nG⟩:∃r,A1++(⟨#[32,79,78,32]⟩:ByteArray)=r:=⟨_,rfl⟩
 have Ic:=aU (A1) ((⟨#[32,79,78,32]⟩:ByteArray)) (by omega)
 rw [nG]at Ic
 have Ie:A2.size≤1000017:=by rw [←nG,ByteArray.size_append];omega
 have Ig:(x.bM).size≤1000000:=hok.bM
 obtain ⟨A3,nH⟩:∃r,A2++x.bM=r:=⟨_,rfl⟩
 have Ih:=aU (A2) (x.bM) (by omega)
 rw [nH]at Ih
 have Ii:A3.size≤2000017:=by rw [←nH,ByteArray.size_append];omega
 have Ij:((⟨#[32,40]⟩:ByteArray)).size≤2:=by decide
 obtain ⟨A4,nI⟩:∃r,A3++(⟨#[32,40]⟩:ByteArray)=r:=⟨_,rfl⟩
 have Ik:=aU (A3) ((⟨#[32,40]⟩:ByteArray)) (by omega)
 rw [nI]at Ik
 have Il:A4.size≤2000019:=by rw [←nI,ByteArray.size_append];omega
 have Im:(x.on).size≤1000000:=hok.on
 obtain ⟨A5,nJ⟩:∃r,A4++x.on=r:=⟨_,rfl⟩
 have Io:=aU (A4) (x.on) (by omega)
 rw [nJ]at Io
 have Ip:A5.size≤3000019:=by rw [←nJ,ByteArray.size_append];omega
 have XO:((⟨#[41]⟩:ByteArray)).size≤1:=by decide
 obtain ⟨A6,Fp⟩:∃r,A5++(⟨#[41]⟩:ByteArray)=r:=⟨_,rfl⟩
 have XP:=aU (A5) ((⟨#[41]⟩:ByteArray)) (by omega)
 rw [Fp]at XP
 have XQ:A6.size≤3000020:=by rw [←Fp,ByteArray.size_append];omega
 have HE:Hid (A6=aG (xO x)):=by
  show _=_
  rw [←Fp,←nJ,←nI,←nH,←nG,←lU]
  unfold xO
  apply ByteArray.ext;apply Array.ext';simp [aG,Pc.text]
 clear lU nG nH nI nJ Fp
 clear Fe Fj Ie Ii Il Ip XQ Fg Ib Ig Ij Im XO
 clear hok hin hk
 have wZ:=RO
 have rZ:=BA
 have uN:=Cz
 go_enter Tryz.func30,Tryz.ntmps30
 go_wp2_with (refine bA rfl _ rfl rfl rfl hbl ?_)
 refine hof.mono ?_;rintro e w2 ⟨rfl,hb2⟩
 have hB2:=hB1.trans (hb2.mono hB1.size)
 have hV:(w2.alloc (.cells (aF x tc c s wv pv) 90)).heap[w2.heap.size]? =some (.cells (aF x tc c s wv pv) 90 (0,0)):=aB w2 _
 have hB3:=hB2.alloc hB2.size (.cells (aF x tc c s wv pv) 90)
 have c1:=(aM hV).2.1
 have c2:=(aM hV).2.2.1
 have c3:=(aM hV).2.2.2.1
 go_wp2_with (refine kg RH rfl _ _ rfl rfl rfl rfl rfl hone ?_)
 go_ret
 rw [←HE.out]
 exact ⟨rfl,hB3⟩
theorem NW {w:World}{x:Sx}{tc c s wv pv:Value}(hk:x.kind=4) (_hG:Gp w) (hok:iR x) (hin:jm w x tc c s wv) (hpv:pv.oneCell' =true):
 Calls Tryz.prog 30 #[.agg (aF x tc c s wv pv)] w fun e w' =>e= .returned (.string (aG (Dm x)))∧Below w.heap.size w w' :=by
 have hone:=hin.one hpv
 have hB1:=(Below.refl w.heap.size w).alloc (Nat.le_refl _) (.cells (aF x tc c s wv pv) 31)
 have hbl:(w.alloc (.cells (aF x tc c s wv pv) 31)).heap[w.heap.size]? =some (.cells (aF x tc c s wv pv) 31 (0,0)):=aB w _
 have hof:=lI (w:=w.alloc (.cells (aF x tc c s wv pv) 31)) x tc c s wv pv
 have hkv:dV x.kind (aF x tc c s wv pv)= .iface 91 (.agg (aF x tc c s wv pv)):=by unfold dV;rw [hk];rfl
 rw [hkv]at hof
 clear hkv
 have Fe:((⟨#[68,82,79,80,32]⟩:ByteArray)).size≤5:=by decide
 have Fg:(x.name).size≤1000000:=hok.name
 obtain ⟨A1,lU⟩:∃r,(⟨#[68,82,79,80,32]⟩:ByteArray)++x.name=r:=⟨_,rfl⟩
 have Fh:=aU ((⟨#[68,82,79,80,32]⟩:ByteArray)) (x.name) (by omega)
 rw [lU]at Fh
 have Fj:A1.size≤1000005:=by rw [←lU,ByteArray.size_append];omega
 have HE:Hid (A1=aG (Dm x)):=by
  show _=_
  rw [←lU]
  unfold Dm
  apply ByteArray.ext;apply Array.ext';simp [aG,Pc.text]
 clear lU
 clear Fe Fj Fg
 clear hok hin hk
 have wZ:=UW
 have rZ:=CB
 have uN:=EZ
 have wO:=CF
 go_enter Tryz.func30,Tryz.ntmps30
 go_wp2_with (refine bA rfl _ rfl rfl rfl hbl ?_)
 refine hof.mono ?_;rintro e w2 ⟨rfl,hb2⟩
 have hB2:=hB1.trans (hb2.mono hB1.size)
 have hV:(w2.alloc (.cells (aF x tc c s wv pv) 91)).heap[w2.heap.size]? =some (.cells (aF x tc c s wv pv) 91 (0,0)):=aB w2 _
 have hB3:=hB2.alloc hB2.size (.cells (aF x tc c s wv pv) 91)
 have c1:=(aM hV).2.1
 go_wp2_with (refine kg UQ rfl _ _ rfl rfl rfl rfl rfl hone ?_)
 go_ret
 rw [←HE.out]
 exact ⟨rfl,hB3⟩
theorem Iq {w:World}{x:Sx}{tc c s wv pv:Value}(hk:x.kind=5) (hG:Gp w) (hok:iR x) (hin:jm w x tc c s wv) (hpv:pv.oneCell' =true):
 Calls Tryz.prog 30 #[.agg (aF x tc c s wv pv)] w fun e w' =>e= .returned (.string (aG (nA x)))∧Below w.heap.size w w' :=by
 have hone:=hin.one hpv
 have hB1:=(Below.refl w.heap.size w).alloc (Nat.le_refl _) (.cells (aF x tc c s wv pv) 31)
 have hbl:(w.alloc (.cells (aF x tc c s wv pv) 31)).heap[w.heap.size]? =some (.cells (aF x tc c s wv pv) 31 (0,0)):=aB w _
 have hof:=lI (w:=w.alloc (.cells (aF x tc c s wv pv) 31)) x tc c s wv pv
 have hkv:dV x.kind (aF x tc c s wv pv)= .iface 92 (.agg (aF x tc c s wv pv)):=by unfold dV;rw [hk];rfl
 rw [hkv]at hof
 clear hkv
 obtain ⟨Jn,XR⟩:∃r,cB (⟨#[44,32]⟩:ByteArray) (x.sets.map Pr.name)=r:=⟨_,rfl⟩
 have zJn:Jn.size≤100000200:=by rw [←XR];exact BK hok.sets
 obtain ⟨Jt,XT⟩:∃r,cB (⟨#[44,32]⟩:ByteArray) (x.sets.map fun q=>(fH q.t).text)=r:=⟨_,rfl⟩
 have zJt:Jt.size≤200002300:=by rw [←XT];exact BL hok.sets
 obtain ⟨Ju,uO⟩:∃r,aG (dG x.stamp x.ttl)=r:=⟨_,rfl⟩
 have RU:Ju.size≤1000:=by rw [←uO];exact jk _ _ hok.stamp hok.ttl
 have Fe:((⟨#[73,78,83,69,82,84,32,73,78,84,79,32]⟩:ByteArray)).size≤12:=by decide
 have Fg:(x.bM).size≤1000000:=hok.bM
 obtain ⟨A1,lU⟩:∃r,(⟨#[73,78,83,69,82,84,32,73,78,84,79,32]⟩:ByteArray)++x.bM=r:=⟨_,rfl⟩
 have Fh:=aU ((⟨#[73,78,83,69,82,84,32,73,78,84,79,32]⟩:ByteArray)) (x.bM) (by omega)
 rw [lU]at Fh
 have Fj:A1.size≤1000012:=by rw [←lU,ByteArray.size_append];omega
 have Ib:((⟨#[32,40]⟩:ByteArray)).size≤2:=by decide
 obtain ⟨A2,nG⟩:∃r,A1++(⟨#[32,40]⟩:ByteArray)=r:=⟨_,rfl⟩
 have Ic:=aU (A1) ((⟨#[32,40]⟩:ByteArray)) (by omega)
 rw [nG]at Ic
 have Ie:A2.size≤1000014:=by rw [←nG,ByteArray.size_append];omega
 have Ig:(Jn).size≤100000200:=zJn
 obtain ⟨A3,nH⟩:∃r,A2++Jn=r:=⟨_,rfl⟩
 have Ih:=aU (A2) (Jn) (by omega)
 rw [nH]at Ih
 have Ii:A3.size≤101000214:=by rw [←nH,ByteArray.size_append];omega
 have Ij:((⟨#[41,32,86,65,76,85,69,83,32,40]⟩:ByteArray)).size≤10:=by decide
 obtain ⟨A4,nI⟩:∃r,A3++(⟨#[41,32,86,65,76,85,69,83,32,40]⟩:ByteArray)=r:=⟨_,rfl⟩
 have Ik:=aU (A3) ((⟨#[41,32,86,65,76,85,69,83,32,40]⟩:ByteArray)) (by omega)
 rw [nI]at Ik
 have Il:A4.size≤101000224:=by rw [←nI,ByteArray.size_append];omega
 have Im:(Jt).size≤200002300:=zJt
 obtain ⟨A5,nJ⟩:∃r,A4++Jt=r:=⟨_,rfl⟩
 have Io:=aU (A4) (Jt) (by omega)
 rw [nJ]at Io
 have Ip:A5.size≤301002524:=by rw [←nJ,ByteArray.size_append];omega
 have XO:((⟨#[41]⟩:ByteArray)).size≤1:=by decide
 obtain ⟨A6,Fp⟩:∃r,A5++(⟨#[41]⟩:ByteArray)=r:=⟨_,rfl⟩
 have XP:=aU (A5) ((⟨#[41]⟩:ByteArray)) (by omega)
 rw [Fp]at XP
 have XQ:A6.size≤301002525:=by rw [←Fp,ByteArray.size_append];omega
 have ZI:(Ju).size≤1000:=RU
 obtain ⟨A7,LB⟩:∃r,A6++Ju=r:=⟨_,rfl⟩
 have ZJ:=aU (A6) (Ju) (by omega)
 rw [LB]at ZJ
 have ZK:A7.size≤301003525:=by rw [←LB,ByteArray.size_append];omega
 have HE:Hid (A7=aG (nA x)):=by
  show _=_
  rw [←LB,←Fp,←nJ,←nI,←nH,←nG,←lU,←XR,←XT,←uO]
  unfold nA
  rw [Dy,Dz]
  apply ByteArray.ext;apply Array.ext';simp [bP,aG,Pc.text]
 clear lU nG nH nI nJ Fp LB
 clear Fe Fj Ie Ii Il Ip XQ ZK Fg Ib Ig Ij Im XO ZI
 clear zJn zJt RU
 have HC:=Lib.hid (fun (wq:World) (uS:Below w.heap.size w wq)=>And.intro (hG.below uS) (hin.below uS))
 have wY:=Lib.hid hok
 have HJ:Hid (cB (⟨#[44,32]⟩:ByteArray) (x.sets.map Pr.name)=Jn∧cB (⟨#[44,32]⟩:ByteArray) (x.sets.map fun q=>(fH q.t).text)=Jt∧aG (dG x.stamp x.ttl)=Ju):=⟨XR,XT,uO⟩
 clear XR XT uO
 clear hok hin hG hk
 have wZ:=NU
 have rZ:=zq
 have uN:=BD
 have wO:=zu
 have xW:=BF
 go_enter Tryz.func30,Tryz.ntmps30
 go_wp2_with (refine bA rfl _ rfl rfl rfl hbl ?_)
 refine hof.mono ?_;rintro e w2 ⟨rfl,hb2⟩
 have hB2:=hB1.trans (hb2.mono hB1.size)
 have hV:(w2.alloc (.cells (aF x tc c s wv pv) 92)).heap[w2.heap.size]? =some (.cells (aF x tc c s wv pv) 92 (0,0)):=aB w2 _
 have hB3:=hB2.alloc hB2.size (.cells (aF x tc c s wv pv) 92)
 go_wp2_with (refine kg NR rfl _ _ rfl rfl rfl rfl rfl hone ?_)
 obtain ⟨wq,hwq⟩:∃wq,wq=w2.alloc (.cells (aF x tc c s wv pv) 92):=⟨_,rfl⟩
 rw [←hwq]at hV hB3⊢
 clear hwq
 obtain ⟨Cr,nP⟩:=HC.out wq hB3
 have hok:=wY.out
 obtain ⟨XR,XT,uO⟩:=HJ.out
 have HJn:Hid (∀(w' :World),Below wq.heap.size wq w' →Calls Tryz.prog 52 #[s, .string (⟨#[44,32]⟩:ByteArray), .func (.func 53) #[] #[]] w' (fun e w'' =>e= .returned (.string Jn)∧Below w'.heap.size w' w'')):=fun w' hB' =>by rw [←XR];exact RB (T:=Pr.name) hok.sets.1 (nP.s.below hB') (fun q _ w'' _=>za q w'') (Nat.le_trans (BK hok.sets) (by decide))
 have HJt:Hid (∀(w' :World),Below wq.heap.size wq w' →Calls Tryz.prog 52 #[s, .string (⟨#[44,32]⟩:ByteArray), .func (.func 54) #[] #[]] w' (fun e w'' =>e= .returned (.string Jt)∧Below w'.heap.size w' w'')):=fun w' hB' =>by rw [←XT];exact XK (T:=fun q=>(fH q.t).text) hok.sets.1 (nP.s.below hB') (fun q hq w'' hb=>NK q w'' ((Cr.below hB').below hb) (hok.sets.2 q hq).1) (Nat.le_trans (BL hok.sets) (by decide))
 have XU:Hid (∀(w' :World),Below wq.heap.size wq w' →Calls Tryz.prog 56 #[.int .i64 x.stamp, .int .i64 x.ttl] w' (fun e w'' =>e= .returned (.string Ju)∧Below w'.heap.size w' w'')):=fun w' hB' =>by rw [←uO];exact qj (Cr.below hB') hok.stamp hok.ttl
 clear Cr nP hok XR XT uO
 clear HC wY HJ hof hbl hB1 hb2 hB2 hone wZ rZ uN wO xW
 have d2:wq.cell? ⟨w2.heap.size,2,none⟩=some (.string x.bM):=(aM hV).2.2.1
 have gI:wq.cell? ⟨w2.heap.size,12,none⟩=some (s):=(aM hV).2.2.2.2.2.2.2.2.2.2.2.2.1
 have fU:wq.cell? ⟨w2.heap.size,14,none⟩=some (.int .i64 x.stamp):=(aM hV).2.2.2.2.2.2.2.2.2.2.2.2.2.2.1
 have fV:wq.cell? ⟨w2.heap.size,15,none⟩=some (.int .i64 x.ttl):=(aM hV).2.2.2.2.2.2.2.2.2.2.2.2.2.2.2.1
 have hS:Below wq.heap.size wq wq∧wq.cell? ⟨w2.heap.size,2,none⟩=some (.string x.bM)∧wq.cell? ⟨w2.heap.size,12,none⟩=some (s)∧wq.cell? ⟨w2.heap.size,14,none⟩=some (.int .i64 x.stamp)∧wq.cell? ⟨w2.heap.size,15,none⟩=some (.int .i64 x.ttl):=⟨Below.refl _ _,d2,gI,fU,fV⟩
 go_region_held3 (fun w' =>Below wq.heap.size wq w' ∧w'.cell? ⟨w2.heap.size,2,none⟩=some (.string x.bM)∧w'.cell? ⟨w2.heap.size,12,none⟩=some (s)∧w'.cell? ⟨w2.heap.size,14,none⟩=some (.int .i64 x.stamp)∧w'.cell? ⟨w2.heap.size,15,none⟩=some (.int .i64 x.ttl)) (first|exact Fb (by assumption) abx|exact Fb (by assumption) aby|exact Fb (by assumption) Kg|exact ⟨(Below.refl _ _).drew,d2,gI,fU,fV⟩)
  (first
  |(go_at_call 52;with_reducible refine (HJn.out _ (And.left (by assumption))).mono ?_;rintro e wJn ⟨rfl,abx⟩)
  |(go_at_call 52;with_reducible refine (HJt.out _ (And.left (by assumption))).mono ?_;rintro e wJt ⟨rfl,aby⟩)
  |(go_at_call 56;with_reducible refine (XU.out _ (And.left (by assumption))).mono ?_;rintro e wJu ⟨rfl,Kg⟩))
 go_wp2_with fail
 go_ret
 rw [←HE.out]
 exact ⟨rfl,hB3.trans (Below.mono (And.left (by assumption)) hB3.size)⟩
theorem Ir {w:World}{x:Sx}{tc c s wv pv:Value}(hk:x.kind=6) (hG:Gp w) (hok:iR x) (hin:jm w x tc c s wv) (hpv:pv.oneCell' =true):
 Calls Tryz.prog 30 #[.agg (aF x tc c s wv pv)] w fun e w' =>e= .returned (.string (aG (nC x)))∧Below w.heap.size w w' :=by
 have hone:=hin.one hpv
 have hB1:=(Below.refl w.heap.size w).alloc (Nat.le_refl _) (.cells (aF x tc c s wv pv) 31)
 have hbl:(w.alloc (.cells (aF x tc c s wv pv) 31)).heap[w.heap.size]? =some (.cells (aF x tc c s wv pv) 31 (0,0)):=aB w _
 have hof:=lI (w:=w.alloc (.cells (aF x tc c s wv pv) 31)) x tc c s wv pv
 have hkv:dV x.kind (aF x tc c s wv pv)= .iface 95 (.agg (aF x tc c s wv pv)):=by unfold dV;rw [hk];rfl
 rw [hkv]at hof
 clear hkv
 obtain ⟨Ju,uO⟩:∃r,aG (dG x.stamp x.ttl)=r:=⟨_,rfl⟩
 have RU:Ju.size≤1000:=by rw [←uO];exact jk _ _ hok.stamp hok.ttl
 obtain ⟨Je,XV⟩:∃r,cB (⟨#[44,32]⟩:ByteArray) (x.sets.map fun q=>aG (dL q))=r:=⟨_,rfl⟩
 have zJe:Je.size≤400001000:=by rw [←XV];exact xV hok.sets _ (by decide)
 obtain ⟨Jw,ql⟩:∃r,aG (dP x.aP)=r:=⟨_,rfl⟩
 have LC:Jw.size≤400002000:=by rw [←ql];exact lG hok.aP
 have Fe:((⟨#[85,80,68,65,84,69,32]⟩:ByteArray)).size≤7:=by decide
 have Fg:(x.bM).size≤1000000:=hok.bM
 obtain ⟨A1,lU⟩:∃r,(⟨#[85,80,68,65,84,69,32]⟩:ByteArray)++x.bM=r:=⟨_,rfl⟩
 have Fh:=aU ((⟨#[85,80,68,65,84,69,32]⟩:ByteArray)) (x.bM) (by omega)
 rw [lU]at Fh
 have Fj:A1.size≤1000007:=by rw [←lU,ByteArray.size_append];omega
 have Ib:(Ju).size≤1000:=RU
 obtain ⟨A2,nG⟩:∃r,A1++Ju=r:=⟨_,rfl⟩
 have Ic:=aU (A1) (Ju) (by omega)
 rw [nG]at Ic
 have Ie:A2.size≤1001007:=by rw [←nG,ByteArray.size_append];omega
 have Ig:((⟨#[32,83,69,84,32]⟩:ByteArray)).size≤5:=by decide
 obtain ⟨A3,nH⟩:∃r,A2++(⟨#[32,83,69,84,32]⟩:ByteArray)=r:=⟨_,rfl⟩
 have Ih:=aU (A2) ((⟨#[32,83,69,84,32]⟩:ByteArray)) (by omega)
 rw [nH]at Ih
 have Ii:A3.size≤1001012:=by rw [←nH,ByteArray.size_append];omega
 have Ij:(Je).size≤400001000:=zJe
 obtain ⟨A4,nI⟩:∃r,A3++Je=r:=⟨_,rfl⟩
 have Ik:=aU (A3) (Je) (by omega)
 rw [nI]at Ik
 have Il:A4.size≤401002012:=by rw [←nI,ByteArray.size_append];omega
 have Im:(Jw).size≤400002000:=LC
 obtain ⟨A5,nJ⟩:∃r,A4++Jw=r:=⟨_,rfl⟩
 have Io:=aU (A4) (Jw) (by omega)
 rw [nJ]at Io
 have Ip:A5.size≤801004012:=by rw [←nJ,ByteArray.size_append];omega
 have HE:Hid (A5=aG (nC x)):=by
  show _=_
  rw [←nJ,←nI,←nH,←nG,←lU,←uO,←XV,←ql]
  unfold nC
  rw [bP,bP,bP,bP,←BM]
  apply ByteArray.ext;apply Array.ext';simp [aG,Pc.text]
 clear lU nG nH nI nJ
 clear Fe Fj Ie Ii Il Ip Fg Ib Ig Ij Im
 clear RU zJe LC
 have HC:=Lib.hid (fun (wq:World) (uS:Below w.heap.size w wq)=>And.intro (hG.below uS) (hin.below uS))
 have wY:=Lib.hid hok
 have HJ:Hid (aG (dG x.stamp x.ttl)=Ju∧cB (⟨#[44,32]⟩:ByteArray) (x.sets.map fun q=>aG (dL q))=Je∧aG (dP x.aP)=Jw):=⟨uO,XV,ql⟩
 clear uO XV ql
 clear hok hin hG hk
 have wZ:=NV
 have rZ:=zw
 have uN:=BG
 have wO:=zx
 have xW:=BH
 have BN:=xU
 go_enter Tryz.func30,Tryz.ntmps30
 go_wp2_with (refine bA rfl _ rfl rfl rfl hbl ?_)
 refine hof.mono ?_;rintro e w2 ⟨rfl,hb2⟩
 have hB2:=hB1.trans (hb2.mono hB1.size)
 have hV:(w2.alloc (.cells (aF x tc c s wv pv) 95)).heap[w2.heap.size]? =some (.cells (aF x tc c s wv pv) 95 (0,0)):=aB w2 _
 have hB3:=hB2.alloc hB2.size (.cells (aF x tc c s wv pv) 95)
 go_wp2_with (refine kg NS rfl _ _ rfl rfl rfl rfl rfl hone ?_)
 obtain ⟨wq,hwq⟩:∃wq,wq=w2.alloc (.cells (aF x tc c s wv pv) 95):=⟨_,rfl⟩
 rw [←hwq]at hV hB3⊢
 clear hwq
 obtain ⟨Cr,nP⟩:=HC.out wq hB3
 have hok:=wY.out
 obtain ⟨uO,XV,ql⟩:=HJ.out
 have XU:Hid (∀(w' :World),Below wq.heap.size wq w' →Calls Tryz.prog 56 #[.int .i64 x.stamp, .int .i64 x.ttl] w' (fun e w'' =>e= .returned (.string Ju)∧Below w'.heap.size w' w'')):=fun w' hB' =>by rw [←uO];exact qj (Cr.below hB') hok.stamp hok.ttl
 have HJe:Hid (∀(w' :World),Below wq.heap.size wq w' →Calls Tryz.prog 52 #[s, .string (⟨#[44,32]⟩:ByteArray), .func (.func 57) #[] #[]] w' (fun e w'' =>e= .returned (.string Je)∧Below w'.heap.size w' w'')):=fun w' hB' =>by rw [←XV];exact Dv (Cr.below hB') hok.sets (nP.s.below hB') (by decide)
 have UY:Hid (∀(w' :World),Below wq.heap.size wq w' →Calls Tryz.prog 58 #[wv] w' (fun e w'' =>e= .returned (.string Jw)∧Below w'.heap.size w' w'')):=fun w' hB' =>by rw [←ql];exact mO (Cr.below hB') hok.aP (nP.wv.below hB')
 clear Cr nP hok uO XV ql
 clear HC wY HJ hof hbl hB1 hb2 hB2 hone wZ rZ uN wO xW BN
 have d2:wq.cell? ⟨w2.heap.size,2,none⟩=some (.string x.bM):=(aM hV).2.2.1
 have gI:wq.cell? ⟨w2.heap.size,12,none⟩=some (s):=(aM hV).2.2.2.2.2.2.2.2.2.2.2.2.1
 have fO:wq.cell? ⟨w2.heap.size,13,none⟩=some (wv):=(aM hV).2.2.2.2.2.2.2.2.2.2.2.2.2.1
 have fU:wq.cell? ⟨w2.heap.size,14,none⟩=some (.int .i64 x.stamp):=(aM hV).2.2.2.2.2.2.2.2.2.2.2.2.2.2.1
 have fV:wq.cell? ⟨w2.heap.size,15,none⟩=some (.int .i64 x.ttl):=(aM hV).2.2.2.2.2.2.2.2.2.2.2.2.2.2.2.1
 have hS:Below wq.heap.size wq wq∧wq.cell? ⟨w2.heap.size,2,none⟩=some (.string x.bM)∧wq.cell? ⟨w2.heap.size,12,none⟩=some (s)∧wq.cell? ⟨w2.heap.size,13,none⟩=some (wv)∧wq.cell? ⟨w2.heap.size,14,none⟩=some (.int .i64 x.stamp)∧wq.cell? ⟨w2.heap.size,15,none⟩=some (.int .i64 x.ttl):=⟨Below.refl _ _,d2,gI,fO,fU,fV⟩
 go_region_held3 (fun w' =>Below wq.heap.size wq w' ∧w'.cell? ⟨w2.heap.size,2,none⟩=some (.string x.bM)∧w'.cell? ⟨w2.heap.size,12,none⟩=some (s)∧w'.cell? ⟨w2.heap.size,13,none⟩=some (wv)∧w'.cell? ⟨w2.heap.size,14,none⟩=some (.int .i64 x.stamp)∧w'.cell? ⟨w2.heap.size,15,none⟩=some (.int .i64 x.ttl)) (first|exact XM (by assumption) Kg|exact XM (by assumption) abA|exact XM (by assumption) Fq|exact ⟨(Below.refl _ _).drew,d2,gI,fO,fU,fV⟩)
  (first
  |(go_at_call 56;with_reducible refine (XU.out _ (And.left (by assumption))).mono ?_;rintro e wJu ⟨rfl,Kg⟩)
  |(go_at_call 52;with_reducible refine (HJe.out _ (And.left (by assumption))).mono ?_;rintro e wJe ⟨rfl,abA⟩)
  |(go_at_call 58;with_reducible refine (UY.out _ (And.left (by assumption))).mono ?_;rintro e wJw ⟨rfl,Fq⟩))
 go_wp2_with fail
 go_ret
 rw [←HE.out]
 exact ⟨rfl,hB3.trans (Below.mono (And.left (by assumption)) hB3.size)⟩
theorem Fu {w:World}{x:Sx}{tc c s wv pv:Value}(hc0:¬x.aO= []) (hk:x.kind=7) (hG:Gp w) (hok:iR x) (hin:jm w x tc c s wv) (hpv:pv.oneCell' =true):
 Calls Tryz.prog 30 #[.agg (aF x tc c s wv pv)] w fun e w' =>e= .returned (.string (aG (j5 x)))∧Below w.heap.size w w' :=by
 obtain ⟨cA,cC,hce,_⟩:=hin.c
 subst hce
 have hone:=hin.one hpv
 have hB1:=(Below.refl w.heap.size w).alloc (Nat.le_refl _) (.cells (aF x tc (.slice cA x.aO.length cC) s wv pv) 31)
 have hbl:(w.alloc (.cells (aF x tc (.slice cA x.aO.length cC) s wv pv) 31)).heap[w.heap.size]? =some (.cells (aF x tc (.slice cA x.aO.length cC) s wv pv) 31 (0,0)):=aB w _
 have hof:=lI (w:=w.alloc (.cells (aF x tc (.slice cA x.aO.length cC) s wv pv) 31)) x tc (.slice cA x.aO.length cC) s wv pv
 have hkv:dV x.kind (aF x tc (.slice cA x.aO.length cC) s wv pv)= .iface 97 (.agg (aF x tc (.slice cA x.aO.length cC) s wv pv)):=by unfold dV;rw [hk];rfl
 rw [hkv]at hof
 clear hkv
 obtain ⟨Ju,uO⟩:∃r,aG (dG x.stamp x.ttl)=r:=⟨_,rfl⟩
 have RU:Ju.size≤1000:=by rw [←uO];exact jk _ _ hok.stamp hok.ttl
 obtain ⟨Jw,ql⟩:∃r,aG (dP x.aP)=r:=⟨_,rfl⟩
 have LC:Jw.size≤400002000:=by rw [←ql];exact lG hok.aP
 obtain ⟨Js,zC⟩:∃r,aG (gM x.aO)=r:=⟨_,rfl⟩
 have SN:Js.size≤100*1000003:=by rw [←zC];exact kW (Nat.le_trans hok.aO.1 (by decide)) hok.aO.2
 have hPa:=aU Js (⟨#[32]⟩:ByteArray) (by show _+1≤_;omega)
 obtain ⟨P,eP⟩:∃r,Js++(⟨#[32]⟩:ByteArray)=r:=⟨_,rfl⟩
 have zP:P.size≤100*1000003+1:=by rw [←eP,ByteArray.size_append];show _+1≤_;omega
 rw [eP]at hPa
 have Fe:((⟨#[68,69,76,69,84,69,32]⟩:ByteArray)).size≤7:=by decide
 have Fg:(P).size≤100000301:=zP
 obtain ⟨A1,lU⟩:∃r,(⟨#[68,69,76,69,84,69,32]⟩:ByteArray)++P=r:=⟨_,rfl⟩
 have Fh:=aU ((⟨#[68,69,76,69,84,69,32]⟩:ByteArray)) (P) (by omega)
 rw [lU]at Fh
 have Fj:A1.size≤100000308:=by rw [←lU,ByteArray.size_append];omega
 have Ib:((⟨#[70,82,79,77,32]⟩:ByteArray)).size≤5:=by decide
 obtain ⟨A2,nG⟩:∃r,A1++(⟨#[70,82,79,77,32]⟩:ByteArray)=r:=⟨_,rfl⟩
 have Ic:=aU (A1) ((⟨#[70,82,79,77,32]⟩:ByteArray)) (by omega)
 rw [nG]at Ic
 have Ie:A2.size≤100000313:=by rw [←nG,ByteArray.size_append];omega
 have Ig:(x.bM).size≤1000000:=hok.bM
 obtain ⟨A3,nH⟩:∃r,A2++x.bM=r:=⟨_,rfl⟩
 have Ih:=aU (A2) (x.bM) (by omega)
 rw [nH]at Ih
 have Ii:A3.size≤101000313:=by rw [←nH,ByteArray.size_append];omega
 have Ij:(Ju).size≤1000:=RU
 obtain ⟨A4,nI⟩:∃r,A3++Ju=r:=⟨_,rfl⟩
 have Ik:=aU (A3) (Ju) (by omega)
 rw [nI]at Ik
 have Il:A4.size≤101001313:=by rw [←nI,ByteArray.size_append];omega
 have Im:(Jw).size≤400002000:=LC
 obtain ⟨A5,nJ⟩:∃r,A4++Jw=r:=⟨_,rfl⟩
 have Io:=aU (A4) (Jw) (by omega)
 rw [nJ]at Io
 have Ip:A5.size≤501003313:=by rw [←nJ,ByteArray.size_append];omega
 have HE:Hid (A5=aG (j5 x)):=by
  show _=_
  rw [←nJ,←nI,←nH,←nG,←lU,←uO,←ql,←eP,←zC]
  unfold j5
  rw [if_neg hc0]
  apply ByteArray.ext;apply Array.ext';simp [bP,aG,Pc.text]
 clear lU nG nH nI nJ
 clear Fe Fj Ie Ii Il Ip Fg Ib Ig Ij Im
 clear RU LC
 have HC:=Lib.hid (fun (wq:World) (uS:Below w.heap.size w wq)=>And.intro (hG.below uS) (hin.below uS))
 have wY:=Lib.hid hok
 have HJ:Hid (aG (dG x.stamp x.ttl)=Ju∧aG (dP x.aP)=Jw):=⟨uO,ql⟩
 clear uO ql hok hin hG hk
 have wZ:=Dx
 have rZ:=qA
 have uN:=rX
 have wO:=qB
 have xW:=rY
 have BN:=oO
 have Fv:=oQ
 go_enter Tryz.func30,Tryz.ntmps30
 go_wp2_with (refine bA rfl _ rfl rfl rfl hbl ?_)
 refine hof.mono ?_;rintro e w2 ⟨rfl,hb2⟩
 have hB2:=hB1.trans (hb2.mono hB1.size)
 have hV:(w2.alloc (.cells (aF x tc (.slice cA x.aO.length cC) s wv pv) 97)).heap[w2.heap.size]? =some (.cells (aF x tc (.slice cA x.aO.length cC) s wv pv) 97 (0,0)):=aB w2 _
 have hB3:=hB2.alloc hB2.size (.cells (aF x tc (.slice cA x.aO.length cC) s wv pv) 97)
 have m11:=(aM hV).2.2.2.2.2.2.2.2.2.2.2.1
 have p0:(0:Int)<(x.aO.length:Int):=by have:=List.length_pos_iff.2 hc0;omega
 have p0' :¬x.aO= []:=hc0
 clear hc0
 obtain ⟨hG0,UZ⟩:=HC.out _ hB3
 have hok:=wY.out
 have hmid:Calls Tryz.prog 51 #[(.slice cA x.aO.length cC)] (w2.alloc (.cells (aF x tc (.slice cA x.aO.length cC) s wv pv) 97)) fun e w'' =>e= .returned (.string Js)∧Below (w2.alloc (.cells (aF x tc (.slice cA x.aO.length cC) s wv pv) 97)).heap.size (w2.alloc (.cells (aF x tc (.slice cA x.aO.length cC) s wv pv) 97)) w'' :=by rw [←zC];exact sN (Nat.le_trans hok.aO.1 (by decide)) UZ.c hok.aO.2
 clear zC eP p0' zP SN
 clear hG0 UZ hok
 go_wp2_with (refine kg Dw rfl _ _ rfl rfl rfl rfl rfl hone ?_)
 refine hmid.mono ?_;rintro e wq ⟨rfl,hbq⟩
 replace hV:=bf hV hbq (aC hV)
 replace hB3:=hB3.trans (hbq.mono hB3.size)
 go_wp2_with fail
 obtain ⟨Cr,nP⟩:=HC.out wq hB3
 have hok:=wY.out
 obtain ⟨uO,ql⟩:=HJ.out
 have XU:Hid (∀(w' :World),Below wq.heap.size wq w' →Calls Tryz.prog 56 #[.int .i64 x.stamp, .int .i64 x.ttl] w' (fun e w'' =>e= .returned (.string Ju)∧Below w'.heap.size w' w'')):=fun w' hB' =>by rw [←uO];exact qj (Cr.below hB') hok.stamp hok.ttl
 have UY:Hid (∀(w' :World),Below wq.heap.size wq w' →Calls Tryz.prog 58 #[wv] w' (fun e w'' =>e= .returned (.string Jw)∧Below w'.heap.size w' w'')):=fun w' hB' =>by rw [←ql];exact mO (Cr.below hB') hok.aP (nP.wv.below hB')
 clear Cr nP hok uO ql
 clear HC wY HJ hof hbl hB1 hb2 hB2 hone wZ rZ uN wO xW BN Fv
 have d2:wq.cell? ⟨w2.heap.size,2,none⟩=some (.string x.bM):=(aM hV).2.2.1
 have fO:wq.cell? ⟨w2.heap.size,13,none⟩=some (wv):=(aM hV).2.2.2.2.2.2.2.2.2.2.2.2.2.1
 have fU:wq.cell? ⟨w2.heap.size,14,none⟩=some (.int .i64 x.stamp):=(aM hV).2.2.2.2.2.2.2.2.2.2.2.2.2.2.1
 have fV:wq.cell? ⟨w2.heap.size,15,none⟩=some (.int .i64 x.ttl):=(aM hV).2.2.2.2.2.2.2.2.2.2.2.2.2.2.2.1
 have hS:Below wq.heap.size wq wq∧wq.cell? ⟨w2.heap.size,2,none⟩=some (.string x.bM)∧wq.cell? ⟨w2.heap.size,13,none⟩=some (wv)∧wq.cell? ⟨w2.heap.size,14,none⟩=some (.int .i64 x.stamp)∧wq.cell? ⟨w2.heap.size,15,none⟩=some (.int .i64 x.ttl):=⟨Below.refl _ _,d2,fO,fU,fV⟩
 go_region_held3 (fun w' =>Below wq.heap.size wq w' ∧w'.cell? ⟨w2.heap.size,2,none⟩=some (.string x.bM)∧w'.cell? ⟨w2.heap.size,13,none⟩=some (wv)∧w'.cell? ⟨w2.heap.size,14,none⟩=some (.int .i64 x.stamp)∧w'.cell? ⟨w2.heap.size,15,none⟩=some (.int .i64 x.ttl)) (first|exact Fb (by assumption) Kg|exact Fb (by assumption) Fq|exact ⟨(Below.refl _ _).drew,d2,fO,fU,fV⟩)
  (first
  |(go_at_call 56;with_reducible refine (XU.out _ (And.left (by assumption))).mono ?_;rintro e wJu ⟨rfl,Kg⟩)
  |(go_at_call 58;with_reducible refine (UY.out _ (And.left (by assumption))).mono ?_;rintro e wJw ⟨rfl,Fq⟩))
 go_wp2_with fail
 go_ret
 rw [←HE.out]
 exact ⟨rfl,hB3.trans (Below.mono (And.left (by assumption)) hB3.size)⟩
theorem NY {w:World}{x:Sx}{tc c s wv pv:Value}(hl0:x.limit=0) (hk:x.kind=8) (hG:Gp w) (hok:iR x) (hin:jm w x tc c s wv) (hpv:pv.oneCell' =true):
 Calls Tryz.prog 30 #[.agg (aF x tc c s wv pv)] w fun e w' =>e= .returned (.string (aG (Bf x)))∧Below w.heap.size w w' :=by
 have hone:=hin.one hpv
 have hB1:=(Below.refl w.heap.size w).alloc (Nat.le_refl _) (.cells (aF x tc c s wv pv) 31)
 have hbl:(w.alloc (.cells (aF x tc c s wv pv) 31)).heap[w.heap.size]? =some (.cells (aF x tc c s wv pv) 31 (0,0)):=aB w _
 have hof:=lI (w:=w.alloc (.cells (aF x tc c s wv pv) 31)) x tc c s wv pv
 have hkv:dV x.kind (aF x tc c s wv pv)= .iface 98 (.agg (aF x tc c s wv pv)):=by unfold dV;rw [hk];rfl
 rw [hkv]at hof
 clear hkv
 obtain ⟨Js,zC⟩:∃r,aG (gM x.aO)=r:=⟨_,rfl⟩
 have SN:Js.size≤100000300:=by rw [←zC];exact kW (Nat.le_trans hok.aO.1 (by decide)) hok.aO.2
 obtain ⟨Jw,ql⟩:∃r,aG (dP x.aP)=r:=⟨_,rfl⟩
 have LC:Jw.size≤400002000:=by rw [←ql];exact lG hok.aP
 have Fe:((⟨#[83,69,76,69,67,84,32]⟩:ByteArray)).size≤7:=by decide
 have Fg:(Js).size≤100000300:=SN
 obtain ⟨A1,lU⟩:∃r,(⟨#[83,69,76,69,67,84,32]⟩:ByteArray)++Js=r:=⟨_,rfl⟩
 have Fh:=aU ((⟨#[83,69,76,69,67,84,32]⟩:ByteArray)) (Js) (by omega)
 rw [lU]at Fh
 have Fj:A1.size≤100000307:=by rw [←lU,ByteArray.size_append];omega
 have Ib:((⟨#[32,70,82,79,77,32]⟩:ByteArray)).size≤6:=by decide
 obtain ⟨A2,nG⟩:∃r,A1++(⟨#[32,70,82,79,77,32]⟩:ByteArray)=r:=⟨_,rfl⟩
 have Ic:=aU (A1) ((⟨#[32,70,82,79,77,32]⟩:ByteArray)) (by omega)
 rw [nG]at Ic
 have Ie:A2.size≤100000313:=by rw [←nG,ByteArray.size_append];omega
 have Ig:(x.bM).size≤1000000:=hok.bM
 obtain ⟨A3,nH⟩:∃r,A2++x.bM=r:=⟨_,rfl⟩
 have Ih:=aU (A2) (x.bM) (by omega)
 rw [nH]at Ih
 have Ii:A3.size≤101000313:=by rw [←nH,ByteArray.size_append];omega
 have Ij:(Jw).size≤400002000:=LC
 obtain ⟨A4,nI⟩:∃r,A3++Jw=r:=⟨_,rfl⟩
 have Ik:=aU (A3) (Jw) (by omega)
 rw [nI]at Ik
 have Il:A4.size≤501002313:=by rw [←nI,ByteArray.size_append];omega
 have Im:((⟨#[]⟩:ByteArray)).size≤0:=by decide
 obtain ⟨A5,nJ⟩:∃r,A4++(⟨#[]⟩:ByteArray)=r:=⟨_,rfl⟩
 have Io:=aU (A4) ((⟨#[]⟩:ByteArray)) (by omega)
 rw [nJ]at Io
 have Ip:A5.size≤501002313:=by rw [←nJ,ByteArray.size_append];omega
 have HE:Hid (A5=aG (Bf x)):=by
  show _=_
  rw [←nJ,←nI,←nH,←nG,←lU,←zC,←ql]
  unfold Bf
  rw [if_pos hl0]
  apply ByteArray.ext;apply Array.ext';simp [bP,aG,Pc.text]
 clear lU nG nH nI nJ
 clear Fe Fj Ie Ii Il Ip Fg Ib Ig Ij Im
 clear SN LC
 have HC:=Lib.hid (fun (wq:World) (uS:Below w.heap.size w wq)=>And.intro (hG.below uS) (hin.below uS))
 have wY:=Lib.hid hok
 have HJ:Hid (aG (gM x.aO)=Js∧aG (dP x.aP)=Jw):=⟨zC,ql⟩
 clear zC ql hok hin hG hk
 have wZ:=RP
 have rZ:=wM
 have uN:=ze
 have wO:=wN
 have xW:=zf
 have BN:=tX
 have Fv:=tY
 have RV:=tZ
 go_enter Tryz.func30,Tryz.ntmps30
 go_wp2_with (refine bA rfl _ rfl rfl rfl hbl ?_)
 refine hof.mono ?_;rintro e w2 ⟨rfl,hb2⟩
 have hB2:=hB1.trans (hb2.mono hB1.size)
 have hV:(w2.alloc (.cells (aF x tc c s wv pv) 98)).heap[w2.heap.size]? =some (.cells (aF x tc c s wv pv) 98 (0,0)):=aB w2 _
 have hB3:=hB2.alloc hB2.size (.cells (aF x tc c s wv pv) 98)
 have m16:=(aM hV).2.2.2.2.2.2.2.2.2.2.2.2.2.2.2.2.1
 have p0:(x.limit !=0)=false:=by rw [hl0];rfl
 clear hl0
 go_wp2_with (refine kg RJ rfl _ _ rfl rfl rfl rfl rfl hone ?_)
 obtain ⟨wq,hwq⟩:∃wq,wq=w2.alloc (.cells (aF x tc c s wv pv) 98):=⟨_,rfl⟩
 rw [←hwq]at hV hB3⊢
 clear hwq
 obtain ⟨Cr,nP⟩:=HC.out wq hB3
 have hok:=wY.out
 obtain ⟨zC,ql⟩:=HJ.out
 have ZL:Hid (∀(w' :World),Below wq.heap.size wq w' →Calls Tryz.prog 51 #[c] w' (fun e w'' =>e= .returned (.string Js)∧Below w'.heap.size w' w'')):=fun w' hB' =>by rw [←zC];exact sN (Nat.le_trans hok.aO.1 (by decide)) (nP.c.below hB') hok.aO.2
 have UY:Hid (∀(w' :World),Below wq.heap.size wq w' →Calls Tryz.prog 58 #[wv] w' (fun e w'' =>e= .returned (.string Jw)∧Below w'.heap.size w' w'')):=fun w' hB' =>by rw [←ql];exact mO (Cr.below hB') hok.aP (nP.wv.below hB')
 clear Cr nP hok zC ql
 clear HC wY HJ hof hbl hB1 hb2 hB2 hone wZ rZ uN wO xW BN Fv RV
 have d2:wq.cell? ⟨w2.heap.size,2,none⟩=some (.string x.bM):=(aM hV).2.2.1
 have gJ:wq.cell? ⟨w2.heap.size,11,none⟩=some (c):=(aM hV).2.2.2.2.2.2.2.2.2.2.2.1
 have fO:wq.cell? ⟨w2.heap.size,13,none⟩=some (wv):=(aM hV).2.2.2.2.2.2.2.2.2.2.2.2.2.1
 have hS:Below wq.heap.size wq wq∧wq.cell? ⟨w2.heap.size,2,none⟩=some (.string x.bM)∧wq.cell? ⟨w2.heap.size,11,none⟩=some (c)∧wq.cell? ⟨w2.heap.size,13,none⟩=some (wv):=⟨Below.refl _ _,d2,gJ,fO⟩
 go_region_held3 (fun w' =>Below wq.heap.size wq w' ∧w'.cell? ⟨w2.heap.size,2,none⟩=some (.string x.bM)∧w'.cell? ⟨w2.heap.size,11,none⟩=some (c)∧w'.cell? ⟨w2.heap.size,13,none⟩=some (wv)) (first|exact RS (by assumption) XW|exact RS (by assumption) Fq|exact ⟨(Below.refl _ _).drew,d2,gJ,fO⟩)
  (first
  |(go_at_call 51;with_reducible refine (ZL.out _ (And.left (by assumption))).mono ?_;rintro e wJs ⟨rfl,XW⟩)
  |(go_at_call 58;with_reducible refine (UY.out _ (And.left (by assumption))).mono ?_;rintro e wJw ⟨rfl,Fq⟩))
 go_wp2_with fail
 go_ret
 rw [←HE.out]
 exact ⟨rfl,hB3.trans (Below.mono (And.left (by assumption)) hB3.size)⟩
theorem NZ {w:World}{x:Sx}{tc c s wv pv:Value}(hl0:¬x.limit=0) (hk:x.kind=8) (hG:Gp w) (hok:iR x) (hin:jm w x tc c s wv) (hpv:pv.oneCell' =true):
 Calls Tryz.prog 30 #[.agg (aF x tc c s wv pv)] w fun e w' =>e= .returned (.string (aG (Bf x)))∧Below w.heap.size w w' :=by
 have hone:=hin.one hpv
 have hB1:=(Below.refl w.heap.size w).alloc (Nat.le_refl _) (.cells (aF x tc c s wv pv) 31)
 have hbl:(w.alloc (.cells (aF x tc c s wv pv) 31)).heap[w.heap.size]? =some (.cells (aF x tc c s wv pv) 31 (0,0)):=aB w _
 have hof:=lI (w:=w.alloc (.cells (aF x tc c s wv pv) 31)) x tc c s wv pv
 have hkv:dV x.kind (aF x tc c s wv pv)= .iface 98 (.agg (aF x tc c s wv pv)):=by unfold dV;rw [hk];rfl
 rw [hkv]at hof
 clear hkv
 obtain ⟨Js,zC⟩:∃r,aG (gM x.aO)=r:=⟨_,rfl⟩
 have SN:Js.size≤100000300:=by rw [←zC];exact kW (Nat.le_trans hok.aO.1 (by decide)) hok.aO.2
 obtain ⟨Jw,ql⟩:∃r,aG (dP x.aP)=r:=⟨_,rfl⟩
 have LC:Jw.size≤400002000:=by rw [←ql];exact lG hok.aP
 obtain ⟨Ji,eJi⟩:∃r,j4 x.limit=r:=⟨_,rfl⟩
 have zJi:Ji.size≤21:=by rw [←eJi];exact mM _ hok.limit
 have hPa:=aU (⟨#[32,76,73,77,73,84,32]⟩:ByteArray) Ji (by show 7+_≤_;omega)
 obtain ⟨P,eP⟩:∃r,(⟨#[32,76,73,77,73,84,32]⟩:ByteArray)++Ji=r:=⟨_,rfl⟩
 have zP:P.size≤28:=by rw [←eP,ByteArray.size_append];show 7+_≤_;omega
 rw [eP]at hPa
 have Fe:((⟨#[83,69,76,69,67,84,32]⟩:ByteArray)).size≤7:=by decide
 have Fg:(Js).size≤100000300:=SN
 obtain ⟨A1,lU⟩:∃r,(⟨#[83,69,76,69,67,84,32]⟩:ByteArray)++Js=r:=⟨_,rfl⟩
 have Fh:=aU ((⟨#[83,69,76,69,67,84,32]⟩:ByteArray)) (Js) (by omega)
 rw [lU]at Fh
 have Fj:A1.size≤100000307:=by rw [←lU,ByteArray.size_append];omega
 have Ib:((⟨#[32,70,82,79,77,32]⟩:ByteArray)).size≤6:=by decide
 obtain ⟨A2,nG⟩:∃r,A1++(⟨#[32,70,82,79,77,32]⟩:ByteArray)=r:=⟨_,rfl⟩
 have Ic:=aU (A1) ((⟨#[32,70,82,79,77,32]⟩:ByteArray)) (by omega)
 rw [nG]at Ic
 have Ie:A2.size≤100000313:=by rw [←nG,ByteArray.size_append];omega
 have Ig:(x.bM).size≤1000000:=hok.bM
 obtain ⟨A3,nH⟩:∃r,A2++x.bM=r:=⟨_,rfl⟩
 have Ih:=aU (A2) (x.bM) (by omega)
 rw [nH]at Ih
 have Ii:A3.size≤101000313:=by rw [←nH,ByteArray.size_append];omega
 have Ij:(Jw).size≤400002000:=LC
 obtain ⟨A4,nI⟩:∃r,A3++Jw=r:=⟨_,rfl⟩
 have Ik:=aU (A3) (Jw) (by omega)
 rw [nI]at Ik
 have Il:A4.size≤501002313:=by rw [←nI,ByteArray.size_append];omega
 have Im:(P).size≤28:=zP
 obtain ⟨A5,nJ⟩:∃r,A4++P=r:=⟨_,rfl⟩
 have Io:=aU (A4) (P) (by omega)
 rw [nJ]at Io
 have Ip:A5.size≤501002341:=by rw [←nJ,ByteArray.size_append];omega
 have HE:Hid (A5=aG (Bf x)):=by
  show _=_
  rw [←nJ,←nI,←nH,←nG,←lU,←zC,←ql,←eP,←eJi]
  unfold Bf
  rw [if_neg hl0]
  apply ByteArray.ext;apply Array.ext';simp [bP,aG,Pc.text]
 clear lU nG nH nI nJ
 clear Fe Fj Ie Ii Il Ip Fg Ib Ig Ij Im
 clear SN LC
 have HC:=Lib.hid (fun (wq:World) (uS:Below w.heap.size w wq)=>And.intro (hG.below uS) (hin.below uS))
 have wY:=Lib.hid hok
 have HJ:Hid (aG (gM x.aO)=Js∧aG (dP x.aP)=Jw):=⟨zC,ql⟩
 clear zC ql hok hin hG hk
 have wZ:=RP
 have rZ:=wM
 have uN:=ze
 have wO:=wN
 have xW:=zf
 have BN:=tX
 have Fv:=tY
 have RV:=tZ
 go_enter Tryz.func30,Tryz.ntmps30
 go_wp2_with (refine bA rfl _ rfl rfl rfl hbl ?_)
 refine hof.mono ?_;rintro e w2 ⟨rfl,hb2⟩
 have hB2:=hB1.trans (hb2.mono hB1.size)
 have hV:(w2.alloc (.cells (aF x tc c s wv pv) 98)).heap[w2.heap.size]? =some (.cells (aF x tc c s wv pv) 98 (0,0)):=aB w2 _
 have hB3:=hB2.alloc hB2.size (.cells (aF x tc c s wv pv) 98)
 have m16:=(aM hV).2.2.2.2.2.2.2.2.2.2.2.2.2.2.2.2.1
 have p0:(x.limit !=0)=true:=bne_iff_ne.2 hl0
 clear hl0
 obtain ⟨hG0,UZ⟩:=HC.out _ hB3
 have hok:=wY.out
 have hmid:Calls Tryz.prog 59 #[.int .i64 x.limit] (w2.alloc (.cells (aF x tc c s wv pv) 98)) fun e w'' =>e= .returned (.string Ji)∧Below (w2.alloc (.cells (aF x tc c s wv pv) 98)).heap.size (w2.alloc (.cells (aF x tc c s wv pv) 98)) w'' :=by rw [←eJi];exact wI x.limit hok.limit.1 hok.limit.2 _ hG0
 clear eJi eP zP zJi
 clear hG0 UZ hok
 go_wp2_with (refine kg RJ rfl _ _ rfl rfl rfl rfl rfl hone ?_)
 refine hmid.mono ?_;rintro e wq ⟨rfl,hbq⟩
 replace hV:=bf hV hbq (aC hV)
 replace hB3:=hB3.trans (hbq.mono hB3.size)
 go_wp2_with fail
 obtain ⟨Cr,nP⟩:=HC.out wq hB3
 have hok:=wY.out
 obtain ⟨zC,ql⟩:=HJ.out
 have ZL:Hid (∀(w' :World),Below wq.heap.size wq w' →Calls Tryz.prog 51 #[c] w' (fun e w'' =>e= .returned (.string Js)∧Below w'.heap.size w' w'')):=fun w' hB' =>by rw [←zC];exact sN (Nat.le_trans hok.aO.1 (by decide)) (nP.c.below hB') hok.aO.2
 have UY:Hid (∀(w' :World),Below wq.heap.size wq w' →Calls Tryz.prog 58 #[wv] w' (fun e w'' =>e= .returned (.string Jw)∧Below w'.heap.size w' w'')):=fun w' hB' =>by rw [←ql];exact mO (Cr.below hB') hok.aP (nP.wv.below hB')
 clear Cr nP hok zC ql
 clear HC wY HJ hof hbl hB1 hb2 hB2 hone wZ rZ uN wO xW BN Fv RV
 have d2:wq.cell? ⟨w2.heap.size,2,none⟩=some (.string x.bM):=(aM hV).2.2.1
 have gJ:wq.cell? ⟨w2.heap.size,11,none⟩=some (c):=(aM hV).2.2.2.2.2.2.2.2.2.2.2.1
 have fO:wq.cell? ⟨w2.heap.size,13,none⟩=some (wv):=(aM hV).2.2.2.2.2.2.2.2.2.2.2.2.2.1
 have hS:Below wq.heap.size wq wq∧wq.cell? ⟨w2.heap.size,2,none⟩=some (.string x.bM)∧wq.cell? ⟨w2.heap.size,11,none⟩=some (c)∧wq.cell? ⟨w2.heap.size,13,none⟩=some (wv):=⟨Below.refl _ _,d2,gJ,fO⟩
 go_region_held3 (fun w' =>Below wq.heap.size wq w' ∧w'.cell? ⟨w2.heap.size,2,none⟩=some (.string x.bM)∧w'.cell? ⟨w2.heap.size,11,none⟩=some (c)∧w'.cell? ⟨w2.heap.size,13,none⟩=some (wv)) (first|exact RS (by assumption) XW|exact RS (by assumption) Fq|exact ⟨(Below.refl _ _).drew,d2,gJ,fO⟩)
  (first
  |(go_at_call 51;with_reducible refine (ZL.out _ (And.left (by assumption))).mono ?_;rintro e wJs ⟨rfl,XW⟩)
  |(go_at_call 58;with_reducible refine (UY.out _ (And.left (by assumption))).mono ?_;rintro e wJw ⟨rfl,Fq⟩))
 go_wp2_with fail
 go_ret
 rw [←HE.out]
 exact ⟨rfl,hB3.trans (Below.mono (And.left (by assumption)) hB3.size)⟩
theorem ZM {P:Program}{t e:TypeId}{z:Value}{size bytes:Nat}(E:O5 P t e z size bytes) {w:World}{ops:Array Oper}{rest:List Oper}{o:Oper}{a:Act}{Q:Exit→Act→World→Prop}(hgd:o.guard=none) (s x:Operand)
 (ho:o.op= .call {callee:= .builtin .append,args:= #[s,x],argTypes:= #[t,t]})
 (base:Nat) (v:Value) (n:Nat) (xs:List Value) (hs:a.eval s=v) (hown:w.ownsRow base e size v n xs)
 (u:Value) (m:Nat) (ys:List Value) (hx:a.eval x=u) (hu:Rd w u m ys) (hl:ys.length=m*size) (h1:∀u∈ys,u.oneCell' =true)
 (hn:(n+m)*bytes≤140737488355328∧n+m<140737488355328) (hbase:base≤w.heap.size)
 (h:∀a' cap' w',w'.ownsRow base e size (.slice a' (n+m) cap') (n+m) (xs++ys)→w.grownBy w' v.ownBlock→wpList P ops Q rest (a.put o.dst (.slice a' (n+m) cap')) w'):wpList P ops Q (o::rest) a w:=by
 refine wpList_plain hgd fun K hK=> ?_
 obtain ⟨ua,uc,rfl,hug⟩:=hu
 have hrun:∃v' w',(Builtin.append_ #[t,t] o.type #[v, .slice ua m uc]).run P w= .ok v' w' ∧w'.ownsRow base e size v' (n+m) (xs++ys)∧w.grownBy w' v.ownBlock:=by
  by_cases hm:0<m
  · obtain ⟨g,off,rfl,hg⟩:=hug hm
    obtain ⟨v',w',hr,h2,h3,_⟩:=Ep (P:=P) (ty:=o.type) E v n xs hown ⟨g,off,none⟩ m uc ys hl (fun j u hj=>by rw [Addr.add_mid];exact hg j u hj) h1 (by have:=hn.2;unfold maxLen;omega) hn.1 hbase hm
    exact ⟨v',w',hr,h2,h3⟩
  · have hm0:m=0:=by omega
    subst hm0
    have hys:ys= []:=by rw [Nat.zero_mul]at hl;exact List.length_eq_zero_iff.1 hl
    subst hys
    obtain ⟨i,hi,hz,hsize,hby⟩:=E.info
    obtain ⟨va,vc,rfl,_⟩:=aY hown
    have hle:=iU hown va vc rfl
    refine ⟨.slice va n vc,w, ?_,by rw [List.append_nil];exact hown,o8 _ _⟩
    refine run_append_nothing w t t o.type e i E.und hi va n vc hle _ ?_
    cases ua with
    |none=>exact Src.ofNil w E.und uc
    |some ad=>exact Src.ofSlice w E.und ad 0 uc [] (by simp) (fun j u hj=>by simp at hj) (by simp)
 obtain ⟨v',w',hr,h2,h3⟩:=hrun
 obtain ⟨a',cap',rfl,_⟩:=aY h2
 unfold Oper.wp execOp
 simp only [ho,resolve,invoke,builtin,Sem.run_bind,Sem.run_pure,Result.andThen_ok,List.map_toArray,List.map_cons,List.map_nil,hs,hx,hr]
 exact hK _ _ (h a' cap' w' h2 h3)
theorem N7 (L:List Cl):∀u∈iM L,u.oneCell' =true:=by
 intro u hu
 obtain ⟨c,_,hc⟩:=List.mem_flatMap.1 hu
 unfold kU at hc
 simp only [List.mem_cons,List.not_mem_nil,or_false]at hc
 rcases hc with rfl|rfl<;>rfl
theorem xX (L:List Pr):∀u∈bQ L,u.oneCell' =true:=by
 intro u hu
 obtain ⟨c,_,hc⟩:=List.mem_flatMap.1 hu
 unfold jX at hc
 simp only [List.mem_cons,List.not_mem_nil,or_false]at hc
 rcases hc with rfl|rfl|rfl|rfl<;>rfl
theorem N8 (L:List Cl):(iM L).length=L.length*2:=by
 induction L with
 |nil=>rfl
 |cons a l ih=>unfold iM at ih⊢;rw [List.flatMap_cons,List.length_append,ih];simp [kU];omega
theorem xY (L:List Pr):(bQ L).length=L.length*4:=by
 induction L with
 |nil=>rfl
 |cons a l ih=>unfold bQ at ih⊢;rw [List.flatMap_cons,List.length_append,ih];simp [jX];omega
theorem BO (q:Cl) (h:q.name.size≤1000000):(aG (gZ q)).size≤1000005:=by
 unfold gZ
 split
 · have e:aG [.wd q.name, .bl, .wd (⟨#[84,69,88,84]⟩:ByteArray)]=q.name++(⟨#[32,84,69,88,84]⟩:ByteArray):=by apply ByteArray.ext;apply Array.ext';simp [aG,Pc.text]
   rw [e,ByteArray.size_append];show _+5≤_;omega
 · have e:aG [.wd q.name, .bl, .wd (⟨#[73,78,84]⟩:ByteArray)]=q.name++(⟨#[32,73,78,84]⟩:ByteArray):=by apply ByteArray.ext;apply Array.ext';simp [aG,Pc.text]
   rw [e,ByteArray.size_append];show _+4≤_;omega
theorem Kh {w:World}{x:Sx}{tc c s wv pv:Value}(hk:x.kind=1) (hG:Gp w) (hok:iR x) (hin:jm w x tc c s wv) (hpv:pv.oneCell' =true):
 Calls Tryz.prog 30 #[.agg (aF x tc c s wv pv)] w fun e w' =>e= .returned (.string (aG (xM x)))∧Below w.heap.size w w' :=by
 obtain ⟨tA,tC,hte,_⟩:=hin.tc
 subst hte
 have hone:=hin.one hpv
 have hB1:=(Below.refl w.heap.size w).alloc (Nat.le_refl _) (.cells (aF x (.slice tA x.aN.length tC) c s wv pv) 31)
 have hbl:(w.alloc (.cells (aF x (.slice tA x.aN.length tC) c s wv pv) 31)).heap[w.heap.size]? =some (.cells (aF x (.slice tA x.aN.length tC) c s wv pv) 31 (0,0)):=aB w _
 have hof:=lI (w:=w.alloc (.cells (aF x (.slice tA x.aN.length tC) c s wv pv) 31)) x (.slice tA x.aN.length tC) c s wv pv
 have hkv:dV x.kind (aF x (.slice tA x.aN.length tC) c s wv pv)= .iface 83 (.agg (aF x (.slice tA x.aN.length tC) c s wv pv)):=by unfold dV;rw [hk];rfl
 rw [hkv]at hof
 clear hkv
 obtain ⟨Jc,eJc⟩:∃r,cB (⟨#[44,32]⟩:ByteArray) ((x.part::x.aI::x.aN).map fun q=>aG (gZ q))=r:=⟨_,rfl⟩
 have hcl:∀q∈x.part::x.aI::x.aN,q.name.size≤1000000:=by intro q hq;rcases List.mem_cons.1 hq with rfl|hq;exact hok.part;rcases List.mem_cons.1 hq with rfl|hq;exact hok.aI;exact hok.aN.2 q hq
 have hln:(x.part::x.aI::x.aN).length≤100:=by have:=hok.aN.1;simp;omega
 have zJc:Jc.size≤100*1000007:=by
  rw [←eJc]
  have:=gu (⟨#[44,32]⟩:ByteArray) ((x.part::x.aI::x.aN).map fun q=>aG (gZ q)) 1000005 (fun y hy=>by obtain ⟨q,hq,rfl⟩:=List.mem_map.1 hy;exact BO q (hcl q hq))
  rw [List.length_map]at this
  exact Nat.le_trans this (Nat.mul_le_mul hln (by decide))
 have Fe:((⟨#[67,82,69,65,84,69,32,84,65,66,76,69,32]⟩:ByteArray)).size≤13:=by decide
 have Fg:(x.name).size≤1000000:=hok.name
 obtain ⟨A1,lU⟩:∃r,(⟨#[67,82,69,65,84,69,32,84,65,66,76,69,32]⟩:ByteArray)++x.name=r:=⟨_,rfl⟩
 have Fh:=aU ((⟨#[67,82,69,65,84,69,32,84,65,66,76,69,32]⟩:ByteArray)) (x.name) (by omega)
 rw [lU]at Fh
 have Fj:A1.size≤1000013:=by rw [←lU,ByteArray.size_append];omega
 have Ib:((⟨#[32,40]⟩:ByteArray)).size≤2:=by decide
 obtain ⟨A2,nG⟩:∃r,A1++(⟨#[32,40]⟩:ByteArray)=r:=⟨_,rfl⟩
 have Ic:=aU (A1) ((⟨#[32,40]⟩:ByteArray)) (by omega)
 rw [nG]at Ic
 have Ie:A2.size≤1000015:=by rw [←nG,ByteArray.size_append];omega
 have Ig:(Jc).size≤100000700:=zJc
 obtain ⟨A3,nH⟩:∃r,A2++Jc=r:=⟨_,rfl⟩
 have Ih:=aU (A2) (Jc) (by omega)
 rw [nH]at Ih
 have Ii:A3.size≤101000715:=by rw [←nH,ByteArray.size_append];omega
 have Ij:((⟨#[44,32,80,82,73,77,65,82,89,32,75,69,89,32,40]⟩:ByteArray)).size≤15:=by decide
 obtain ⟨A4,nI⟩:∃r,A3++(⟨#[44,32,80,82,73,77,65,82,89,32,75,69,89,32,40]⟩:ByteArray)=r:=⟨_,rfl⟩
 have Ik:=aU (A3) ((⟨#[44,32,80,82,73,77,65,82,89,32,75,69,89,32,40]⟩:ByteArray)) (by omega)
 rw [nI]at Ik
 have Il:A4.size≤101000730:=by rw [←nI,ByteArray.size_append];omega
 have Im:(x.part.name).size≤1000000:=hok.part
 obtain ⟨A5,nJ⟩:∃r,A4++x.part.name=r:=⟨_,rfl⟩
 have Io:=aU (A4) (x.part.name) (by omega)
 rw [nJ]at Io
 have Ip:A5.size≤102000730:=by rw [←nJ,ByteArray.size_append];omega
 have XO:((⟨#[44,32]⟩:ByteArray)).size≤2:=by decide
 obtain ⟨A6,Fp⟩:∃r,A5++(⟨#[44,32]⟩:ByteArray)=r:=⟨_,rfl⟩
 have XP:=aU (A5) ((⟨#[44,32]⟩:ByteArray)) (by omega)
 rw [Fp]at XP
 have XQ:A6.size≤102000732:=by rw [←Fp,ByteArray.size_append];omega
 have ZI:(x.aI.name).size≤1000000:=hok.aI
 obtain ⟨A7,LB⟩:∃r,A6++x.aI.name=r:=⟨_,rfl⟩
 have ZJ:=aU (A6) (x.aI.name) (by omega)
 rw [LB]at ZJ
 have ZK:A7.size≤103000732:=by rw [←LB,ByteArray.size_append];omega
 have Ay8:((⟨#[41,41]⟩:ByteArray)).size≤2:=by decide
 obtain ⟨A8,U0⟩:∃r,A7++(⟨#[41,41]⟩:ByteArray)=r:=⟨_,rfl⟩
 have Ah8:=aU (A7) ((⟨#[41,41]⟩:ByteArray)) (by omega)
 rw [U0]at Ah8
 have Az8:A8.size≤103000734:=by rw [←U0,ByteArray.size_append];omega
 have HE:Hid (A8=aG (xM x)):=by
  show _=_
  rw [←U0,←LB,←Fp,←nJ,←nI,←nH,←nG,←lU,←eJc]
  unfold xM
  rw [bP,bP,←iw,jv,List.map_map]
  apply ByteArray.ext;apply Array.ext';simp [aG,Pc.text,Function.comp_def]
 clear lU nG nH nI nJ Fp LB U0
 clear Fe Fj Ie Ii Il Ip XQ ZK Az8 Fg Ib Ig Ij Im XO ZI Ay8
 clear zJc
 have HC:=Lib.hid (fun (wq:World) (uS:Below w.heap.size w wq)=>And.intro (hG.below uS) (hin.below uS))
 have HCL:=Lib.hid hcl
 have XY:=Lib.hid hln
 have HJ:=Lib.hid eJc
 have ZN:Hid (x.aN.length≤90):=hok.aN.1
 clear eJc hcl hln hok hin hG hk
 have wZ:=RN
 go_enter Tryz.func30,Tryz.ntmps30
 go_wp2_with (refine bA rfl _ rfl rfl rfl hbl ?_)
 refine hof.mono ?_;rintro e w2 ⟨rfl,hb2⟩
 have hB2:=hB1.trans (hb2.mono hB1.size)
 have hV:(w2.alloc (.cells (aF x (.slice tA x.aN.length tC) c s wv pv) 83)).heap[w2.heap.size]? =some (.cells (aF x (.slice tA x.aN.length tC) c s wv pv) 83 (0,0)):=aB w2 _
 have hB3:=hB2.alloc hB2.size (.cells (aF x (.slice tA x.aN.length tC) c s wv pv) 83)
 have m4:=(aM hV).2.2.2.2.1
 have m5:=(aM hV).2.2.2.2.2.1
 have m6:=(aM hV).2.2.2.2.2.2.1
 have m7:=(aM hV).2.2.2.2.2.2.2.1
 have m8:=(aM hV).2.2.2.2.2.2.2.2.1
 have m9:=(aM hV).2.2.2.2.2.2.2.2.2.1
 have m10:=(aM hV).2.2.2.2.2.2.2.2.2.2.1
 have hV1:=hV
 have hB4:=hB3.alloc hB3.size (.cells #[.string x.aW, .int .i64 x.tid, .string x.part.name, .int .i64 x.part.ty, .string x.aI.name, .int .i64 x.aI.ty,(.slice tA x.aN.length tC)] 26)
 have hs0:=aA w2 (.cells (aF x (.slice tA x.aN.length tC) c s wv pv) 83)
 have U1:=aB (w2.alloc (.cells (aF x (.slice tA x.aN.length tC) c s wv pv) 83)) (.cells #[.string x.aW, .int .i64 x.tid, .string x.part.name, .int .i64 x.part.ty, .string x.aI.name, .int .i64 x.aI.ty,(.slice tA x.aN.length tC)] 26)
 rw [hs0]at U1
 have U2:=au hV (.cells #[.string x.aW, .int .i64 x.tid, .string x.part.name, .int .i64 x.part.ty, .string x.aI.name, .int .i64 x.aI.ty,(.slice tA x.aN.length tC)] 26)
 have hs1:=aA (w2.alloc (.cells (aF x (.slice tA x.aN.length tC) c s wv pv) 83)) (.cells #[.string x.aW, .int .i64 x.tid, .string x.part.name, .int .i64 x.part.ty, .string x.aI.name, .int .i64 x.aI.ty,(.slice tA x.aN.length tC)] 26)
 rw [hs0]at hs1
 have n2:((w2.alloc (.cells (aF x (.slice tA x.aN.length tC) c s wv pv) 83)).alloc (.cells #[.string x.aW, .int .i64 x.tid, .string x.part.name, .int .i64 x.part.ty, .string x.aI.name, .int .i64 x.aI.ty,(.slice tA x.aN.length tC)] 26)).cell? ⟨w2.heap.size+1,2,none⟩=some (.string x.part.name):=by rw [aj U1];rfl
 have n3:((w2.alloc (.cells (aF x (.slice tA x.aN.length tC) c s wv pv) 83)).alloc (.cells #[.string x.aW, .int .i64 x.tid, .string x.part.name, .int .i64 x.part.ty, .string x.aI.name, .int .i64 x.aI.ty,(.slice tA x.aN.length tC)] 26)).cell? ⟨w2.heap.size+1,3,none⟩=some (.int .i64 x.part.ty):=by rw [aj U1];rfl
 have n4:((w2.alloc (.cells (aF x (.slice tA x.aN.length tC) c s wv pv) 83)).alloc (.cells #[.string x.aW, .int .i64 x.tid, .string x.part.name, .int .i64 x.part.ty, .string x.aI.name, .int .i64 x.aI.ty,(.slice tA x.aN.length tC)] 26)).cell? ⟨w2.heap.size+1,4,none⟩=some (.string x.aI.name):=by rw [aj U1];rfl
 have n5:((w2.alloc (.cells (aF x (.slice tA x.aN.length tC) c s wv pv) 83)).alloc (.cells #[.string x.aW, .int .i64 x.tid, .string x.part.name, .int .i64 x.part.ty, .string x.aI.name, .int .i64 x.aI.ty,(.slice tA x.aN.length tC)] 26)).cell? ⟨w2.heap.size+1,5,none⟩=some (.int .i64 x.aI.ty):=by rw [aj U1];rfl
 have n6:((w2.alloc (.cells (aF x (.slice tA x.aN.length tC) c s wv pv) 83)).alloc (.cells #[.string x.aW, .int .i64 x.tid, .string x.part.name, .int .i64 x.part.ty, .string x.aI.name, .int .i64 x.aI.ty,(.slice tA x.aN.length tC)] 26)).cell? ⟨w2.heap.size+1,6,none⟩=some (.slice tA x.aN.length tC):=by rw [aj U1];rfl
 have n6' :(((w2.alloc (.cells (aF x (.slice tA x.aN.length tC) c s wv pv) 83)).alloc (.cells #[.string x.aW, .int .i64 x.tid, .string x.part.name, .int .i64 x.part.ty, .string x.aI.name, .int .i64 x.aI.ty,(.slice tA x.aN.length tC)] 26)).alloc (.cells #[.string x.part.name, .int .i64 x.part.ty, .string x.aI.name, .int .i64 x.aI.ty] 23)).cell? ⟨w2.heap.size+1,6,none⟩=some (.slice tA x.aN.length tC):=by rw [aj (au U1 _)];rfl
 have hlit:=ng ((w2.alloc (.cells (aF x (.slice tA x.aN.length tC) c s wv pv) 83)).alloc (.cells #[.string x.aW, .int .i64 x.tid, .string x.part.name, .int .i64 x.part.ty, .string x.aI.name, .int .i64 x.aI.ty,(.slice tA x.aN.length tC)] 26)) [.string x.part.name, .int .i64 x.part.ty, .string x.aI.name, .int .i64 x.aI.ty] 23 2 2 (w2.heap.size+2) rfl (by decide) (Nat.le_of_eq hs1.symm)
 rw [hs1]at hlit
 have yZ:=hB4.alloc hB4.size (.cells #[.string x.part.name, .int .i64 x.part.ty, .string x.aI.name, .int .i64 x.aI.ty] 23)
 have hrd:=((HC.out _ yZ).2).tc
 have HT9:=ZN.out
 go_wp2_with (first|refine kg RF rfl _ _ rfl rfl rfl rfl rfl hone ?_|(at_builtin;refine ZM Tryz.TY rfl _ _ rfl (w2.heap.size+2) _ _ _ rfl hlit _ _ _ rfl hrd (N8 _) (N7 _) (by omega) (Nat.le_of_lt (by rw [aA,hs1];omega)) ?_;intro a6 c6 wq h6 O4))
 have XZ:=au U1 (.cells #[.string x.part.name, .int .i64 x.part.ty, .string x.aI.name, .int .i64 x.aI.ty] 23)
 have Ki:=au U2 (.cells #[.string x.part.name, .int .i64 x.part.ty, .string x.aI.name, .int .i64 x.aI.ty] 23)
 have hW0:=(O4.block _ (aC Ki) (fun e=>by have:=(hlit.lt _ e.symm).1;omega)).trans Ki
 have hW7:=(O4.block _ (aC XZ) (fun e=>by have:=(hlit.lt _ e.symm).1;omega)).trans XZ
 have uS:=below_app yZ yZ.size O4 (fun g2 hg2=>by have:=(hlit.lt g2 hg2).1;have:=hB2.size;omega)
 have d0:wq.cell? ⟨w2.heap.size,1,none⟩=some (.string x.name):=by rw [aj hW0];rfl
 have d1:wq.cell? ⟨w2.heap.size+1,2,none⟩=some (.string x.part.name):=by rw [aj hW7];rfl
 have d2:wq.cell? ⟨w2.heap.size+1,4,none⟩=some (.string x.aI.name):=by rw [aj hW7];rfl
 have hrow:Rd wq (.slice a6 (x.part::x.aI::x.aN).length c6) (x.part::x.aI::x.aN).length (iM (x.part::x.aI::x.aN)):=by
  have e:(x.part::x.aI::x.aN).length=2+x.aN.length:=by simp;omega
  rw [e];exact Rd.own h6
 have HJc:Hid (∀(w' :World),Below wq.heap.size wq w' →Calls Tryz.prog 49 #[.slice a6 (2+x.aN.length) c6, .string (⟨#[44,32]⟩:ByteArray), .func (.func 50) #[] #[]] w' (fun e w'' =>e= .returned (.string Jc)∧Below w'.heap.size w' w'')):=fun w' hB' =>by
  rw [←HJ.out]
  have e:(x.part::x.aI::x.aN).length=2+x.aN.length:=by simp;omega
  have:=XJ (T:=fun q=>aG (gZ q)) (sep:=(⟨#[44,32]⟩:ByteArray)) XY.out (hrow.below hB') (fun q hq w'' _=>NJ q w'' (HCL.out q hq)) (by
   have:=gu (⟨#[44,32]⟩:ByteArray) ((x.part::x.aI::x.aN).map fun q=>aG (gZ q)) 1000005 (fun y hy=>by obtain ⟨q,hq,rfl⟩:=List.mem_map.1 hy;exact BO q (HCL.out q hq))
   rw [List.length_map]at this
   exact Nat.le_trans this (Nat.le_trans (Nat.mul_le_mul XY.out (Nat.le_refl _)) (by decide)))
  rw [e]at this;exact this
 clear HC HCL XY HJ ZN hof hbl hB1 hb2 hB2 hone wZ hB3 hB4 yZ hV1 hV hs0 hs1 U1 U2 n2 n3 n4 n5 n6 n6' hlit hrd HT9 XZ Ki hW0 hW7 hrow h6 O4 m4 m5 m6 m7 m8 m9 m10
 go_wp2_with fail
 have hS:Below wq.heap.size wq wq∧wq.cell? ⟨w2.heap.size,1,none⟩=some (.string x.name)∧wq.cell? ⟨w2.heap.size+1,2,none⟩=some (.string x.part.name)∧wq.cell? ⟨w2.heap.size+1,4,none⟩=some (.string x.aI.name):=⟨Below.refl _ _,d0,d1,d2⟩
 go_region_held3 (fun w' =>Below wq.heap.size wq w' ∧w'.cell? ⟨w2.heap.size,1,none⟩=some (.string x.name)∧w'.cell? ⟨w2.heap.size+1,2,none⟩=some (.string x.part.name)∧w'.cell? ⟨w2.heap.size+1,4,none⟩=some (.string x.aI.name)) (first|exact RS (by assumption) abI|exact ⟨(Below.refl _ _).drew,d0,d1,d2⟩)
  (first
  |(go_at_call 49;with_reducible refine (HJc.out _ (And.left (by assumption))).mono ?_;rintro e wJc ⟨rfl,abI⟩))
 go_wp2_with fail
 go_ret
 rw [←HE.out]
 exact ⟨rfl,uS.trans (Below.mono (And.left (by assumption)) uS.size)⟩
end Go.Proofs.YtfbgdjcnlnfoaaaGreatDoor
