/- Parts of a proof. -/
import Derived.Test.YtnngbhpeeakfaaaGreatDoorB02
import Derived.Test.YtnngbhpeeakfaaaGreatDoorB17
namespace Go.Proofs.YtnngbhpeeakfaaaGreatDoor
open Go.Proofs.Tryz
open Go.RowKit
open aK
structure Pv where
 x:Sx
 tc:Value
 c:Value
 s:Value
 wv:Value
def Pv.arr (p:Pv):Array Value:=aP p.x p.tc p.c p.s p.wv au
def Pv.val (p:Pv):Value:= .iface 330 (.agg p.arr)
def gI (w:World) (base:Nat) (l:List Pv):Prop:=∀p∈l,gB w base p.x p.tc p.c p.s p.wv
def o8 (K:PK) (w:World) (nd:Tx.Nd) (σ:Ps):Ending→World→Prop:=
 match nd with
 | .plain x=>gD K w 280 x σ
 | .change x=>gD K w 330 x σ
 | .batch l=>fun e w' =>∃(L:List Pv) (a:Option Addr) (cap:Nat),L.map Pv.x=l∧e= .returned (.iface 334 (.agg #[.slice a L.length cap]))∧Did K w σ w' ∧w'.ownsRow w.heap.size 200 1 (.slice a L.length cap) L.length (L.map Pv.val)∧gI w' w.heap.size L
theorem gB.map {w w' :World}{base:Nat}{x:Sx}{tc c s wv:Value}(h:gB w base x tc c s wv) (f:∀(e:TypeId) (size n:Nat) (u:Value) (xs:List Value),(e=24∨e=9∨e=43)→w.ownsRow base e size u n xs→w'.ownsRow base e size u n xs):gB w' base x tc c s wv:=
 ⟨f _ _ _ _ _ (.inl rfl) h.1,f _ _ _ _ _ (.inr (.inl rfl)) h.2.1,f _ _ _ _ _ (.inr (.inr rfl)) h.2.2.1,f _ _ _ _ _ (.inr (.inr rfl)) h.2.2.2⟩
theorem gB.mono {w:World}{base base' :Nat}{x:Sx}{tc c s wv:Value}(h:gB w base x tc c s wv) (hb:base' ≤base):gB w base' x tc c s wv:=
 ⟨bH h.1 hb,bH h.2.1 hb,bH h.2.2.1 hb,bH h.2.2.2 hb⟩
theorem gI.map {w w' :World}{base:Nat}{L:List Pv}(h:gI w base L) (f:∀(e:TypeId) (size n:Nat) (u:Value) (xs:List Value),(e=24∨e=9∨e=43)→w.ownsRow base e size u n xs→w'.ownsRow base e size u n xs):gI w' base L:=fun p hp=>(h p hp).map f
theorem gI.did {K:PK}{σ:Ps}{w w' :World}{base:Nat}{L:List Pv}(h:gI w base L) (hd:Did K w σ w') (hb:K.L≤base):gI w' base L:=h.map fun _ _ _ _ _ _ hr=>hd.row hr hb
theorem gI.alloc {w:World}{base:Nat}{L:List Pv}(h:gI w base L) (o:Obj):gI (w.alloc o) base L:=h.map fun _ _ _ _ _ _ hr=>hr.alloc o
theorem uZ {T e:TypeId}(hT:T≠24∧T≠9∧T≠43) (he:e=24∨e=9∨e=43):T≠e:=by
 rcases he with rfl|rfl|rfl
 · exact hT.1
 · exact hT.2.1
 · exact hT.2.2
theorem gI.set {w:World}{base bx:Nat}{C:Array Value}{T:TypeId}{fr:Nat×Nat}{L:List Pv}(h:gI w base L) (hx:w.heap[bx]? =some (.cells C T fr)) (hT:T≠24∧T≠9∧T≠43) (o:Nat) (v:Value):gI (w.setCell ⟨bx,o,none⟩ v) base L:=
 h.map fun _ _ _ _ _ he hr=>aZ hr hx (fun e2=>uZ hT he e2.symm) o v
theorem gI.snoc {w:World}{base:Nat}{L:List Pv}(h:gI w base L) {p:Pv}(hp:gB w base p.x p.tc p.c p.s p.wv):gI w base (L++ [p]):=by
 intro q hq;rcases List.mem_append.1 hq with hq|hq
 · exact h q hq
 · rw [List.mem_singleton.1 hq];exact hp
theorem Tryz.aa5:QH prog 332 200 .nilIface 1 16:=uN underlying332 (by kernel_rfl) rfl (by decide)
theorem M9 (V:Array Value) (w:World):(Instr.typeAssert (.iface 330 (.agg V)) 200 330 true).run prog w= .ok (.tuple #[.agg V, .bool true]) w:=by kernel_rfl
theorem Vr (V:Array Value) (w:World):(Instr.typeAssert (.iface 280 (.agg V)) 200 330 true).run prog w= .ok (.tuple #[.agg bC, .bool false]) w:=by kernel_rfl
theorem Vs (V:Array Value) (w:World):(Instr.typeAssert (.iface 334 (.agg V)) 200 330 true).run prog w= .ok (.tuple #[.agg bC, .bool false]) w:=by kernel_rfl
end Go.Proofs.YtnngbhpeeakfaaaGreatDoor
