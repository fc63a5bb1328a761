/- Parts of a proof. -/
import Derived.Test.YtcgadodckoalnaaGreatDoorB02
import Derived.Test.YtcgadodckoalnaaGreatDoorB16
namespace Go.Proofs.YtcgadodckoalnaaGreatDoor
open Go.Proofs.Tryz
open Go.RowKit
open aN
structure Pv where
 x:Sx
 tc:Value
 c:Value
 s:Value
 wv:Value
def Pv.arr (p:Pv):Array Value:=aG p.x p.tc p.c p.s p.wv ak
def Pv.val (p:Pv):Value:= .iface 133 (.agg p.arr)
def fO (w:World) (base:Nat) (l:List Pv):Prop:=∀p∈l,eX w base p.x p.tc p.c p.s p.wv
def rO (K:PK) (w:World) (nd:Tx.Nd) (σ:Ps):Ending→World→Prop:=
 match nd with
 | .plain x=>iH K w 100 x σ
 | .change x=>iH K w 133 x σ
 | .batch l=>fun e w' =>∃(L:List Pv) (a:Option Addr) (cap:Nat),L.map Pv.x=l∧e= .returned (.iface 138 (.agg #[.slice a L.length cap]))∧Did K w σ w' ∧w'.ownsRow w.heap.size 47 1 (.slice a L.length cap) L.length (L.map Pv.val)∧fO w' w.heap.size L
theorem eX.map {w w' :World}{base:Nat}{x:Sx}{tc c s wv:Value}(h:eX w base x tc c s wv) (f:∀(e:TypeId) (size n:Nat) (u:Value) (xs:List Value),(e=23∨e=9∨e=62)→w.ownsRow base e size u n xs→w'.ownsRow base e size u n xs):eX w' base x tc c s wv:=
 ⟨f _ _ _ _ _ (.inl rfl) h.1,f _ _ _ _ _ (.inr (.inl rfl)) h.2.1,f _ _ _ _ _ (.inr (.inr rfl)) h.2.2.1,f _ _ _ _ _ (.inr (.inr rfl)) h.2.2.2⟩
theorem eX.mono {w:World}{base base' :Nat}{x:Sx}{tc c s wv:Value}(h:eX w base x tc c s wv) (hb:base' ≤base):eX w base' x tc c s wv:=
 ⟨aR h.1 hb,aR h.2.1 hb,aR h.2.2.1 hb,aR h.2.2.2 hb⟩
theorem fO.map {w w' :World}{base:Nat}{L:List Pv}(h:fO w base L) (f:∀(e:TypeId) (size n:Nat) (u:Value) (xs:List Value),(e=23∨e=9∨e=62)→w.ownsRow base e size u n xs→w'.ownsRow base e size u n xs):fO w' base L:=fun p hp=>(h p hp).map f
theorem fO.did {K:PK}{σ:Ps}{w w' :World}{base:Nat}{L:List Pv}(h:fO w base L) (hd:Did K w σ w') (hb:K.L≤base):fO w' base L:=h.map fun _ _ _ _ _ _ hr=>hd.row hr hb
theorem fO.alloc {w:World}{base:Nat}{L:List Pv}(h:fO w base L) (o:Obj):fO (w.alloc o) base L:=h.map fun _ _ _ _ _ _ hr=>hr.alloc o
theorem o8 {T e:TypeId}(hT:T≠23∧T≠9∧T≠62) (he:e=23∨e=9∨e=62):T≠e:=by
 rcases he with rfl|rfl|rfl
 · exact hT.1
 · exact hT.2.1
 · exact hT.2.2
theorem fO.set {w:World}{base bx:Nat}{C:Array Value}{T:TypeId}{fr:Nat×Nat}{L:List Pv}(h:fO w base L) (hx:w.heap[bx]? =some (.cells C T fr)) (hT:T≠23∧T≠9∧T≠62) (o:Nat) (v:Value):fO (w.setCell ⟨bx,o,none⟩ v) base L:=
 h.map fun _ _ _ _ _ he hr=>aL hr hx (fun e2=>o8 hT he e2.symm) o v
theorem fO.snoc {w:World}{base:Nat}{L:List Pv}(h:fO w base L) {p:Pv}(hp:eX w base p.x p.tc p.c p.s p.wv):fO w base (L++ [p]):=by
 intro q hq;rcases List.mem_append.1 hq with hq|hq
 · exact h q hq
 · rw [List.mem_singleton.1 hq];exact hp
theorem Tryz.adL:X0 prog 136 47 .nilIface 1 16:=DC underlying136 (by kernel_rfl) rfl (by decide)
theorem QF (V:Array Value) (w:World):(Instr.typeAssert (.iface 133 (.agg V)) 47 133 true).run prog w= .ok (.tuple #[.agg V, .bool true]) w:=by kernel_rfl
theorem YJ (V:Array Value) (w:World):(Instr.typeAssert (.iface 100 (.agg V)) 47 133 true).run prog w= .ok (.tuple #[.agg bf, .bool false]) w:=by kernel_rfl
theorem YK (V:Array Value) (w:World):(Instr.typeAssert (.iface 138 (.agg V)) 47 133 true).run prog w= .ok (.tuple #[.agg bf, .bool false]) w:=by kernel_rfl
end Go.Proofs.YtcgadodckoalnaaGreatDoor
