/- Parts of the proof, joined: LnA. -/
import Derived.Test.YtfbgdjcnlnfoaaaGreatDoorB04
import Derived.Test.YtfbgdjcnlnfoaaaGreatDoorCPIa
import Derived.Test.YtfbgdjcnlnfoaaaGreatDoorRows
namespace Go.Proofs.YtfbgdjcnlnfoaaaGreatDoor
open Go.RowKit
open aH
structure LK where
 ws:World
 L:Nat
 b:Nat
 hG:Gp ws
 hb:ws.heap.size≤b
 hL:b<L
def qo (w:World) (v:Value) (zs:List Int):Prop:=∃a cap,v= .slice a zs.length cap∧zs.length≤cap∧cap≤9223372036854775807∧(∀z∈zs,-9223372036854775808≤z∧z≤9223372036854775807)∧(0<zs.length→∃g off,a=some ⟨g,off,none⟩∧g<w.heap.size∧∀j (h:j<zs.length),w.cell? ⟨g,off+j,none⟩=some (.int .i64 zs[j]))
def LQ (K:LK) (w:World):Prop:=
 K.L≤w.heap.size∧Below K.ws.heap.size K.ws w∧∃V zs,w.heap[K.b]? =some (.cells #[V] 55 (0,0))∧qo K.ws V zs
def dM (K:LK) (w0 w:World):Prop:=LQ K w∧w0.grownBy w (some K.b)∧K.L≤w0.heap.size
section
variable {K:LK}{w0 w w' :World}
theorem LQ.glob (h:LQ K w):Gp w:=K.hG.below h.2.1
theorem LQ.le (h:LQ K w):K.L≤w.heap.size:=h.1
theorem LQ.lt (h:LQ K w):K.b<w.heap.size:=Nat.lt_of_lt_of_le K.hL h.1
theorem LQ.keep (h:LQ K w) (hs:w.heap.size≤w'.heap.size) (hb:w'.heap[K.b]? =w.heap[K.b]?) (hw:Below K.ws.heap.size K.ws w'):LQ K w' :=by
 obtain ⟨h0,hB,V,zs,h1,h2⟩:=h
 exact ⟨Nat.le_trans h0 hs,hw,V,zs,by rw [hb];exact h1,h2⟩
theorem LQ.below (h:LQ K w) (hb:Below w.heap.size w w'):LQ K w' :=
 h.keep hb.size (hb.block K.b h.lt) (h.2.1.trans (hb.mono h.2.1.size))
theorem LQ.own (h:LQ K w) {k:Nat}(hk:K.L≤k) (o:Nat) (u:Value):LQ K (w.setCell ⟨k,o,none⟩ u):=
 h.keep (by simp [World.setCell]) (Below.heap_setCell _ _ _ _ (by show K.b≠k;have:=K.hL;omega)) (h.2.1.trans ⟨rfl,rfl,rfl,by simp [World.setCell],fun i hi=>Below.heap_setCell _ _ _ _ (by show i≠k;have:=K.hb;have:=K.hL;omega)⟩)
theorem LQ.set (h:LQ K w) {V:Value}{zs:List Int}(hv:qo K.ws V zs):LQ K (w.setCell ⟨K.b,0,none⟩ V):=by
 obtain ⟨h0,hB,V0,z0,h1,h2⟩:=h
 refine ⟨by simpa [World.setCell]using h0,hB.trans ⟨rfl,rfl,rfl,by simp [World.setCell],fun i hi=>Below.heap_setCell _ _ _ _ (by show i≠K.b;have:=K.hb;omega)⟩,V,zs,?_,hv⟩
 rw [bU h1 0 V];rfl
theorem dM.refl (h:LQ K w):dM K w w:=⟨h,o8 _ _,h.1⟩
theorem dM.trans (h:dM K w0 w) (k:dM K w w'):dM K w0 w' :=⟨k.1,aK h.2.1 k.2.1,h.2.2⟩
theorem dM.below (h:dM K w0 w) (hb:Below w.heap.size w w'):dM K w0 w' :=⟨h.1.below hb,aK h.2.1 (jB hb _),h.2.2⟩
theorem dM.drewN (h:dM K w0 w) (n:Nat):dM K w0 (w.drewN n):=h.below (aH.below_drewN (Below.refl _ _) n)
theorem dM.alloc (h:dM K w0 w) (o:Obj):dM K w0 (w.alloc o):=h.below ((Below.refl _ _).alloc (Nat.le_refl _) _)
theorem dM.size (h:dM K w0 w):w0.heap.size≤w.heap.size:=h.2.1.size
theorem dM.own (h:dM K w0 w) {k:Nat}(hk:w0.heap.size≤k) (o:Nat) (u:Value):dM K w0 (w.setCell ⟨k,o,none⟩ u):=
 ⟨h.1.own (Nat.le_trans h.2.2 hk) o u,⟨h.2.1.os,h.2.1.tape,h.2.1.output,by have:=h.2.1.size;simpa [World.setCell]using this,fun i hi hr=>by
  rw [Below.heap_setCell _ _ _ _ (by show i≠k;omega)];exact h.2.1.block i hi hr⟩,h.2.2⟩
theorem dM.set (h:dM K w0 w) {V:Value}{zs:List Int}(hv:qo K.ws V zs):dM K w0 (w.setCell ⟨K.b,0,none⟩ V):=⟨h.1.set hv,aK h.2.1 (jd _ _ _ _),h.2.2⟩
theorem dM.grown (h:dM K w0 w) {r:Option Nat}(hg:w.grownBy w' r) (hr:∀g,r=some g→w0.heap.size≤g):dM K w0 w' :=by
 have hK:=h.2.2
 have hL:=K.hL
 have hs:=h.2.1.size
 have hw:=K.hb
 refine ⟨h.1.keep hg.size (hg.block K.b (by have:=h.1.lt;omega) (fun e=>by have:=hr K.b e.symm;omega)) (h.1.2.1.trans ⟨hg.os,hg.tape,hg.output,hg.size,fun i hi=>hg.block i (by have:=h.1.lt;omega) (fun e=>by have:=hr i e.symm;omega)⟩),?_,hK⟩
 exact ⟨hg.os.trans h.2.1.os,hg.tape.trans h.2.1.tape,hg.output.trans h.2.1.output,Nat.le_trans hs hg.size,fun i hi hne=>(hg.block i (by omega) (fun e=>by have:=hr i e.symm;omega)).trans (h.2.1.block i hi hne)⟩
theorem dM.blk (h:dM K w w') {k:Nat}{o:Obj}(hk:w.heap[k]? =some o) (hkb:K.L≤k):w'.heap[k]? =some o:=by
 rw [h.2.1.block k (aC hk) (fun e=>by cases e;have:=K.hL;omega)];exact hk
theorem dM.row (h:dM K w w') {base:Nat}{e:TypeId}{size:Nat}{v:Value}{n:Nat}{xs:List Value}(hr:w.ownsRow base e size v n xs) (hb:K.L≤base):w'.ownsRow base e size v n xs:=
 o9 hr h.2.1 (by have:=K.hL;omega)
theorem dM.base (h:dM K w w'):Below K.b w w' :=⟨h.2.1.os,h.2.1.tape,h.2.1.output,h.2.1.size,fun i hi=>h.2.1.block i (by have:=h.2.2;have:=K.hL;omega) (fun e=>by cases e;omega)⟩
end
end Go.Proofs.YtfbgdjcnlnfoaaaGreatDoor
