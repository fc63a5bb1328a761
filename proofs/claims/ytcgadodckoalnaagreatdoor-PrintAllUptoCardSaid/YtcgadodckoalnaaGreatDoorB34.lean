/- Parts of a proof. -/
import Derived.StillTailTactics
import Derived.Deep.Cut
import Derived.Test.YtcgadodckoalnaaGreatDoorB06
import Derived.Test.YtcgadodckoalnaaGreatDoorB07
import Derived.Test.YtcgadodckoalnaaGreatDoorB12
import Derived.Test.YtcgadodckoalnaaGreatDoorB13
import Derived.Test.YtcgadodckoalnaaGreatDoorB20
set_option maxHeartbeats 4000000
set_option maxRecDepth 100000
namespace Go.Proofs.YtcgadodckoalnaaGreatDoor
open Go.Proofs.Tryz
open Go.RowKit
open aN
def RQ (K:PK) (w:World) (σ:Ps):Prop:=
 K.L≤w.heap.size∧Below K.ws.heap.size K.ws w∧∃a cap,w.heap[K.b]? =some (.cells #[.slice a K.X.T.length cap, .int .i64 σ.i, .int .i64 K.X.en, .int .i64 σ.fT] 87 (0,0))∧
  (0<K.X.T.length→∃g,a=some ⟨g,0,none⟩∧g≠K.b∧g<K.L∧∀j u,(nE K.X.T)[j]? =some u→w.cell? ⟨g,j,none⟩=some u)∧K.X.Ok
def dQ (K:PK) (w0:World) (σ:Ps) (w:World):Prop:=RQ K w σ∧w0.grownBy w (some K.b)∧K.L≤w0.heap.size
section
variable {K:PK}{w0 w w' :World}{σ σ' :Ps}
theorem RQ.glob (h:RQ K w σ):Gp w:=K.hG.below h.2.1
theorem RQ.le (h:RQ K w σ):K.L≤w.heap.size:=h.1
theorem RQ.ok (h:RQ K w σ):K.X.Ok:=by obtain ⟨_,_,_,_,_,_,hok⟩:=h;exact hok
theorem RQ.lt (h:RQ K w σ):K.b<w.heap.size:=Nat.lt_of_lt_of_le K.hL h.1
theorem RQ.keep (h:RQ K w σ) (hs:w.heap.size≤w'.heap.size) (hb:∀k,k<K.L→w'.heap[k]? =w.heap[k]?) (hw:Below K.ws.heap.size K.ws w'):RQ K w' σ:=by
 obtain ⟨h0,hB,a,cap,h1,h2,hok⟩:=h;refine ⟨Nat.le_trans h0 hs,hw,a,cap,by rw [hb K.b K.hL];exact h1,fun hp=> ?_,hok⟩;obtain ⟨g,e1,e2,e3,e4⟩:=h2 hp;refine ⟨g,e1,e2,e3,fun j u hj=> ?_⟩;rw [←e4 j u hj];unfold World.cell?;rw [hb g e3]
theorem RQ.below (h:RQ K w σ) (hb:Below w.heap.size w w'):RQ K w' σ:=
 h.keep hb.size (fun k hk=>hb.block k (Nat.lt_of_lt_of_le hk h.1)) (h.2.1.trans (hb.mono h.2.1.size))
theorem RQ.own (h:RQ K w σ) {k:Nat}(hk:K.L≤k) (o:Nat) (u:Value):RQ K (w.setCell ⟨k,o,none⟩ u) σ:=
 h.keep (by simp [World.setCell]) (fun j hj=>Below.heap_setCell _ _ _ _ (by show j≠k;omega)) (h.2.1.trans ⟨rfl,rfl,rfl,by simp [World.setCell],fun i hi=>Below.heap_setCell _ _ _ _ (by show i≠k;have:=K.hb;have:=K.hL;omega)⟩)
theorem RQ.set (h:RQ K w σ) (j:Nat) (v:Value) (σ' :Ps) (hv:(#[Value.slice none 0 0, .int .i64 σ.i, .int .i64 K.X.en, .int .i64 σ.fT]:Array Value).setIfInBounds j v= #[Value.slice none 0 0, .int .i64 σ'.i, .int .i64 K.X.en, .int .i64 σ'.fT]) (hj:j=1∨j=3):RQ K (w.setCell ⟨K.b,j,none⟩ v) σ' :=by
 obtain ⟨h0,hB,a,cap,h1,h2,hok⟩:=h;refine ⟨by simpa [World.setCell]using h0,hB.trans ⟨rfl,rfl,rfl,by simp [World.setCell],fun i hi=>Below.heap_setCell _ _ _ _ (by show i≠K.b;have:=K.hb;omega)⟩,a,cap, ?_,fun hp=> ?_,hok⟩
 · rw [dB h1 j v];rcases hj with rfl|rfl
   · simp at hv⊢;exact ⟨hv.1,hv.2⟩
   · simp at hv⊢;exact ⟨hv.1,hv.2⟩
 obtain ⟨g,e1,e2,e3,e4⟩:=h2 hp;refine ⟨g,e1,e2,e3,fun k u hk=> ?_⟩;rw [←e4 k u hk];unfold World.cell?;rw [Below.heap_setCell _ _ _ _ e2]
theorem RQ.step (h:RQ K w σ):RQ K (w.setCell ⟨K.b,1,none⟩ (.int .i64 ((σ.i:Int)+1))) σ.step:=
 h.set 1 _ _ (by simp [Ps.step,Ps.fT]) (.inl rfl)
theorem RQ.bad (h:RQ K w σ) (a:Nat):RQ K (w.setCell ⟨K.b,3,none⟩ (.int .i64 a)) ⟨σ.i,some a⟩:=
 h.set 3 _ _ (by simp [Ps.fT]) (.inr rfl)
theorem RQ.cells (h:RQ K w σ):∃a cap,w.cell? ⟨K.b,0,none⟩=some (.slice a K.X.T.length cap)∧w.cell? ⟨K.b,1,none⟩=some (.int .i64 σ.i)∧w.cell? ⟨K.b,2,none⟩=some (.int .i64 K.X.en)∧w.cell? ⟨K.b,3,none⟩=some (.int .i64 σ.fT)∧
 w.frozen? ⟨K.b,1,none⟩=false∧w.frozen? ⟨K.b,3,none⟩=false∧(0<K.X.T.length→∃g,a=some ⟨g,0,none⟩∧∀j u,(nE K.X.T)[j]? =some u→w.cell? ⟨g,j,none⟩=some u):=by
 obtain ⟨_,_,a,cap,h1,h2,_⟩:=h;refine ⟨a,cap,by rw [au h1];rfl,by rw [au h1];rfl,by rw [au h1];rfl,by rw [au h1];rfl,aj h1 1,aj h1 3,fun hp=> ?_⟩;obtain ⟨g,e1,_,_,e4⟩:=h2 hp;exact ⟨g,e1,e4⟩
theorem dQ.refl (h:RQ K w σ):dQ K w σ w:=⟨h,vR _ _,h.1⟩
theorem dQ.trans (h:dQ K w0 σ w) (k:dQ K w σ' w'):dQ K w0 σ' w' :=⟨k.1,aO h.2.1 k.2.1,h.2.2⟩
theorem dQ.below (h:dQ K w0 σ w) (hb:Below w.heap.size w w'):dQ K w0 σ w' :=⟨h.1.below hb,aO h.2.1 (lu hb _),h.2.2⟩
theorem dQ.drewN (h:dQ K w0 σ w) (n:Nat):dQ K w0 σ (w.drewN n):=h.below (aN.below_drewN (Below.refl _ _) n)
theorem dQ.alloc (h:dQ K w0 σ w) (o:Obj):dQ K w0 σ (w.alloc o):=h.below ((Below.refl _ _).alloc (Nat.le_refl _) _)
theorem dQ.size (h:dQ K w0 σ w):w0.heap.size≤w.heap.size:=h.2.1.size
theorem dQ.own (h:dQ K w0 σ w) {k:Nat}(hk:w0.heap.size≤k) (o:Nat) (u:Value):dQ K w0 σ (w.setCell ⟨k,o,none⟩ u):=
 ⟨h.1.own (Nat.le_trans h.2.2 hk) o u,⟨h.2.1.os,h.2.1.tape,h.2.1.output,by have:=h.2.1.size;simpa [World.setCell]using this,fun i hi hr=>by
  rw [Below.heap_setCell _ _ _ _ (by show i≠k;omega)];exact h.2.1.block i hi hr⟩,h.2.2⟩
theorem dQ.step (h:dQ K w0 σ w):dQ K w0 σ.step (w.setCell ⟨K.b,1,none⟩ (.int .i64 ((σ.i:Int)+1))):=⟨h.1.step,aO h.2.1 (j6 _ _ _ _),h.2.2⟩
theorem dQ.bad (h:dQ K w0 σ w) (a:Nat):dQ K w0 ⟨σ.i,some a⟩ (w.setCell ⟨K.b,3,none⟩ (.int .i64 a)):=⟨h.1.bad a,aO h.2.1 (j6 _ _ _ _),h.2.2⟩
theorem dQ.blk (h:dQ K w σ' w') {k:Nat}{o:Obj}(hk:w.heap[k]? =some o) (hkb:K.L≤k):w'.heap[k]? =some o:=by
 rw [h.2.1.block k (aD hk) (fun e=>by cases e;have:=K.hL;omega)];exact hk
theorem dQ.row (h:dQ K w σ' w') {base:Nat}{e:TypeId}{size:Nat}{v:Value}{n:Nat}{xs:List Value}(hr:w.ownsRow base e size v n xs) (hb:K.L≤base):w'.ownsRow base e size v n xs:=
 nZ hr h.2.1 (by have:=K.hL;omega)
end
abbrev pR (K:PK) (w:World) (v:Value) (σ:Ps):Ending→World→Prop:=fun e w' =>e= .returned v∧dQ K w σ w'
theorem iR {K:PK}{w:World}{σ:Ps}(h:RQ K w σ):
 Calls prog 54 #[.pointer (some ⟨K.b,0,none⟩)] w fun e w' =>e= .returned (.int .i64 (K.X.here σ))∧∃m,w' =w.drewN m:=by
 obtain ⟨a,cap,c0,c1,c2,c3,_,_,hc⟩:=h.cells;by_cases hlt:σ.i<K.X.T.length
 · obtain ⟨g,rfl,hg⟩:=hc (by omega);have q0:(σ.i:Int)<(K.X.T.length:Int):=by omega
   have q1:(0:Int)≤(σ.i:Int):=by omega
   have c4:w.cell? ⟨g,σ.i*4+3,none⟩=some (.int .i64 K.X.T[σ.i].at_):=hg _ _ (by rw [iy _ σ.i 3 hlt (by omega)];rfl);have HE:Hid (K.X.here σ=K.X.T[σ.i].at_):=by show _=_;unfold Tx.here;rw [List.getElem?_eq_getElem hlt]
   clear hc hg;generalize K.X.T[σ.i]=t at *;go_enter func54,ntmps54;go_wp2_with fail;go_quiet (fail);go_wp2_with fail;go_quiet (fail);go_wp2_with fail;go_ret;exact ⟨qI (by rw [HE.out]),_,World.drewN_drewN _ _ _⟩
 · have q0:¬(σ.i:Int)<(K.X.T.length:Int):=by omega
   have HE:Hid (K.X.here σ=K.X.en):=by show _=_;unfold Tx.here;rw [List.getElem?_eq_none (by omega)]
   clear hc;go_enter func54,ntmps54;go_wp2_with fail;go_quiet (fail);go_wp2_with fail;go_ret;exact ⟨qI (by rw [HE.out]),_,rfl⟩
theorem fU {K:PK}{w:World}{σ:Ps}(h:RQ K w σ) (a:Nat):
 Calls prog 53 #[.pointer (some ⟨K.b,0,none⟩), .int .i64 a] w (pR K w (.tuple #[]) (σ.wrong a)):=by
 obtain ⟨_,_,_,_,_,c3,_,f3,_⟩:=h.cells;have HD:=dQ.refl h;cases hb:σ.bad with
 |none=>
  have hbi:σ.fT= -1:=by unfold Ps.fT;rw [hb]
  rw [hbi]at c3;have HE:Hid (σ.wrong a=⟨σ.i,some a⟩):=by show _=_;unfold Ps.wrong;rw [hb]
  clear hbi;go_enter func53,ntmps53;go_wp2_with fail
  go_end0
  rw [HE.out];exact ⟨rfl,HD.bad a⟩
 |some x=>
  have hbi:σ.fT=x:=by unfold Ps.fT;rw [hb]
  rw [hbi]at c3;have q0:¬((x:Int)<0):=by omega
  have HE:Hid (σ.wrong a=σ):=by show _=_;unfold Ps.wrong;rw [hb]
  clear hbi;go_enter func53,ntmps53;go_wp2_with fail
  go_end0
  rw [HE.out];exact ⟨rfl,HD⟩
section
variable {K:PK}{w0 w w1 w' :World}{σ σ' :Ps}
theorem dQ.grown (h:dQ K w0 σ w) {r:Option Nat}(hg:w.grownBy w' r) (hr:∀g,r=some g→w0.heap.size≤g):dQ K w0 σ w' :=by
 have hK:=h.2.2;have hL:=K.hL;have hs:=h.2.1.size;have hw:=K.hb;refine ⟨h.1.keep hg.size (fun k hk=>hg.block k (by have:=h.1.le;omega) (fun e=>by have:=hr k e.symm;omega)) (h.1.2.1.trans ⟨hg.os,hg.tape,hg.output,hg.size,fun i hi=>hg.block i (by have:=h.1.lt;omega) (fun e=>by have:=hr i e.symm;omega)⟩), ?_,hK⟩;exact ⟨hg.os.trans h.2.1.os,hg.tape.trans h.2.1.tape,hg.output.trans h.2.1.output,Nat.le_trans hs hg.size,fun i hi hne=>(hg.block i (by omega) (fun e=>by have:=hr i e.symm;omega)).trans (h.2.1.block i hi hne)⟩
end
theorem FH {K:PK}{w:World}{σ:Ps}(h:RQ K w σ) (k:Int) (s:ByteArray):
 Calls prog 95 #[.pointer (some ⟨K.b,0,none⟩), .int .i64 k, .string s] w fun e w' =>e= .returned (.bool (K.X.isK σ k s))∧∃m,w' =w.drewN m:=by
 obtain ⟨a,cap,c0,c1,c2,c3,_,_,hc⟩:=h.cells;cases hb:σ.bad with
 |some x=>
  have hbi:σ.fT=x:=by unfold Ps.fT;rw [hb]
  rw [hbi]at c3;have hd:decide ((x:Int)<0)=false:=decide_eq_false (by omega);have HE:Hid (K.X.isK σ k s=false):=by show _=_;unfold Tx.isK Tx.next;rw [hb]
  clear hbi hc h hb;go_enter func95,ntmps95;go_wp2_with fail;go_quiet (fail);go_wp2_with fail;go_ret;exact ⟨cB (by rw [HE.out]),_,rfl⟩
 |none=>
  have hbi:σ.fT= -1:=by unfold Ps.fT;rw [hb]
  rw [hbi]at c3;by_cases hlt:σ.i<K.X.T.length
  · obtain ⟨g,rfl,hg⟩:=hc (by omega);have hd:decide ((σ.i:Int)<(K.X.T.length:Int))=true:=decide_eq_true (by omega);have q0:(σ.i:Int)<(K.X.T.length:Int):=by omega
    have q1:(0:Int)≤(σ.i:Int):=by omega
    have d0:w.cell? ⟨g,σ.i*4,none⟩=some (.int .i64 K.X.T[σ.i].kind):=hg _ _ (by have:=iy K.X.T σ.i 0 hlt (by omega);rw [Nat.add_zero]at this;rw [this];rfl);have d1:w.cell? ⟨g,σ.i*4+1,none⟩=some (.string K.X.T[σ.i].s):=hg _ _ (by rw [iy _ σ.i 1 hlt (by omega)];rfl)
    have HE:Hid (K.X.isK σ k s=((K.X.T[σ.i].kind==k)&&jf K.X.T[σ.i].s s)):=by
     show _=_;unfold Tx.isK Tx.next;rw [hb,List.getElem?_eq_getElem hlt];simp only;by_cases hk:K.X.T[σ.i].kind=k
     · rw [if_pos hk,beq_iff_eq.2 hk];rfl
     · rw [if_neg hk,beq_eq_false_iff_ne.2 hk];rfl
    have e1:=dR K.X.T[σ.i].s s;clear hc hg h hb hbi;generalize K.X.T[σ.i]=t at *;generalize jf t.s s=q at *;cases hk:(t.kind==k)with
    |true=>
     rw [hk]at HE;go_enter func95,ntmps95;go_wp2_with fail;go_quiet (fail);go_wp2_with fail;go_ret;exact ⟨cB (by rw [HE.out];simp),_,rfl⟩
    |false=>
     rw [hk]at HE;go_enter func95,ntmps95;go_wp2_with fail;go_quiet (fail);go_wp2_with fail;go_ret;exact ⟨cB (by rw [HE.out];simp),_,rfl⟩
  · have hd:decide ((σ.i:Int)<(K.X.T.length:Int))=false:=decide_eq_false (by omega);have HE:Hid (K.X.isK σ k s=false):=by show _=_;unfold Tx.isK Tx.next;rw [hb,List.getElem?_eq_none (by omega)]
    clear hc h hb hbi;go_enter func95,ntmps95;go_wp2_with fail;go_quiet (fail);go_wp2_with fail;go_ret;exact ⟨cB (by rw [HE.out]),_,rfl⟩
theorem bB {K:PK}{w:World}{σ:Ps}(h:RQ K w σ) (s:ByteArray):
 Calls prog 52 #[.pointer (some ⟨K.b,0,none⟩), .string s] w (pR K w (.bool (K.X.sees σ s)) (K.X.may σ s)):=by
 have hD:=dQ.refl h;have hT:=K.hT;have h1:=FH h 1 s;have h4:=fun m=>FH (h.below (aN.below_drewN (Below.refl _ _) m)) 4 s
 have HS:=Lib.hid (BM K.X σ s);unfold Tx.may;cases b1:K.X.isK σ 1 s with
 |true=>
  have hs:K.X.sees σ s=true:=by rw [HS.out,b1];rfl
  obtain ⟨hlt,_⟩:=oJ hs;have hov:IntKind.i64.wrap ((σ.i:Int)+1)=(σ.i:Int)+1:=IntWalk.i64_in _ (by omega);rw [b1]at h1;rw [hs,if_pos rfl];go_enter func52,ntmps52;go_wp2_with fail;refine h1.mono ?_;rintro e w1 ⟨rfl,m,rfl⟩;replace hD:=hD.drewN m;obtain ⟨_,_,c0,c1,_,_,f1,_,_⟩:=hD.1.cells;go_wp2_with fail;go_ret;exact ⟨rfl,hD.step⟩
 |false=>
  cases b4:K.X.isK σ 4 s with
  |true=>
   have hs:K.X.sees σ s=true:=by rw [HS.out,b1,b4];rfl
   obtain ⟨hlt,_⟩:=oJ hs;have hov:IntKind.i64.wrap ((σ.i:Int)+1)=(σ.i:Int)+1:=IntWalk.i64_in _ (by omega);rw [b1]at h1;rw [b4]at h4;rw [hs,if_pos rfl];go_enter func52,ntmps52;go_wp2_with fail;refine h1.mono ?_;rintro e w1 ⟨rfl,m,rfl⟩;go_wp2_with fail;refine (h4 m).mono ?_;rintro e w1 ⟨rfl,m2,rfl⟩;replace hD:=hD.drewN (m+m2);obtain ⟨_,_,c0,c1,_,_,f1,_,_⟩:=hD.1.cells;go_wp2_with fail;go_ret;exact ⟨rfl,hD.step⟩
  |false=>
   have hs:K.X.sees σ s=false:=by rw [HS.out,b1,b4];rfl
   rw [b1]at h1;rw [b4]at h4;rw [hs,if_neg (by decide)];go_enter func52,ntmps52;go_wp2_with fail;refine h1.mono ?_;rintro e w1 ⟨rfl,m,rfl⟩;go_wp2_with fail;refine (h4 m).mono ?_;rintro e w1 ⟨rfl,m2,rfl⟩;go_wp2_with fail;go_ret;exact ⟨rfl,hD.drewN (m+m2)⟩
theorem bI {K:PK}{w:World}{σ:Ps}(h:RQ K w σ) (s:ByteArray):
 Calls prog 91 #[.pointer (some ⟨K.b,0,none⟩), .string s] w (pR K w (.tuple #[]) (K.X.bC σ s)):=by
 have hm:=bB h s;unfold Tx.may at hm;unfold Tx.bC;cases hs:K.X.sees σ s with
 |true=>
  rw [hs,if_pos rfl]at hm;rw [if_pos rfl];go_enter func91,ntmps91;go_wp2_with fail;refine hm.mono ?_;rintro e w1 ⟨rfl,hd⟩;go_wp2_with fail
  go_end0
  exact ⟨rfl,hd⟩
 |false=>
  rw [hs,if_neg (by decide)]at hm;rw [if_neg (by decide)];go_enter func91,ntmps91;go_wp2_with fail;refine hm.mono ?_;rintro e w1 ⟨rfl,hd⟩;have ha:=iR hd.1;go_wp2_with fail;refine ha.mono ?_;rintro e w2 ⟨rfl,m,rfl⟩;have hd2:=hd.drewN m;have hw:=fU hd2.1 (K.X.here σ);go_wp2_with fail;refine hw.mono ?_;rintro e w3 ⟨rfl,hd3⟩;go_wp2_with fail
  go_end0
  exact ⟨rfl,hd2.trans hd3⟩
theorem dQ.cell {K:PK}{w w' :World}{σ:Ps}(h:dQ K w σ w') {g:Nat}(hg:g<w.heap.size) (hgb:g≠K.b) (j:Nat):w'.cell? ⟨g,j,none⟩=w.cell? ⟨g,j,none⟩:=by
 unfold World.cell?;rw [h.2.1.block g hg (fun e=>by cases e;exact hgb rfl)]
theorem Q9 {K:PK}{w:World}{σ:Ps}(h:RQ K w σ) (l:List ByteArray) (g cap:Nat) (hg:g<w.heap.size) (hgb:g≠K.b) (hl:l.length≤1000) (hc:∀j (h:j<l.length),w.cell? ⟨g,j,none⟩=some (.string l[j])):
 Calls prog 159 #[.pointer (some ⟨K.b,0,none⟩), .slice (some ⟨g,0,none⟩) l.length cap] w (pR K w (.tuple #[]) (K.X.must σ l)):=by
 have hD:=dQ.refl h;have HC:=Lib.hid hc;clear hc;go_enter func159,ntmps159;go_wp2_with fail
 go_loopw [4] (fun i wr=>∃j:Nat,i= .int .i64 j∧j≤l.length∧dQ K w (K.X.must σ (l.take j)) wr) (fun i _=>l.length - (intOf i).toNat)
 case atStart=>exact ⟨0,rfl,by omega,hD⟩
 case round=>
  clear hD;obtain ⟨j,rfl,hj,hD⟩:=hrel;by_cases hlt:j<l.length
  · have q0:(j:Int)<(l.length:Int):=by omega
    have q1:(0:Int)≤(j:Int):=by omega
    have c0:=(hD.cell hg hgb j).trans (HC.out j hlt);have hm:=bI hD.1 l[j];have HE:=Lib.hid (Ke K.X σ l j hlt);generalize l[j]=s at *;go_wp2_with fail;refine hm.mono ?_;rintro e w1 ⟨rfl,hd⟩;go_wp2_with fail;go_roundw
    case rel=>exact ⟨j+1,by go_num,by omega,by rw [HE.out];exact hD.trans hd⟩
    case measure=>simp [intOf];omega
  · have q0:¬(j:Int)<(l.length:Int):=by omega
    have hj2:j=l.length:=by omega
    subst hj2;rw [List.take_length]at hD;go_wp2_with fail
    go_end0
    exact ⟨rfl,hD⟩
theorem OC (a b:ByteArray):jf a b=jf b a:=by
 unfold jf;exact decide_eq_decide.2 ⟨Eq.symm,Eq.symm⟩
theorem Zg {x:ByteArray}{l:List ByteArray}{j:Nat}(hj:j<l.length) (h:pW x (l.take j)=false) (hb:jf l[j] x=false):pW x (l.take (j+1))=false:=by
 rw [List.take_succ_eq_append_getElem hj];unfold pW at h⊢;rw [List.any_append,h];simp only [List.any_cons,List.any_nil,Bool.or_false,Bool.false_or];rw [OC];exact hb
theorem Ip {w:World}{v:Value}{l:List ByteArray}(x:ByteArray) (hr:Rd w v l.length (l.map Value.string)) (hl:l.length≤200000):
 Calls prog 161 #[v, .string x] w fun e w' =>e= .returned (.bool (pW x l))∧w' =w:=by
 obtain ⟨a,cap,rfl,hg⟩:=hr;go_enter func161,ntmps161;go_wp2_with fail
 go_loopw [5] (fun i wr=>∃j:Nat,i= .int .i64 j∧j≤l.length∧w=wr∧Hid (pW x (l.take j)=false)) (fun i _=>l.length - (intOf i).toNat)
 case atStart=>exact ⟨0,rfl,by omega,rfl,by show _=_;rfl⟩
 case round=>
  obtain ⟨j,rfl,hj,rfl,HN⟩:=hrel;by_cases hlt:j<l.length
  · obtain ⟨g,off,rfl,hc⟩:=hg (by omega);have q0:(j:Int)<(l.length:Int):=by omega
    have q1:(0:Int)≤(j:Int):=by omega
    have c0:w.cell? ⟨g,off+j,none⟩=some (.string l[j]):=hc j _ (by simp [hlt]);have e1:=dR l[j] x;have HT:=Lib.hid (fun hb=>Zg (x:=x) hlt HN.out hb);have HI:Hid (jf l[j] x=true→pW x l=true):=fun h=>aN.qF.2 (by rw [←eD.1 h];exact List.getElem_mem _)
    clear hg hc;generalize l[j]=s at *;cases hb:jf s x with
    |true=>
     rw [hb]at e1;go_wp2_with fail;go_ret;exact ⟨cB (HI.out hb).symm,rfl⟩
    |false=>
     rw [hb]at e1;go_wp2_with fail;go_roundw
     case rel=>exact ⟨j+1,by go_num,by omega,trivial,HT.out hb⟩
     case measure=>simp [intOf];omega
  · have q0:¬(j:Int)<(l.length:Int):=by omega
    have mF:j=l.length:=by omega
    subst mF;have HF:Hid (pW x l=false):=by have:=HN.out;rw [List.take_length]at this;exact this
    go_wp2_with fail;go_ret;exact ⟨cB HF.out.symm,rfl⟩
theorem Zh (X:Tx) {σ:Ps}(hb:σ.bad=none) (hlt:σ.i<X.T.length):X.value σ=if X.T[σ.i].kind=3 then (⟨1,X.T[σ.i].s,0⟩,σ.step)else if X.T[σ.i].kind=2 then (⟨2,⟨#[]⟩,X.T[σ.i].n⟩,σ.step)else (Tm.zero,X.fail σ):=by
 unfold Tx.value Tx.next;rw [hb,List.getElem?_eq_getElem hlt];simp only;by_cases h3:X.T[σ.i].kind=3
 · rw [if_pos h3,if_pos h3]
 · rw [if_neg h3,if_neg h3];by_cases h2:X.T[σ.i].kind=2
   · rw [if_pos h2,if_pos h2]
   · rw [if_neg h2,if_neg h2]
theorem OD {K:PK}{w w1:World}{σ:Ps}{k:Nat}{x0 x1 x2:Value}{T:TypeId}(h1:w1.heap[k]? =some (.cells #[x0,x1,x2] T (0,0))) (hD:dQ K w σ w1) (hk:w.heap.size≤k) (v0 v1 v2:Value) (W:World)
 (hW:W=((w1.setCell ⟨k,0,none⟩ v0).setCell ⟨k,1,none⟩ v1).setCell ⟨k,2,none⟩ v2):
 W.cell? ⟨k,0,none⟩=some v0∧W.cell? ⟨k,1,none⟩=some v1∧W.cell? ⟨k,2,none⟩=some v2∧dQ K w σ W:=by
 subst hW;have hp:=afr h1 v0 v1 v2;exact ⟨by rw [au hp];rfl,by rw [au hp];rfl,by rw [au hp];rfl,((hD.own hk _ _).own hk _ _).own hk _ _⟩
theorem rT {W:World}{tm:Array Value}{k:Nat}{v0 v1 v2:Value}(ht:tm[2]? =some (.pointer (some ⟨k,0,none⟩))) (r0:W.cell? ⟨k,0,none⟩=some v0) (r1:W.cell? ⟨k,1,none⟩=some v1) (r2:W.cell? ⟨k,2,none⟩=some v2):
 (results Tryz.f137 tm).run prog W= .ok (.agg #[v0,v1,v2]) W:=by
 simp [results,results137,go_sem,ht,r0,r1,r2]
theorem Ra {K:PK}{w:World}{σ:Ps}(h:RQ K w σ):
 Calls prog 137 #[.pointer (some ⟨K.b,0,none⟩)] w (pR K w (tmV (K.X.value σ).1) (K.X.value σ).2):=by
 have hD:=(dQ.refl h).alloc (.cells #[.int .i64 0, .string ⟨#[]⟩, .int .i64 0] 60);have hbl:=aA w (.cells #[.int .i64 0, .string ⟨#[]⟩, .int .i64 0] 60);have hle:=h.le;have hT:=K.hT;obtain ⟨a,cap,c0,c1,c2,c3,f1,_,hc⟩:=hD.1.cells;cases hb:σ.bad with
 |some x=>
  have hbi:σ.fT=x:=by unfold Ps.fT;rw [hb]
  rw [hbi]at c3;have hd:decide ((0:Int)≤(x:Int))=true:=decide_eq_true (by omega);have HE:Hid (K.X.value σ=(Tm.zero,K.X.fail σ)):=by show _=_;unfold Tx.value Tx.next;rw [hb]
  clear hbi hc;go_enter func137,ntmps137;go_wp2_with fail;generalize w.alloc (.cells #[.int .i64 0, .string ⟨#[]⟩, .int .i64 0] 60)=w0 at *;go_quiet (fail);have hD1:=hD.drewN nq;have ha:=iR hD1.1;go_wp2_with fail;refine ha.mono ?_;rintro e w1 ⟨rfl,m,rfl⟩;have hD2:=hD.drewN (nq+m);have hw:=fU hD2.1 (K.X.here σ);go_wp2_with fail;refine hw.mono ?_;rintro e w2 ⟨rfl,hd3⟩;have hb3:=hd3.blk (show (w0.drewN (nq+m)).heap[w.heap.size]? =_ from hbl) hle;obtain ⟨t0,t1,t2,u0,u1,u2⟩:=ET hb3;go_wp2_with fail;obtain ⟨r0,r1,r2,hD4⟩:=OD hb3 (hD2.trans hd3) (Nat.le_refl _) (.int .i64 0) (.string ⟨#[]⟩) (.int .i64 0) _ rfl;refine bodyPost_ret (rT rfl r0 r1 r2) rfl ?_;rw [HE.out];exact ⟨rfl,hD4⟩
 |none=>
  have hbi:σ.fT= -1:=by unfold Ps.fT;rw [hb]
  rw [hbi]at c3;by_cases hlt:σ.i<K.X.T.length
  · obtain ⟨g,rfl,hg⟩:=hc (by omega);have hd:decide (K.X.T.length≤σ.i)=false:=decide_eq_false (by omega);have q0:(σ.i:Int)<(K.X.T.length:Int):=by omega
    have q1:(0:Int)≤(σ.i:Int):=by omega
    have d0:=hg (σ.i*4) (.int .i64 K.X.T[σ.i].kind) (by have:=iy K.X.T σ.i 0 hlt (by omega);rw [Nat.add_zero]at this;rw [this];rfl);have d1:=hg (σ.i*4+1) (.string K.X.T[σ.i].s) (by rw [iy _ σ.i 1 hlt (by omega)];rfl);have d2:=hg (σ.i*4+2) (.int .i64 K.X.T[σ.i].n) (by rw [iy _ σ.i 2 hlt (by omega)];rfl);have d3:=hg (σ.i*4+3) (.int .i64 K.X.T[σ.i].at_) (by rw [iy _ σ.i 3 hlt (by omega)];rfl);have HV:=Lib.hid (Zh K.X hb hlt);clear hg hc hbi;generalize K.X.T[σ.i]=t at *;by_cases k3:t.kind=3
    · have HE:Hid (K.X.value σ=(⟨1,t.s,0⟩,σ.step)):=by show _=_;rw [HV.out,if_pos k3]
      rw [k3]at d0;go_enter func137,ntmps137;go_wp2_with fail;generalize w.alloc (.cells #[.int .i64 0, .string ⟨#[]⟩, .int .i64 0] 60)=w0 at *;go_quiet (fail);go_wp2_with fail;have hD1:=hD.drewN nq;have hb1:(w0.drewN nq).heap[w.heap.size]? =_:=hbl;replace c0:(w0.drewN nq).cell? _=_:=c0;replace c1:(w0.drewN nq).cell? _=_:=c1;replace d0:(w0.drewN nq).cell? _=_:=d0;replace d1:(w0.drewN nq).cell? _=_:=d1;replace d2:(w0.drewN nq).cell? _=_:=d2;replace d3:(w0.drewN nq).cell? _=_:=d3;replace f1:(w0.drewN nq).frozen? _=_:=f1;generalize w0.drewN nq=w1 at *;have hs1:w.heap.size<w1.heap.size:=aD hb1;have hkb:K.b<K.L:=K.hL;have hne1:w1.heap.size≠K.b:=by omega
      have hne2:w1.heap.size≠w.heap.size:=by omega
      have hne:w.heap.size≠K.b:=by omega
      have hov:IntKind.i64.wrap ((σ.i:Int)+1)=(σ.i:Int)+1:=IntWalk.i64_in _ (by omega);obtain ⟨t0,t1,t2,u0,u1,u2⟩:=ET hb1;have zc0:((w1.alloc (.cells #[.int .i64 0, .string ⟨#[]⟩, .int .i64 0, .int .i64 0] 112)).drew).cell? _=_:=eG c0 (.cells #[.int .i64 0, .string ⟨#[]⟩, .int .i64 0, .int .i64 0] 112);have zc1:((w1.alloc (.cells #[.int .i64 0, .string ⟨#[]⟩, .int .i64 0, .int .i64 0] 112)).drew).cell? _=_:=eG c1 (.cells #[.int .i64 0, .string ⟨#[]⟩, .int .i64 0, .int .i64 0] 112);have zd0:((w1.alloc (.cells #[.int .i64 0, .string ⟨#[]⟩, .int .i64 0, .int .i64 0] 112)).drew).cell? _=_:=eG d0 (.cells #[.int .i64 0, .string ⟨#[]⟩, .int .i64 0, .int .i64 0] 112);have zd1:((w1.alloc (.cells #[.int .i64 0, .string ⟨#[]⟩, .int .i64 0, .int .i64 0] 112)).drew).cell? _=_:=eG d1 (.cells #[.int .i64 0, .string ⟨#[]⟩, .int .i64 0, .int .i64 0] 112);have zd2:((w1.alloc (.cells #[.int .i64 0, .string ⟨#[]⟩, .int .i64 0, .int .i64 0] 112)).drew).cell? _=_:=eG d2 (.cells #[.int .i64 0, .string ⟨#[]⟩, .int .i64 0, .int .i64 0] 112);have zd3:((w1.alloc (.cells #[.int .i64 0, .string ⟨#[]⟩, .int .i64 0, .int .i64 0] 112)).drew).cell? _=_:=eG d3 (.cells #[.int .i64 0, .string ⟨#[]⟩, .int .i64 0, .int .i64 0] 112);go_region;clear zc0 zc1 zd0 zd1 zd2 zd3;go_upto_region 5 with fail
      have hD2:dQ K w σ ((w1.alloc (.cells #[.int .i64 3, .string t.s, .int .i64 t.n, .int .i64 t.at_] 112)).drew):=(hD1.alloc (.cells #[.int .i64 3, .string t.s, .int .i64 t.n, .int .i64 t.at_] 112)).drewN 1;have hb2:((w1.alloc (.cells #[.int .i64 3, .string t.s, .int .i64 t.n, .int .i64 t.at_] 112)).drew).heap[w.heap.size]? =_:=aC hb1 (.cells #[.int .i64 3, .string t.s, .int .i64 t.n, .int .i64 t.at_] 112);have hk2:((w1.alloc (.cells #[.int .i64 3, .string t.s, .int .i64 t.n, .int .i64 t.at_] 112)).drew).heap[w1.heap.size]? =_:=aA w1 (.cells #[.int .i64 3, .string t.s, .int .i64 t.n, .int .i64 t.at_] 112);generalize (w1.alloc (.cells #[.int .i64 3, .string t.s, .int .i64 t.n, .int .i64 t.at_] 112)).drew=w2 at *;clear c0 c1 f1 t0 t1 t2 u0 u1 u2;obtain ⟨_,_,c0,c1,_,_,f1,_,_⟩:=hD2.1.cells;obtain ⟨t0,t1,t2,u0,u1,u2⟩:=ET hb2;obtain ⟨v0,v1,v2,v3,_⟩:=Kg hk2;go_wp2_with fail;obtain ⟨r0,r1,r2,hD3⟩:=OD (bN hb2 ⟨K.b,1,none⟩ (.int .i64 ((σ.i:Int)+1)) (by show w.heap.size≠K.b;exact hne)) hD2.step (Nat.le_refl _) (.int .i64 1) (.string t.s) (.int .i64 0) _ rfl;refine bodyPost_ret (rT rfl r0 r1 r2) rfl ?_;rw [HE.out];exact ⟨rfl,hD3⟩
    · by_cases k2:t.kind=2
      · have HE:Hid (K.X.value σ=(⟨2,⟨#[]⟩,t.n⟩,σ.step)):=by show _=_;rw [HV.out,if_neg k3,if_pos k2]
        rw [k2]at d0;go_enter func137,ntmps137;go_wp2_with fail;generalize w.alloc (.cells #[.int .i64 0, .string ⟨#[]⟩, .int .i64 0] 60)=w0 at *;go_quiet (fail);go_wp2_with fail;have hD1:=hD.drewN nq;have hb1:(w0.drewN nq).heap[w.heap.size]? =_:=hbl;replace c0:(w0.drewN nq).cell? _=_:=c0;replace c1:(w0.drewN nq).cell? _=_:=c1;replace d0:(w0.drewN nq).cell? _=_:=d0;replace d1:(w0.drewN nq).cell? _=_:=d1;replace d2:(w0.drewN nq).cell? _=_:=d2;replace d3:(w0.drewN nq).cell? _=_:=d3;replace f1:(w0.drewN nq).frozen? _=_:=f1;generalize w0.drewN nq=w1 at *;have hs1:w.heap.size<w1.heap.size:=aD hb1;have hkb:K.b<K.L:=K.hL;have hne1:w1.heap.size≠K.b:=by omega
        have hne2:w1.heap.size≠w.heap.size:=by omega
        have hne:w.heap.size≠K.b:=by omega
        have hov:IntKind.i64.wrap ((σ.i:Int)+1)=(σ.i:Int)+1:=IntWalk.i64_in _ (by omega);obtain ⟨t0,t1,t2,u0,u1,u2⟩:=ET hb1;have zc0:((w1.alloc (.cells #[.int .i64 0, .string ⟨#[]⟩, .int .i64 0, .int .i64 0] 112)).drew).cell? _=_:=eG c0 (.cells #[.int .i64 0, .string ⟨#[]⟩, .int .i64 0, .int .i64 0] 112);have zc1:((w1.alloc (.cells #[.int .i64 0, .string ⟨#[]⟩, .int .i64 0, .int .i64 0] 112)).drew).cell? _=_:=eG c1 (.cells #[.int .i64 0, .string ⟨#[]⟩, .int .i64 0, .int .i64 0] 112);have zd0:((w1.alloc (.cells #[.int .i64 0, .string ⟨#[]⟩, .int .i64 0, .int .i64 0] 112)).drew).cell? _=_:=eG d0 (.cells #[.int .i64 0, .string ⟨#[]⟩, .int .i64 0, .int .i64 0] 112);have zd1:((w1.alloc (.cells #[.int .i64 0, .string ⟨#[]⟩, .int .i64 0, .int .i64 0] 112)).drew).cell? _=_:=eG d1 (.cells #[.int .i64 0, .string ⟨#[]⟩, .int .i64 0, .int .i64 0] 112);have zd2:((w1.alloc (.cells #[.int .i64 0, .string ⟨#[]⟩, .int .i64 0, .int .i64 0] 112)).drew).cell? _=_:=eG d2 (.cells #[.int .i64 0, .string ⟨#[]⟩, .int .i64 0, .int .i64 0] 112);have zd3:((w1.alloc (.cells #[.int .i64 0, .string ⟨#[]⟩, .int .i64 0, .int .i64 0] 112)).drew).cell? _=_:=eG d3 (.cells #[.int .i64 0, .string ⟨#[]⟩, .int .i64 0, .int .i64 0] 112);go_region;clear zc0 zc1 zd0 zd1 zd2 zd3;go_upto_region 5 with fail
        have hD2:dQ K w σ ((w1.alloc (.cells #[.int .i64 2, .string t.s, .int .i64 t.n, .int .i64 t.at_] 112)).drew):=(hD1.alloc (.cells #[.int .i64 2, .string t.s, .int .i64 t.n, .int .i64 t.at_] 112)).drewN 1;have hb2:((w1.alloc (.cells #[.int .i64 2, .string t.s, .int .i64 t.n, .int .i64 t.at_] 112)).drew).heap[w.heap.size]? =_:=aC hb1 (.cells #[.int .i64 2, .string t.s, .int .i64 t.n, .int .i64 t.at_] 112);have hk2:((w1.alloc (.cells #[.int .i64 2, .string t.s, .int .i64 t.n, .int .i64 t.at_] 112)).drew).heap[w1.heap.size]? =_:=aA w1 (.cells #[.int .i64 2, .string t.s, .int .i64 t.n, .int .i64 t.at_] 112);generalize (w1.alloc (.cells #[.int .i64 2, .string t.s, .int .i64 t.n, .int .i64 t.at_] 112)).drew=w2 at *;clear c0 c1 f1 t0 t1 t2 u0 u1 u2;obtain ⟨_,_,c0,c1,_,_,f1,_,_⟩:=hD2.1.cells;obtain ⟨t0,t1,t2,u0,u1,u2⟩:=ET hb2;obtain ⟨v0,v1,v2,v3,_⟩:=Kg hk2;go_wp2_with fail;obtain ⟨r0,r1,r2,hD3⟩:=OD (bN hb2 ⟨K.b,1,none⟩ (.int .i64 ((σ.i:Int)+1)) (by show w.heap.size≠K.b;exact hne)) hD2.step (Nat.le_refl _) (.int .i64 2) (.string ⟨#[]⟩) (.int .i64 t.n) _ rfl;refine bodyPost_ret (rT rfl r0 r1 r2) rfl ?_;rw [HE.out];exact ⟨rfl,hD3⟩
      · have HE:Hid (K.X.value σ=(Tm.zero,K.X.fail σ)):=by show _=_;rw [HV.out,if_neg k3,if_neg k2]
        have e3:(t.kind==3)=false:=beq_eq_false_iff_ne.2 k3;have e2:(t.kind==2)=false:=beq_eq_false_iff_ne.2 k2;have e3' :(t.kind !=3)=true:=by unfold bne;rw [e3];rfl
        have e2' :(t.kind !=2)=true:=by unfold bne;rw [e2];rfl
        go_enter func137,ntmps137;go_wp2_with fail;generalize w.alloc (.cells #[.int .i64 0, .string ⟨#[]⟩, .int .i64 0] 60)=w0 at *;go_quiet (fail);have hD1:=hD.drewN nq;have ha:=iR hD1.1;go_wp2_with fail;refine ha.mono ?_;rintro e w1 ⟨rfl,m,rfl⟩;have hD2:=hD.drewN (nq+m);have hw:=fU hD2.1 (K.X.here σ);go_wp2_with fail;refine hw.mono ?_;rintro e w2 ⟨rfl,hd3⟩;have hb3:=hd3.blk (show (w0.drewN (nq+m)).heap[w.heap.size]? =_ from hbl) hle;obtain ⟨t0,t1,t2,u0,u1,u2⟩:=ET hb3;go_wp2_with fail;obtain ⟨r0,r1,r2,hD4⟩:=OD hb3 (hD2.trans hd3) (Nat.le_refl _) (.int .i64 0) (.string ⟨#[]⟩) (.int .i64 0) _ rfl;refine bodyPost_ret (rT rfl r0 r1 r2) rfl ?_;rw [HE.out];exact ⟨rfl,hD4⟩
  · have hd:decide (K.X.T.length≤σ.i)=true:=decide_eq_true (by omega);have HE:Hid (K.X.value σ=(Tm.zero,K.X.fail σ)):=by show _=_;unfold Tx.value Tx.next;rw [hb,List.getElem?_eq_none (by omega)]
    clear hbi hc;go_enter func137,ntmps137;go_wp2_with fail;generalize w.alloc (.cells #[.int .i64 0, .string ⟨#[]⟩, .int .i64 0] 60)=w0 at *;go_quiet (fail);have hD1:=hD.drewN nq;have ha:=iR hD1.1;go_wp2_with fail;refine ha.mono ?_;rintro e w1 ⟨rfl,m,rfl⟩;have hD2:=hD.drewN (nq+m);have hw:=fU hD2.1 (K.X.here σ);go_wp2_with fail;refine hw.mono ?_;rintro e w2 ⟨rfl,hd3⟩;have hb3:=hd3.blk (show (w0.drewN (nq+m)).heap[w.heap.size]? =_ from hbl) hle;obtain ⟨t0,t1,t2,u0,u1,u2⟩:=ET hb3;go_wp2_with fail;obtain ⟨r0,r1,r2,hD4⟩:=OD hb3 (hD2.trans hd3) (Nat.le_refl _) (.int .i64 0) (.string ⟨#[]⟩) (.int .i64 0) _ rfl;refine bodyPost_ret (rT rfl r0 r1 r2) rfl ?_;rw [HE.out];exact ⟨rfl,hD4⟩
theorem yL {K:PK}{w:World}{σ:Ps}(h:RQ K w σ) {t:Tm}{σ' :Ps}(hv:K.X.value σ=(t,σ')):
 Calls prog 137 #[.pointer (some ⟨K.b,0,none⟩)] w (pR K w (.agg #[.int .i64 t.ty, .string t.s, .int .i64 t.n]) σ'):=by
 have:=Ra h;rw [hv]at this;exact this
theorem mW {K:PK}{w:World}{σ:Ps}(h:RQ K w σ):
 Calls prog 93 #[.pointer (some ⟨K.b,0,none⟩)] w (pR K w (.int .i64 (K.X.count σ).1) (K.X.count σ).2):=by
 have hD:=dQ.refl h;have ha:=iR h;obtain ⟨⟨t,σ'⟩,hv⟩:∃r,K.X.value σ=r:=⟨_,rfl⟩;have hval:=fun w h=>yL (K:=K) (w:=w) h hv
 have HE:Hid (K.X.count σ=(t.n,if t.ty≠2∨t.n<1∨1099511627776<t.n then σ'.wrong (K.X.here σ)else σ')):=by show _=_;unfold Tx.count;rw [hv]
 generalize K.X.here σ=zH at *;by_cases hbad:t.ty≠2∨t.n<1∨1099511627776<t.n
 · have hq:((t.ty !=2)=true)∨((t.ty !=2)=false∧t.n<1)∨((t.ty !=2)=false∧¬t.n<1∧1099511627776<t.n):=by
    by_cases h1:t.ty=2
    · have h2:(t.ty !=2)=false:=by rw [h1];rfl
      rcases hbad with h|h|h
      · exact absurd h1 h
      · exact .inr (.inl ⟨h2,h⟩)
      · exact .inr (.inr ⟨h2,by omega,h⟩)
    · exact .inl (bne_iff_ne.2 h1)
   have HE2:Hid (K.X.count σ=(t.n,σ'.wrong zH)):=by show _=_;rw [HE.out,if_pos hbad]
   clear hbad HE;rcases hq with q1|⟨q1,q2⟩|⟨q1,q2,q3⟩
   all_goals
    go_enter func93,ntmps93;go_wp2_with fail;refine ha.mono ?_;rintro e w1 ⟨rfl,m,rfl⟩;replace hD:=hD.drewN m;have hv2:=hval _ hD.1;go_wp2_with fail;refine hv2.mono ?_;rintro e w2 ⟨rfl,hd2⟩;replace hD:=(hD.trans hd2).alloc (.cells #[.int .i64 t.ty, .string t.s, .int .i64 t.n] 60);have hbl:=aA w2 (.cells #[.int .i64 t.ty, .string t.s, .int .i64 t.n] 60);have hw:=fU hD.1 zH;go_wp2_with fail;refine hw.mono ?_;rintro e w3 ⟨rfl,hd3⟩;obtain ⟨t0,t1,t2,_,_,_⟩:=ET (hd3.blk hbl hd2.1.le);go_wp2_with fail;go_ret;rw [HE2.out];exact ⟨rfl,hD.trans hd3⟩
 · have q1:(t.ty !=2)=false:=by have:t.ty=2:=by omega
                                rw [this];rfl
   have q2:¬t.n<1:=by omega
   have q3:¬1099511627776<t.n:=by omega
   have HE2:Hid (K.X.count σ=(t.n,σ')):=by show _=_;rw [HE.out,if_neg hbad]
   clear hbad HE;go_enter func93,ntmps93;go_wp2_with fail;refine ha.mono ?_;rintro e w1 ⟨rfl,m,rfl⟩;replace hD:=hD.drewN m;have hv2:=hval _ hD.1;go_wp2_with fail;refine hv2.mono ?_;rintro e w2 ⟨rfl,hd2⟩;replace hD:=(hD.trans hd2).alloc (.cells #[.int .i64 t.ty, .string t.s, .int .i64 t.n] 60);go_wp2_with fail;go_ret;rw [HE2.out];exact ⟨rfl,hD⟩
theorem ad8 {s:ByteArray}{j:Nat}{b:Bool}(h:j+(s.size+2)≤185) (hb:jf (tL.extract j (j+(s.size+2))) (Nv s)=b):GD s j=b:=by
 unfold GD;rw [decide_eq_true h,hb];rfl
theorem VB {s:ByteArray}{j:Nat}(hj:j≤185) (h:GD s j=true):wM s=true:=by
 unfold wM;rw [List.any_eq_true];exact ⟨j,List.mem_range.2 (by omega),h⟩
theorem Rb {s:ByteArray}{j:Nat}(h:∀k,k<j→GD s k=false) (hj:¬j+(s.size+2)≤185):wM s=false:=by
 cases hr:wM s with
 |false=>rfl
 |true=>
  unfold wM at hr;rw [List.any_eq_true]at hr;obtain ⟨k,_,hk⟩:=hr;by_cases hkj:k<j
  · rw [h k hkj]at hk;cases hk
  · unfold GD at hk;rw [decide_eq_false (by omega)]at hk;exact absurd hk (by simp)
theorem JD (s:ByteArray) (w:World) (hs:s.size≤1000):
 Calls prog 135 #[.string s] w fun e w' =>e= .returned (.bool (wM s))∧w' =w:=by
 have hsz:(Nv s).size=s.size+2:=XG s;obtain ⟨t,ht⟩:∃t,(⟨#[32]⟩:ah)++s++⟨#[32]⟩=t:=⟨_,rfl⟩;have HP:Hid (Nv s=t):=ht;rw [HP.out]at hsz;have HZ:=Lib.hid hsz;have hz2:t.size≤1002:=by omega
 clear hsz;go_enter func135,ntmps135;go_wp2_with fail;clear ht
 go_loop [4] (fun i=>∃j:Nat,i= .int .i64 j∧j≤186∧Hid (∀k,k<j→GD s k=false)) (fun i=>186 - (intOf i).toNat)
 case atStart=>exact ⟨0,rfl,by omega,fun k hk=>absurd hk (Nat.not_lt_zero _)⟩
 case round=>
  obtain ⟨j,rfl,hj,HN⟩:=hrel;by_cases hle:j+(s.size+2)≤185
  · have q0:(j:Int)+(t.size:Int)≤185:=by have:=HZ.out;omega
    have e1:=dR (tL.extract j (j+t.size)) t;unfold tL at e1;have HB:=Lib.hid (fun b (hb:jf (tL.extract j (j+(s.size+2))) (Nv s)=b)=>ad8 hle hb);rw [HP.out,←HZ.out]at HB;cases hb:jf (tL.extract j (j+t.size)) t with
    |true=>
     unfold tL at hb;rw [hb]at e1;go_wp2_with fail;go_ret;exact ⟨cB (VB (by omega) (HB.out _ hb)).symm,rfl⟩
    |false=>
     have HJ:Hid (GD s j=false):=HB.out _ hb;unfold tL at hb;rw [hb]at e1;go_wp2_with fail;go_round
     case rel=>exact ⟨j+1,by go_num,by omega,fun k hk=>by
      by_cases h:k=j
      · subst h;exact HJ.out
      · exact HN.out k (by omega)⟩
     case measure=>simp [intOf];omega
  · have q0:¬(j:Int)+(t.size:Int)≤185:=by have:=HZ.out;omega
    go_wp2_with fail;go_ret;exact ⟨cB (Rb HN.out hle).symm,rfl⟩
theorem abC (X:Tx) {σ:Ps}(hb:σ.bad=none) (hlt:σ.i<X.T.length):X.name σ=if X.T[σ.i].kind=1 then (if zX X.T[σ.i].s then (⟨#[]⟩,X.fail σ)else (X.T[σ.i].s,σ.step))else (⟨#[]⟩,X.fail σ):=by
 unfold Tx.name Tx.next;rw [hb,List.getElem?_eq_getElem hlt];simp only;by_cases h:X.T[σ.i].kind=1
 · rw [if_pos h,if_pos h]
 · rw [if_neg h,if_neg h]
theorem Ku (X:Tx) {σ:Ps}(h:σ.bad≠none∨¬σ.i<X.T.length):X.name σ=(⟨#[]⟩,X.fail σ):=by
 unfold Tx.name Tx.next;cases hb:σ.bad with
 |some x=>rfl
 |none=>
  rcases h with h|h
  · exact absurd hb h
  · rw [List.getElem?_eq_none (by omega)]
theorem abD {X:Tx}(h:X.Ok) {i:Nat}(hi:i<X.T.length) (hk:X.T[i].kind=1):nP X.T[i].s=true∧X.T[i].s.size≤100:=by
 have hm:X.T[i].fo∈X.F:=by unfold Tx.F;exact List.mem_map_of_mem (List.getElem_mem hi)
 have:=h _ hm;unfold KY Tk.fo at this;simp only [hk]at this;rcases this with ⟨_,h1,_,h2,_⟩|⟨h0,_⟩|⟨h0,_⟩|⟨h0,_⟩
 · exact ⟨h1,h2⟩
 · exact absurd h0 (by decide)
 · exact absurd h0 (by decide)
 · exact absurd h0 (by decide)
theorem fB {K:PK}{w:World}{σ:Ps}(h:RQ K w σ):
 Calls prog 89 #[.pointer (some ⟨K.b,0,none⟩)] w (pR K w (.string (K.X.name σ).1) (K.X.name σ).2):=by
 have hD:=dQ.refl h;have hT:=K.hT;obtain ⟨a,cap,c0,c1,c2,c3,f1,_,hc⟩:=hD.1.cells;have HF:Hid (∀n,Calls prog 54 #[.pointer (some ⟨K.b,0,none⟩)] (w.drewN n) fun e w' =>e= .returned (.int .i64 (K.X.here σ))∧∃m,w' =(w.drewN n).drewN m):=fun n=>iR (hD.drewN n).1
 have HW:Hid (∀n,Calls prog 53 #[.pointer (some ⟨K.b,0,none⟩), .int .i64 (K.X.here σ)] (w.drewN n) (pR K (w.drewN n) (.tuple #[]) (K.X.fail σ))):=fun n=>fU (hD.drewN n).1 _
 cases hb:σ.bad with
 |some x=>
  have hbi:σ.fT=x:=by unfold Ps.fT;rw [hb]
  rw [hbi]at c3;have hd:decide ((0:Int)≤(x:Int))=true:=decide_eq_true (by omega);have HE:Hid (K.X.name σ=(⟨#[]⟩,K.X.fail σ)):=Ku K.X (.inl (by rw [hb];simp));clear hbi hc hb h;go_enter func89,ntmps89;go_wp2_with fail;go_quiet (fail);go_wp2_with fail;refine (HF.out nq).mono ?_;rintro e w1 ⟨rfl,m,rfl⟩;go_wp2_with fail;refine (HW.out (nq+m)).mono ?_;rintro e w2 ⟨rfl,hd3⟩;go_wp2_with fail;go_ret;rw [HE.out];exact ⟨rfl,(hD.drewN (nq+m)).trans hd3⟩
 |none=>
  have hbi:σ.fT= -1:=by unfold Ps.fT;rw [hb]
  rw [hbi]at c3;by_cases hlt:σ.i<K.X.T.length
  · obtain ⟨g,rfl,hg⟩:=hc (by omega);have hd:decide (K.X.T.length≤σ.i)=false:=decide_eq_false (by omega);have q0:(σ.i:Int)<(K.X.T.length:Int):=by omega
    have q1:(0:Int)≤(σ.i:Int):=by omega
    have d0:=hg (σ.i*4) (.int .i64 K.X.T[σ.i].kind) (by have:=iy K.X.T σ.i 0 hlt (by omega);rw [Nat.add_zero]at this;rw [this];rfl);have d1:=hg (σ.i*4+1) (.string K.X.T[σ.i].s) (by rw [iy _ σ.i 1 hlt (by omega)];rfl);have HV:=Lib.hid (abC K.X hb hlt);have HK:=Lib.hid (abD h.ok hlt);clear hg hc hbi;by_cases k1:K.X.T[σ.i].kind=1
    · obtain ⟨hwd,hsz⟩:=HK.out k1;have hR:=fun w=>JD K.X.T[σ.i].s w (by omega)
      have HT1:Hid ((nE K.X.T)[σ.i*4+1]? =some (.string K.X.T[σ.i].s)):=by show _=_;rw [iy _ σ.i 1 hlt (by omega)];rfl
      have HV2:Hid (K.X.name σ=if zX K.X.T[σ.i].s then (⟨#[]⟩,K.X.fail σ)else (K.X.T[σ.i].s,σ.step)):=by show _=_;rw [HV.out,if_pos k1]
      rw [aaQ hwd]at hR;rw [k1]at d0;clear HV HK k1 hwd hsz;generalize K.X.T[σ.i]=t at *;cases hr:zX t.s with
      |true=>
       rw [hr]at hR;have HE:Hid (K.X.name σ=(⟨#[]⟩,K.X.fail σ)):=by show _=_;rw [HV2.out,hr];rfl
       clear HV2 hr;go_enter func89,ntmps89;go_wp2_with fail;go_quiet ((go_at_call 135;exact Calls.quiet_of_same (hR _)));go_wp2_with fail;refine (HF.out nq).mono ?_;rintro e w1 ⟨rfl,m,rfl⟩;go_wp2_with fail;refine (HW.out (nq+m)).mono ?_;rintro e w2 ⟨rfl,hd3⟩;go_wp2_with fail;go_ret;rw [HE.out];exact ⟨rfl,(hD.drewN (nq+m)).trans hd3⟩
      |false=>
       rw [hr]at hR;have HE:Hid (K.X.name σ=(t.s,σ.step)):=by show _=_;rw [HV2.out,hr];rfl
       clear HV2 hr;go_enter func89,ntmps89;go_wp2_with fail;go_quiet ((go_at_call 135;exact Calls.quiet_of_same (hR _)));have hD1:=hD.drewN nq;replace c0:(w.drewN nq).cell? _=_:=c0;replace c1:(w.drewN nq).cell? _=_:=c1;replace d0:(w.drewN nq).cell? _=_:=d0;replace d1:(w.drewN nq).cell? _=_:=d1;replace f1:(w.drewN nq).frozen? _=_:=f1;generalize w.drewN nq=w1 at *;have hov:IntKind.i64.wrap ((σ.i:Int)+1)=(σ.i:Int)+1:=IntWalk.i64_in _ (by omega);have ali:IntKind.i64.wrap ((σ.i:Int)+1 - 1)=(σ.i:Int):=by rw [IntWalk.i64_in _ (by omega)];omega
       have hDs:=hD1.step;go_upto_region 5 with fail
       generalize w1.setCell ⟨K.b,1,none⟩ (.int .i64 ((σ.i:Int)+1))=w2 at *;clear c0 c1 d0 d1 f1 c2 c3;obtain ⟨a',cap',x0,x1,_,_,_,_,hx⟩:=hDs.1.cells;obtain ⟨g',he,hy⟩:=hx (by omega);clear hx;subst he;have x2:=hy _ _ HT1.out;have hst:((σ.step.i:Nat):Int)=(σ.i:Int)+1:=by show ((σ.i+1:Nat):Int)=_;omega
       rw [hst]at x1;clear hst hy;go_quiet (fail);go_wp2_with fail;go_ret;rw [HE.out];exact ⟨rfl,hDs.drewN _⟩
    · have HE:Hid (K.X.name σ=(⟨#[]⟩,K.X.fail σ)):=by show _=_;rw [HV.out,if_neg k1]
      have e1:(K.X.T[σ.i].kind==1)=false:=beq_eq_false_iff_ne.2 k1;have e2:(K.X.T[σ.i].kind !=1)=true:=by unfold bne;rw [e1];rfl
      clear HV HK k1;generalize K.X.T[σ.i]=t at *;go_enter func89,ntmps89;go_wp2_with fail;go_quiet (fail);go_wp2_with fail;refine (HF.out nq).mono ?_;rintro e w1 ⟨rfl,m,rfl⟩;go_wp2_with fail;refine (HW.out (nq+m)).mono ?_;rintro e w2 ⟨rfl,hd3⟩;go_wp2_with fail;go_ret;rw [HE.out];exact ⟨rfl,(hD.drewN (nq+m)).trans hd3⟩
  · have hd:decide (K.X.T.length≤σ.i)=true:=decide_eq_true (by omega);have HE:Hid (K.X.name σ=(⟨#[]⟩,K.X.fail σ)):=Ku K.X (.inr hlt);clear hbi hc h hb;go_enter func89,ntmps89;go_wp2_with fail;go_quiet (fail);go_wp2_with fail;refine (HF.out nq).mono ?_;rintro e w1 ⟨rfl,m,rfl⟩;go_wp2_with fail;refine (HW.out (nq+m)).mono ?_;rintro e w2 ⟨rfl,hd3⟩;go_wp2_with fail;go_ret;rw [HE.out];exact ⟨rfl,(hD.drewN (nq+m)).trans hd3⟩
theorem Else.ofR {K:PK}{w w1 w' :World}{σ:Ps}{v v' :Value}(hd:dQ K w σ w1) (hg:w1.grownBy w' v.ownBlock) (hn:Qo w1 v v'):Else K w w' v v' :=
 ⟨fun k o hk hv hb=>by
  have:=hd.blk hb hk;rw [hg.block k (aD this) (fun e=>hv e.symm)];exact this,
  fun g hv=>(hn g hv).imp_right (fun h=>Nat.le_trans hd.2.1.size h)⟩
theorem DZ (X:Tx) (σ:Ps) (l:List ByteArray) (most:Nat):σ.i≤(X.dU σ l most).2.i:=by
 unfold Tx.dU;have h1:∀(b:Bool) (τ:Ps) (a:Nat),(if b=true then τ.wrong a else τ).i=τ.i:=by intro b τ a;cases b<;>simp [oK]
 simp only [h1];exact X7 X _
theorem sZ (X:Tx) (σ:Ps) (l:List ByteArray) (most:Nat):(X.dU σ l most).1.length=l.length+1:=by
 unfold Tx.dU;simp
theorem wD {K:PK}{w:World}{σ:Ps}(h:RQ K w σ):UG K w=σ.i:=by
 obtain ⟨_,_,_,c1,_⟩:=h.cells;unfold UG;rw [c1];simp
theorem tq {K:PK}{w0 w:World}{σ:Ps}(hD:dQ K w0 σ w) (base:Nat) (hb0:w0.heap.size≤base) (hb1:base≤w.heap.size) (v:Value) (l:List ByteArray) (most:Nat) (hown:w.ownsRow base 9 1 v l.length (l.map Value.string)) (hl:l.length≤100000) (_hm:most≤100):
 Calls prog 160 #[.pointer (some ⟨K.b,0,none⟩),v, .int .i64 most] w fun e w' =>
  ∃a' c',e= .returned (.slice a' (l.length+1) c')∧dQ K w0 (K.X.dU σ l most).2 w' ∧w'.ownsRow base 9 1 (.slice a' (l.length+1) c') (l.length+1) ((K.X.dU σ l most).1.map Value.string)∧Else K w w' v (.slice a' (l.length+1) c'):=by
 have ha:=iR hD.1;obtain ⟨⟨x,σ2⟩,hx⟩:∃r,K.X.name σ=r:=⟨_,rfl⟩
 have HE:Hid (∀(b c:Bool),pW x l=b→decide (most≤l.length)=c→K.X.dU σ l most=(l++ [x],if b||c then σ2.wrong (K.X.here σ)else σ2)):=by
  show∀b c,_;intro b c h2 h3;unfold Tx.dU;simp only [hx,h2,h3]
 obtain ⟨a0,cap0,rfl,_⟩:=aY hown;have hbK:K.L≤base:=Nat.le_trans hD.2.2 hb0;obtain ⟨zH,tT⟩:∃x,K.X.here σ=x:=⟨_,rfl⟩;rw [tT]at ha HE;clear tT
 have hfin:Hid (∀(w3:World) (σ3:Ps),dQ K w σ3 w3→∀a' c' w',w'.ownsRow base 9 1 (.slice a' (l.length+1) c') (l.length+1) (l.map Value.string++ [.string x])→(w3.alloc (.cells #[.string x] 9)).grownBy w' (Value.slice a0 l.length cap0).ownBlock→Qo (w3.alloc (.cells #[.string x] 9)) (.slice a0 l.length cap0) (.slice a' (l.length+1) c')→
  dQ K w0 σ3 w' ∧Else K w w' (.slice a0 l.length cap0) (.slice a' (l.length+1) c')):=by
  show∀(w3:World) (σ3:Ps),_;intro w3 σ3 hd a' c' w' _ hg hn;have hd2:=hd.alloc (.cells #[.string x] 9);exact ⟨(hD.trans hd2).grown hg (fun g hg2=>Nat.le_trans hb0 (hown.lt g hg2).1),Else.ofR hd2 hg hn⟩
 have hD1:=dQ.refl hD.1;have HD0:Hid (K.L≤base):=hbK;have HX:=Lib.hid hx;clear hx
 have hq:((most:Int)≤(l.length:Int)∧decide (most≤l.length)=true)∨(¬(most:Int)≤(l.length:Int)∧decide (most≤l.length)=false):=by
  by_cases h:most≤l.length
  · exact .inl ⟨by omega,decide_eq_true h⟩
  · exact .inr ⟨by omega,decide_eq_false h⟩
 rcases hq with ⟨q0,hq⟩|⟨q0,hq⟩<;>cases hc:pW x l
 all_goals
  have HE2:=Lib.hid (HE.out _ _ hc hq);have HC:=Lib.hid hc;clear hc HE;go_enter func160,ntmps160;go_wp2_with fail;refine ha.mono ?_;rintro e w1 ⟨rfl,m,rfl⟩;replace hD1:=hD1.drewN m;have hnm:=fB hD1.1;rw [HX.out]at hnm;go_wp2_with fail;refine hnm.mono ?_;rintro e w3 ⟨rfl,hd3⟩;replace hD1:=hD1.trans hd3;have hcon:=Ip x (Rd.own (hD1.row hown HD0.out)) (by omega);rw [HC.out]at hcon;go_wp2_with fail;refine hcon.mono ?_;rintro e w4 ⟨rfl,rfl⟩;have hw2:=fU hD1.1 zH
  first
   |(go_wp2_with fail
     refine hw2.mono ?_;rintro e w5 ⟨rfl,hd5⟩;replace hD1:=hD1.trans hd5)
   |skip
  have hown3:=hD1.row hown HD0.out;have hs3:=hD1.size;have F:=hfin.out _ _ hD1;go_wp2_with (at_builtin;refine app1 Tryz.yg rfl _ _ rfl base _ _ _ rfl (hown3.alloc _) _ _ [.string x] rfl rfl (bg _ _ _) (by intro u hu;rw [List.mem_singleton.1 hu];rfl) (by omega) (by simp;omega) ?_;intro a' c' w6 h5 hg hn);go_ret;rw [HE2.out];have F2:=F a' c' w6 h5 hg hn;exact ⟨a',c',rfl,F2.1,by rw [List.map_append];exact h5,F2.2⟩
theorem wE {K:PK}{w:World}{σ:Ps}(h:RQ K w σ) (most:Nat) (hm:most≤100):
 Calls prog 131 #[.pointer (some ⟨K.b,0,none⟩), .int .i64 most] w fun e w' =>
  ∃a' c',e= .returned (.slice a' (K.X.gq σ most).1.length c')∧dQ K w (K.X.gq σ most).2 w' ∧w'.ownsRow w.heap.size 9 1 (.slice a' (K.X.gq σ most).1.length c') (K.X.gq σ most).1.length ((K.X.gq σ most).1.map Value.string):=by
 have hT:=K.hT;have hc0:=tq (dQ.refl h) w.heap.size (Nat.le_refl _) (Nat.le_refl _) (.slice none 0 0) [] most (World.ownsRow_nil _ _ _ _) (by simp) hm;have hi0:=DZ K.X σ [] most;have hl0:=sZ K.X σ [] most;have HF:Hid (K.X.gq σ most=K.X.gV most K.X.T.length (K.X.dU σ [] most).2 (K.X.dU σ [] most).1):=rfl;obtain ⟨⟨l0,F8⟩,hx⟩:∃r,K.X.dU σ [] most=r:=⟨_,rfl⟩;rw [hx]at hc0 hi0 hl0 HF;replace hl0:l0.length=1:=hl0;clear hx hi0;obtain ⟨R,hR⟩:∃R,K.X.gq σ most=R:=⟨_,rfl⟩;rw [hR]at HF⊢;clear hR;go_enter func131,ntmps131;go_wp2_with fail;refine hc0.mono ?_;rintro e w1 ⟨a1,c1,rfl,hD,hown,_⟩;clear hc0;go_wp2_with fail
 go_loopw [5] (fun v wr=>∃(l:List ByteArray) (a:Option Addr) (c:Nat) (σ2:Ps) (n:Nat),v= .slice a l.length c∧dQ K w σ2 wr∧wr.ownsRow w.heap.size 9 1 (.slice a l.length c) l.length (l.map Value.string)∧Hid (R=K.X.gV most n σ2 l)∧K.X.T.length - σ2.i≤n∧l.length+n≤K.X.T.length+1) (fun _ wr=>K.X.T.length - UG K wr)
 case atStart=>
  refine ⟨l0,a1,c1,F8,K.X.T.length, ?_,hD, ?_,HF.out,by omega,by omega⟩
  · rw [hl0]
  · have:=hown;rw [hl0];exact this
 case round=>
  clear hD hown HF;obtain ⟨l,a,c,σ2,n,rfl,hD,hown,HR,hn,hln⟩:=hrel;have hmay:=bB hD.1 (⟨#[44]⟩:ah);have Wp:=wD hD.1;have hsz:=hD.size;cases hs:K.X.sees σ2 (⟨#[44]⟩:ah)with
  |false=>
   unfold Tx.may at hmay;rw [hs]at hmay
   have HR2:Hid (R=(l,σ2)):=by
    show _=_;rw [HR.out];cases n with
    |zero=>rfl
    |succ n=>unfold Tx.gV;rw [hs];rfl
   go_wp2_with fail;refine hmay.mono ?_;rintro e w2 ⟨rfl,hd2⟩;go_wp2_with fail;go_ret;rw [HR2.out];exact ⟨a,c,rfl,hD.trans hd2,hd2.row hown hD.2.2⟩
  |true=>
   obtain ⟨hlt,_⟩:=oJ hs;unfold Tx.may at hmay;rw [hs]at hmay;obtain ⟨n,rfl⟩:∃m,n=m+1:=⟨n - 1,by omega⟩;have hst:σ2.step.i=σ2.i+1:=rfl;have hi:=DZ K.X σ2.step l most;have hle:=sZ K.X σ2.step l most
   have HR2:Hid (R=K.X.gV most n (K.X.dU σ2.step l most).2 (K.X.dU σ2.step l most).1):=by
    show _=_;rw [HR.out,Tx.gV,hs];rfl
   go_wp2_with fail;refine hmay.mono ?_;rintro e w2 ⟨rfl,hd2⟩;have hD2:dQ K w σ2.step w2:=hD.trans hd2;have hc:=tq hD2 w.heap.size (Nat.le_refl _) hD2.size _ l most (hd2.row hown hD.2.2) (by omega) hm;obtain ⟨⟨l3,σ3⟩,hx⟩:∃r,K.X.dU σ2.step l most=r:=⟨_,rfl⟩;rw [hx]at hc hi hle HR2;replace hi:σ2.step.i≤σ3.i:=hi;replace hle:l3.length=l.length+1:=hle;clear hx HR hown hD;go_wp2_with fail;refine hc.mono ?_;rintro e w3 ⟨a3,c3,rfl,hD3,hown3,_⟩;have ac9:=wD hD3.1;go_wp2_with fail;go_roundw
   case rel=>
    refine ⟨l3,a3,c3,σ3,n,by rw [hle],hD3, ?_,HR2.out,by omega,by omega⟩;rw [hle];exact hown3
   case measure=>rw [Wp,ac9];omega
theorem Kv {K:PK}{w:World}{σ:Ps}(h:RQ K w σ):
 Calls prog 90 #[.pointer (some ⟨K.b,0,none⟩)] w fun e w' =>
  ∃a' c',e= .returned (.slice a' (K.X.wL σ).1.length c')∧dQ K w (K.X.wL σ).2 w' ∧w'.ownsRow w.heap.size 9 1 (.slice a' (K.X.wL σ).1.length c') (K.X.wL σ).1.length ((K.X.wL σ).1.map Value.string):=by
 have hmay:=bB h (⟨#[42]⟩:ah);unfold Tx.may at hmay;unfold Tx.wL;cases hs:K.X.sees σ (⟨#[42]⟩:ah)with
 |true=>
  rw [hs]at hmay;go_enter func90,ntmps90;go_wp2_with fail;refine hmay.mono ?_;rintro e w2 ⟨rfl,hd2⟩;go_wp2_with fail;go_ret;exact ⟨none,0,rfl,hd2,World.ownsRow_nil _ _ _ _⟩
 |false=>
  rw [hs]at hmay;go_enter func90,ntmps90;go_wp2_with fail;refine hmay.mono ?_;rintro e w2 ⟨rfl,hd2⟩;replace hd2:dQ K w σ w2:=hd2;have hc:=wE hd2.1 8 (by omega);go_wp2_with fail;refine hc.mono ?_;rintro e w3 ⟨a3,c3,rfl,hd3,hown3⟩;go_wp2_with fail;go_ret;exact ⟨a3,c3,rfl,hd2.trans hd3,aR hown3 hd2.size⟩
theorem ad9 {K:PK}{w w1:World}{σ:Ps}{k:Nat}{x0 x1 x2 x3:Value}{T:TypeId}(h1:w1.heap[k]? =some (.cells #[x0,x1,x2,x3] T (0,0))) (hD:dQ K w σ w1) (hk:w.heap.size≤k) (v0 v1 v2 v3:Value) (W:World)
 (hW:W=(((w1.setCell ⟨k,0,none⟩ v0).setCell ⟨k,1,none⟩ v1).setCell ⟨k,2,none⟩ v2).setCell ⟨k,3,none⟩ v3):
 W.cell? ⟨k,0,none⟩=some v0∧W.cell? ⟨k,1,none⟩=some v1∧W.cell? ⟨k,2,none⟩=some v2∧W.cell? ⟨k,3,none⟩=some v3∧dQ K w σ W:=by
 subst hW;have hp:=NM h1 v0 v1 v2 v3;exact ⟨by rw [au hp];rfl,by rw [au hp];rfl,by rw [au hp];rfl,by rw [au hp];rfl,(((hD.own hk _ _).own hk _ _).own hk _ _).own hk _ _⟩
theorem VD {W:World}{tm:Array Value}{k:Nat}{v0 v1 v2 v3:Value}(ht:tm[2]? =some (.pointer (some ⟨k,0,none⟩))) (r0:W.cell? ⟨k,0,none⟩=some v0) (r1:W.cell? ⟨k,1,none⟩=some v1) (r2:W.cell? ⟨k,2,none⟩=some v2) (r3:W.cell? ⟨k,3,none⟩=some v3):
 (results Tryz.f136 tm).run prog W= .ok (.agg #[v0,v1,v2,v3]) W:=by
 simp [results,results136,go_sem,ht,r0,r1,r2,r3]
theorem VE {K:PK}{w:World}{σ:Ps}(h:RQ K w σ):
 Calls prog 136 #[.pointer (some ⟨K.b,0,none⟩)] w (pR K w (.agg (kI (K.X.equal σ).1).toArray) (K.X.equal σ).2):=by
 obtain ⟨⟨x,σ1⟩,hx⟩:∃r,K.X.name σ=r:=⟨_,rfl⟩;obtain ⟨⟨t,σ3⟩,hv⟩:∃r,K.X.value (K.X.must σ1 [(⟨#[61]⟩:ah)])=r:=⟨_,rfl⟩;have HE:Hid (K.X.equal σ=(⟨x,t⟩,σ3)):=by show _=_;unfold Tx.equal;simp only [hx,hv]
 have hD0:=(dQ.refl h).alloc (.cells #[.string ⟨#[]⟩, .int .i64 0, .string ⟨#[]⟩, .int .i64 0] 62);have hbl:=aA w (.cells #[.string ⟨#[]⟩, .int .i64 0, .string ⟨#[]⟩, .int .i64 0] 62);have hle:=h.le;have hnm:=fB hD0.1;rw [hx]at hnm;go_enter func136,ntmps136;go_wp2_with fail;refine hnm.mono ?_;rintro e w1 ⟨rfl,hd1⟩;have DI:=hd1.blk hbl hle;have hs1:=hd1.size;simp only [av]at hs1;have hD1:=(hD0.trans hd1).alloc (.cells #[.string x, .int .i64 0, .string ⟨#[]⟩, .int .i64 0] 62);have ada:=aA w1 (.cells #[.string x, .int .i64 0, .string ⟨#[]⟩, .int .i64 0] 62);have adb:=aC DI (.cells #[.string x, .int .i64 0, .string ⟨#[]⟩, .int .i64 0] 62);have hm:=bI hD1.1 (⟨#[61]⟩:ah);go_wp2_with fail;refine hm.mono ?_;rintro e w2 ⟨rfl,hd2⟩;have ade:=hd2.blk ada (by omega);have adf:=hd2.blk adb hle;have hs2:=hd2.size;simp only [av]at hs2;have hD2:=hD1.trans hd2;have hval:=yL hD2.1 hv;go_wp2_with fail;refine hval.mono ?_;rintro e w3 ⟨rfl,hd3⟩;have adg:=hd3.blk ade (by omega);have X9:=hd3.blk adf hle;have hD3:=hD2.trans hd3;have hne:w.heap.size≠w1.heap.size:=by omega
 obtain ⟨t0,t1,t2,t3,u0,u1,u2,u3⟩:=Kg adg;obtain ⟨y0,y1,y2,y3,z0,z1,z2,z3⟩:=Kg X9;go_wp2_with fail;have hD4:=((hD3.own (k:=w1.heap.size) (by omega) 1 (.int .i64 t.ty)).own (k:=w1.heap.size) (by omega) 2 (.string t.s)).own (k:=w1.heap.size) (by omega) 3 (.int .i64 t.n);have adh:=bN (bN (bN X9 ⟨w1.heap.size,1,none⟩ (.int .i64 t.ty) hne) ⟨w1.heap.size,2,none⟩ (.string t.s) hne) ⟨w1.heap.size,3,none⟩ (.int .i64 t.n) hne;obtain ⟨r0,r1,r2,r3,hD5⟩:=ad9 adh hD4 (Nat.le_refl _) (.string x) (.int .i64 t.ty) (.string t.s) (.int .i64 t.n) _ rfl;refine bodyPost_ret (VD rfl r0 r1 r2 r3) rfl ?_;rw [HE.out];exact ⟨rfl,hD5⟩
theorem CP {K:PK}{w:World}{σ:Ps}(h:RQ K w σ) {p:Pr}{σ' :Ps}(hv:K.X.equal σ=(p,σ')):
 Calls prog 136 #[.pointer (some ⟨K.b,0,none⟩)] w (pR K w (.agg #[.string p.name, .int .i64 p.t.ty, .string p.t.s, .int .i64 p.t.n]) σ'):=by
 have:=VE h;rw [hv]at this;exact this
end Go.Proofs.YtcgadodckoalnaaGreatDoor
