/- Parts of a proof. -/
import Derived.StillTailTactics
import Derived.Deep.Cut
import Derived.Deep.CutRange
import Derived.Deep.CutBlock
import Derived.Test.YtnngbhpeeakfaaaGreatDoorB06
import Derived.Test.YtnngbhpeeakfaaaGreatDoorB13
import Derived.Test.YtnngbhpeeakfaaaGreatDoorB14
import Derived.Test.YtnngbhpeeakfaaaGreatDoorB16
import Derived.Test.YtnngbhpeeakfaaaGreatDoorB20
import Derived.Test.YtnngbhpeeakfaaaGreatDoorB21
set_option maxHeartbeats 4000000
set_option maxRecDepth 100000
namespace Go.Proofs.YtnngbhpeeakfaaaGreatDoor
open Go.Proofs.Tryz
open Go.RowKit
open aK
def RQ (K:PK) (w:World) (σ:Ps):Prop:=
 K.L≤w.heap.size∧Below K.ws.heap.size K.ws w∧∃a cap,w.heap[K.b]? =some (.cells #[.slice a K.X.T.length cap, .int .i64 σ.i, .int .i64 K.X.en, .int .i64 σ.iB] 156 (0,0))∧
  (0<K.X.T.length→∃g,a=some ⟨g,0,none⟩∧g≠K.b∧g<K.L∧∀j u,(lK K.X.T)[j]? =some u→w.cell? ⟨g,j,none⟩=some u)∧K.X.Ok
def eO (K:PK) (w0:World) (σ:Ps) (w:World):Prop:=RQ K w σ∧w0.grownBy w (some K.b)∧K.L≤w0.heap.size
section
variable {K:PK}{w0 w w' :World}{σ σ' :Ps}
theorem RQ.glob (h:RQ K w σ):Gp w:=K.hG.below h.2.1
theorem RQ.le (h:RQ K w σ):K.L≤w.heap.size:=h.1
theorem RQ.ok (h:RQ K w σ):K.X.Ok:=by obtain ⟨_,_,_,_,_,_,hok⟩:=h;exact hok
theorem RQ.lt (h:RQ K w σ):K.b<w.heap.size:=Nat.lt_of_lt_of_le K.hL h.1
theorem RQ.keep (h:RQ K w σ) (hs:w.heap.size≤w'.heap.size) (hb:∀k,k<K.L→w'.heap[k]? =w.heap[k]?) (hw:Below K.ws.heap.size K.ws w'):RQ K w' σ:=by
 obtain ⟨h0,hB,a,cap,h1,h2,hok⟩:=h;refine ⟨Nat.le_trans h0 hs,hw,a,cap,by rw [hb K.b K.hL];exact h1,fun hp=> ?_,hok⟩;obtain ⟨g,e1,e2,e3,e4⟩:=h2 hp;refine ⟨g,e1,e2,e3,fun j u hj=> ?_⟩;rw [←e4 j u hj];unfold World.cell?;rw [hb g e3]
theorem RQ.below (h:RQ K w σ) (hb:Below w.heap.size w w'):RQ K w' σ:=
 h.keep hb.size (fun k hk=>hb.block k (Nat.lt_of_lt_of_le hk h.1)) (h.2.1.trans (hb.mono h.2.1.size))
theorem RQ.own (h:RQ K w σ) {k:Nat}(hk:K.L≤k) (o:Nat) (u:Value):RQ K (w.setCell ⟨k,o,none⟩ u) σ:=
 h.keep (by simp [World.setCell]) (fun j hj=>Below.heap_setCell _ _ _ _ (by show j≠k;omega)) (h.2.1.trans ⟨rfl,rfl,rfl,by simp [World.setCell],fun i hi=>Below.heap_setCell _ _ _ _ (by show i≠k;have:=K.hb;have:=K.hL;omega)⟩)
theorem RQ.set (h:RQ K w σ) (j:Nat) (v:Value) (σ' :Ps) (hv:(#[Value.slice none 0 0, .int .i64 σ.i, .int .i64 K.X.en, .int .i64 σ.iB]:Array Value).setIfInBounds j v= #[Value.slice none 0 0, .int .i64 σ'.i, .int .i64 K.X.en, .int .i64 σ'.iB]) (hj:j=1∨j=3):RQ K (w.setCell ⟨K.b,j,none⟩ v) σ' :=by
 obtain ⟨h0,hB,a,cap,h1,h2,hok⟩:=h;refine ⟨by simpa [World.setCell]using h0,hB.trans ⟨rfl,rfl,rfl,by simp [World.setCell],fun i hi=>Below.heap_setCell _ _ _ _ (by show i≠K.b;have:=K.hb;omega)⟩,a,cap, ?_,fun hp=> ?_,hok⟩
 · rw [bG h1 j v];rcases hj with rfl|rfl
   · simp at hv⊢;exact ⟨hv.1,hv.2⟩
   · simp at hv⊢;exact ⟨hv.1,hv.2⟩
 obtain ⟨g,e1,e2,e3,e4⟩:=h2 hp;refine ⟨g,e1,e2,e3,fun k u hk=> ?_⟩;rw [←e4 k u hk];unfold World.cell?;rw [Below.heap_setCell _ _ _ _ e2]
theorem RQ.step (h:RQ K w σ):RQ K (w.setCell ⟨K.b,1,none⟩ (.int .i64 ((σ.i:Int)+1))) σ.step:=
 h.set 1 _ _ (by simp [Ps.step,Ps.iB]) (.inl rfl)
theorem RQ.bad (h:RQ K w σ) (a:Nat):RQ K (w.setCell ⟨K.b,3,none⟩ (.int .i64 a)) ⟨σ.i,some a⟩:=
 h.set 3 _ _ (by simp [Ps.iB]) (.inr rfl)
theorem RQ.cells (h:RQ K w σ):∃a cap,w.cell? ⟨K.b,0,none⟩=some (.slice a K.X.T.length cap)∧w.cell? ⟨K.b,1,none⟩=some (.int .i64 σ.i)∧w.cell? ⟨K.b,2,none⟩=some (.int .i64 K.X.en)∧w.cell? ⟨K.b,3,none⟩=some (.int .i64 σ.iB)∧
 w.frozen? ⟨K.b,1,none⟩=false∧w.frozen? ⟨K.b,3,none⟩=false∧(0<K.X.T.length→∃g,a=some ⟨g,0,none⟩∧∀j u,(lK K.X.T)[j]? =some u→w.cell? ⟨g,j,none⟩=some u):=by
 obtain ⟨_,_,a,cap,h1,h2,_⟩:=h;refine ⟨a,cap,by rw [aj h1];rfl,by rw [aj h1];rfl,by rw [aj h1];rfl,by rw [aj h1];rfl,ak h1 1,ak h1 3,fun hp=> ?_⟩;obtain ⟨g,e1,_,_,e4⟩:=h2 hp;exact ⟨g,e1,e4⟩
theorem eO.refl (h:RQ K w σ):eO K w σ w:=⟨h,sI _ _,h.1⟩
theorem eO.trans (h:eO K w0 σ w) (k:eO K w σ' w'):eO K w0 σ' w' :=⟨k.1,aJ h.2.1 k.2.1,h.2.2⟩
theorem eO.below (h:eO K w0 σ w) (hb:Below w.heap.size w w'):eO K w0 σ w' :=⟨h.1.below hb,aJ h.2.1 (jR hb _),h.2.2⟩
theorem eO.drewN (h:eO K w0 σ w) (n:Nat):eO K w0 σ (w.drewN n):=h.below (aK.below_drewN (Below.refl _ _) n)
theorem eO.alloc (h:eO K w0 σ w) (o:Obj):eO K w0 σ (w.alloc o):=h.below ((Below.refl _ _).alloc (Nat.le_refl _) _)
theorem eO.size (h:eO K w0 σ w):w0.heap.size≤w.heap.size:=h.2.1.size
theorem eO.own (h:eO K w0 σ w) {k:Nat}(hk:w0.heap.size≤k) (o:Nat) (u:Value):eO K w0 σ (w.setCell ⟨k,o,none⟩ u):=
 ⟨h.1.own (Nat.le_trans h.2.2 hk) o u,⟨h.2.1.os,h.2.1.tape,h.2.1.output,by have:=h.2.1.size;simpa [World.setCell]using this,fun i hi hr=>by
  rw [Below.heap_setCell _ _ _ _ (by show i≠k;omega)];exact h.2.1.block i hi hr⟩,h.2.2⟩
theorem eO.step (h:eO K w0 σ w):eO K w0 σ.step (w.setCell ⟨K.b,1,none⟩ (.int .i64 ((σ.i:Int)+1))):=⟨h.1.step,aJ h.2.1 (jq _ _ _ _),h.2.2⟩
theorem eO.bad (h:eO K w0 σ w) (a:Nat):eO K w0 ⟨σ.i,some a⟩ (w.setCell ⟨K.b,3,none⟩ (.int .i64 a)):=⟨h.1.bad a,aJ h.2.1 (jq _ _ _ _),h.2.2⟩
theorem eO.blk (h:eO K w σ' w') {k:Nat}{o:Obj}(hk:w.heap[k]? =some o) (hkb:K.L≤k):w'.heap[k]? =some o:=by
 rw [h.2.1.block k (aG hk) (fun e=>by cases e;have:=K.hL;omega)];exact hk
theorem eO.row (h:eO K w σ' w') {base:Nat}{e:TypeId}{size:Nat}{v:Value}{n:Nat}{xs:List Value}(hr:w.ownsRow base e size v n xs) (hb:K.L≤base):w'.ownsRow base e size v n xs:=
 mF hr h.2.1 (by have:=K.hL;omega)
end
abbrev BP (K:PK) (w:World) (v:Value) (σ:Ps):Ending→World→Prop:=fun e w' =>e= .returned v∧eO K w σ w'
theorem rJ {K:PK}{w:World}{σ:Ps}(h:RQ K w σ):
 Calls prog 90 #[.pointer (some ⟨K.b,0,none⟩)] w fun e w' =>e= .returned (.int .i64 (K.X.here σ))∧∃m,w' =w.drewN m:=by
 obtain ⟨a,cap,c0,c1,c2,c3,_,_,hc⟩:=h.cells;by_cases hlt:σ.i<K.X.T.length
 · obtain ⟨g,rfl,hg⟩:=hc (by omega);have q0:(σ.i:Int)<(K.X.T.length:Int):=by omega
   have q1:(0:Int)≤(σ.i:Int):=by omega
   have c4:w.cell? ⟨g,σ.i*4+3,none⟩=some (.int .i64 K.X.T[σ.i].at_):=hg _ _ (by rw [iP _ σ.i 3 hlt (by omega)];rfl);have HE:Hid (K.X.here σ=K.X.T[σ.i].at_):=by show _=_;unfold Tx.here;rw [List.getElem?_eq_getElem hlt]
   clear hc hg;generalize K.X.T[σ.i]=t at *;go_enter func90,ntmps90;go_wp2_with fail;go_quiet (fail);go_wp2_with fail;go_quiet (fail);go_wp2_with fail;go_ret;exact ⟨j4 (by rw [HE.out]),_,World.drewN_drewN _ _ _⟩
 · have q0:¬(σ.i:Int)<(K.X.T.length:Int):=by omega
   have HE:Hid (K.X.here σ=K.X.en):=by show _=_;unfold Tx.here;rw [List.getElem?_eq_none (by omega)]
   clear hc;go_enter func90,ntmps90;go_wp2_with fail;go_quiet (fail);go_wp2_with fail;go_ret;exact ⟨j4 (by rw [HE.out]),_,rfl⟩
theorem pF {K:PK}{w:World}{σ:Ps}(h:RQ K w σ) (a:Nat):
 Calls prog 89 #[.pointer (some ⟨K.b,0,none⟩), .int .i64 a] w (BP K w (.tuple #[]) (σ.wrong a)):=by
 obtain ⟨_,_,_,_,_,c3,_,f3,_⟩:=h.cells;have HD:=eO.refl h;cases hb:σ.bad with
 |none=>
  have hbi:σ.iB= -1:=by unfold Ps.iB;rw [hb]
  rw [hbi]at c3;have HE:Hid (σ.wrong a=⟨σ.i,some a⟩):=by show _=_;unfold Ps.wrong;rw [hb]
  clear hbi;go_enter func89,ntmps89;go_wp2_with fail
  go_end0
  rw [HE.out];exact ⟨rfl,HD.bad a⟩
 |some x=>
  have hbi:σ.iB=x:=by unfold Ps.iB;rw [hb]
  rw [hbi]at c3;have q0:¬((x:Int)<0):=by omega
  have HE:Hid (σ.wrong a=σ):=by show _=_;unfold Ps.wrong;rw [hb]
  clear hbi;go_enter func89,ntmps89;go_wp2_with fail
  go_end0
  rw [HE.out];exact ⟨rfl,HD⟩
section
variable {K:PK}{w0 w w1 w' :World}{σ σ' :Ps}
theorem eO.grown (h:eO K w0 σ w) {r:Option Nat}(hg:w.grownBy w' r) (hr:∀g,r=some g→w0.heap.size≤g):eO K w0 σ w' :=by
 have hK:=h.2.2;have hL:=K.hL;have hs:=h.2.1.size;have hw:=K.hb;refine ⟨h.1.keep hg.size (fun k hk=>hg.block k (by have:=h.1.le;omega) (fun e=>by have:=hr k e.symm;omega)) (h.1.2.1.trans ⟨hg.os,hg.tape,hg.output,hg.size,fun i hi=>hg.block i (by have:=h.1.lt;omega) (fun e=>by have:=hr i e.symm;omega)⟩), ?_,hK⟩;exact ⟨hg.os.trans h.2.1.os,hg.tape.trans h.2.1.tape,hg.output.trans h.2.1.output,Nat.le_trans hs hg.size,fun i hi hne=>(hg.block i (by omega) (fun e=>by have:=hr i e.symm;omega)).trans (h.2.1.block i hi hne)⟩
end
theorem Pn {K:PK}{w:World}{σ:Ps}(h:RQ K w σ) (k:Int) (s:ByteArray):
 Calls prog 161 #[.pointer (some ⟨K.b,0,none⟩), .int .i64 k, .string s] w fun e w' =>e= .returned (.bool (K.X.isK σ k s))∧∃m,w' =w.drewN m:=by
 obtain ⟨a,cap,c0,c1,c2,c3,_,_,hc⟩:=h.cells;cases hb:σ.bad with
 |some x=>
  have hbi:σ.iB=x:=by unfold Ps.iB;rw [hb]
  rw [hbi]at c3;have hd:decide ((x:Int)<0)=false:=decide_eq_false (by omega);have HE:Hid (K.X.isK σ k s=false):=by show _=_;unfold Tx.isK Tx.next;rw [hb]
  clear hbi hc h hb;go_enter func161,ntmps161;go_wp2_with fail;go_quiet (fail);go_wp2_with fail;go_ret;exact ⟨aR (by rw [HE.out]),_,rfl⟩
 |none=>
  have hbi:σ.iB= -1:=by unfold Ps.iB;rw [hb]
  rw [hbi]at c3;by_cases hlt:σ.i<K.X.T.length
  · obtain ⟨g,rfl,hg⟩:=hc (by omega);have hd:decide ((σ.i:Int)<(K.X.T.length:Int))=true:=decide_eq_true (by omega);have q0:(σ.i:Int)<(K.X.T.length:Int):=by omega
    have q1:(0:Int)≤(σ.i:Int):=by omega
    have d0:w.cell? ⟨g,σ.i*4,none⟩=some (.int .i64 K.X.T[σ.i].kind):=hg _ _ (by have:=iP K.X.T σ.i 0 hlt (by omega);rw [Nat.add_zero]at this;rw [this];rfl);have d1:w.cell? ⟨g,σ.i*4+1,none⟩=some (.string K.X.T[σ.i].s):=hg _ _ (by rw [iP _ σ.i 1 hlt (by omega)];rfl)
    have HE:Hid (K.X.isK σ k s=((K.X.T[σ.i].kind==k)&&fB K.X.T[σ.i].s s)):=by
     show _=_;unfold Tx.isK Tx.next;rw [hb,List.getElem?_eq_getElem hlt];simp only;by_cases hk:K.X.T[σ.i].kind=k
     · rw [if_pos hk,beq_iff_eq.2 hk];rfl
     · rw [if_neg hk,beq_eq_false_iff_ne.2 hk];rfl
    have e1:=bU K.X.T[σ.i].s s;clear hc hg h hb hbi;generalize K.X.T[σ.i]=t at *;generalize fB t.s s=q at *;cases hk:(t.kind==k)with
    |true=>
     rw [hk]at HE;go_enter func161,ntmps161;go_wp2_with fail;go_quiet (fail);go_wp2_with fail;go_ret;exact ⟨aR (by rw [HE.out];simp),_,rfl⟩
    |false=>
     rw [hk]at HE;go_enter func161,ntmps161;go_wp2_with fail;go_quiet (fail);go_wp2_with fail;go_ret;exact ⟨aR (by rw [HE.out];simp),_,rfl⟩
  · have hd:decide ((σ.i:Int)<(K.X.T.length:Int))=false:=decide_eq_false (by omega);have HE:Hid (K.X.isK σ k s=false):=by show _=_;unfold Tx.isK Tx.next;rw [hb,List.getElem?_eq_none (by omega)]
    clear hc h hb hbi;go_enter func161,ntmps161;go_wp2_with fail;go_quiet (fail);go_wp2_with fail;go_ret;exact ⟨aR (by rw [HE.out]),_,rfl⟩
theorem lU {K:PK}{w:World}{σ:Ps}(h:RQ K w σ) (s:ByteArray):
 Calls prog 88 #[.pointer (some ⟨K.b,0,none⟩), .string s] w (BP K w (.bool (K.X.sees σ s)) (K.X.may σ s)):=by
 have hD:=eO.refl h;have hT:=K.hT;have h1:=Pn h 1 s;have h4:=fun m=>Pn (h.below (aK.below_drewN (Below.refl _ _) m)) 4 s
 have HS:=Lib.hid (Us K.X σ s);unfold Tx.may;cases b1:K.X.isK σ 1 s with
 |true=>
  have hs:K.X.sees σ s=true:=by rw [HS.out,b1];rfl
  obtain ⟨hlt,_⟩:=sJ hs;have hov:IntKind.i64.wrap ((σ.i:Int)+1)=(σ.i:Int)+1:=IntWalk.i64_in _ (by omega);rw [b1]at h1;rw [hs,if_pos rfl];go_enter func88,ntmps88;go_wp2_with fail;refine h1.mono ?_;rintro e w1 ⟨rfl,m,rfl⟩;replace hD:=hD.drewN m;obtain ⟨_,_,c0,c1,_,_,f1,_,_⟩:=hD.1.cells;go_wp2_with fail;go_ret;exact ⟨rfl,hD.step⟩
 |false=>
  cases b4:K.X.isK σ 4 s with
  |true=>
   have hs:K.X.sees σ s=true:=by rw [HS.out,b1,b4];rfl
   obtain ⟨hlt,_⟩:=sJ hs;have hov:IntKind.i64.wrap ((σ.i:Int)+1)=(σ.i:Int)+1:=IntWalk.i64_in _ (by omega);rw [b1]at h1;rw [b4]at h4;rw [hs,if_pos rfl];go_enter func88,ntmps88;go_wp2_with fail;refine h1.mono ?_;rintro e w1 ⟨rfl,m,rfl⟩;go_wp2_with fail;refine (h4 m).mono ?_;rintro e w1 ⟨rfl,m2,rfl⟩;replace hD:=hD.drewN (m+m2);obtain ⟨_,_,c0,c1,_,_,f1,_,_⟩:=hD.1.cells;go_wp2_with fail;go_ret;exact ⟨rfl,hD.step⟩
  |false=>
   have hs:K.X.sees σ s=false:=by rw [HS.out,b1,b4];rfl
   rw [b1]at h1;rw [b4]at h4;rw [hs,if_neg (by decide)];go_enter func88,ntmps88;go_wp2_with fail;refine h1.mono ?_;rintro e w1 ⟨rfl,m,rfl⟩;go_wp2_with fail;refine (h4 m).mono ?_;rintro e w1 ⟨rfl,m2,rfl⟩;go_wp2_with fail;go_ret;exact ⟨rfl,hD.drewN (m+m2)⟩
theorem pG {K:PK}{w:World}{σ:Ps}(h:RQ K w σ) (s:ByteArray):
 Calls prog 157 #[.pointer (some ⟨K.b,0,none⟩), .string s] w (BP K w (.tuple #[]) (K.X.bS σ s)):=by
 have hm:=lU h s;unfold Tx.may at hm;unfold Tx.bS;cases hs:K.X.sees σ s with
 |true=>
  rw [hs,if_pos rfl]at hm;rw [if_pos rfl];go_enter func157,ntmps157;go_wp2_with fail;refine hm.mono ?_;rintro e w1 ⟨rfl,hd⟩;go_wp2_with fail
  go_end0
  exact ⟨rfl,hd⟩
 |false=>
  rw [hs,if_neg (by decide)]at hm;rw [if_neg (by decide)];go_enter func157,ntmps157;go_wp2_with fail;refine hm.mono ?_;rintro e w1 ⟨rfl,hd⟩;have ha:=rJ hd.1;go_wp2_with fail;refine ha.mono ?_;rintro e w2 ⟨rfl,m,rfl⟩;have hd2:=hd.drewN m;have hw:=pF hd2.1 (K.X.here σ);go_wp2_with fail;refine hw.mono ?_;rintro e w3 ⟨rfl,hd3⟩;go_wp2_with fail
  go_end0
  exact ⟨rfl,hd2.trans hd3⟩
theorem eO.cell {K:PK}{w w' :World}{σ:Ps}(h:eO K w σ w') {g:Nat}(hg:g<w.heap.size) (hgb:g≠K.b) (j:Nat):w'.cell? ⟨g,j,none⟩=w.cell? ⟨g,j,none⟩:=by
 unfold World.cell?;rw [h.2.1.block g hg (fun e=>by cases e;exact hgb rfl)]
theorem Nz {K:PK}{w:World}{σ:Ps}(h:RQ K w σ) (l:List ByteArray) (g cap:Nat) (hg:g<w.heap.size) (hgb:g≠K.b) (hl:l.length≤1000) (hc:∀j (h:j<l.length),w.cell? ⟨g,j,none⟩=some (.string l[j])):
 Calls prog 294 #[.pointer (some ⟨K.b,0,none⟩), .slice (some ⟨g,0,none⟩) l.length cap] w (BP K w (.tuple #[]) (K.X.must σ l)):=by
 have hD:=eO.refl h;have HC:=Lib.hid hc;clear hc;go_enter func294,ntmps294;go_wp2_with fail
 go_loopw [4] (fun i wr=>∃j:Nat,i= .int .i64 j∧j≤l.length∧eO K w (K.X.must σ (l.take j)) wr) (fun i _=>l.length - (intOf i).toNat)
 case atStart=>exact ⟨0,rfl,by omega,hD⟩
 case round=>
  clear hD;obtain ⟨j,rfl,hj,hD⟩:=hrel;by_cases hlt:j<l.length
  · have q0:(j:Int)<(l.length:Int):=by omega
    have q1:(0:Int)≤(j:Int):=by omega
    have c0:=(hD.cell hg hgb j).trans (HC.out j hlt);have hm:=pG hD.1 l[j];have HE:=Lib.hid (Gh K.X σ l j hlt);generalize l[j]=s at *;go_wp2_with fail;refine hm.mono ?_;rintro e w1 ⟨rfl,hd⟩;go_wp2_with fail;go_roundw
    case rel=>exact ⟨j+1,by go_num,by omega,by rw [HE.out];exact hD.trans hd⟩
    case measure=>simp [intOf];omega
  · have q0:¬(j:Int)<(l.length:Int):=by omega
    have hj2:j=l.length:=by omega
    subst hj2;rw [List.take_length]at hD;go_wp2_with fail
    go_end0
    exact ⟨rfl,hD⟩
theorem Lg (a b:ByteArray):fB a b=fB b a:=by
 unfold fB;exact decide_eq_decide.2 ⟨Eq.symm,Eq.symm⟩
theorem V3 {x:ByteArray}{l:List ByteArray}{j:Nat}(hj:j<l.length) (h:lu x (l.take j)=false) (hb:fB l[j] x=false):lu x (l.take (j+1))=false:=by
 rw [List.take_succ_eq_append_getElem hj];unfold lu at h⊢;rw [List.any_append,h];simp only [List.any_cons,List.any_nil,Bool.or_false,Bool.false_or];rw [Lg];exact hb
theorem EH {w:World}{v:Value}{l:List ByteArray}(x:ByteArray) (hr:Rd w v l.length (l.map Value.string)) (hl:l.length≤200000):
 Calls prog 296 #[v, .string x] w fun e w' =>e= .returned (.bool (lu x l))∧w' =w:=by
 obtain ⟨a,cap,rfl,hg⟩:=hr;go_enter func296,ntmps296;go_wp2_with fail
 go_loopw [5] (fun i wr=>∃j:Nat,i= .int .i64 j∧j≤l.length∧w=wr∧Hid (lu x (l.take j)=false)) (fun i _=>l.length - (intOf i).toNat)
 case atStart=>exact ⟨0,rfl,by omega,rfl,by show _=_;rfl⟩
 case round=>
  obtain ⟨j,rfl,hj,rfl,HN⟩:=hrel;by_cases hlt:j<l.length
  · obtain ⟨g,off,rfl,hc⟩:=hg (by omega);have q0:(j:Int)<(l.length:Int):=by omega
    have q1:(0:Int)≤(j:Int):=by omega
    have c0:w.cell? ⟨g,off+j,none⟩=some (.string l[j]):=hc j _ (by simp [hlt]);have e1:=bU l[j] x;have HT:=Lib.hid (fun hb=>V3 (x:=x) hlt HN.out hb);have HI:Hid (fB l[j] x=true→lu x l=true):=fun h=>aK.oh.2 (by rw [←dY.1 h];exact List.getElem_mem _)
    clear hg hc;generalize l[j]=s at *;cases hb:fB s x with
    |true=>
     rw [hb]at e1;go_wp2_with fail;go_ret;exact ⟨aR (HI.out hb).symm,rfl⟩
    |false=>
     rw [hb]at e1;go_wp2_with fail;go_roundw
     case rel=>exact ⟨j+1,by go_num,by omega,trivial,HT.out hb⟩
     case measure=>simp [intOf];omega
  · have q0:¬(j:Int)<(l.length:Int):=by omega
    have jV:j=l.length:=by omega
    subst jV;have HF:Hid (lu x l=false):=by have:=HN.out;rw [List.take_length]at this;exact this
    go_wp2_with fail;go_ret;exact ⟨aR HF.out.symm,rfl⟩
theorem abx {s:ByteArray}{j:Nat}{b:Bool}(h:j+(s.size+2)≤185) (hb:fB (qy.extract j (j+(s.size+2))) (Ki s)=b):Dw s j=b:=by
 unfold Dw;rw [decide_eq_true h,hb];rfl
theorem RU {s:ByteArray}{j:Nat}(hj:j≤185) (h:Dw s j=true):tJ s=true:=by
 unfold tJ;rw [List.any_eq_true];exact ⟨j,List.mem_range.2 (by omega),h⟩
theorem NA {s:ByteArray}{j:Nat}(h:∀k,k<j→Dw s k=false) (hj:¬j+(s.size+2)≤185):tJ s=false:=by
 cases hr:tJ s with
 |false=>rfl
 |true=>
  unfold tJ at hr;rw [List.any_eq_true]at hr;obtain ⟨k,_,hk⟩:=hr;by_cases hkj:k<j
  · rw [h k hkj]at hk;cases hk
  · unfold Dw at hk;rw [decide_eq_false (by omega)]at hk;exact absurd hk (by simp)
theorem FC (s:ByteArray) (w:World) (hs:s.size≤1000):
 Calls prog 236 #[.string s] w fun e w' =>e= .returned (.bool (tJ s))∧w' =w:=by
 have hsz:(Ki s).size=s.size+2:=Ut s;obtain ⟨t,ht⟩:∃t,(⟨#[32]⟩:ah)++s++⟨#[32]⟩=t:=⟨_,rfl⟩;have HP:Hid (Ki s=t):=ht;rw [HP.out]at hsz;have HZ:=Lib.hid hsz;have hz2:t.size≤1002:=by omega
 clear hsz;go_enter func236,ntmps236;go_wp2_with fail;clear ht
 go_loop [4] (fun i=>∃j:Nat,i= .int .i64 j∧j≤186∧Hid (∀k,k<j→Dw s k=false)) (fun i=>186 - (intOf i).toNat)
 case atStart=>exact ⟨0,rfl,by omega,fun k hk=>absurd hk (Nat.not_lt_zero _)⟩
 case round=>
  obtain ⟨j,rfl,hj,HN⟩:=hrel;by_cases hle:j+(s.size+2)≤185
  · have q0:(j:Int)+(t.size:Int)≤185:=by have:=HZ.out;omega
    have e1:=bU (qy.extract j (j+t.size)) t;unfold qy at e1;have HB:=Lib.hid (fun b (hb:fB (qy.extract j (j+(s.size+2))) (Ki s)=b)=>abx hle hb);rw [HP.out,←HZ.out]at HB;cases hb:fB (qy.extract j (j+t.size)) t with
    |true=>
     unfold qy at hb;rw [hb]at e1;go_wp2_with fail;go_ret;exact ⟨aR (RU (by omega) (HB.out _ hb)).symm,rfl⟩
    |false=>
     have HJ:Hid (Dw s j=false):=HB.out _ hb;unfold qy at hb;rw [hb]at e1;go_wp2_with fail;go_round
     case rel=>exact ⟨j+1,by go_num,by omega,fun k hk=>by
      by_cases h:k=j
      · subst h;exact HJ.out
      · exact HN.out k (by omega)⟩
     case measure=>simp [intOf];omega
  · have q0:¬(j:Int)+(t.size:Int)≤185:=by have:=HZ.out;omega
    go_wp2_with fail;go_ret;exact ⟨aR (NA HN.out hle).symm,rfl⟩
theorem YM (X:Tx) {σ:Ps}(hb:σ.bad=none) (hlt:σ.i<X.T.length):X.name σ=if X.T[σ.i].kind=1 then (if tX X.T[σ.i].s then (⟨#[]⟩,X.fail σ)else (X.T[σ.i].s,σ.step))else (⟨#[]⟩,X.fail σ):=by
 unfold Tx.name Tx.next;rw [hb,List.getElem?_eq_getElem hlt];simp only;by_cases h:X.T[σ.i].kind=1
 · rw [if_pos h,if_pos h]
 · rw [if_neg h,if_neg h]
theorem Gw (X:Tx) {σ:Ps}(h:σ.bad≠none∨¬σ.i<X.T.length):X.name σ=(⟨#[]⟩,X.fail σ):=by
 unfold Tx.name Tx.next;cases hb:σ.bad with
 |some x=>rfl
 |none=>
  rcases h with h|h
  · exact absurd hb h
  · rw [List.getElem?_eq_none (by omega)]
theorem YN {X:Tx}(h:X.Ok) {i:Nat}(hi:i<X.T.length) (hk:X.T[i].kind=1):lZ X.T[i].s=true∧X.T[i].s.size≤100:=by
 have hm:X.T[i].fo∈X.F:=by unfold Tx.F;exact List.mem_map_of_mem (List.getElem_mem hi)
 have:=h _ hm;unfold JH Tk.fo at this;simp only [hk]at this;rcases this with ⟨_,h1,_,h2,_⟩|⟨h0,_⟩|⟨h0,_⟩|⟨h0,_⟩
 · exact ⟨h1,h2⟩
 · exact absurd h0 (by decide)
 · exact absurd h0 (by decide)
 · exact absurd h0 (by decide)
theorem tq {K:PK}{w:World}{σ:Ps}(h:RQ K w σ):
 Calls prog 155 #[.pointer (some ⟨K.b,0,none⟩)] w (BP K w (.string (K.X.name σ).1) (K.X.name σ).2):=by
 have hD:=eO.refl h;have hT:=K.hT;obtain ⟨a,cap,c0,c1,c2,c3,f1,_,hc⟩:=hD.1.cells;have HF:Hid (∀n,Calls prog 90 #[.pointer (some ⟨K.b,0,none⟩)] (w.drewN n) fun e w' =>e= .returned (.int .i64 (K.X.here σ))∧∃m,w' =(w.drewN n).drewN m):=fun n=>rJ (hD.drewN n).1
 have HW:Hid (∀n,Calls prog 89 #[.pointer (some ⟨K.b,0,none⟩), .int .i64 (K.X.here σ)] (w.drewN n) (BP K (w.drewN n) (.tuple #[]) (K.X.fail σ))):=fun n=>pF (hD.drewN n).1 _
 cases hb:σ.bad with
 |some x=>
  have hbi:σ.iB=x:=by unfold Ps.iB;rw [hb]
  rw [hbi]at c3;have hd:decide ((0:Int)≤(x:Int))=true:=decide_eq_true (by omega);have HE:Hid (K.X.name σ=(⟨#[]⟩,K.X.fail σ)):=Gw K.X (.inl (by rw [hb];simp));clear hbi hc hb h;go_enter func155,ntmps155;go_wp2_with fail;go_quiet (fail);go_wp2_with fail;refine (HF.out nq).mono ?_;rintro e w1 ⟨rfl,m,rfl⟩;go_wp2_with fail;refine (HW.out (nq+m)).mono ?_;rintro e w2 ⟨rfl,hd3⟩;go_wp2_with fail;go_ret;rw [HE.out];exact ⟨rfl,(hD.drewN (nq+m)).trans hd3⟩
 |none=>
  have hbi:σ.iB= -1:=by unfold Ps.iB;rw [hb]
  rw [hbi]at c3;by_cases hlt:σ.i<K.X.T.length
  · obtain ⟨g,rfl,hg⟩:=hc (by omega);have hd:decide (K.X.T.length≤σ.i)=false:=decide_eq_false (by omega);have q0:(σ.i:Int)<(K.X.T.length:Int):=by omega
    have q1:(0:Int)≤(σ.i:Int):=by omega
    have d0:=hg (σ.i*4) (.int .i64 K.X.T[σ.i].kind) (by have:=iP K.X.T σ.i 0 hlt (by omega);rw [Nat.add_zero]at this;rw [this];rfl);have d1:=hg (σ.i*4+1) (.string K.X.T[σ.i].s) (by rw [iP _ σ.i 1 hlt (by omega)];rfl);have HV:=Lib.hid (YM K.X hb hlt);have HK:=Lib.hid (YN h.ok hlt);clear hg hc hbi;by_cases k1:K.X.T[σ.i].kind=1
    · obtain ⟨hwd,hsz⟩:=HK.out k1;have hR:=fun w=>FC K.X.T[σ.i].s w (by omega)
      have HT1:Hid ((lK K.X.T)[σ.i*4+1]? =some (.string K.X.T[σ.i].s)):=by show _=_;rw [iP _ σ.i 1 hlt (by omega)];rfl
      have HV2:Hid (K.X.name σ=if tX K.X.T[σ.i].s then (⟨#[]⟩,K.X.fail σ)else (K.X.T[σ.i].s,σ.step)):=by show _=_;rw [HV.out,if_pos k1]
      rw [XK hwd]at hR;rw [k1]at d0;clear HV HK k1 hwd hsz;generalize K.X.T[σ.i]=t at *;cases hr:tX t.s with
      |true=>
       rw [hr]at hR;have HE:Hid (K.X.name σ=(⟨#[]⟩,K.X.fail σ)):=by show _=_;rw [HV2.out,hr];rfl
       clear HV2 hr;go_enter func155,ntmps155;go_wp2_with fail;go_quiet ((go_at_call 236;exact Calls.quiet_of_same (hR _)));go_wp2_with fail;refine (HF.out nq).mono ?_;rintro e w1 ⟨rfl,m,rfl⟩;go_wp2_with fail;refine (HW.out (nq+m)).mono ?_;rintro e w2 ⟨rfl,hd3⟩;go_wp2_with fail;go_ret;rw [HE.out];exact ⟨rfl,(hD.drewN (nq+m)).trans hd3⟩
      |false=>
       rw [hr]at hR;have HE:Hid (K.X.name σ=(t.s,σ.step)):=by show _=_;rw [HV2.out,hr];rfl
       clear HV2 hr;go_enter func155,ntmps155;go_wp2_with fail;go_quiet ((go_at_call 236;exact Calls.quiet_of_same (hR _)));have hD1:=hD.drewN nq;replace c0:(w.drewN nq).cell? _=_:=c0;replace c1:(w.drewN nq).cell? _=_:=c1;replace d0:(w.drewN nq).cell? _=_:=d0;replace d1:(w.drewN nq).cell? _=_:=d1;replace f1:(w.drewN nq).frozen? _=_:=f1;generalize w.drewN nq=w1 at *;have hov:IntKind.i64.wrap ((σ.i:Int)+1)=(σ.i:Int)+1:=IntWalk.i64_in _ (by omega);have ajl:IntKind.i64.wrap ((σ.i:Int)+1 - 1)=(σ.i:Int):=by rw [IntWalk.i64_in _ (by omega)];omega
       have hDs:=hD1.step;go_upto_region 5 with fail
       generalize w1.setCell ⟨K.b,1,none⟩ (.int .i64 ((σ.i:Int)+1))=w2 at *;clear c0 c1 d0 d1 f1 c2 c3;obtain ⟨a',cap',x0,x1,_,_,_,_,hx⟩:=hDs.1.cells;obtain ⟨g',he,hy⟩:=hx (by omega);clear hx;subst he;have x2:=hy _ _ HT1.out;have hst:((σ.step.i:Nat):Int)=(σ.i:Int)+1:=by show ((σ.i+1:Nat):Int)=_;omega
       rw [hst]at x1;clear hst hy;go_quiet (fail);go_wp2_with fail;go_ret;rw [HE.out];exact ⟨rfl,hDs.drewN _⟩
    · have HE:Hid (K.X.name σ=(⟨#[]⟩,K.X.fail σ)):=by show _=_;rw [HV.out,if_neg k1]
      have e1:(K.X.T[σ.i].kind==1)=false:=beq_eq_false_iff_ne.2 k1;have e2:(K.X.T[σ.i].kind !=1)=true:=by unfold bne;rw [e1];rfl
      clear HV HK k1;generalize K.X.T[σ.i]=t at *;go_enter func155,ntmps155;go_wp2_with fail;go_quiet (fail);go_wp2_with fail;refine (HF.out nq).mono ?_;rintro e w1 ⟨rfl,m,rfl⟩;go_wp2_with fail;refine (HW.out (nq+m)).mono ?_;rintro e w2 ⟨rfl,hd3⟩;go_wp2_with fail;go_ret;rw [HE.out];exact ⟨rfl,(hD.drewN (nq+m)).trans hd3⟩
  · have hd:decide (K.X.T.length≤σ.i)=true:=decide_eq_true (by omega);have HE:Hid (K.X.name σ=(⟨#[]⟩,K.X.fail σ)):=Gw K.X (.inr hlt);clear hbi hc h hb;go_enter func155,ntmps155;go_wp2_with fail;go_quiet (fail);go_wp2_with fail;refine (HF.out nq).mono ?_;rintro e w1 ⟨rfl,m,rfl⟩;go_wp2_with fail;refine (HW.out (nq+m)).mono ?_;rintro e w2 ⟨rfl,hd3⟩;go_wp2_with fail;go_ret;rw [HE.out];exact ⟨rfl,(hD.drewN (nq+m)).trans hd3⟩
theorem Else.ofR {K:PK}{w w1 w' :World}{σ:Ps}{v v' :Value}(hd:eO K w σ w1) (hg:w1.grownBy w' v.ownBlock) (hn:MK w1 v v'):Else K w w' v v' :=
 ⟨fun k o hk hv hb=>by
  have:=hd.blk hb hk;rw [hg.block k (aG this) (fun e=>hv e.symm)];exact this,
  fun g hv=>(hn g hv).imp_right (fun h=>Nat.le_trans hd.2.1.size h)⟩
theorem YO {K:PK}{w:World}{σ:Ps}(h:RQ K w σ):UU K w=σ.i:=by
 obtain ⟨_,_,_,c1,_⟩:=h.cells;unfold UU;rw [c1];simp
theorem Lh {K:PK}{w0 w:World}{σ:Ps}(hD:eO K w0 σ w) (base:Nat) (hb0:w0.heap.size≤base) (hb1:base≤w.heap.size) (v:Value) (l:List ByteArray) (most:Nat) (hown:w.ownsRow base 9 1 v l.length (l.map Value.string)) (hl:l.length≤100000) (_hm:most≤100):
 Calls prog 295 #[.pointer (some ⟨K.b,0,none⟩),v, .int .i64 most] w fun e w' =>
  ∃a' c',e= .returned (.slice a' (l.length+1) c')∧eO K w0 (K.X.j3 σ l most).2 w' ∧w'.ownsRow base 9 1 (.slice a' (l.length+1) c') (l.length+1) ((K.X.j3 σ l most).1.map Value.string)∧Else K w w' v (.slice a' (l.length+1) c'):=by
 have ha:=rJ hD.1;obtain ⟨⟨x,σ2⟩,hx⟩:∃r,K.X.name σ=r:=⟨_,rfl⟩
 have HE:Hid (∀(b c:Bool),lu x l=b→decide (most≤l.length)=c→K.X.j3 σ l most=(l++ [x],if b||c then σ2.wrong (K.X.here σ)else σ2)):=by
  show∀b c,_;intro b c h2 h3;unfold Tx.j3;simp only [hx,h2,h3]
 obtain ⟨a0,cap0,rfl,_⟩:=aN hown;have hbK:K.L≤base:=Nat.le_trans hD.2.2 hb0;obtain ⟨OW,AQ⟩:∃x,K.X.here σ=x:=⟨_,rfl⟩;rw [AQ]at ha HE;clear AQ
 have hfin:Hid (∀(w3:World) (σ3:Ps),eO K w σ3 w3→∀a' c' w',w'.ownsRow base 9 1 (.slice a' (l.length+1) c') (l.length+1) (l.map Value.string++ [.string x])→(w3.alloc (.cells #[.string x] 9)).grownBy w' (Value.slice a0 l.length cap0).ownBlock→MK (w3.alloc (.cells #[.string x] 9)) (.slice a0 l.length cap0) (.slice a' (l.length+1) c')→
  eO K w0 σ3 w' ∧Else K w w' (.slice a0 l.length cap0) (.slice a' (l.length+1) c')):=by
  show∀(w3:World) (σ3:Ps),_;intro w3 σ3 hd a' c' w' _ hg hn;have hd2:=hd.alloc (.cells #[.string x] 9);exact ⟨(hD.trans hd2).grown hg (fun g hg2=>Nat.le_trans hb0 (hown.lt g hg2).1),Else.ofR hd2 hg hn⟩
 have hD1:=eO.refl hD.1;have HD0:Hid (K.L≤base):=hbK;have HX:=Lib.hid hx;clear hx
 have hq:((most:Int)≤(l.length:Int)∧decide (most≤l.length)=true)∨(¬(most:Int)≤(l.length:Int)∧decide (most≤l.length)=false):=by
  by_cases h:most≤l.length
  · exact .inl ⟨by omega,decide_eq_true h⟩
  · exact .inr ⟨by omega,decide_eq_false h⟩
 rcases hq with ⟨q0,hq⟩|⟨q0,hq⟩<;>cases hc:lu x l
 all_goals
  have HE2:=Lib.hid (HE.out _ _ hc hq);have HC:=Lib.hid hc;clear hc HE;go_enter func295,ntmps295;go_wp2_with fail;refine ha.mono ?_;rintro e w1 ⟨rfl,m,rfl⟩;replace hD1:=hD1.drewN m;have hnm:=tq hD1.1;rw [HX.out]at hnm;go_wp2_with fail;refine hnm.mono ?_;rintro e w3 ⟨rfl,hd3⟩;replace hD1:=hD1.trans hd3;have hcon:=EH x (Rd.own (hD1.row hown HD0.out)) (by omega);rw [HC.out]at hcon;go_wp2_with fail;refine hcon.mono ?_;rintro e w4 ⟨rfl,rfl⟩;have hw2:=pF hD1.1 OW
  first
   |(go_wp2_with fail
     refine hw2.mono ?_;rintro e w5 ⟨rfl,hd5⟩;replace hD1:=hD1.trans hd5)
   |skip
  have hown3:=hD1.row hown HD0.out;have hs3:=hD1.size;have F:=hfin.out _ _ hD1;go_wp2_with (at_builtin;refine app1 Tryz.tY rfl _ _ rfl base _ _ _ rfl (hown3.alloc _) _ _ [.string x] rfl rfl (bA _ _ _) (by intro u hu;rw [List.mem_singleton.1 hu];rfl) (by omega) (by simp;omega) ?_;intro a' c' w6 h5 hg hn);go_ret;rw [HE2.out];have F2:=F a' c' w6 h5 hg hn;exact ⟨a',c',rfl,F2.1,by rw [List.map_append];exact h5,F2.2⟩
structure RE (K:PK) (w W:World) (σ:Ps) (bx br:Nat) (x:Sx) (tc c s wv pv:Value):Prop where
 did:eO K w σ W
 hx:W.heap[bx]? =some (.cells (aP x tc c s wv pv) 39 (0,0))
 hr:W.heap[br]? =some (.cells bC 39 (0,0))
 lx:w.heap.size≤bx
 lr:w.heap.size≤br
 ne:br≠bx
section
variable {K:PK}{w W W' :World}{σ σ' :Ps}{bx br:Nat}{x:Sx}{tc c s wv pv:Value}
theorem RE.base (h:RE K w W σ bx br x tc c s wv pv):w.heap.size≤W.heap.size:=h.did.size
theorem RE.call (h:RE K w W σ bx br x tc c s wv pv) (hd:eO K W σ' W'):RE K w W' σ' bx br x tc c s wv pv:=
 have hL:=h.did.2.2;have hx:=h.lx;have hr:=h.lr
 ⟨h.did.trans hd,hd.blk h.hx (by omega),hd.blk h.hr (by omega),h.lx,h.lr,h.ne⟩
theorem RE.below (h:RE K w W σ bx br x tc c s wv pv) (hb:Below W.heap.size W W'):RE K w W' σ bx br x tc c s wv pv:=
 have k:∀{b:Nat} {o:Obj},W.heap[b]? =some o→W'.heap[b]? =some o:=fun hh=>by rw [hb.block _ (aG hh)];exact hh
 ⟨h.did.below hb,k h.hx,k h.hr,h.lx,h.lr,h.ne⟩
theorem RE.alloc (h:RE K w W σ bx br x tc c s wv pv) (o:Obj):RE K w (W.alloc o) σ bx br x tc c s wv pv:=h.below ((Below.refl _ _).alloc (Nat.le_refl _) o)
theorem RE.drewN (h:RE K w W σ bx br x tc c s wv pv) (n:Nat):RE K w (W.drewN n) σ bx br x tc c s wv pv:=h.below (aK.below_drewN (Below.refl _ _) n)
theorem RE.own (h:RE K w W σ bx br x tc c s wv pv) (o:Nat) (v:Value) {x' :Sx}{YL c' s' wv' pv' :Value}(e:(aP x tc c s wv pv).setIfInBounds o v=aP x' YL c' s' wv' pv'):RE K w (W.setCell ⟨bx,o,none⟩ v) σ bx br x' YL c' s' wv' pv' :=
 ⟨h.did.own h.lx o v,by rw [bG h.hx o v,e],bg h.hr _ _ h.ne,h.lx,h.lr,h.ne⟩
theorem RE.grown (h:RE K w W σ bx br x tc c s wv pv) {e:TypeId}{size n:Nat}{v:Value}{xs:List Value}(hu:W.ownsRow w.heap.size e size v n xs) (hne:e≠39) (hg:W.grownBy W' v.ownBlock):RE K w W' σ bx br x tc c s wv pv:=
 have k:∀{b:Nat} {C:Array Value} {fr:Nat×Nat},W.heap[b]? =some (.cells C 39 fr)→W'.heap[b]? =some (.cells C 39 fr):=fun hh=>by rw [hg.block _ (aG hh) (fun e' =>fA hu hh hne e'.symm)];exact hh
 ⟨h.did.grown hg (fun g hg2=>(hu.lt g hg2).1),k h.hx,k h.hr,h.lx,h.lr,h.ne⟩
theorem RE.new (h:RQ K w σ) (x:Sx) (tc c s wv pv:Value):RE K w ((w.alloc (.cells (aP x tc c s wv pv) 39)).alloc (.cells bC 39)) σ w.heap.size (w.heap.size+1) x tc c s wv pv:=by
 have hz:=aB (w.alloc (.cells (aP x tc c s wv pv) 39)) (.cells bC 39);rw [av]at hz;exact ⟨((eO.refl h).alloc _).alloc _,ay (aB w _) _,hz,Nat.le_refl _,by omega,by omega⟩
theorem eO.wrote {r:Nat}{V:Array Value}{T:TypeId}(h:eO K w σ W) (hw:Wrote W r V T W') (hr:w.heap.size≤r):eO K w σ W' :=by
 have hs:=h.2.1.size;have h2:=h.2.2;have hL:=K.hL;have hB:=K.hb;refine ⟨h.1.keep (Nat.le_of_eq hw.size.symm) (fun k hk=>hw.rest k (by omega)) (hw.below _ _ h.1.2.1 (by omega)),⟨?_, ?_, ?_,by rw [hw.size];exact hs,fun i hi hne=>by rw [hw.rest i (by omega)];exact h.2.1.block i hi hne⟩,h2⟩
 · have:=hw.below _ _ (Below.refl W.heap.size W|>.mono (show 0≤W.heap.size by omega)) (by omega);exact this.os.trans h.2.1.os
 · have:=hw.below _ _ (Below.refl W.heap.size W|>.mono (show 0≤W.heap.size by omega)) (by omega);exact this.tape.trans h.2.1.tape
 · have:=hw.below _ _ (Below.refl W.heap.size W|>.mono (show 0≤W.heap.size by omega)) (by omega);exact this.output.trans h.2.1.output
theorem RE.fin (h:RE K w W σ bx br x tc c s wv pv) {V:Array Value}{T:TypeId}(hw:Wrote W br V T W'):eO K w σ W' :=h.did.wrote hw h.lr
end
theorem wh {w:World}{base:Nat}{e:TypeId}{size n:Nat}{u:Value}{xs:List Value}(h:w.ownsRow base e size u n xs) (m:Nat):(w.drewN m).ownsRow base e size u n xs:=h
theorem oG {W W' :World}{r:Nat}{C V:Array Value}{T e:TypeId}{base size n:Nat}{v:Value}{xs:List Value}(h:W.ownsRow base e size v n xs) (hr:W.heap[r]? =some (.cells C T (0,0))) (hw:Wrote W r V T W') (hne:e≠T):W'.ownsRow base e size v n xs:=by
 have hnb:=fA h hr hne;obtain ⟨h1,h2⟩:=h;refine ⟨h1, ?_⟩;rcases h2 with h2|⟨g,c,cur,e1,e2,e3,e4⟩
 · exact .inl h2
 · subst e1;exact .inr ⟨g,c,cur,rfl,e2,by rw [hw.rest g (fun e=>hnb (by rw [e];rfl))];exact e3,e4⟩
theorem NC {K:PK}{w:World}{σ:Ps}(h:RQ K w σ) (l:List ByteArray) (hl:l.length≤1000):
 Calls prog 294 #[.pointer (some ⟨K.b,0,none⟩), .slice (some ⟨w.heap.size,0,none⟩) l.length l.length] (w.alloc (.cells (l.map Value.string).toArray 9)) (BP K w (.tuple #[]) (K.X.must σ l)):=by
 have hD:=(eO.refl h).alloc (.cells (l.map Value.string).toArray 9);have hb:=K.hL;have hle:=h.le;refine (Nz hD.1 l w.heap.size l.length (by simp) (by omega) hl (fun j hj=> ?_)).mono fun e w' he=>⟨he.1,hD.trans he.2⟩
 rw [aj (aB w _)];simp [hj]
theorem Po {K:PK}{w:World}{σ:Ps}(h:RQ K w σ) (s t:ByteArray):
 Calls prog 294 #[.pointer (some ⟨K.b,0,none⟩), .slice (some ⟨w.heap.size,0,none⟩) 2 2] (w.alloc (.cells #[.string s, .string t] 9)) (BP K w (.tuple #[]) (K.X.must σ [s,t])):=NC h [s,t] (by simp)
def V4 (K:PK) (w:World) (x:Sx) (σ:Ps):Ending→World→Prop:=fun e w' =>
 ∃tc c s wv,e= .returned (.agg (aP x tc c s wv au))∧eO K w σ w' ∧gB w' w.heap.size x tc c s wv
section
variable {K:PK}{w W W' :World}{σ σ' :Ps}{bx br:Nat}{x x' :Sx}{tc c s wv pv YL c' s' wv' pv' :Value}
theorem RE.put (h:RE K w W σ bx br x tc c s wv pv) (hw:Wrote W bx (aP x' YL c' s' wv' pv') 39 W'):RE K w W' σ bx br x' YL c' s' wv' pv' :=
 ⟨h.did.wrote hw h.lx,hw.blk,by rw [hw.rest _ h.ne];exact h.hr,h.lx,h.lr,h.ne⟩
theorem RE.col (h:RE K w W σ bx br x tc c s wv pv) (hd:eO K w σ' W') {v v' :Value}(he:Else K W W' v v') {base size n:Nat}{e:TypeId}{xs:List Value}(hu:W.ownsRow base e size v n xs) (hne:e≠39):RE K w W' σ' bx br x tc c s wv pv:=
 have hL:=hd.2.2;have hx:=h.lx;have hr:=h.lr
 ⟨hd,he.1 _ _ (by omega) (fA hu h.hx hne) h.hx,he.1 _ _ (by omega) (fA hu h.hr hne) h.hr,h.lx,h.lr,h.ne⟩
end
theorem Ja (X:Tx) (σ:Ps) (l:List ByteArray) (most:Nat):∃x,(X.j3 σ l most).1=l++ [x]:=⟨_,rfl⟩
end Go.Proofs.YtnngbhpeeakfaaaGreatDoor
