/- Parts of a proof. -/
import Derived.Test.YtcgadodckoalnaaGreatDoorB02
namespace Go.Proofs.YtcgadodckoalnaaGreatDoor
namespace aN
section
variable {X:Tx}
def F4 (c:Cl):List To:= [fP c.name,Eh c.ty,aW (⟨#[44]⟩:ah)]
def F5 (c:Cl):Prop:=dz c.name∧(c.ty=1∨c.ty=2)
theorem F6 {σ:Ps}(h:σ.bad≠none) (n:Nat) (l:List ByteArray) (C:List Cl):X.gI n σ l C=(l,C,σ):=by
 cases n with
 |zero=>rfl
 |succ n=>
  rw [Tx.gI];cases hb:σ.bad with
  |none=>exact absurd hb h
  |some a=>simp
theorem F7 (hX:X.Ok):∀n σ l C,C.map Cl.name=l→l.length≤10→(X.F.drop σ.i).length<n→(X.gI n σ l C).2.2.bad=none→
 ∃D:List Cl,(X.gI n σ l C).1=l++D.map Cl.name∧(X.gI n σ l C).2.1=C++D∧qX X σ (D.flatMap F4++ [aW (⟨#[112,114,105,109,97,114,121]⟩:ah)]) (X.gI n σ l C).2.2∧(∀c∈D,F5 c)∧uq l (D.map Cl.name)∧(l++D.map Cl.name).length≤10
 |0,σ,l,C,_,_,hn,_=>absurd hn (by omega)
 |n+1,σ,l,C,hl,ahp,hn,h=>by
  cases hb:σ.bad with
  |some a=>
   exfalso;rw [F6 (by rw [hb];simp)]at h;simp only at h;rw [hb]at h;exact absurd h (by simp)
  |none=>
   rw [Tx.gI,hb]at h⊢;simp only [Option.isSome_none,Bool.false_eq_true,if_false]at h⊢;split at h
   · rename_i hs;rw [if_pos hs];exact ⟨[],by simp,by simp,fG hX hs,by simp,trivial,by simpa using ahp⟩
   · rename_i hs;rw [if_neg hs];obtain ⟨⟨l1,σ1⟩,hc⟩:∃r,X.column σ l 10=r:=⟨_,rfl⟩;obtain ⟨⟨ty,σ2⟩,hk⟩:∃r,X.kind σ1=r:=⟨_,rfl⟩;obtain ⟨σ3,h3⟩:∃r,X.must σ2 [(⟨#[44]⟩:ah)]=r:=⟨_,rfl⟩;simp only [hc,hk,h3]at h⊢
     have hb3:σ3.bad=none:=by
      cases hb3:σ3.bad with
      |none=>rfl
      |some a=>
       rw [F6 (by rw [hb3];simp)]at h;simp only at h;rw [hb3]at h;exact absurd h (by simp)
     have c3:=bW hX [(⟨#[44]⟩:ah)] (σ:=σ2) (by rw [h3];exact hb3);rw [h3]at c3;have c2:=WT hX (σ:=σ1) (by rw [hk];exact c3.1);rw [hk]at c2;simp only at c2;have hcb:(X.column σ l 10).2.bad=none:=by rw [hc];exact c2.1.1
     obtain ⟨s,g1,g2,g3,g4,g5⟩:=nV hX hcb;rw [hc]at g1 g2;simp only at g1 g2;subst g1;have hcc:=(g2.trans c2.1).trans c3;have hlen:=congrArg List.length hcc.2;simp only [List.length_append,List.length_cons,List.length_nil,List.length_map]at hlen;obtain ⟨D,e1,e2,e3,e4,e5,e6⟩:=F7 hX n σ3 (l++ [s]) (C++ [⟨(l++ [s]).getLastD ⟨#[]⟩,ty⟩]) (by rw [List.map_append,hl];simp) (by simp;omega) (by omega) h;have hlast:(l++ [s]).getLastD ⟨#[]⟩=s:=by simp
     rw [hlast]at e1 e2 e3 h⊢;refine ⟨⟨s,ty⟩::D,by rw [e1];simp,by rw [e2];simp, ?_, ?_,⟨g4,e5⟩,by simpa using e6⟩
     · have:=hcc.trans e3;simpa [F4]using this
     · intro c hcm;rcases List.mem_cons.1 hcm with rfl|hcm
       · exact ⟨g3,c2.2⟩
       · exact e4 c hcm
def rz (nm:ByteArray) (C:List Cl) (pk ck:ByteArray):List To:=
 [fP nm,aW (⟨#[40]⟩:ah)]++C.flatMap F4++ [aW (⟨#[112,114,105,109,97,114,121]⟩:ah),aW (⟨#[107,101,121]⟩:ah),aW (⟨#[40]⟩:ah),fP pk,aW (⟨#[44]⟩:ah),fP ck,aW (⟨#[41]⟩:ah),aW (⟨#[41]⟩:ah)]
def nX (nm:ByteArray) (C:List Cl) (pk ck:ByteArray):Sx:=C.foldl (fun x c=>Tx.place x pk ck c) {Sx.zero with kind:=1,name:=nm,bG:=nm}
def vD (nm:ByteArray) (C:List Cl) (pk ck:ByteArray):Prop:=dz nm∧(∀c∈C,F5 c)∧uq [] (C.map Cl.name)∧C.length≤10∧pk∈C.map Cl.name∧ck∈C.map Cl.name∧ck≠pk
theorem abV (i:Nat):(X.F.drop i).length≤X.T.length:=by
 rw [List.length_drop];unfold Tx.F;rw [List.length_map];omega
theorem RX (σ:Ps):(X.F.drop σ.i).length<X.T.length+1:=Nat.lt_succ_of_le (abV _)
theorem TG (hX:X.Ok) {σ:Ps}(h:(X.table σ).2.bad=none):
 ∃nm C pk ck,(X.table σ).1=nX nm C pk ck∧qX X σ (rz nm C pk ck) (X.table σ).2∧vD nm C pk ck:=by
 unfold Tx.table at h⊢;obtain ⟨⟨nm,F8⟩,g0⟩:∃r,X.name σ=r:=⟨_,rfl⟩;obtain ⟨σ1,g1⟩:∃r,X.must F8 [(⟨#[40]⟩:ah)]=r:=⟨_,rfl⟩;obtain ⟨⟨l,C,σ2⟩,g2⟩:∃r,X.gI (X.T.length+1) σ1 [] []=r:=⟨_,rfl⟩;obtain ⟨σ3,g3⟩:∃r,X.must σ2 [(⟨#[107,101,121]⟩:ah),(⟨#[40]⟩:ah)]=r:=⟨_,rfl⟩;obtain ⟨⟨pk,jS⟩,g4⟩:∃r,X.one σ3 l ⟨#[]⟩=r:=⟨_,rfl⟩;obtain ⟨lX,g5⟩:∃r,X.must jS [(⟨#[44]⟩:ah)]=r:=⟨_,rfl⟩;obtain ⟨⟨ck,yT⟩,g6⟩:∃r,X.one lX l pk=r:=⟨_,rfl⟩;simp only [g0,g1,g2,g3,g4,g5,g6]at h⊢;have c7:=bW hX _ h;obtain ⟨c6,n6,m6,d6⟩:=KZ hX (by rw [g6];exact c7.1);rw [g6]at c6 n6 m6 d6;have c5:=bW hX _ (by rw [g5];exact c6.1);rw [g5]at c5;obtain ⟨c4,n4,m4,d4⟩:=KZ hX (by rw [g4];exact c5.1);rw [g4]at c4 n4 m4 d4;have c3:=bW hX _ (by rw [g3];exact c4.1);rw [g3]at c3;obtain ⟨D,e1,e2,e3,e4,e5,e6⟩:=F7 hX (X.T.length+1) σ1 [] [] rfl (Nat.zero_le _) (RX _) (by rw [g2];exact c3.1);rw [g2]at e1 e2 e3;have c1:=bW hX _ (by rw [g1];exact e3.1);rw [g1]at c1;obtain ⟨c0,n0⟩:=iw hX (by rw [g0];exact c1.1);rw [g0]at c0 n0;simp only [List.nil_append]at e1 e2 e6;subst e2;simp only at m4 m6;rw [e1]at m4 m6;refine ⟨nm,C,pk,ck,rfl, ?_,n0,e4,e5,by simpa using e6,m4,m6,d6⟩;have:=((((((c0.trans c1).trans e3).trans c3).trans c4).trans c5).trans c6).trans c7;unfold rz;simpa using this
def wK (nm:ByteArray) (aI:List ByteArray) (o on p q:ByteArray):List To:=
 [aW (⟨#[118,105,101,119]⟩:ah),fP nm,aW (⟨#[97,115]⟩:ah),aW (⟨#[115,101,108,101,99,116]⟩:ah)]++wJ aI++ [aW (⟨#[102,114,111,109]⟩:ah),fP o,aW (⟨#[119,104,101,114,101]⟩:ah),fP on,aW (⟨#[105,115]⟩:ah),aW (⟨#[110,111,116]⟩:ah),aW (⟨#[110,117,108,108]⟩:ah),aW (⟨#[112,114,105,109,97,114,121]⟩:ah),aW (⟨#[107,101,121]⟩:ah),aW (⟨#[40]⟩:ah),fP on,aW (⟨#[44]⟩:ah),fP p,aW (⟨#[44]⟩:ah),fP q,aW (⟨#[41]⟩:ah)]
def zD (nm:ByteArray) (aI:List ByteArray) (o on p q:ByteArray):Sx:={Sx.zero with kind:=2,name:=nm,aI:=aI,bT:=o,on:=on,aH:= [⟨p,Tm.zero⟩,⟨q,Tm.zero⟩]}
def K3 (nm:ByteArray) (aI:List ByteArray) (o on p q:ByteArray):Prop:=dz nm∧qZ 8 aI∧dz o∧dz on∧dz p∧dz q
theorem WU (hX:X.Ok) {σ:Ps}(h:(X.view σ).2.bad=none):
 ∃nm aI o on p q,(X.view σ).1=zD nm aI o on p q∧qX X σ (wK nm aI o on p q) (X.view σ).2∧K3 nm aI o on p q:=by
 unfold Tx.view at h⊢;simp only at h⊢;have c1:=bW hX _ h;obtain ⟨c2,n2⟩:=iw hX c1.1;have c3:=bW hX _ c2.1;obtain ⟨c4,n4⟩:=iw hX c3.1;have c5:=bW hX _ c4.1;obtain ⟨c6,n6,m6,d6⟩:=KZ hX c5.1;have c7:=bW hX _ c6.1;obtain ⟨c8,n8⟩:=iw hX c7.1;have c9:=bW hX _ c8.1;obtain ⟨c10,n10⟩:=iw hX c9.1;have c11:=bW hX _ c10.1;obtain ⟨c12,n12⟩:=MR hX c11.1;have c13:=bW hX _ c12.1;obtain ⟨c14,n14⟩:=iw hX c13.1;have c15:=bW hX _ c14.1;simp only [List.mem_cons,List.not_mem_nil,or_false]at m6;rw [m6]at c6;refine ⟨_,_,_,_,_,_,rfl, ?_,n14,n12,n10,n8,n4,n2⟩;have:=(((((((((((((c15.trans c14).trans c13).trans c12).trans c11).trans c10).trans c9).trans c8).trans c7).trans c6).trans c5).trans c4).trans c3).trans c2).trans c1;unfold wK;simpa using this
def Dm (nm o on:ByteArray):List To:= [aW (⟨#[105,110,100,101,120]⟩:ah),fP nm,aW (⟨#[111,110]⟩:ah),fP o,aW (⟨#[40]⟩:ah),fP on,aW (⟨#[41]⟩:ah)]
def Dn (nm o on:ByteArray):Sx:={Sx.zero with kind:=3,name:=nm,bT:=o,on:=on}
theorem TH (hX:X.Ok) {σ:Ps}(h:(X.index σ).2.bad=none):
 ∃nm o on,(X.index σ).1=Dn nm o on∧qX X σ (Dm nm o on) (X.index σ).2∧dz nm∧dz o∧dz on:=by
 unfold Tx.index at h⊢;simp only at h⊢;have c1:=bW hX _ h;obtain ⟨c2,n2⟩:=iw hX c1.1;have c3:=bW hX _ c2.1;obtain ⟨c4,n4⟩:=iw hX c3.1;have c5:=bW hX _ c4.1;obtain ⟨c6,n6⟩:=iw hX c5.1;have c7:=bW hX _ c6.1;refine ⟨_,_,_,rfl, ?_,n6,n4,n2⟩;exact (((((c7.trans c6).trans c5).trans c4).trans c3).trans c2).trans c1
def tH (l:List Tm):List To:=l.flatMap fun b=> [aW (⟨#[44]⟩:ah),uo b]
def MS:List Tm→List To
 | []=> []
 |a::l=>uo a::tH l
theorem Ei (hX:X.Ok):∀n σ l,(X.dY n σ l).2.bad=none→∃r,(X.dY n σ l).1=l++r∧qX X σ (tH r) (X.dY n σ l).2∧∀v∈r,nT v
 |0,σ,l,h=>⟨[],by simp [Tx.dY],qX.refl h,by simp⟩
 |n+1,σ,l,h=>by
  rw [Tx.dY]at h⊢;split at h
  · rename_i hs;rw [if_pos hs];simp only at h⊢;obtain ⟨r,h1,h2,h3⟩:=Ei hX n _ _ h;obtain ⟨g1,g2⟩:=qO hX h2.1;refine ⟨_::r,by rw [h1,List.append_assoc];rfl,((fG hX hs).trans g1).trans h2, ?_⟩;intro v hv;rcases List.mem_cons.1 hv with rfl|hv
    · exact g2
    · exact h3 v hv
  · rename_i hs;rw [if_neg hs];exact ⟨[],by simp,qX.refl h,by simp⟩
def ni (o:ByteArray) (c:List ByteArray) (v:List Tm) (stamp ttl:Int):List To:=
 [aW (⟨#[105,110,116,111]⟩:ah),fP o,aW (⟨#[40]⟩:ah)]++uz c++ [aW (⟨#[41]⟩:ah),aW (⟨#[118,97,108,117,101,115]⟩:ah),aW (⟨#[40]⟩:ah)]++MS v++ [aW (⟨#[41]⟩:ah)]++lZ stamp ttl
def vE (o:ByteArray) (c:List ByteArray) (v:List Tm) (stamp ttl:Int):Sx:={Sx.zero with kind:=5,bT:=o,sets:=List.zipWith Pr.mk c v,stamp:=stamp,ttl:=ttl}
def Bq (o:ByteArray) (c:List ByteArray) (v:List Tm) (stamp ttl:Int):Prop:=dz o∧c≠ []∧qZ 10 c∧v.length=c.length∧(∀t∈v,nT t)∧vC true stamp ttl
theorem Px (hX:X.Ok) {σ:Ps}(h:(X.insert σ).2.bad=none):
 ∃o c v stamp ttl,(X.insert σ).1=vE o c v stamp ttl∧qX X σ (ni o c v stamp ttl) (X.insert σ).2∧Bq o c v stamp ttl:=by
 unfold Tx.insert at h⊢;obtain ⟨F8,e0⟩:∃r,X.must σ [(⟨#[105,110,116,111]⟩:ah)]=r:=⟨_,rfl⟩;obtain ⟨⟨o,σ1⟩,e1⟩:∃r,X.name F8=r:=⟨_,rfl⟩;obtain ⟨σ2,e2⟩:∃r,X.must σ1 [(⟨#[40]⟩:ah)]=r:=⟨_,rfl⟩;obtain ⟨⟨c,σ3⟩,e3⟩:∃r,X.columns σ2 10=r:=⟨_,rfl⟩;obtain ⟨jS,e4⟩:∃r,X.must σ3 [(⟨#[41]⟩:ah),(⟨#[118,97,108,117,101,115]⟩:ah),(⟨#[40]⟩:ah)]=r:=⟨_,rfl⟩;obtain ⟨⟨v0,lX⟩,e5⟩:∃r,X.value jS=r:=⟨_,rfl⟩;obtain ⟨⟨v,yT⟩,e6⟩:∃r,X.dY X.T.length lX [v0]=r:=⟨_,rfl⟩;simp only [e0,e1,e2,e3,e4,e5,e6]at h⊢;obtain ⟨stamp,ttl,x1,c1,u1⟩:=Dl hX (by exact ⟨rfl,rfl⟩) h;rw [x1];have c2:=bW hX _ c1.1
 have hk:X.sees yT (⟨#[41]⟩:ah)=true∧v.length=c.length:=by
  have hh:=c1.1;cases hq:X.sees yT (⟨#[41]⟩:ah)with
  |true=>
   refine ⟨rfl, ?_⟩;by_cases hl:v.length=c.length
   · exact hl
   · exfalso;rw [hq]at c2;have:=c2.1;rw [if_pos (by simpa using hl)]at this;exact mP this
  |false=>
   exfalso;rw [hq]at hh;simp only [Bool.false_and,Bool.false_eq_true,if_false]at hh;revert hh;show (X.bC _ _).bad=none→False;unfold Tx.bC;rw [hq,if_neg (by decide)];exact mP
 have hif:(if (X.sees yT (⟨#[41]⟩:ah)&&v.length !=c.length)=true then X.fail yT else yT)=yT:=by
  rw [if_neg];rw [hk.2];simp
 rw [hif]at c2 c1⊢;obtain ⟨r,y3,c3,n3⟩:=Ei hX X.T.length lX [v0] (by rw [e6];exact c2.1);rw [e6]at y3 c3;obtain ⟨c4,n4⟩:=qO hX (σ:=jS) (by rw [e5];exact c3.1);rw [e5]at c4 n4;have c5:=bW hX _ (by rw [e4];exact c4.1);rw [e4]at c5;obtain ⟨m6,c6,n6⟩:=xE hX (by rw [e3];exact c5.1);rw [e3]at m6 c6 n6;have c7:=bW hX _ (by rw [e2];exact c6.1);rw [e2]at c7;obtain ⟨c8,n8⟩:=iw hX (by rw [e1];exact c7.1);rw [e1]at c8 n8;have c9:=bW hX _ (by rw [e0];exact c8.1);rw [e0]at c9;simp only at y3;subst y3;refine ⟨_,_,_,stamp,ttl,rfl, ?_,n8,m6,n6,hk.2, ?_,u1⟩
 · have:=(((((((c9.trans c8).trans c7).trans c6).trans c5).trans c4).trans c3).trans c2).trans c1;unfold ni;simpa [MS]using this
 · intro t ht;simp only [List.cons_append,List.nil_append,List.mem_cons]at ht;rcases ht with rfl|ht
   · exact n4
   · exact n3 t ht
def uE:List Pr→List To
 | []=> []
 |p::l=>pairT p++l.flatMap fun q=>aW (⟨#[44]⟩:ah)::pairT q
theorem z8 (p:Pr) (l:List Pr) (h:l≠ []):uE (p::l)=pairT p++aW (⟨#[44]⟩:ah)::uE l:=by
 cases l with
 |nil=>exact absurd rfl h
 |cons q l=>simp [uE]
theorem JQ (hX:X.Ok):∀n σ l (Z:List Pr),Z.map Pr.name=l→l.length≤8→(X.F.drop σ.i).length<n→(X.kU n σ l Z).2.bad=none→
 ∃r:List Pr,r≠ []∧(X.kU n σ l Z).1=Z++r∧qX X σ (uE r) (X.kU n σ l Z).2∧(∀p∈r,nW p)∧uq l (r.map Pr.name)∧(l++r.map Pr.name).length≤8
 |0,σ,l,Z,_,_,hn,_=>absurd hn (by omega)
 |n+1,σ,l,Z,hl,hl8,hn,h=>by
  have hcon:∀m σ' l' Z',0<m→(X.kU m σ' l' Z').2.bad=none→σ'.bad=none:=by
   intro m
   induction m with
   |zero=>intro σ' l' Z' hm;exact absurd hm (by omega)
   |succ m ih=>
    intro σ' l' Z' _ hh;rw [Tx.kU]at hh;try simp only at hh
    have hv:(X.value (X.must (X.column σ' l' 8).2 [(⟨#[61]⟩:ah)])).2.bad=none:=by
     split at hh
     · rename_i hs;exact nU hs
     · exact hh
    obtain ⟨_,_,g2,_⟩:=nV hX (bW hX _ (qO hX hv).1.1).1;exact g2.1
  rw [Tx.kU]at h⊢;try simp only at h⊢
  obtain ⟨⟨l1,σ1⟩,hc⟩:∃r,X.column σ l 8=r:=⟨_,rfl⟩;obtain ⟨σ2,h2⟩:∃r,X.must σ1 [(⟨#[61]⟩:ah)]=r:=⟨_,rfl⟩;obtain ⟨⟨t,σ3⟩,h3⟩:∃r,X.value σ2=r:=⟨_,rfl⟩;simp only [hc,h2,h3]at h⊢
  have hb3:σ3.bad=none:=by
   split at h
   · rename_i hs;exact nU hs
   · exact h
  have c3:=qO hX (σ:=σ2) (by rw [h3];exact hb3);rw [h3]at c3;have c2:=bW hX [(⟨#[61]⟩:ah)] (σ:=σ1) (by rw [h2];exact c3.1.1);rw [h2]at c2;have hcb:(X.column σ l 8).2.bad=none:=by rw [hc];exact c2.1
  obtain ⟨s,g1,g2,g3,g4,g5⟩:=nV hX hcb;rw [hc]at g1 g2;simp only at g1 g2;subst g1;have hlast:(l++ [s]).getLastD ⟨#[]⟩=s:=by simp
  rw [hlast]at h⊢;have hcc:=(g2.trans c2).trans c3.1;split at h
  · rename_i hs;rw [if_pos hs];have hc4:=hcc.trans (fG hX hs);have hlen:=congrArg List.length hc4.2;simp only [List.length_append,List.length_cons,List.length_nil,List.length_map]at hlen;obtain ⟨r,r0,r1,r2,r3,r4,r5⟩:=JQ hX n σ3.step (l++ [s]) (Z++ [⟨s,t⟩]) (by rw [List.map_append,hl];rfl) (by simp;omega) (by omega) h;refine ⟨⟨s,t⟩::r,by simp,by rw [r1];simp, ?_, ?_,⟨g4,r4⟩,by simpa using r5⟩
    · rw [z8 _ _ r0];have:=hc4.trans r2;simpa [pairT]using this
    · intro p hp;rcases List.mem_cons.1 hp with rfl|hp
      · exact ⟨g3,c3.2⟩
      · exact r3 p hp
  · rename_i hs;rw [if_neg hs];refine ⟨[⟨s,t⟩],by simp,rfl, ?_, ?_,⟨g4,trivial⟩,by simp;omega⟩
    · simpa [uE,pairT]using hcc
    · intro p hp;simp only [List.mem_cons,List.not_mem_nil,or_false]at hp;subst hp;exact ⟨g3,c3.2⟩
def vG (o:ByteArray) (stamp ttl:Int) (sets aH:List Pr):List To:= [fP o]++lZ stamp ttl++ [aW (⟨#[115,101,116]⟩:ah)]++uE sets++jN aH
def vH (o:ByteArray) (stamp ttl:Int) (sets aH:List Pr):Sx:={Sx.zero with kind:=6,bT:=o,stamp:=stamp,ttl:=ttl,sets:=sets,aH:=aH}
def acF (l:List Pr):Prop:=l≠ []∧(∀p∈l,nW p)∧uq [] (l.map Pr.name)∧l.length≤8
def Br (o:ByteArray) (stamp ttl:Int) (sets aH:List Pr):Prop:=dz o∧vC true stamp ttl∧acF sets∧yS true aH
theorem Py (hX:X.Ok) {σ:Ps}(h:(X.update σ).2.bad=none):
 ∃o stamp ttl sets aH,(X.update σ).1=vH o stamp ttl sets aH∧qX X σ (vG o stamp ttl sets aH) (X.update σ).2∧Br o stamp ttl sets aH:=by
 unfold Tx.update at h⊢;obtain ⟨⟨o,F8⟩,g0⟩:∃r,X.name σ=r:=⟨_,rfl⟩;simp only [g0]at h⊢;obtain ⟨⟨u,σ1⟩,g1⟩:∃r,X.using_ F8 true {Sx.zero with kind:=6,bT:=o}=r:=⟨_,rfl⟩;obtain ⟨σ2,g2⟩:∃r,X.must σ1 [(⟨#[115,101,116]⟩:ah)]=r:=⟨_,rfl⟩;obtain ⟨⟨Z,σ3⟩,g3⟩:∃r,X.kU (X.T.length+1) σ2 [] []=r:=⟨_,rfl⟩;simp only [g1,g2,g3]at h⊢;obtain ⟨c1,n1⟩:=Dk hX h;obtain ⟨r,r0,r1,r2,r3,r4,r5⟩:=JQ hX (X.T.length+1) σ2 [] [] rfl (Nat.zero_le _) (RX _) (by rw [g3];exact c1.1);rw [g3]at r1 r2;have c2:=bW hX _ (by rw [g2];exact r2.1);rw [g2]at c2;obtain ⟨stamp,ttl,e3,c3,u3⟩:=Dl (x:={Sx.zero with kind:=6,bT:=o}) hX (by exact ⟨rfl,rfl⟩) (by rw [g1];exact c2.1);rw [g1]at e3 c3;obtain ⟨c4,n4⟩:=iw hX (by rw [g0];exact c3.1);rw [g0]at c4 n4;simp only [List.nil_append]at r1 r5;simp only at e3;subst r1 e3;refine ⟨o,stamp,ttl,Z,_,rfl, ?_,n4,u3,⟨r0,r3,r4,by simpa using r5⟩,n1⟩;have:=(((c4.trans c3).trans c2).trans r2).trans c1;unfold vG;simpa using this
def vI (aI:List ByteArray) (o:ByteArray) (stamp:Int) (aH:List Pr):List To:=uz aI++ [aW (⟨#[102,114,111,109]⟩:ah),fP o]++lZ stamp 0++jN aH
def vJ (aI:List ByteArray) (o:ByteArray) (stamp:Int) (aH:List Pr):Sx:={Sx.zero with kind:=7,aI:=aI,bT:=o,stamp:=stamp,aH:=aH}
def Bt (aI:List ByteArray) (o:ByteArray) (stamp:Int) (aH:List Pr):Prop:=qZ 8 aI∧dz o∧vC false stamp 0∧yS false aH
theorem Pz (hX:X.Ok) {σ:Ps}(h:(X.remove σ).2.bad=none):
 ∃aI o stamp aH,(X.remove σ).1=vJ aI o stamp aH∧qX X σ (vI aI o stamp aH) (X.remove σ).2∧Bt aI o stamp aH:=by
 unfold Tx.remove at h⊢;simp only at h⊢;obtain ⟨c1,n1⟩:=Dk hX h;obtain ⟨stamp,ttl,e3,c3,u3⟩:=Dl hX (by exact ⟨rfl,rfl⟩) c1.1
 have ht:ttl=0:=by
  rcases u3.2 with ht|⟨ht,_⟩
  · exact ht
  · exact absurd ht (by decide)
 subst ht;obtain ⟨c4,n4⟩:=iw hX c3.1;have c5:=bW hX _ c4.1
 have c6:∃aI,(if X.sees σ (⟨#[102,114,111,109]⟩:ah)=true then ([],σ)else X.columns σ 8).1=aI∧qX X σ (uz aI) (if X.sees σ (⟨#[102,114,111,109]⟩:ah)=true then ([],σ)else X.columns σ 8).2∧qZ 8 aI:=by
  have hb:=c5.1;split at hb
  · rename_i hs;rw [if_pos hs];exact ⟨_,rfl,qX.refl hb,by simp,trivial,by simp⟩
  · rename_i hs;rw [if_neg hs];obtain ⟨_,a,b⟩:=xE hX hb;exact ⟨_,rfl,a,b⟩
 obtain ⟨aI,e6,c6,n6⟩:=c6;refine ⟨aI,_,stamp,_,by rw [e3,e6];rfl, ?_,n6,n4,u3,n1⟩;have:=(((c6.trans c5).trans c4).trans c3).trans c1;unfold vI;simpa using this
def Aa (n:Int):List To:=if n=0 then []else [aW (⟨#[108,105,109,105,116]⟩:ah),Dj n]
def MU (aI:List ByteArray) (o:ByteArray) (aH:List Pr) (limit:Int):List To:=wJ aI++ [aW (⟨#[102,114,111,109]⟩:ah),fP o]++jN aH++Aa limit
def F9 (aI:List ByteArray) (o:ByteArray) (aH:List Pr) (limit:Int):Sx:={Sx.zero with kind:=8,aI:=aI,bT:=o,aH:=aH,limit:=limit}
def RY (aI:List ByteArray) (o:ByteArray) (aH:List Pr) (limit:Int):Prop:=qZ 8 aI∧dz o∧yS false aH∧(limit=0∨jR limit)
theorem aaj (hX:X.Ok) {σ:Ps}(h:(X.ask σ).2.bad=none):
 ∃aI o aH limit,(X.ask σ).1=F9 aI o aH limit∧qX X σ (MU aI o aH limit) (X.ask σ).2∧RY aI o aH limit:=by
 unfold Tx.ask at h⊢;simp only at h⊢
 have go:∀{jS:Ps} {L:List To},qX X (X.aH (X.name (X.must (X.some_ σ).2 [(⟨#[102,114,111,109]⟩:ah)])).2 false).2 L jS→qX X σ (wJ (X.some_ σ).1++ [aW (⟨#[102,114,111,109]⟩:ah),fP (X.name (X.must (X.some_ σ).2 [(⟨#[102,114,111,109]⟩:ah)])).1]++jN (X.aH (X.name (X.must (X.some_ σ).2 [(⟨#[102,114,111,109]⟩:ah)])).2 false).1++L) jS∧qZ 8 (X.some_ σ).1∧dz (X.name (X.must (X.some_ σ).2 [(⟨#[102,114,111,109]⟩:ah)])).1∧yS false (X.aH (X.name (X.must (X.some_ σ).2 [(⟨#[102,114,111,109]⟩:ah)])).2 false).1:=by
  intro jS L hc;obtain ⟨c1,n1⟩:=Dk hX hc.1;obtain ⟨c2,n2⟩:=iw hX c1.1;have c3:=bW hX _ c2.1;obtain ⟨c4,n4⟩:=MR hX c3.1;refine ⟨?_,n4,n2,n1⟩;have:=(((c4.trans c3).trans c2).trans c1).trans hc;simpa using this
 split at h
 · rename_i hs;rw [if_pos hs];simp only at h⊢;obtain ⟨c0,n0⟩:=uy hX h;obtain ⟨g1,g2,g3,g4⟩:=go ((fG hX hs).trans c0);refine ⟨_,_,_,_,rfl, ?_,g2,g3,g4, .inr n0⟩;unfold MU Aa;rw [if_neg (ru n0)];exact g1
 · rename_i hs;rw [if_neg hs];obtain ⟨g1,g2,g3,g4⟩:=go (qX.refl h);refine ⟨_,_,_,0,rfl, ?_,g2,g3,g4, .inl rfl⟩;unfold MU Aa;rw [if_pos rfl];exact g1
inductive GC:Sx→List To→Prop
 |insert (o:ByteArray) (c:List ByteArray) (v:List Tm) (stamp ttl:Int) (h:Bq o c v stamp ttl):GC (vE o c v stamp ttl) (aW (⟨#[105,110,115,101,114,116]⟩:ah)::ni o c v stamp ttl)
 |update (o:ByteArray) (stamp ttl:Int) (sets aH:List Pr) (h:Br o stamp ttl sets aH):GC (vH o stamp ttl sets aH) (aW (⟨#[117,112,100,97,116,101]⟩:ah)::vG o stamp ttl sets aH)
 |remove (aI:List ByteArray) (o:ByteArray) (stamp:Int) (aH:List Pr) (h:Bt aI o stamp aH):GC (vJ aI o stamp aH) (aW (⟨#[100,101,108,101,116,101]⟩:ah)::vI aI o stamp aH)
inductive GP:Sx→List To→Prop
 |table (nm:ByteArray) (C:List Cl) (pk ck:ByteArray) (h:vD nm C pk ck):GP (nX nm C pk ck) (aW (⟨#[99,114,101,97,116,101]⟩:ah)::aW (⟨#[116,97,98,108,101]⟩:ah)::rz nm C pk ck)
 |view (nm:ByteArray) (aI:List ByteArray) (o on p q:ByteArray) (h:K3 nm aI o on p q):GP (zD nm aI o on p q) (aW (⟨#[99,114,101,97,116,101]⟩:ah)::aW (⟨#[109,97,116,101,114,105,97,108,105,122,101,100]⟩:ah)::wK nm aI o on p q)
 |index (nm o on:ByteArray) (h:dz nm∧dz o∧dz on):GP (Dn nm o on) (aW (⟨#[99,114,101,97,116,101]⟩:ah)::Dm nm o on)
 |drop (nm:ByteArray) (h:dz nm):GP {Sx.zero with kind:=4,name:=nm} [aW (⟨#[100,114,111,112]⟩:ah),fP nm]
 |ask (aI:List ByteArray) (o:ByteArray) (aH:List Pr) (limit:Int) (h:RY aI o aH limit):GP (F9 aI o aH limit) (aW (⟨#[115,101,108,101,99,116]⟩:ah)::MU aI o aH limit)
inductive GB:List Sx→List To→Prop
 |nil:GB [] []
 |cons {x:Sx} {L:List To} {l:List Sx} {M:List To} (h:GC x L) (h' :GB l M):GB (x::l) (L++aW (⟨#[59]⟩:ah)::M)
inductive GN:Tx.Nd→List To→Prop
 |plain {x:Sx} {L:List To} (h:GP x L):GN (.plain x) L
 |change {x:Sx} {L:List To} (h:GC x L):GN (.change x) L
 |batch {l:List Sx} {L:List To} (h:GB l L) (h1:l≠ []) (h2:l.length≤8):GN (.batch l) ([aW (⟨#[98,101,103,105,110]⟩:ah),aW (⟨#[98,97,116,99,104]⟩:ah)]++L++ [aW (⟨#[97,112,112,108,121]⟩:ah),aW (⟨#[98,97,116,99,104]⟩:ah)])
theorem JR {st:Ps→Tx.Nd×Ps}{σ:Ps}(h:σ.bad≠none) (n:Nat) (l:List Sx):X.jk st n σ l=(l,σ):=by
 cases n with
 |zero=>rfl
 |succ n=>
  rw [Tx.jk];cases hb:σ.bad with
  |none=>exact absurd hb h
  |some a=>simp
theorem JU (hX:X.Ok) {st:Ps→Tx.Nd×Ps}(hst:∀σ x σ',st σ=(.change x,σ')→σ'.bad=none→∃L,GC x L∧qX X σ L σ'):∀n σ l,10≤l.length+n→l.length≤8→(X.jk st n σ l).2.bad=none→
 ∃D M,(X.jk st n σ l).1=l++D∧GB D M∧qX X σ (M++ [aW (⟨#[97,112,112,108,121]⟩:ah)]) (X.jk st n σ l).2∧(l++D).length≤8∧l++D≠ []
 |0,σ,l,h1,h2,_=>absurd h1 (by omega)
 |n+1,σ,l,h1,h2,h=>by
  cases hb:σ.bad with
  |some a=>
   exfalso;rw [JR (by rw [hb];simp)]at h;simp only at h;rw [hb]at h;exact absurd h (by simp)
  |none=>
   rw [Tx.jk,hb]at h⊢;simp only [Option.isSome_none,Bool.false_eq_true,if_false]at h⊢;split at h
   · rename_i hs;rw [if_pos hs];simp only [Bool.and_eq_true,Bool.not_eq_true']at hs;refine ⟨[], [],by simp, .nil,fG hX hs.2,by simpa using h2, ?_⟩;intro e;rw [List.append_nil]at e;rw [e]at hs;exact absurd hs.1 (by decide)
   · rename_i hs;rw [if_neg hs];obtain ⟨⟨nd,σ1⟩,h3⟩:∃r,st (if 8≤l.length then σ.wrong (X.here σ)else σ)=r:=⟨_,rfl⟩;simp only [h3]at h⊢;cases nd with
     |plain x=>exact absurd h (by simp)
     |batch x=>exact absurd h (by simp)
     |change x=>
      simp only at h⊢
      have hb2:(X.must σ1 [(⟨#[59]⟩:ah)]).bad=none:=by
       cases hb2:(X.must σ1 [(⟨#[59]⟩:ah)]).bad with
       |none=>rfl
       |some a=>
        rw [JR (by rw [hb2];simp)]at h;simp only at h;rw [hb2]at h;exact absurd h (by simp)
      have c2:=bW hX _ hb2;obtain ⟨L,hG,c1⟩:=hst _ _ _ h3 c2.1;obtain ⟨k1,k2⟩:=uw c1.1;rw [k2]at c1;obtain ⟨D,M,d1,d2,d3,d4,d5⟩:=JU hX hst n _ (l++ [x]) (by simp;omega) (by simp;omega) h;refine ⟨x::D,L++aW (⟨#[59]⟩:ah)::M,by rw [d1];simp, .cons hG d2, ?_,by simpa using d4,by simp⟩;have:=(c1.trans c2).trans d3;simpa using this
theorem MV (hX:X.Ok) (n:Nat) (hst:∀σ x σ',X.jh n σ=(.change x,σ')→σ'.bad=none→∃L,GC x L∧qX X σ L σ') (σ:Ps) (h:(X.jh (n+1) σ).2.bad=none):∃L,GN (X.jh (n+1) σ).1 L∧qX X σ L (X.jh (n+1) σ).2:=by
 rw [Tx.jh]at h⊢;split at h
 · rename_i hs;rw [if_pos hs];obtain ⟨o,c,v,a,b,e,hc,ho⟩:=Px hX h;simp only [e];exact ⟨_, .change (.insert o c v a b ho),(fG hX hs).trans hc⟩
 rename_i hs;rw [if_neg hs];clear hs;split at h
 · rename_i hs;rw [if_pos hs];obtain ⟨o,c,v,a,b,e,hc,ho⟩:=Py hX h;simp only [e];exact ⟨_, .change (.update o c v a b ho),(fG hX hs).trans hc⟩
 rename_i hs;rw [if_neg hs];clear hs;split at h
 · rename_i hs;rw [if_pos hs];obtain ⟨o,c,v,a,e,hc,ho⟩:=Pz hX h;simp only [e];exact ⟨_, .change (.remove o c v a ho),(fG hX hs).trans hc⟩
 rename_i hs;rw [if_neg hs];clear hs;split at h
 · rename_i hs;rw [if_pos hs];obtain ⟨o,c,v,a,e,hc,ho⟩:=aaj hX h;simp only [e];exact ⟨_, .plain (.ask o c v a ho),(fG hX hs).trans hc⟩
 rename_i hs;rw [if_neg hs];clear hs;split at h
 · rename_i hs;rw [if_pos hs];unfold Tx.many at h⊢;simp only at h⊢;have c3:=bW hX _ h;obtain ⟨D,M,d1,d2,d3,d4,d5⟩:=JU hX hst 10 _ [] (by simp) (by simp) c3.1;have c1:=bW hX _ d3.1;rw [List.nil_append]at d1 d4 d5;rw [d1];refine ⟨_, .batch d2 d5 d4, ?_⟩;have:=(((fG hX hs).trans c1).trans d3).trans c3;simpa using this
 rename_i hs;rw [if_neg hs];clear hs;split at h
 · rename_i hs;rw [if_pos hs];obtain ⟨hc,ho⟩:=iw hX h;exact ⟨_, .plain (.drop _ ho),(fG hX hs).trans hc⟩
 rename_i hs;rw [if_neg hs];clear hs;split at h
 · rename_i hs;rw [if_pos hs];split at h
   · rename_i ht;rw [if_pos ht];obtain ⟨o,c,v,a,e,hc,ho⟩:=TG hX h;simp only [e];exact ⟨_, .plain (.table o c v a ho),((fG hX hs).trans (fG hX ht)).trans hc⟩
   rename_i ht;rw [if_neg ht];clear ht;split at h
   · rename_i ht;rw [if_pos ht];obtain ⟨o,c,v,a,p,q,e,hc,ho⟩:=WU hX h;simp only [e];exact ⟨_, .plain (.view o c v a p q ho),((fG hX hs).trans (fG hX ht)).trans hc⟩
   rename_i ht;rw [if_neg ht];clear ht;obtain ⟨o,c,v,e,hc,ho⟩:=TH hX h;simp only [e];exact ⟨_, .plain (.index o c v ho),(fG hX hs).trans hc⟩
 exact absurd h mP
theorem aak (hX:X.Ok):∀n σ,(X.jh (n+1) σ).2.bad=none→∃L,GN (X.jh (n+1) σ).1 L∧qX X σ L (X.jh (n+1) σ).2:=by
 intro n
 induction n with
 |zero=>
  exact MV hX 0 (by intro σ x σ' h;rw [Tx.jh]at h;cases h)
 |succ n ih=>
  refine MV hX (n+1) (fun σ x σ' h hb=> ?_);obtain ⟨L,h1,h2⟩:=ih σ (by rw [h];exact hb);rw [h]at h1 h2;cases h1 with
  |change hG=>exact ⟨L,hG,h2⟩
end
section
variable {X:Tx}
def jg (X:Tx) (σ:Ps) (L:List To):Prop:=σ.bad=none∧X.F.drop σ.i=L
theorem jg.step {σ:Ps}{t:To}{L:List To}(h:jg X σ (t::L)):jg X σ.step L:=⟨h.1,JO h.2⟩
theorem jg.sees {σ:Ps}{L:List To}(h:jg X σ L) (s:ByteArray):X.sees σ s=mO L s:=by rw [WR h.1,h.2]
theorem jg.get {σ:Ps}{t:To}{L:List To}(h:jg X σ (t::L)):∃u,X.T[σ.i]? =some u∧u.fo=t:=by
 cases hx:X.T[σ.i]? with
 |none=>have:=h.2;rw [JN hx]at this;exact absurd this (by simp)
 |some u=>
  have:=h.2;rw [Di hx]at this;injection this with h1 _
  exact ⟨u,rfl,h1⟩
theorem jg.len {σ:Ps}{L:List To}(h:jg X σ L):L.length≤X.T.length:=by rw [←h.2];exact abV _
theorem aU (a s:ByteArray) (R:List To):mO (aW a::R) s=jf a s:=by
 unfold mO aW;cases pW a um<;>simp
theorem aal (a s:ByteArray) (R:List To):mO (fP a::R) s=jf a s:=by unfold mO fP;simp
def kwB (w:ByteArray):Bool:=zX w||pW w um
theorem aam {s w:ByteArray}(h:dz s) (hw:kwB w=true):jf s w=false:=by
 cases hb:jf s w with
 |false=>rfl
 |true=>
  have:=eD.1 hb;subst this;unfold kwB at hw;rw [h.2.2.2,zZ h.1]at hw;exact absurd hw (by decide)
theorem Ab {s w:ByteArray}(h:dz s) (hw:kwB w=true) (R:List To):mO (fP s::R) w=false:=by rw [aal,aam h hw]
theorem WV {σ:Ps}{s:ByteArray}{R:List To}(h:jg X σ (aW s::R)):jg X (X.bC σ s) R:=by
 unfold Tx.bC;rw [if_pos (by rw [h.sees,aU];exact eD.2 rfl)];exact h.step
theorem dG:∀(l:List ByteArray) {σ:Ps}{R:List To}(_:jg X σ (l.map aW++R)),jg X (X.must σ l) R
 | [],_,_,h=>h
 |s::l,σ,_R,h=>dG l (σ:=X.bC σ s) (WV h)
theorem jF {σ:Ps}{s:ByteArray}{R:List To}(h:jg X σ (fP s::R)) (hn:dz s):(X.name σ).1=s∧jg X (X.name σ).2 R:=by
 obtain ⟨u,hu,hf⟩:=h.get;unfold Tk.fo fP at hf;injection hf with h1 h2
 injection h2 with h2 h3
 have hx:X.next σ 1=some u:=by unfold Tx.next;rw [h.1,hu];simp [h1]
 unfold Tx.name;rw [hx];simp only;rw [h2,hn.2.2.2];exact ⟨rfl,h.step⟩
theorem uF {σ:Ps}{t:Tm}{R:List To}(h:jg X σ (uo t::R)) (hn:nT t):(X.value σ).1=t∧jg X (X.value σ).2 R:=by
 obtain ⟨u,hu,hf⟩:=h.get;unfold Tk.fo uo at hf;unfold Tx.value;rcases hn with ⟨a,b,c,d⟩|⟨a,b,c,d⟩
 · rw [if_pos a]at hf;injection hf with h1 h2
   injection h2 with h2 h3
   have hx:X.next σ 3=some u:=by unfold Tx.next;rw [h.1,hu];simp [h1]
   rw [hx];refine ⟨?_,h.step⟩;cases t;simp only at a d h2;subst a d h2;rfl
 · rw [if_neg (by rw [a];decide)]at hf;injection hf with h1 h2
   injection h2 with h2 h3
   have hx3:X.next σ 3=none:=by unfold Tx.next;rw [h.1,hu];simp [h1]
   have hx:X.next σ 2=some u:=by unfold Tx.next;rw [h.1,hu];simp [h1]
   rw [hx3,hx];refine ⟨?_,h.step⟩;cases t;simp only at a b h3;subst a b h3;rfl
theorem xG {σ:Ps}{n:Int}{R:List To}(h:jg X σ (Dj n::R)) (hn:jR n):(X.count σ).1=n∧jg X (X.count σ).2 R:=by
 have ht:nT ⟨2,⟨#[]⟩,n⟩:= .inr ⟨rfl,rfl,by have:=hn.1;show _≤n;omega,hn.2⟩;obtain ⟨h1,h2⟩:=uF (t:=⟨2,⟨#[]⟩,n⟩) (by unfold uo;rw [if_neg (show¬((2:Int)=1)by decide)];exact h) ht;unfold Tx.count;simp only;rw [h1];refine ⟨rfl, ?_⟩;rw [if_neg]
 · exact h2
 · have:=hn.1;have:=hn.2;simp only [not_or,Decidable.not_not];refine ⟨trivial, ?_, ?_⟩<;>omega
theorem uG {σ:Ps}{s:ByteArray}{R:List To}{l:List ByteArray}{most:Nat}(h:jg X σ (fP s::R)) (hn:dz s) (hd:pW s l=false) (hm:l.length<most):
 (X.column σ l most).1=l++ [s]∧jg X (X.column σ l most).2 R:=by
 unfold Tx.column;simp only;rw [if_neg (by omega)];obtain ⟨h1,h2⟩:=jF h hn;rw [h1,hd];exact ⟨rfl,h2⟩
theorem Ej (most:Nat):∀(r:List ByteArray) (n:Nat) (σ:Ps) (l:List ByteArray) (R:List To),r.length≤n→jg X σ (qY r++R)→mO R (⟨#[44]⟩:ah)=false→(∀s∈r,dz s)→uq l r→(l++r).length≤most→
 (X.dD most n σ l).1=l++r∧jg X (X.dD most n σ l).2 R
 | [],0,σ,l,R,_,h,_,_,_,_=>⟨by simp [Tx.dD],h⟩
 | [],n+1,σ,l,R,_,h,hR,_,_,_=>by
  rw [Tx.dD,if_neg (by rw [h.sees];simp [qY,hR])];exact ⟨by simp,h⟩
 |s::r,0,_,_,_,hn,_,_,_,_,_=>absurd hn (by simp)
 |s::r,n+1,σ,l,R,hn,h,hR,hok,hd,hm=>by
  replace h:jg X σ (aW (⟨#[44]⟩:ah)::fP s::(qY r++R)):=by simpa [qY]using h
  rw [Tx.dD,if_pos (by rw [h.sees,aU];rfl)];simp only;obtain ⟨h1,h2⟩:=uG (most:=most) (l:=l) h.step (hok s (List.mem_cons_self ..)) hd.1 (by simp at hm;omega);rw [h1];obtain ⟨h3,h4⟩:=Ej most r n _ (l++ [s]) R (by simpa using hn) h2 hR (fun x hx=>hok x (List.mem_cons_of_mem _ hx)) hd.2 (by simpa using hm);exact ⟨by rw [h3];simp,h4⟩
theorem PD (r:List ByteArray):(qY r).length=2*r.length:=by
 induction r with
 |nil=>rfl
 |cons a r ih=>unfold qY at ih⊢;rw [List.flatMap_cons,List.length_append,ih];simp;omega
theorem Ac {σ:Ps}{c:List ByteArray}{R:List To}{most:Nat}(hne:c≠ []) (hok:qZ most c) (h:jg X σ (uz c++R)) (hR:mO R (⟨#[44]⟩:ah)=false):(X.columns σ most).1=c∧jg X (X.columns σ most).2 R:=by
 cases c with
 |nil=>exact absurd rfl hne
 |cons a c=>
  obtain ⟨h0,hd,hm⟩:=hok;have hl:=h.len;simp only [uz,List.length_append,List.length_cons,PD]at hl;replace h:jg X σ (fP a::(qY c++R)):=h;obtain ⟨h1,h2⟩:=uG (most:=most) (l:= []) h (h0 a (List.mem_cons_self ..)) rfl (by simp at hm⊢;omega);unfold Tx.columns;simp only;rw [h1];obtain ⟨h3,h4⟩:=Ej most c X.T.length _ [a] R (by omega) h2 hR (fun x hx=>h0 x (List.mem_cons_of_mem _ hx)) hd.2 (by simpa using hm);exact ⟨by rw [List.nil_append,h3];rfl,h4⟩
theorem RZ {σ:Ps}{c:List ByteArray}{R:List To}(hok:qZ 8 c) (h:jg X σ (wJ c++R)) (hR:mO R (⟨#[44]⟩:ah)=false):(X.some_ σ).1=c∧jg X (X.some_ σ).2 R:=by
 unfold Tx.some_;unfold wJ at h;by_cases hc:c= []
 · subst hc;rw [if_pos rfl]at h;replace h:jg X σ (aW (⟨#[42]⟩:ah)::R):=h;rw [if_pos (by rw [h.sees,aU];rfl)];exact ⟨rfl,h.step⟩
 · rw [if_neg hc]at h;rw [if_neg]
   · exact Ac hc hok h hR
   · rw [h.sees];cases c with
     |nil=>exact absurd rfl hc
     |cons a c=>
      rw [show uz (a::c)++R=fP a::(qY c++R)from rfl,Ab (hok.1 a (List.mem_cons_self ..)) (by decide+kernel)];decide
theorem Bu {σ:Ps}{p:Pr}{R:List To}(h:jg X σ (pairT p++R)) (hp:nW p):(X.equal σ).1=p∧jg X (X.equal σ).2 R:=by
 replace h:jg X σ (fP p.name::aW (⟨#[61]⟩:ah)::uo p.t::R):=h;obtain ⟨h1,h2⟩:=jF h hp.1;have h3:=dG [(⟨#[61]⟩:ah)] h2;obtain ⟨h4,h5⟩:=uF h3 hp.2;unfold Tx.equal;simp only;rw [h1,h4];exact ⟨rfl,h5⟩
theorem Bv {σ:Ps}{both:Bool}{l:List Pr}{R:List To}(hok:yS both l) (h:jg X σ (jN l++R)) (hR:mO R (⟨#[97,110,100]⟩:ah)=false):(X.aH σ both).1=l∧jg X (X.aH σ both).2 R:=by
 obtain ⟨h0,hl⟩:=hok;unfold Tx.aH;simp only;rcases hl with hl|⟨hb,hl⟩
 · obtain ⟨p,q,rfl⟩:∃p q,l= [p,q]:=by
    match l,hl with
    | [p,q],_=>exact ⟨p,q,rfl⟩
   replace h:jg X σ ([(⟨#[119,104,101,114,101]⟩:ah)].map aW++(pairT p++(aW (⟨#[97,110,100]⟩:ah)::(pairT q++R)))):=by simpa [jN]using h
   have h1:=dG _ h;obtain ⟨h2,h3⟩:=Bu h1 (h0 p (by simp));have h4:=h3.step;have h5:=dG [(⟨#[97,110,100]⟩:ah)] h3;cases both with
   |true=>
    rw [if_pos rfl];obtain ⟨h6,h7⟩:=Bu h5 (h0 q (by simp));exact ⟨by rw [h2,h6],h7⟩
   |false=>
    rw [if_neg (by decide),if_pos (by rw [h3.sees,aU];rfl)];obtain ⟨h6,h7⟩:=Bu h4 (h0 q (by simp));exact ⟨by rw [h2,h6],h7⟩
 · subst hb
   obtain ⟨p,rfl⟩:∃p,l= [p]:=by
    match l,hl with
    | [p],_=>exact ⟨p,rfl⟩
   replace h:jg X σ ([(⟨#[119,104,101,114,101]⟩:ah)].map aW++(pairT p++R)):=by simpa [jN]using h
   have h1:=dG _ h;obtain ⟨h2,h3⟩:=Bu h1 (h0 p (by simp));rw [if_neg (by decide),if_neg (by rw [h3.sees,hR];decide)];exact ⟨by rw [h2],h3⟩
theorem Ga {σ:Ps}{b:Bool}{x:Sx}(hx:x.stamp=0∧x.ttl=0) {stamp ttl:Int}{R:List To}(hok:vC b stamp ttl) (h:jg X σ (lZ stamp ttl++R)) (hR:mO R (⟨#[117,115,105,110,103]⟩:ah)=false) (hR2:mO R (⟨#[97,110,100]⟩:ah)=false):
 (X.using_ σ b x).1={x with stamp:=stamp,ttl:=ttl}∧jg X (X.using_ σ b x).2 R:=by
 obtain ⟨hs,ht⟩:=hok;unfold lZ at h;unfold Tx.using_;simp only;by_cases hs0:stamp=0
 · rw [if_pos hs0]at h;by_cases ht0:ttl=0
   · rw [if_pos ht0]at h;rw [if_neg (by rw [h.sees];simp [hR])];refine ⟨?_,h⟩;have h1:=hx.1;have h2:=hx.2;cases x;simp only at h1 h2;subst h1 h2 hs0 ht0;rfl
   · rw [if_neg ht0]at h;obtain ⟨hb,hc⟩:b=true∧jR ttl:=by rcases ht with ht|ht;exact absurd ht ht0;exact ht
     replace h:jg X σ (aW (⟨#[117,115,105,110,103]⟩:ah)::aW (⟨#[116,116,108]⟩:ah)::Dj ttl::R):=h;have h1:=h.step;have h2:=h1.step;obtain ⟨h3,h4⟩:=xG h2 hc;rw [if_pos (by rw [h.sees,aU];rfl),if_pos (by rw [h1.sees,aU,hb];rfl)];exact ⟨by rw [h3,hs0,←hx.1],h4⟩
 · rw [if_neg hs0]at h;have hsc:jR stamp:=by rcases hs with hs|hs;exact absurd hs hs0;exact hs
   by_cases ht0:ttl=0
   · rw [if_pos ht0]at h;replace h:jg X σ (aW (⟨#[117,115,105,110,103]⟩:ah)::aW (⟨#[116,105,109,101,115,116,97,109,112]⟩:ah)::Dj stamp::R):=h;have h1:=h.step;have h2:=dG [(⟨#[116,105,109,101,115,116,97,109,112]⟩:ah)] h1;obtain ⟨h3,h4⟩:=xG h2 hsc;rw [if_pos (by rw [h.sees,aU];rfl),if_neg (by rw [h1.sees,aU,show jf (⟨#[116,105,109,101,115,116,97,109,112]⟩:ah) (⟨#[116,116,108]⟩:ah)=false by decide,Bool.and_false];decide),if_neg (by rw [h4.sees,hR2,Bool.and_false];decide)];exact ⟨by rw [h3,ht0,←hx.2],h4⟩
   · rw [if_neg ht0]at h;obtain ⟨hb,hc⟩:b=true∧jR ttl:=by rcases ht with ht|ht;exact absurd ht ht0;exact ht
     replace h:jg X σ (aW (⟨#[117,115,105,110,103]⟩:ah)::aW (⟨#[116,105,109,101,115,116,97,109,112]⟩:ah)::Dj stamp::aW (⟨#[97,110,100]⟩:ah)::aW (⟨#[116,116,108]⟩:ah)::Dj ttl::R):=h;have h1:=h.step;have h2:=dG [(⟨#[116,105,109,101,115,116,97,109,112]⟩:ah)] h1;obtain ⟨h3,h4⟩:=xG h2 hsc;have h5:=dG [(⟨#[116,116,108]⟩:ah)] h4.step;obtain ⟨h6,h7⟩:=xG h5 hc;rw [if_pos (by rw [h.sees,aU];rfl),if_neg (by rw [h1.sees,aU,show jf (⟨#[116,105,109,101,115,116,97,109,112]⟩:ah) (⟨#[116,116,108]⟩:ah)=false by decide,Bool.and_false];decide),if_pos (by rw [h4.sees,aU,hb];rfl)];exact ⟨by rw [h3,h6],h7⟩
theorem PE {σ:Ps}{s:ByteArray}{R:List To}{l:List ByteArray}{but:ByteArray}(h:jg X σ (fP s::R)) (hn:dz s) (hl:s∈l) (hb:s≠but):(X.one σ l but).1=s∧jg X (X.one σ l but).2 R:=by
 obtain ⟨h1,h2⟩:=jF h hn;unfold Tx.one;simp only;rw [h1];have e1:=qF.2 hl
 have e2:jf s but=false:=by
  cases hq:jf s but with
  |false=>rfl
  |true=>exact absurd (eD.1 hq) hb
 rw [e1,e2];exact ⟨rfl,h2⟩
theorem aan {σ:Ps}{ty:Int}{R:List To}(h:jg X σ (Eh ty::R)) (ht:ty=1∨ty=2):(X.kind σ).1=ty∧jg X (X.kind σ).2 R:=by
 unfold Tx.kind;unfold Eh at h;rcases ht with rfl|rfl
 · rw [if_pos rfl]at h;rw [if_pos (by rw [h.sees,aU];rfl)];exact ⟨rfl,h.step⟩
 · rw [if_neg (by decide)]at h;rw [if_neg (by rw [h.sees,aU];decide)];exact ⟨rfl,dG [(⟨#[105,110,116]⟩:ah)] h⟩
theorem Dp {s:ByteArray}(h:dz s):s≠⟨#[]⟩:=by
 rintro rfl;exact absurd h.1 (by decide+kernel)
theorem JV:∀(D:List Cl) (n:Nat) (σ:Ps) (l:List ByteArray) (C:List Cl) (R:List To),D.length<n→jg X σ (D.flatMap F4++aW (⟨#[112,114,105,109,97,114,121]⟩:ah)::R)→(∀c∈D,F5 c)→uq l (D.map Cl.name)→(l++D.map Cl.name).length≤10→
 (X.gI n σ l C).1=l++D.map Cl.name∧(X.gI n σ l C).2.1=C++D∧jg X (X.gI n σ l C).2.2 R
 | [],0,_,_,_,_,hn,_,_,_,_=>absurd hn (by simp)
 |c::D,0,_,_,_,_,hn,_,_,_,_=>absurd hn (by simp)
 | [],n+1,σ,l,C,R,_,h,_,_,_=>by
  replace h:jg X σ (aW (⟨#[112,114,105,109,97,114,121]⟩:ah)::R):=h;rw [Tx.gI,h.1,if_neg (by decide),if_pos (by rw [h.sees,aU];rfl)];exact ⟨by simp,by simp,h.step⟩
 |c::D,n+1,σ,l,C,R,hn,h,hok,hd,hm=>by
  replace h:jg X σ (fP c.name::Eh c.ty::aW (⟨#[44]⟩:ah)::(D.flatMap F4++aW (⟨#[112,114,105,109,97,114,121]⟩:ah)::R)):=by simpa [F4]using h
  obtain ⟨ho1,ho2⟩:=hok c (List.mem_cons_self ..);rw [Tx.gI,h.1,if_neg (by decide),if_neg (by rw [h.sees,Ab ho1 (by decide+kernel)];decide)];obtain ⟨h1,h2⟩:=uG (most:=10) (l:=l) h ho1 hd.1 (by simp at hm;omega);obtain ⟨h3,h4⟩:=aan h2 ho2;have h5:=dG [(⟨#[44]⟩:ah)] h4;simp only;rw [h1,h3];have hlast:(l++ [c.name]).getLastD ⟨#[]⟩=c.name:=by simp
  rw [hlast];obtain ⟨e1,e2,e3⟩:=JV D n _ (l++ [c.name]) (C++ [⟨c.name,c.ty⟩]) R (by simpa using hn) h5 (fun x hx=>hok x (List.mem_cons_of_mem _ hx)) hd.2 (by simpa using hm);exact ⟨by rw [e1];simp,by rw [e2];simp,e3⟩
theorem WW (D:List Cl):(D.flatMap F4).length=3*D.length:=by
 induction D with
 |nil=>rfl
 |cons a r ih=>rw [List.flatMap_cons,List.length_append,ih];simp [F4];omega
theorem WX {σ:Ps}{nm:ByteArray}{C:List Cl}{pk ck:ByteArray}{R:List To}(hok:vD nm C pk ck) (h:jg X σ (rz nm C pk ck++R)):(X.table σ).1=nX nm C pk ck∧jg X (X.table σ).2 R:=by
 obtain ⟨o1,o2,o3,o4,o5,o6,o7⟩:=hok
 have ho:∀s∈C.map Cl.name,dz s:=by
  intro s hs;obtain ⟨c,hc,rfl⟩:=List.mem_map.1 hs;exact (o2 c hc).1
 have hlen:=h.len
 replace h:jg X σ (fP nm::([(⟨#[40]⟩:ah)].map aW++(C.flatMap F4++aW (⟨#[112,114,105,109,97,114,121]⟩:ah)::([(⟨#[107,101,121]⟩:ah),(⟨#[40]⟩:ah)].map aW++(fP pk::([(⟨#[44]⟩:ah)].map aW++(fP ck::([(⟨#[41]⟩:ah),(⟨#[41]⟩:ah)].map aW++R)))))))):=by
  simpa [rz]using h
 obtain ⟨h1,h2⟩:=jF h o1;have h3:=dG _ h2;have hl3:=h3.len;simp only [List.length_append,WW]at hl3;obtain ⟨h4,h5,h6⟩:=JV C (X.T.length+1) _ [] [] _ (by omega) h3 o2 o3 (by simpa using o4);rw [List.nil_append]at h4 h5;have h7:=dG _ h6;rw [←h4]at o5 o6;obtain ⟨h8,h9⟩:=PE h7 (ho pk (by rw [←h4];exact o5)) o5 (Dp (ho pk (by rw [←h4];exact o5)));have h10:=dG _ h9;obtain ⟨h11,h12⟩:=PE (but:=pk) h10 (ho ck (by rw [←h4];exact o6)) o6 o7;have K4:=dG _ h12;unfold Tx.table;simp only;rw [h8];refine ⟨?_,K4⟩;rw [h11,h5,h1];rfl
theorem aao {σ:Ps}{nm:ByteArray}{aI:List ByteArray}{o on p q:ByteArray}{R:List To}(hok:K3 nm aI o on p q) (h:jg X σ (wK nm aI o on p q++R)):(X.view σ).1=zD nm aI o on p q∧jg X (X.view σ).2 R:=by
 obtain ⟨o1,o2,o3,o4,o5,o6⟩:=hok
 replace h:jg X σ ([(⟨#[118,105,101,119]⟩:ah)].map aW++(fP nm::([(⟨#[97,115]⟩:ah),(⟨#[115,101,108,101,99,116]⟩:ah)].map aW++(wJ aI++([(⟨#[102,114,111,109]⟩:ah)].map aW++(fP o::([(⟨#[119,104,101,114,101]⟩:ah)].map aW++(fP on::([(⟨#[105,115]⟩:ah),(⟨#[110,111,116]⟩:ah),(⟨#[110,117,108,108]⟩:ah),(⟨#[112,114,105,109,97,114,121]⟩:ah),(⟨#[107,101,121]⟩:ah),(⟨#[40]⟩:ah)].map aW++(fP on::([(⟨#[44]⟩:ah)].map aW++(fP p::([(⟨#[44]⟩:ah)].map aW++(fP q::([(⟨#[41]⟩:ah)].map aW++R))))))))))))))):=by
  simpa [wK]using h
 have h1:=dG _ h;obtain ⟨h2,h3⟩:=jF h1 o1;have h4:=dG _ h3;obtain ⟨h5,h6⟩:=RZ o2 h4 (by rw [List.map_cons,List.cons_append,aU];decide);have h7:=dG _ h6;obtain ⟨h8,h9⟩:=jF h7 o3;have h10:=dG _ h9;obtain ⟨h11,h12⟩:=jF h10 o4;have K4:=dG _ h12;obtain ⟨ZU,h15⟩:=PE (l:= [on]) (but:=⟨#[]⟩) K4 o4 (by simp) (Dp o4);have h16:=dG _ h15;obtain ⟨h17,h18⟩:=jF h16 o5;have h19:=dG _ h18;obtain ⟨h20,h21⟩:=jF h19 o6;have h22:=dG _ h21;unfold Tx.view;simp only;rw [h11];exact ⟨by rw [h2,h5,h8,h17,h20];rfl,h22⟩
theorem WY {σ:Ps}{nm o on:ByteArray}{R:List To}(hok:dz nm∧dz o∧dz on) (h:jg X σ (Dm nm o on++R)):(X.index σ).1=Dn nm o on∧jg X (X.index σ).2 R:=by
 obtain ⟨o1,o2,o3⟩:=hok;replace h:jg X σ ([(⟨#[105,110,100,101,120]⟩:ah)].map aW++(fP nm::([(⟨#[111,110]⟩:ah)].map aW++(fP o::([(⟨#[40]⟩:ah)].map aW++(fP on::([(⟨#[41]⟩:ah)].map aW++R))))))):=h;have h1:=dG _ h;obtain ⟨h2,h3⟩:=jF h1 o1;have h4:=dG _ h3;obtain ⟨h5,h6⟩:=jF h4 o2;have h7:=dG _ h6;obtain ⟨h8,h9⟩:=jF h7 o3;have h10:=dG _ h9;unfold Tx.index;exact ⟨by simp only;rw [h2,h5,h8];rfl,h10⟩
theorem Gb:∀(r:List Tm) (n:Nat) (σ:Ps) (l:List Tm) (R:List To),r.length≤n→jg X σ (tH r++R)→mO R (⟨#[44]⟩:ah)=false→(∀t∈r,nT t)→
 (X.dY n σ l).1=l++r∧jg X (X.dY n σ l).2 R
 | [],0,σ,l,R,_,h,_,_=>⟨by simp [Tx.dY],h⟩
 | [],n+1,σ,l,R,_,h,hR,_=>by
  rw [Tx.dY,if_neg (by rw [h.sees];simp [tH,hR])];exact ⟨by simp,h⟩
 |s::r,0,_,_,_,hn,_,_,_=>absurd hn (by simp)
 |s::r,n+1,σ,l,R,hn,h,hR,hok=>by
  replace h:jg X σ (aW (⟨#[44]⟩:ah)::uo s::(tH r++R)):=by simpa [tH]using h
  rw [Tx.dY,if_pos (by rw [h.sees,aU];rfl)];simp only;obtain ⟨h1,h2⟩:=uF h.step (hok s (List.mem_cons_self ..));rw [h1];obtain ⟨h3,h4⟩:=Gb r n _ (l++ [s]) R (by simpa using hn) h2 hR (fun x hx=>hok x (List.mem_cons_of_mem _ hx));exact ⟨by rw [h3];simp,h4⟩
theorem PG (r:List Tm):(tH r).length=2*r.length:=by
 induction r with
 |nil=>rfl
 |cons a r ih=>unfold tH at ih⊢;rw [List.flatMap_cons,List.length_append,ih];simp;omega
def Gc (R:List To):Prop:=∀w,w≠(⟨#[59]⟩:ah)→mO R w=false
theorem aap:Gc []:=fun _ _=>rfl
theorem MW (R:List To):Gc (aW (⟨#[59]⟩:ah)::R):=fun w hw=>by
 rw [aU];cases hq:jf (⟨#[59]⟩:ah) w with
 |false=>rfl
 |true=>exact absurd (eD.1 hq).symm hw
theorem TI {σ:Ps}{o:ByteArray}{c:List ByteArray}{v:List Tm}{stamp ttl:Int}{R:List To}(hok:Bq o c v stamp ttl) (h:jg X σ (ni o c v stamp ttl++R)) (hR:Gc R):(X.insert σ).1=vE o c v stamp ttl∧jg X (X.insert σ).2 R:=by
 obtain ⟨o1,o2,o3,o4,o5,o6⟩:=hok
 obtain ⟨v0,v1,rfl⟩:∃v0 v1,v=v0::v1:=by
  cases v with
  |nil=>cases c with|nil=>exact absurd rfl o2|cons a c=>exact absurd o4 (by simp)
  |cons a v=>exact ⟨a,v,rfl⟩
 replace h:jg X σ ([(⟨#[105,110,116,111]⟩:ah)].map aW++(fP o::([(⟨#[40]⟩:ah)].map aW++(uz c++([(⟨#[41]⟩:ah),(⟨#[118,97,108,117,101,115]⟩:ah),(⟨#[40]⟩:ah)].map aW++(uo v0::(tH v1++([(⟨#[41]⟩:ah)].map aW++(lZ stamp ttl++R))))))))):=by
  simpa [ni,MS]using h
 have h1:=dG _ h;obtain ⟨h2,h3⟩:=jF h1 o1;have h4:=dG _ h3;obtain ⟨h5,h6⟩:=Ac o2 o3 h4 (by rw [List.map_cons,List.cons_append,aU];decide);have h7:=dG _ h6;obtain ⟨h8,h9⟩:=uF h7 (o5 v0 (List.mem_cons_self ..));have hl:=h9.len;simp only [List.length_append,PG]at hl;obtain ⟨h10,h11⟩:=Gb v1 X.T.length _ [v0] _ (by omega) h9 (by rw [List.map_cons,List.cons_append,aU];decide) (fun x hx=>o5 x (List.mem_cons_of_mem _ hx));have h12:=dG _ h11;unfold Tx.insert;simp only;rw [h8,h10,h5];rw [if_neg (by rw [show [v0]++v1=v0::v1 from rfl,o4];simp)];obtain ⟨K4,ZU⟩:=Ga (b:=true) (x:={Sx.zero with kind:=5,bT:=o,sets:=List.zipWith Pr.mk c (v0::v1)}) ⟨rfl,rfl⟩ o6 h12 (hR _ (by decide)) (hR _ (by decide));rw [h2];exact ⟨K4,ZU⟩
theorem MX:∀(r:List Pr) (n:Nat) (σ:Ps) (l:List ByteArray) (Z:List Pr) (R:List To),r≠ []→r.length≤n→jg X σ (uE r++R)→mO R (⟨#[44]⟩:ah)=false→(∀p∈r,nW p)→uq l (r.map Pr.name)→(l++r.map Pr.name).length≤8→
 (X.kU n σ l Z).1=Z++r∧jg X (X.kU n σ l Z).2 R
 | [],_,_,_,_,_,hne,_,_,_,_,_,_=>absurd rfl hne
 |p::r,0,_,_,_,_,_,hn,_,_,_,_,_=>absurd hn (by simp)
 |p::r,n+1,σ,l,Z,R,_,hn,h,hR,hok,hd,hm=>by
  obtain ⟨ho1,ho2⟩:=hok p (List.mem_cons_self ..);have hlast:(l++ [p.name]).getLastD ⟨#[]⟩=p.name:=by simp
  rw [Tx.kU];try simp only
  cases r with
  |nil=>
   replace h:jg X σ (fP p.name::aW (⟨#[61]⟩:ah)::uo p.t::R):=h;obtain ⟨h1,h2⟩:=uG (most:=8) (l:=l) h ho1 hd.1 (by simp at hm;omega);have h3:=dG [(⟨#[61]⟩:ah)] h2;obtain ⟨h4,h5⟩:=uF h3 ho2;rw [if_neg (by rw [h5.sees,hR];decide),h1,h4,hlast];exact ⟨rfl,h5⟩
  |cons q r=>
   rw [z8 p (q::r) (by simp)]at h;replace h:jg X σ (fP p.name::aW (⟨#[61]⟩:ah)::uo p.t::aW (⟨#[44]⟩:ah)::(uE (q::r)++R)):=by simpa [pairT]using h
   obtain ⟨h1,h2⟩:=uG (most:=8) (l:=l) h ho1 hd.1 (by simp at hm;omega);have h3:=dG [(⟨#[61]⟩:ah)] h2;obtain ⟨h4,h5⟩:=uF h3 ho2;rw [if_pos (by rw [h5.sees,aU];rfl),h1,h4,hlast];obtain ⟨h6,h7⟩:=MX (q::r) n _ (l++ [p.name]) (Z++ [⟨p.name,p.t⟩]) R (by simp) (by simpa using hn) h5.step hR (fun x hx=>hok x (List.mem_cons_of_mem _ hx)) hd.2 (by simpa using hm);exact ⟨by rw [h6];simp,h7⟩
theorem TJ (r:List Pr):r.length≤(uE r).length:=by
 induction r with
 |nil=>exact Nat.le_refl _
 |cons p r ih=>
  by_cases h:r= []
  · subst h;simp [uE,pairT]
  · rw [z8 p r h];simp [pairT];omega
theorem TK {σ:Ps}{o:ByteArray}{stamp ttl:Int}{sets aH:List Pr}{R:List To}(hok:Br o stamp ttl sets aH) (h:jg X σ (vG o stamp ttl sets aH++R)) (hR:Gc R):(X.update σ).1=vH o stamp ttl sets aH∧jg X (X.update σ).2 R:=by
 obtain ⟨o1,o2,⟨o3,o4,o5,o6⟩,o7⟩:=hok
 replace h:jg X σ (fP o::(lZ stamp ttl++([(⟨#[115,101,116]⟩:ah)].map aW++(uE sets++(jN aH++R))))):=by
  simpa [vG]using h
 obtain ⟨h1,h2⟩:=jF h o1;obtain ⟨h3,h4⟩:=Ga (b:=true) (x:={Sx.zero with kind:=6,bT:=o}) ⟨rfl,rfl⟩ o2 h2 (by rw [List.map_cons,List.cons_append,aU];decide) (by rw [List.map_cons,List.cons_append,aU];decide);have h5:=dG _ h4;have hl:=h5.len;have:=TJ sets;simp only [List.length_append]at hl;obtain ⟨h6,h7⟩:=MX sets (X.T.length+1) _ [] [] _ o3 (by omega) h5 (by unfold jN;rw [List.cons_append,aU];decide) o4 o5 (by simpa using o6);obtain ⟨h8,h9⟩:=Bv o7 h7 (hR _ (by decide));unfold Tx.update;simp only;rw [h1];refine ⟨?_,h9⟩;rw [h8,h3,h6];rfl
theorem TL {σ:Ps}{aI:List ByteArray}{o:ByteArray}{stamp:Int}{aH:List Pr}{R:List To}(hok:Bt aI o stamp aH) (h:jg X σ (vI aI o stamp aH++R)) (hR:Gc R):(X.remove σ).1=vJ aI o stamp aH∧jg X (X.remove σ).2 R:=by
 obtain ⟨o1,o2,o3,o4⟩:=hok
 replace h:jg X σ (uz aI++([(⟨#[102,114,111,109]⟩:ah)].map aW++(fP o::(lZ stamp 0++(jN aH++R))))):=by
  simpa [vI]using h
 have hc:(if X.sees σ (⟨#[102,114,111,109]⟩:ah)=true then ([],σ)else X.columns σ 8).1=aI∧jg X (if X.sees σ (⟨#[102,114,111,109]⟩:ah)=true then ([],σ)else X.columns σ 8).2 ([(⟨#[102,114,111,109]⟩:ah)].map aW++(fP o::(lZ stamp 0++(jN aH++R)))):=by
  cases aI with
  |nil=>
   replace h:jg X σ ([(⟨#[102,114,111,109]⟩:ah)].map aW++(fP o::(lZ stamp 0++(jN aH++R)))):=h;rw [if_pos (by rw [h.sees,List.map_cons,List.cons_append,aU];rfl)];exact ⟨rfl,h⟩
  |cons a c=>
   rw [if_neg]
   · exact Ac (by simp) o1 h (by rw [List.map_cons,List.cons_append,aU];decide)
   · rw [h.sees];show¬mO (fP a::_) _=true;rw [Ab (o1.1 a (List.mem_cons_self ..)) (by decide+kernel)];decide
 obtain ⟨h1,h2⟩:=hc;have h3:=dG _ h2;obtain ⟨h4,h5⟩:=jF h3 o2;obtain ⟨h6,h7⟩:=Ga (b:=false) (x:={Sx.zero with kind:=7,aI:=aI,bT:=o}) ⟨rfl,rfl⟩ o3 h5 (by unfold jN;rw [List.cons_append,aU];decide) (by unfold jN;rw [List.cons_append,aU];decide);obtain ⟨h8,h9⟩:=Bv o4 h7 (hR _ (by decide));unfold Tx.remove;simp only;rw [h1,h4];refine ⟨?_,h9⟩;rw [h8,h6];rfl
theorem acH {σ:Ps}{aI:List ByteArray}{o:ByteArray}{aH:List Pr}{limit:Int}{R:List To}(hok:RY aI o aH limit) (h:jg X σ (MU aI o aH limit++R)) (hR:Gc R):(X.ask σ).1=F9 aI o aH limit∧jg X (X.ask σ).2 R:=by
 obtain ⟨o1,o2,o3,o4⟩:=hok
 replace h:jg X σ (wJ aI++([(⟨#[102,114,111,109]⟩:ah)].map aW++(fP o::(jN aH++(Aa limit++R))))):=by
  simpa [MU]using h
 obtain ⟨h1,h2⟩:=RZ o1 h (by rw [List.map_cons,List.cons_append,aU];decide);have h3:=dG _ h2;obtain ⟨h4,h5⟩:=jF h3 o2;unfold Tx.ask;simp only;by_cases hl:limit=0
 · subst hl;obtain ⟨h6,h7⟩:=Bv o3 h5 (hR _ (by decide));replace h7:jg X _ R:=h7;rw [if_neg (by rw [h7.sees,hR _ (by decide)];decide)];exact ⟨by rw [h1,h4,h6];rfl,h7⟩
 · have hc:jR limit:=by rcases o4 with h|h;exact absurd h hl;exact h
   unfold Aa at h5;rw [if_neg hl]at h5;obtain ⟨h6,h7⟩:=Bv o3 h5 (by rw [List.cons_append,aU];decide);replace h7:jg X _ (aW (⟨#[108,105,109,105,116]⟩:ah)::Dj limit::R):=h7;obtain ⟨h8,h9⟩:=xG h7.step hc;rw [if_pos (by rw [h7.sees,aU];rfl)];exact ⟨by rw [h1,h4,h6,h8];rfl,h9⟩
theorem aaq {x:Sx}{L:List To}(h:GC x L):∃w L',L=aW w::L' ∧(w=(⟨#[105,110,115,101,114,116]⟩:ah)∨w=(⟨#[117,112,100,97,116,101]⟩:ah)∨w=(⟨#[100,101,108,101,116,101]⟩:ah)):=by
 cases h with
 |insert=>exact ⟨_,_,rfl, .inl rfl⟩
 |update=>exact ⟨_,_,rfl, .inr (.inl rfl)⟩
 |remove=>exact ⟨_,_,rfl, .inr (.inr rfl)⟩
theorem JW (n:Nat) {σ:Ps}{x:Sx}{L R:List To}(hG:GC x L) (h:jg X σ (L++R)) (hR:Gc R):(X.jh (n+1) σ).1= .change x∧jg X (X.jh (n+1) σ).2 R:=by
 rw [Tx.jh];cases hG with
 |insert o c v a b ho=>
  rw [List.cons_append]at h;obtain ⟨h1,h2⟩:=TI ho h.step hR;rw [if_pos (by rw [h.sees,aU];rfl)];exact ⟨by simp only;rw [h1],h2⟩
 |update o a b c v ho=>
  rw [List.cons_append]at h;obtain ⟨h1,h2⟩:=TK ho h.step hR;rw [if_neg (by rw [h.sees,aU];decide),if_pos (by rw [h.sees,aU];rfl)];exact ⟨by simp only;rw [h1],h2⟩
 |remove o a b c ho=>
  rw [List.cons_append]at h;obtain ⟨h1,h2⟩:=TL ho h.step hR;rw [if_neg (by rw [h.sees,aU];decide),if_neg (by rw [h.sees,aU];decide),if_pos (by rw [h.sees,aU];rfl)];exact ⟨by simp only;rw [h1],h2⟩
theorem WZ (n:Nat) {σ:Ps}{x:Sx}{L R:List To}(hG:GP x L) (h:jg X σ (L++R)) (hR:Gc R):(X.jh (n+1) σ).1= .plain x∧jg X (X.jh (n+1) σ).2 R:=by
 rw [Tx.jh];cases hG with
 |ask o a b c ho=>
  rw [List.cons_append]at h;obtain ⟨h1,h2⟩:=acH ho h.step hR;rw [if_neg (by rw [h.sees,aU];decide),if_neg (by rw [h.sees,aU];decide),if_neg (by rw [h.sees,aU];decide),if_pos (by rw [h.sees,aU];rfl)];exact ⟨by simp only;rw [h1],h2⟩
 |drop nm ho=>
  rw [List.cons_append]at h;obtain ⟨h1,h2⟩:=jF h.step ho;rw [if_neg (by rw [h.sees,aU];decide),if_neg (by rw [h.sees,aU];decide),if_neg (by rw [h.sees,aU];decide),if_neg (by rw [h.sees,aU];decide),if_neg (by rw [h.sees,aU];decide),if_pos (by rw [h.sees,aU];rfl)];exact ⟨by simp only;rw [h1],h2⟩
 |table nm C pk ck ho=>
  rw [List.cons_append,List.cons_append]at h;obtain ⟨h1,h2⟩:=WX ho h.step.step;rw [if_neg (by rw [h.sees,aU];decide),if_neg (by rw [h.sees,aU];decide),if_neg (by rw [h.sees,aU];decide),if_neg (by rw [h.sees,aU];decide),if_neg (by rw [h.sees,aU];decide),if_neg (by rw [h.sees,aU];decide),if_pos (by rw [h.sees,aU];rfl),if_pos (by rw [h.step.sees,aU];rfl)];exact ⟨by simp only;rw [h1],h2⟩
 |view nm c o on p q ho=>
  rw [List.cons_append,List.cons_append]at h;obtain ⟨h1,h2⟩:=aao ho h.step.step;rw [if_neg (by rw [h.sees,aU];decide),if_neg (by rw [h.sees,aU];decide),if_neg (by rw [h.sees,aU];decide),if_neg (by rw [h.sees,aU];decide),if_neg (by rw [h.sees,aU];decide),if_neg (by rw [h.sees,aU];decide),if_pos (by rw [h.sees,aU];rfl),if_neg (by rw [h.step.sees,aU];decide),if_pos (by rw [h.step.sees,aU];rfl)];exact ⟨by simp only;rw [h1],h2⟩
 |index nm o on ho=>
  rw [List.cons_append]at h;obtain ⟨h1,h2⟩:=WY ho h.step;have h3:=h.step;unfold Dm at h3;rw [List.cons_append]at h3;rw [if_neg (by rw [h.sees,aU];decide),if_neg (by rw [h.sees,aU];decide),if_neg (by rw [h.sees,aU];decide),if_neg (by rw [h.sees,aU];decide),if_neg (by rw [h.sees,aU];decide),if_neg (by rw [h.sees,aU];decide),if_pos (by rw [h.sees,aU];rfl),if_neg (by rw [h3.sees,aU];decide),if_neg (by rw [h3.sees,aU];decide)];exact ⟨by simp only;rw [h1],h2⟩
theorem MZ {st:Ps→Tx.Nd×Ps}(hst:∀σ x L R,GC x L→jg X σ (L++R)→Gc R→(st σ).1= .change x∧jg X (st σ).2 R):∀(D:List Sx) (M:List To) (n:Nat) (σ:Ps) (l:List Sx) (R:List To),GB D M→D.length<n→(l++D).length≤8→l++D≠ []→jg X σ (M++aW (⟨#[97,112,112,108,121]⟩:ah)::R)→
 (X.jk st n σ l).1=l++D∧jg X (X.jk st n σ l).2 R
 | [],M,0,_,_,_,_,hn,_,_,_=>absurd hn (by simp)
 |x::D,M,0,_,_,_,_,hn,_,_,_=>absurd hn (by simp)
 | [],M,n+1,σ,l,R,hG,_,_,hne,h=>by
  cases hG;replace h:jg X σ (aW (⟨#[97,112,112,108,121]⟩:ah)::R):=h;rw [List.append_nil]at hne⊢;have he:l.isEmpty=false:=by cases l with|nil=>exact absurd rfl hne|cons a l=>rfl
  rw [Tx.jk,h.1,if_neg (by decide),he,if_pos (by rw [h.sees,aU];rfl)];exact ⟨rfl,h.step⟩
 |x::D,M,n+1,σ,l,R,hG,hn,hl,_,h=>by
  cases hG with
  | @cons _ L _ M hx hD=>
   rw [List.append_assoc,List.cons_append]at h;obtain ⟨w,L',rfl,hw⟩:=aaq hx
   have hna:X.sees σ (⟨#[97,112,112,108,121]⟩:ah)=false:=by
    rw [List.cons_append]at h;rw [h.sees,aU];rcases hw with rfl|rfl|rfl<;>decide
   simp at hl;rw [Tx.jk,h.1,if_neg (by decide),hna,Bool.and_false,if_neg (by decide)];simp only;rw [if_neg (by omega)];obtain ⟨h1,h2⟩:=hst σ x _ _ hx h (MW _);rw [h1];simp only;obtain ⟨h3,h4⟩:=MZ hst D M n _ (l++ [x]) R hD (by simpa using hn) (by simp;omega) (by simp) (dG [(⟨#[59]⟩:ah)] h2);exact ⟨by rw [h3];simp,h4⟩
theorem acI (n:Nat) {σ:Ps}{nd:Tx.Nd}{L R:List To}(hG:GN nd L) (h:jg X σ (L++R)) (hR:Gc R):(X.jh (n+2) σ).1=nd∧jg X (X.jh (n+2) σ).2 R:=by
 cases hG with
 |plain hG=>exact WZ (n+1) hG h hR
 |change hG=>exact JW (n+1) hG h hR
 | @batch l L hG h1 h2=>
  replace h:jg X σ (aW (⟨#[98,101,103,105,110]⟩:ah)::([(⟨#[98,97,116,99,104]⟩:ah)].map aW++(L++aW (⟨#[97,112,112,108,121]⟩:ah)::([(⟨#[98,97,116,99,104]⟩:ah)].map aW++R)))):=by simpa using h
  have h3:=dG _ h.step;obtain ⟨h4,h5⟩:=MZ (fun σ x L R hx hc hf=>JW n hx hc hf) l L 10 _ [] _ hG (by omega) (by simpa using h2) (by simpa using h1) h3;have h6:=dG _ h5;rw [Tx.jh,if_neg (by rw [h.sees,aU];decide),if_neg (by rw [h.sees,aU];decide),if_neg (by rw [h.sees,aU];decide),if_neg (by rw [h.sees,aU];decide),if_pos (by rw [h.sees,aU];rfl)];unfold Tx.many;simp only;exact ⟨by rw [h4];rfl,h6⟩
end
end aN
end Go.Proofs.YtcgadodckoalnaaGreatDoor
