/- Parts of a proof. -/
import Derived.Test.YtnngbhpeeakfaaaGreatDoorB02
namespace Go.Proofs.YtnngbhpeeakfaaaGreatDoor
namespace aK
section
variable {X:Tx}
def CX (c:Cl):List To:= [fu c.name,Bj c.ty,aU (⟨#[44]⟩:ah)]
def CY (c:Cl):Prop:=cB c.name∧(c.ty=1∨c.ty=2)
theorem CZ {σ:Ps}(h:σ.bad≠none) (n:Nat) (l:List ByteArray) (C:List Cl):X.iE n σ l C=(l,C,σ):=by
 cases n with
 |zero=>rfl
 |succ n=>
  rw [Tx.iE];cases hb:σ.bad with
  |none=>exact absurd hb h
  |some a=>simp
theorem C8 (hX:X.Ok):∀n σ l C,C.map Cl.name=l→l.length≤10→(X.F.drop σ.i).length<n→(X.iE n σ l C).2.2.bad=none→
 ∃D:List Cl,(X.iE n σ l C).1=l++D.map Cl.name∧(X.iE n σ l C).2.1=C++D∧oL X σ (D.flatMap CX++ [aU (⟨#[112,114,105,109,97,114,121]⟩:ah)]) (X.iE n σ l C).2.2∧(∀c∈D,CY c)∧qI l (D.map Cl.name)∧(l++D.map Cl.name).length≤10
 |0,σ,l,C,_,_,hn,_=>absurd hn (by omega)
 |n+1,σ,l,C,hl,aeO,hn,h=>by
  cases hb:σ.bad with
  |some a=>
   exfalso;rw [CZ (by rw [hb];simp)]at h;simp only at h;rw [hb]at h;exact absurd h (by simp)
  |none=>
   rw [Tx.iE,hb]at h⊢;simp only [Option.isSome_none,Bool.false_eq_true,if_false]at h⊢;split at h
   · rename_i hs;rw [if_pos hs];exact ⟨[],by simp,by simp,eF hX hs,by simp,trivial,by simpa using aeO⟩
   · rename_i hs;rw [if_neg hs];obtain ⟨⟨l1,σ1⟩,hc⟩:∃r,X.column σ l 10=r:=⟨_,rfl⟩;obtain ⟨⟨ty,σ2⟩,hk⟩:∃r,X.kind σ1=r:=⟨_,rfl⟩;obtain ⟨σ3,h3⟩:∃r,X.must σ2 [(⟨#[44]⟩:ah)]=r:=⟨_,rfl⟩;simp only [hc,hk,h3]at h⊢
     have hb3:σ3.bad=none:=by
      cases hb3:σ3.bad with
      |none=>rfl
      |some a=>
       rw [CZ (by rw [hb3];simp)]at h;simp only at h;rw [hb3]at h;exact absurd h (by simp)
     have c3:=bL hX [(⟨#[44]⟩:ah)] (σ:=σ2) (by rw [h3];exact hb3);rw [h3]at c3;have c2:=TA hX (σ:=σ1) (by rw [hk];exact c3.1);rw [hk]at c2;simp only at c2;have hcb:(X.column σ l 10).2.bad=none:=by rw [hc];exact c2.1.1
     obtain ⟨s,g1,g2,g3,g4,g5⟩:=mo hX hcb;rw [hc]at g1 g2;simp only at g1 g2;subst g1;have hcc:=(g2.trans c2.1).trans c3;have hlen:=congrArg List.length hcc.2;simp only [List.length_append,List.length_cons,List.length_nil,List.length_map]at hlen;obtain ⟨D,e1,e2,e3,e4,e5,e6⟩:=C8 hX n σ3 (l++ [s]) (C++ [⟨(l++ [s]).getLastD ⟨#[]⟩,ty⟩]) (by rw [List.map_append,hl];simp) (by simp;omega) (by omega) h;have hlast:(l++ [s]).getLastD ⟨#[]⟩=s:=by simp
     rw [hlast]at e1 e2 e3 h⊢;refine ⟨⟨s,ty⟩::D,by rw [e1];simp,by rw [e2];simp, ?_, ?_,⟨g4,e5⟩,by simpa using e6⟩
     · have:=hcc.trans e3;simpa [CX]using this
     · intro c hcm;rcases List.mem_cons.1 hcm with rfl|hcm
       · exact ⟨g3,c2.2⟩
       · exact e4 c hcm
def uG (nm:ByteArray) (C:List Cl) (pk ck:ByteArray):List To:=
 [fu nm,aU (⟨#[40]⟩:ah)]++C.flatMap CX++ [aU (⟨#[112,114,105,109,97,114,121]⟩:ah),aU (⟨#[107,101,121]⟩:ah),aU (⟨#[40]⟩:ah),fu pk,aU (⟨#[44]⟩:ah),fu ck,aU (⟨#[41]⟩:ah),aU (⟨#[41]⟩:ah)]
def mD (nm:ByteArray) (C:List Cl) (pk ck:ByteArray):Sx:=C.foldl (fun x c=>Tx.place x pk ck c) {Sx.zero with kind:=1,name:=nm,bW:=nm}
def rV (nm:ByteArray) (C:List Cl) (pk ck:ByteArray):Prop:=cB nm∧(∀c∈C,CY c)∧qI [] (C.map Cl.name)∧C.length≤10∧pk∈C.map Cl.name∧ck∈C.map Cl.name∧ck≠pk
theorem Zc (i:Nat):(X.F.drop i).length≤X.T.length:=by
 rw [List.length_drop];unfold Tx.F;rw [List.length_map];omega
theorem Ol (σ:Ps):(X.F.drop σ.i).length<X.T.length+1:=Nat.lt_succ_of_le (Zc _)
theorem P6 (hX:X.Ok) {σ:Ps}(h:(X.table σ).2.bad=none):
 ∃nm C pk ck,(X.table σ).1=mD nm C pk ck∧oL X σ (uG nm C pk ck) (X.table σ).2∧rV nm C pk ck:=by
 unfold Tx.table at h⊢;obtain ⟨⟨nm,ZV⟩,g0⟩:∃r,X.name σ=r:=⟨_,rfl⟩;obtain ⟨σ1,g1⟩:∃r,X.must ZV [(⟨#[40]⟩:ah)]=r:=⟨_,rfl⟩;obtain ⟨⟨l,C,σ2⟩,g2⟩:∃r,X.iE (X.T.length+1) σ1 [] []=r:=⟨_,rfl⟩;obtain ⟨σ3,g3⟩:∃r,X.must σ2 [(⟨#[107,101,121]⟩:ah),(⟨#[40]⟩:ah)]=r:=⟨_,rfl⟩;obtain ⟨⟨pk,jH⟩,g4⟩:∃r,X.one σ3 l ⟨#[]⟩=r:=⟨_,rfl⟩;obtain ⟨oF,g5⟩:∃r,X.must jH [(⟨#[44]⟩:ah)]=r:=⟨_,rfl⟩;obtain ⟨⟨ck,L8⟩,g6⟩:∃r,X.one oF l pk=r:=⟨_,rfl⟩;simp only [g0,g1,g2,g3,g4,g5,g6]at h⊢;have c7:=bL hX _ h;obtain ⟨c6,n6,m6,d6⟩:=Hf hX (by rw [g6];exact c7.1);rw [g6]at c6 n6 m6 d6;have c5:=bL hX _ (by rw [g5];exact c6.1);rw [g5]at c5;obtain ⟨c4,n4,m4,d4⟩:=Hf hX (by rw [g4];exact c5.1);rw [g4]at c4 n4 m4 d4;have c3:=bL hX _ (by rw [g3];exact c4.1);rw [g3]at c3;obtain ⟨D,e1,e2,e3,e4,e5,e6⟩:=C8 hX (X.T.length+1) σ1 [] [] rfl (Nat.zero_le _) (Ol _) (by rw [g2];exact c3.1);rw [g2]at e1 e2 e3;have c1:=bL hX _ (by rw [g1];exact e3.1);rw [g1]at c1;obtain ⟨c0,n0⟩:=gF hX (by rw [g0];exact c1.1);rw [g0]at c0 n0;simp only [List.nil_append]at e1 e2 e6;subst e2;simp only at m4 m6;rw [e1]at m4 m6;refine ⟨nm,C,pk,ck,rfl, ?_,n0,e4,e5,by simpa using e6,m4,m6,d6⟩;have:=((((((c0.trans c1).trans e3).trans c3).trans c4).trans c5).trans c6).trans c7;unfold uG;simpa using this
def Bl (nm:ByteArray) (aD:List ByteArray) (o on p q:ByteArray):List To:=
 [aU (⟨#[118,105,101,119]⟩:ah),fu nm,aU (⟨#[97,115]⟩:ah),aU (⟨#[115,101,108,101,99,116]⟩:ah)]++tH aD++ [aU (⟨#[102,114,111,109]⟩:ah),fu o,aU (⟨#[119,104,101,114,101]⟩:ah),fu on,aU (⟨#[105,115]⟩:ah),aU (⟨#[110,111,116]⟩:ah),aU (⟨#[110,117,108,108]⟩:ah),aU (⟨#[112,114,105,109,97,114,121]⟩:ah),aU (⟨#[107,101,121]⟩:ah),aU (⟨#[40]⟩:ah),fu on,aU (⟨#[44]⟩:ah),fu p,aU (⟨#[44]⟩:ah),fu q,aU (⟨#[41]⟩:ah)]
def wE (nm:ByteArray) (aD:List ByteArray) (o on p q:ByteArray):Sx:={Sx.zero with kind:=2,name:=nm,aD:=aD,dA:=o,on:=on,aO:= [⟨p,Tm.zero⟩,⟨q,Tm.zero⟩]}
def Hg (nm:ByteArray) (aD:List ByteArray) (o on p q:ByteArray):Prop:=cB nm∧oN 8 aD∧cB o∧cB on∧cB p∧cB q
theorem TB (hX:X.Ok) {σ:Ps}(h:(X.view σ).2.bad=none):
 ∃nm aD o on p q,(X.view σ).1=wE nm aD o on p q∧oL X σ (Bl nm aD o on p q) (X.view σ).2∧Hg nm aD o on p q:=by
 unfold Tx.view at h⊢;simp only at h⊢;have c1:=bL hX _ h;obtain ⟨c2,n2⟩:=gF hX c1.1;have c3:=bL hX _ c2.1;obtain ⟨c4,n4⟩:=gF hX c3.1;have c5:=bL hX _ c4.1;obtain ⟨c6,n6,m6,d6⟩:=Hf hX c5.1;have c7:=bL hX _ c6.1;obtain ⟨c8,n8⟩:=gF hX c7.1;have c9:=bL hX _ c8.1;obtain ⟨c10,n10⟩:=gF hX c9.1;have c11:=bL hX _ c10.1;obtain ⟨c12,n12⟩:=JJ hX c11.1;have c13:=bL hX _ c12.1;obtain ⟨c14,n14⟩:=gF hX c13.1;have c15:=bL hX _ c14.1;simp only [List.mem_cons,List.not_mem_nil,or_false]at m6;rw [m6]at c6;refine ⟨_,_,_,_,_,_,rfl, ?_,n14,n12,n10,n8,n4,n2⟩;have:=(((((((((((((c15.trans c14).trans c13).trans c12).trans c11).trans c10).trans c9).trans c8).trans c7).trans c6).trans c5).trans c4).trans c3).trans c2).trans c1;unfold Bl;simpa using this
def Ao (nm o on:ByteArray):List To:= [aU (⟨#[105,110,100,101,120]⟩:ah),fu nm,aU (⟨#[111,110]⟩:ah),fu o,aU (⟨#[40]⟩:ah),fu on,aU (⟨#[41]⟩:ah)]
def Ap (nm o on:ByteArray):Sx:={Sx.zero with kind:=3,name:=nm,dA:=o,on:=on}
theorem P7 (hX:X.Ok) {σ:Ps}(h:(X.index σ).2.bad=none):
 ∃nm o on,(X.index σ).1=Ap nm o on∧oL X σ (Ao nm o on) (X.index σ).2∧cB nm∧cB o∧cB on:=by
 unfold Tx.index at h⊢;simp only at h⊢;have c1:=bL hX _ h;obtain ⟨c2,n2⟩:=gF hX c1.1;have c3:=bL hX _ c2.1;obtain ⟨c4,n4⟩:=gF hX c3.1;have c5:=bL hX _ c4.1;obtain ⟨c6,n6⟩:=gF hX c5.1;have c7:=bL hX _ c6.1;refine ⟨_,_,_,rfl, ?_,n6,n4,n2⟩;exact (((((c7.trans c6).trans c5).trans c4).trans c3).trans c2).trans c1
def qp (l:List Tm):List To:=l.flatMap fun b=> [aU (⟨#[44]⟩:ah),qH b]
def JK:List Tm→List To
 | []=> []
 |a::l=>qH a::qp l
theorem Bn (hX:X.Ok):∀n σ l,(X.fC n σ l).2.bad=none→∃r,(X.fC n σ l).1=l++r∧oL X σ (qp r) (X.fC n σ l).2∧∀v∈r,rT v
 |0,σ,l,h=>⟨[],by simp [Tx.fC],oL.refl h,by simp⟩
 |n+1,σ,l,h=>by
  rw [Tx.fC]at h⊢;split at h
  · rename_i hs;rw [if_pos hs];simp only at h⊢;obtain ⟨r,h1,h2,h3⟩:=Bn hX n _ _ h;obtain ⟨g1,g2⟩:=oD hX h2.1;refine ⟨_::r,by rw [h1,List.append_assoc];rfl,((eF hX hs).trans g1).trans h2, ?_⟩;intro v hv;rcases List.mem_cons.1 hv with rfl|hv
    · exact g2
    · exact h3 v hv
  · rename_i hs;rw [if_neg hs];exact ⟨[],by simp,oL.refl h,by simp⟩
def pY (o:ByteArray) (c:List ByteArray) (v:List Tm) (stamp ttl:Int):List To:=
 [aU (⟨#[105,110,116,111]⟩:ah),fu o,aU (⟨#[40]⟩:ah)]++qL c++ [aU (⟨#[41]⟩:ah),aU (⟨#[118,97,108,117,101,115]⟩:ah),aU (⟨#[40]⟩:ah)]++JK v++ [aU (⟨#[41]⟩:ah)]++kC stamp ttl
def rW (o:ByteArray) (c:List ByteArray) (v:List Tm) (stamp ttl:Int):Sx:={Sx.zero with kind:=5,dA:=o,sets:=List.zipWith Pr.mk c v,stamp:=stamp,ttl:=ttl}
def yD (o:ByteArray) (c:List ByteArray) (v:List Tm) (stamp ttl:Int):Prop:=cB o∧c≠ []∧oN 10 c∧v.length=c.length∧(∀t∈v,rT t)∧rU true stamp ttl
theorem L9 (hX:X.Ok) {σ:Ps}(h:(X.insert σ).2.bad=none):
 ∃o c v stamp ttl,(X.insert σ).1=rW o c v stamp ttl∧oL X σ (pY o c v stamp ttl) (X.insert σ).2∧yD o c v stamp ttl:=by
 unfold Tx.insert at h⊢;obtain ⟨ZV,e0⟩:∃r,X.must σ [(⟨#[105,110,116,111]⟩:ah)]=r:=⟨_,rfl⟩;obtain ⟨⟨o,σ1⟩,e1⟩:∃r,X.name ZV=r:=⟨_,rfl⟩;obtain ⟨σ2,e2⟩:∃r,X.must σ1 [(⟨#[40]⟩:ah)]=r:=⟨_,rfl⟩;obtain ⟨⟨c,σ3⟩,e3⟩:∃r,X.columns σ2 10=r:=⟨_,rfl⟩;obtain ⟨jH,e4⟩:∃r,X.must σ3 [(⟨#[41]⟩:ah),(⟨#[118,97,108,117,101,115]⟩:ah),(⟨#[40]⟩:ah)]=r:=⟨_,rfl⟩;obtain ⟨⟨v0,oF⟩,e5⟩:∃r,X.value jH=r:=⟨_,rfl⟩;obtain ⟨⟨v,L8⟩,e6⟩:∃r,X.fC X.T.length oF [v0]=r:=⟨_,rfl⟩;simp only [e0,e1,e2,e3,e4,e5,e6]at h⊢;obtain ⟨stamp,ttl,x1,c1,u1⟩:=Am hX (by exact ⟨rfl,rfl⟩) h;rw [x1];have c2:=bL hX _ c1.1
 have hk:X.sees L8 (⟨#[41]⟩:ah)=true∧v.length=c.length:=by
  have hh:=c1.1;cases hq:X.sees L8 (⟨#[41]⟩:ah)with
  |true=>
   refine ⟨rfl, ?_⟩;by_cases hl:v.length=c.length
   · exact hl
   · exfalso;rw [hq]at c2;have:=c2.1;rw [if_pos (by simpa using hl)]at this;exact kW this
  |false=>
   exfalso;rw [hq]at hh;simp only [Bool.false_and,Bool.false_eq_true,if_false]at hh;revert hh;show (X.bS _ _).bad=none→False;unfold Tx.bS;rw [hq,if_neg (by decide)];exact kW
 have hif:(if (X.sees L8 (⟨#[41]⟩:ah)&&v.length !=c.length)=true then X.fail L8 else L8)=L8:=by
  rw [if_neg];rw [hk.2];simp
 rw [hif]at c2 c1⊢;obtain ⟨r,y3,c3,n3⟩:=Bn hX X.T.length oF [v0] (by rw [e6];exact c2.1);rw [e6]at y3 c3;obtain ⟨c4,n4⟩:=oD hX (σ:=jH) (by rw [e5];exact c3.1);rw [e5]at c4 n4;have c5:=bL hX _ (by rw [e4];exact c4.1);rw [e4]at c5;obtain ⟨m6,c6,n6⟩:=uF hX (by rw [e3];exact c5.1);rw [e3]at m6 c6 n6;have c7:=bL hX _ (by rw [e2];exact c6.1);rw [e2]at c7;obtain ⟨c8,n8⟩:=gF hX (by rw [e1];exact c7.1);rw [e1]at c8 n8;have c9:=bL hX _ (by rw [e0];exact c8.1);rw [e0]at c9;simp only at y3;subst y3;refine ⟨_,_,_,stamp,ttl,rfl, ?_,n8,m6,n6,hk.2, ?_,u1⟩
 · have:=(((((((c9.trans c8).trans c7).trans c6).trans c5).trans c4).trans c3).trans c2).trans c1;unfold pY;simpa [JK]using this
 · intro t ht;simp only [List.cons_append,List.nil_append,List.mem_cons]at ht;rcases ht with rfl|ht
   · exact n4
   · exact n3 t ht
def qN:List Pr→List To
 | []=> []
 |p::l=>pairT p++l.flatMap fun q=>aU (⟨#[44]⟩:ah)::pairT q
theorem wX (p:Pr) (l:List Pr) (h:l≠ []):qN (p::l)=pairT p++aU (⟨#[44]⟩:ah)::qN l:=by
 cases l with
 |nil=>exact absurd rfl h
 |cons q l=>simp [qN]
theorem FV (hX:X.Ok):∀n σ l (Z:List Pr),Z.map Pr.name=l→l.length≤8→(X.F.drop σ.i).length<n→(X.lY n σ l Z).2.bad=none→
 ∃r:List Pr,r≠ []∧(X.lY n σ l Z).1=Z++r∧oL X σ (qN r) (X.lY n σ l Z).2∧(∀p∈r,mq p)∧qI l (r.map Pr.name)∧(l++r.map Pr.name).length≤8
 |0,σ,l,Z,_,_,hn,_=>absurd hn (by omega)
 |n+1,σ,l,Z,hl,hl8,hn,h=>by
  have hcon:∀m σ' l' Z',0<m→(X.lY m σ' l' Z').2.bad=none→σ'.bad=none:=by
   intro m
   induction m with
   |zero=>intro σ' l' Z' hm;exact absurd hm (by omega)
   |succ m ih=>
    intro σ' l' Z' _ hh;rw [Tx.lY]at hh;try simp only at hh
    have hv:(X.value (X.must (X.column σ' l' 8).2 [(⟨#[61]⟩:ah)])).2.bad=none:=by
     split at hh
     · rename_i hs;exact mh hs
     · exact hh
    obtain ⟨_,_,g2,_⟩:=mo hX (bL hX _ (oD hX hv).1.1).1;exact g2.1
  rw [Tx.lY]at h⊢;try simp only at h⊢
  obtain ⟨⟨l1,σ1⟩,hc⟩:∃r,X.column σ l 8=r:=⟨_,rfl⟩;obtain ⟨σ2,h2⟩:∃r,X.must σ1 [(⟨#[61]⟩:ah)]=r:=⟨_,rfl⟩;obtain ⟨⟨t,σ3⟩,h3⟩:∃r,X.value σ2=r:=⟨_,rfl⟩;simp only [hc,h2,h3]at h⊢
  have hb3:σ3.bad=none:=by
   split at h
   · rename_i hs;exact mh hs
   · exact h
  have c3:=oD hX (σ:=σ2) (by rw [h3];exact hb3);rw [h3]at c3;have c2:=bL hX [(⟨#[61]⟩:ah)] (σ:=σ1) (by rw [h2];exact c3.1.1);rw [h2]at c2;have hcb:(X.column σ l 8).2.bad=none:=by rw [hc];exact c2.1
  obtain ⟨s,g1,g2,g3,g4,g5⟩:=mo hX hcb;rw [hc]at g1 g2;simp only at g1 g2;subst g1;have hlast:(l++ [s]).getLastD ⟨#[]⟩=s:=by simp
  rw [hlast]at h⊢;have hcc:=(g2.trans c2).trans c3.1;split at h
  · rename_i hs;rw [if_pos hs];have hc4:=hcc.trans (eF hX hs);have hlen:=congrArg List.length hc4.2;simp only [List.length_append,List.length_cons,List.length_nil,List.length_map]at hlen;obtain ⟨r,r0,r1,r2,r3,r4,r5⟩:=FV hX n σ3.step (l++ [s]) (Z++ [⟨s,t⟩]) (by rw [List.map_append,hl];rfl) (by simp;omega) (by omega) h;refine ⟨⟨s,t⟩::r,by simp,by rw [r1];simp, ?_, ?_,⟨g4,r4⟩,by simpa using r5⟩
    · rw [wX _ _ r0];have:=hc4.trans r2;simpa [pairT]using this
    · intro p hp;rcases List.mem_cons.1 hp with rfl|hp
      · exact ⟨g3,c3.2⟩
      · exact r3 p hp
  · rename_i hs;rw [if_neg hs];refine ⟨[⟨s,t⟩],by simp,rfl, ?_, ?_,⟨g4,trivial⟩,by simp;omega⟩
    · simpa [qN,pairT]using hcc
    · intro p hp;simp only [List.mem_cons,List.not_mem_nil,or_false]at hp;subst hp;exact ⟨g3,c3.2⟩
def rX (o:ByteArray) (stamp ttl:Int) (sets aO:List Pr):List To:= [fu o]++kC stamp ttl++ [aU (⟨#[115,101,116]⟩:ah)]++qN sets++iZ aO
def rY (o:ByteArray) (stamp ttl:Int) (sets aO:List Pr):Sx:={Sx.zero with kind:=6,dA:=o,stamp:=stamp,ttl:=ttl,sets:=sets,aO:=aO}
def ZW (l:List Pr):Prop:=l≠ []∧(∀p∈l,mq p)∧qI [] (l.map Pr.name)∧l.length≤8
def yE (o:ByteArray) (stamp ttl:Int) (sets aO:List Pr):Prop:=cB o∧rU true stamp ttl∧ZW sets∧vR true aO
theorem Ma (hX:X.Ok) {σ:Ps}(h:(X.update σ).2.bad=none):
 ∃o stamp ttl sets aO,(X.update σ).1=rY o stamp ttl sets aO∧oL X σ (rX o stamp ttl sets aO) (X.update σ).2∧yE o stamp ttl sets aO:=by
 unfold Tx.update at h⊢;obtain ⟨⟨o,ZV⟩,g0⟩:∃r,X.name σ=r:=⟨_,rfl⟩;simp only [g0]at h⊢;obtain ⟨⟨u,σ1⟩,g1⟩:∃r,X.using_ ZV true {Sx.zero with kind:=6,dA:=o}=r:=⟨_,rfl⟩;obtain ⟨σ2,g2⟩:∃r,X.must σ1 [(⟨#[115,101,116]⟩:ah)]=r:=⟨_,rfl⟩;obtain ⟨⟨Z,σ3⟩,g3⟩:∃r,X.lY (X.T.length+1) σ2 [] []=r:=⟨_,rfl⟩;simp only [g1,g2,g3]at h⊢;obtain ⟨c1,n1⟩:=Al hX h;obtain ⟨r,r0,r1,r2,r3,r4,r5⟩:=FV hX (X.T.length+1) σ2 [] [] rfl (Nat.zero_le _) (Ol _) (by rw [g3];exact c1.1);rw [g3]at r1 r2;have c2:=bL hX _ (by rw [g2];exact r2.1);rw [g2]at c2;obtain ⟨stamp,ttl,e3,c3,u3⟩:=Am (x:={Sx.zero with kind:=6,dA:=o}) hX (by exact ⟨rfl,rfl⟩) (by rw [g1];exact c2.1);rw [g1]at e3 c3;obtain ⟨c4,n4⟩:=gF hX (by rw [g0];exact c3.1);rw [g0]at c4 n4;simp only [List.nil_append]at r1 r5;simp only at e3;subst r1 e3;refine ⟨o,stamp,ttl,Z,_,rfl, ?_,n4,u3,⟨r0,r3,r4,by simpa using r5⟩,n1⟩;have:=(((c4.trans c3).trans c2).trans r2).trans c1;unfold rX;simpa using this
def rZ (aD:List ByteArray) (o:ByteArray) (stamp:Int) (aO:List Pr):List To:=qL aD++ [aU (⟨#[102,114,111,109]⟩:ah),fu o]++kC stamp 0++iZ aO
def sj (aD:List ByteArray) (o:ByteArray) (stamp:Int) (aO:List Pr):Sx:={Sx.zero with kind:=7,aD:=aD,dA:=o,stamp:=stamp,aO:=aO}
def yF (aD:List ByteArray) (o:ByteArray) (stamp:Int) (aO:List Pr):Prop:=oN 8 aD∧cB o∧rU false stamp 0∧vR false aO
theorem Mc (hX:X.Ok) {σ:Ps}(h:(X.remove σ).2.bad=none):
 ∃aD o stamp aO,(X.remove σ).1=sj aD o stamp aO∧oL X σ (rZ aD o stamp aO) (X.remove σ).2∧yF aD o stamp aO:=by
 unfold Tx.remove at h⊢;simp only at h⊢;obtain ⟨c1,n1⟩:=Al hX h;obtain ⟨stamp,ttl,e3,c3,u3⟩:=Am hX (by exact ⟨rfl,rfl⟩) c1.1
 have ht:ttl=0:=by
  rcases u3.2 with ht|⟨ht,_⟩
  · exact ht
  · exact absurd ht (by decide)
 subst ht;obtain ⟨c4,n4⟩:=gF hX c3.1;have c5:=bL hX _ c4.1
 have c6:∃aD,(if X.sees σ (⟨#[102,114,111,109]⟩:ah)=true then ([],σ)else X.columns σ 8).1=aD∧oL X σ (qL aD) (if X.sees σ (⟨#[102,114,111,109]⟩:ah)=true then ([],σ)else X.columns σ 8).2∧oN 8 aD:=by
  have hb:=c5.1;split at hb
  · rename_i hs;rw [if_pos hs];exact ⟨_,rfl,oL.refl hb,by simp,trivial,by simp⟩
  · rename_i hs;rw [if_neg hs];obtain ⟨_,a,b⟩:=uF hX hb;exact ⟨_,rfl,a,b⟩
 obtain ⟨aD,e6,c6,n6⟩:=c6;refine ⟨aD,_,stamp,_,by rw [e3,e6];rfl, ?_,n6,n4,u3,n1⟩;have:=(((c6.trans c5).trans c4).trans c3).trans c1;unfold rZ;simpa using this
def wY (n:Int):List To:=if n=0 then []else [aU (⟨#[108,105,109,105,116]⟩:ah),Ak n]
def JL (aD:List ByteArray) (o:ByteArray) (aO:List Pr) (limit:Int):List To:=tH aD++ [aU (⟨#[102,114,111,109]⟩:ah),fu o]++iZ aO++wY limit
def Md (aD:List ByteArray) (o:ByteArray) (aO:List Pr) (limit:Int):Sx:={Sx.zero with kind:=8,aD:=aD,dA:=o,aO:=aO,limit:=limit}
def Om (aD:List ByteArray) (o:ByteArray) (aO:List Pr) (limit:Int):Prop:=oN 8 aD∧cB o∧vR false aO∧(limit=0∨kN limit)
theorem Xb (hX:X.Ok) {σ:Ps}(h:(X.ask σ).2.bad=none):
 ∃aD o aO limit,(X.ask σ).1=Md aD o aO limit∧oL X σ (JL aD o aO limit) (X.ask σ).2∧Om aD o aO limit:=by
 unfold Tx.ask at h⊢;simp only at h⊢
 have go:∀{jH:Ps} {L:List To},oL X (X.aO (X.name (X.must (X.some_ σ).2 [(⟨#[102,114,111,109]⟩:ah)])).2 false).2 L jH→oL X σ (tH (X.some_ σ).1++ [aU (⟨#[102,114,111,109]⟩:ah),fu (X.name (X.must (X.some_ σ).2 [(⟨#[102,114,111,109]⟩:ah)])).1]++iZ (X.aO (X.name (X.must (X.some_ σ).2 [(⟨#[102,114,111,109]⟩:ah)])).2 false).1++L) jH∧oN 8 (X.some_ σ).1∧cB (X.name (X.must (X.some_ σ).2 [(⟨#[102,114,111,109]⟩:ah)])).1∧vR false (X.aO (X.name (X.must (X.some_ σ).2 [(⟨#[102,114,111,109]⟩:ah)])).2 false).1:=by
  intro jH L hc;obtain ⟨c1,n1⟩:=Al hX hc.1;obtain ⟨c2,n2⟩:=gF hX c1.1;have c3:=bL hX _ c2.1;obtain ⟨c4,n4⟩:=JJ hX c3.1;refine ⟨?_,n4,n2,n1⟩;have:=(((c4.trans c3).trans c2).trans c1).trans hc;simpa using this
 split at h
 · rename_i hs;rw [if_pos hs];simp only at h⊢;obtain ⟨c0,n0⟩:=qK hX h;obtain ⟨g1,g2,g3,g4⟩:=go ((eF hX hs).trans c0);refine ⟨_,_,_,_,rfl, ?_,g2,g3,g4, .inr n0⟩;unfold JL wY;rw [if_neg (oO n0)];exact g1
 · rename_i hs;rw [if_neg hs];obtain ⟨g1,g2,g3,g4⟩:=go (oL.refl h);refine ⟨_,_,_,0,rfl, ?_,g2,g3,g4, .inl rfl⟩;unfold JL wY;rw [if_pos rfl];exact g1
inductive GC:Sx→List To→Prop
 |insert (o:ByteArray) (c:List ByteArray) (v:List Tm) (stamp ttl:Int) (h:yD o c v stamp ttl):GC (rW o c v stamp ttl) (aU (⟨#[105,110,115,101,114,116]⟩:ah)::pY o c v stamp ttl)
 |update (o:ByteArray) (stamp ttl:Int) (sets aO:List Pr) (h:yE o stamp ttl sets aO):GC (rY o stamp ttl sets aO) (aU (⟨#[117,112,100,97,116,101]⟩:ah)::rX o stamp ttl sets aO)
 |remove (aD:List ByteArray) (o:ByteArray) (stamp:Int) (aO:List Pr) (h:yF aD o stamp aO):GC (sj aD o stamp aO) (aU (⟨#[100,101,108,101,116,101]⟩:ah)::rZ aD o stamp aO)
inductive GP:Sx→List To→Prop
 |table (nm:ByteArray) (C:List Cl) (pk ck:ByteArray) (h:rV nm C pk ck):GP (mD nm C pk ck) (aU (⟨#[99,114,101,97,116,101]⟩:ah)::aU (⟨#[116,97,98,108,101]⟩:ah)::uG nm C pk ck)
 |view (nm:ByteArray) (aD:List ByteArray) (o on p q:ByteArray) (h:Hg nm aD o on p q):GP (wE nm aD o on p q) (aU (⟨#[99,114,101,97,116,101]⟩:ah)::aU (⟨#[109,97,116,101,114,105,97,108,105,122,101,100]⟩:ah)::Bl nm aD o on p q)
 |index (nm o on:ByteArray) (h:cB nm∧cB o∧cB on):GP (Ap nm o on) (aU (⟨#[99,114,101,97,116,101]⟩:ah)::Ao nm o on)
 |drop (nm:ByteArray) (h:cB nm):GP {Sx.zero with kind:=4,name:=nm} [aU (⟨#[100,114,111,112]⟩:ah),fu nm]
 |ask (aD:List ByteArray) (o:ByteArray) (aO:List Pr) (limit:Int) (h:Om aD o aO limit):GP (Md aD o aO limit) (aU (⟨#[115,101,108,101,99,116]⟩:ah)::JL aD o aO limit)
inductive GB:List Sx→List To→Prop
 |nil:GB [] []
 |cons {x:Sx} {L:List To} {l:List Sx} {M:List To} (h:GC x L) (h' :GB l M):GB (x::l) (L++aU (⟨#[59]⟩:ah)::M)
inductive GN:Tx.Nd→List To→Prop
 |plain {x:Sx} {L:List To} (h:GP x L):GN (.plain x) L
 |change {x:Sx} {L:List To} (h:GC x L):GN (.change x) L
 |batch {l:List Sx} {L:List To} (h:GB l L) (h1:l≠ []) (h2:l.length≤8):GN (.batch l) ([aU (⟨#[98,101,103,105,110]⟩:ah),aU (⟨#[98,97,116,99,104]⟩:ah)]++L++ [aU (⟨#[97,112,112,108,121]⟩:ah),aU (⟨#[98,97,116,99,104]⟩:ah)])
theorem FW {st:Ps→Tx.Nd×Ps}{σ:Ps}(h:σ.bad≠none) (n:Nat) (l:List Sx):X.jB st n σ l=(l,σ):=by
 cases n with
 |zero=>rfl
 |succ n=>
  rw [Tx.jB];cases hb:σ.bad with
  |none=>exact absurd hb h
  |some a=>simp
theorem FX (hX:X.Ok) {st:Ps→Tx.Nd×Ps}(hst:∀σ x σ',st σ=(.change x,σ')→σ'.bad=none→∃L,GC x L∧oL X σ L σ'):∀n σ l,10≤l.length+n→l.length≤8→(X.jB st n σ l).2.bad=none→
 ∃D M,(X.jB st n σ l).1=l++D∧GB D M∧oL X σ (M++ [aU (⟨#[97,112,112,108,121]⟩:ah)]) (X.jB st n σ l).2∧(l++D).length≤8∧l++D≠ []
 |0,σ,l,h1,h2,_=>absurd h1 (by omega)
 |n+1,σ,l,h1,h2,h=>by
  cases hb:σ.bad with
  |some a=>
   exfalso;rw [FW (by rw [hb];simp)]at h;simp only at h;rw [hb]at h;exact absurd h (by simp)
  |none=>
   rw [Tx.jB,hb]at h⊢;simp only [Option.isSome_none,Bool.false_eq_true,if_false]at h⊢;split at h
   · rename_i hs;rw [if_pos hs];simp only [Bool.and_eq_true,Bool.not_eq_true']at hs;refine ⟨[], [],by simp, .nil,eF hX hs.2,by simpa using h2, ?_⟩;intro e;rw [List.append_nil]at e;rw [e]at hs;exact absurd hs.1 (by decide)
   · rename_i hs;rw [if_neg hs];obtain ⟨⟨nd,σ1⟩,h3⟩:∃r,st (if 8≤l.length then σ.wrong (X.here σ)else σ)=r:=⟨_,rfl⟩;simp only [h3]at h⊢;cases nd with
     |plain x=>exact absurd h (by simp)
     |batch x=>exact absurd h (by simp)
     |change x=>
      simp only at h⊢
      have hb2:(X.must σ1 [(⟨#[59]⟩:ah)]).bad=none:=by
       cases hb2:(X.must σ1 [(⟨#[59]⟩:ah)]).bad with
       |none=>rfl
       |some a=>
        rw [FW (by rw [hb2];simp)]at h;simp only at h;rw [hb2]at h;exact absurd h (by simp)
      have c2:=bL hX _ hb2;obtain ⟨L,hG,c1⟩:=hst _ _ _ h3 c2.1;obtain ⟨k1,k2⟩:=qJ c1.1;rw [k2]at c1;obtain ⟨D,M,d1,d2,d3,d4,d5⟩:=FX hX hst n _ (l++ [x]) (by simp;omega) (by simp;omega) h;refine ⟨x::D,L++aU (⟨#[59]⟩:ah)::M,by rw [d1];simp, .cons hG d2, ?_,by simpa using d4,by simp⟩;have:=(c1.trans c2).trans d3;simpa using this
theorem JM (hX:X.Ok) (n:Nat) (hst:∀σ x σ',X.iY n σ=(.change x,σ')→σ'.bad=none→∃L,GC x L∧oL X σ L σ') (σ:Ps) (h:(X.iY (n+1) σ).2.bad=none):∃L,GN (X.iY (n+1) σ).1 L∧oL X σ L (X.iY (n+1) σ).2:=by
 rw [Tx.iY]at h⊢;split at h
 · rename_i hs;rw [if_pos hs];obtain ⟨o,c,v,a,b,e,hc,ho⟩:=L9 hX h;simp only [e];exact ⟨_, .change (.insert o c v a b ho),(eF hX hs).trans hc⟩
 rename_i hs;rw [if_neg hs];clear hs;split at h
 · rename_i hs;rw [if_pos hs];obtain ⟨o,c,v,a,b,e,hc,ho⟩:=Ma hX h;simp only [e];exact ⟨_, .change (.update o c v a b ho),(eF hX hs).trans hc⟩
 rename_i hs;rw [if_neg hs];clear hs;split at h
 · rename_i hs;rw [if_pos hs];obtain ⟨o,c,v,a,e,hc,ho⟩:=Mc hX h;simp only [e];exact ⟨_, .change (.remove o c v a ho),(eF hX hs).trans hc⟩
 rename_i hs;rw [if_neg hs];clear hs;split at h
 · rename_i hs;rw [if_pos hs];obtain ⟨o,c,v,a,e,hc,ho⟩:=Xb hX h;simp only [e];exact ⟨_, .plain (.ask o c v a ho),(eF hX hs).trans hc⟩
 rename_i hs;rw [if_neg hs];clear hs;split at h
 · rename_i hs;rw [if_pos hs];unfold Tx.many at h⊢;simp only at h⊢;have c3:=bL hX _ h;obtain ⟨D,M,d1,d2,d3,d4,d5⟩:=FX hX hst 10 _ [] (by simp) (by simp) c3.1;have c1:=bL hX _ d3.1;rw [List.nil_append]at d1 d4 d5;rw [d1];refine ⟨_, .batch d2 d5 d4, ?_⟩;have:=(((eF hX hs).trans c1).trans d3).trans c3;simpa using this
 rename_i hs;rw [if_neg hs];clear hs;split at h
 · rename_i hs;rw [if_pos hs];obtain ⟨hc,ho⟩:=gF hX h;exact ⟨_, .plain (.drop _ ho),(eF hX hs).trans hc⟩
 rename_i hs;rw [if_neg hs];clear hs;split at h
 · rename_i hs;rw [if_pos hs];split at h
   · rename_i ht;rw [if_pos ht];obtain ⟨o,c,v,a,e,hc,ho⟩:=P6 hX h;simp only [e];exact ⟨_, .plain (.table o c v a ho),((eF hX hs).trans (eF hX ht)).trans hc⟩
   rename_i ht;rw [if_neg ht];clear ht;split at h
   · rename_i ht;rw [if_pos ht];obtain ⟨o,c,v,a,p,q,e,hc,ho⟩:=TB hX h;simp only [e];exact ⟨_, .plain (.view o c v a p q ho),((eF hX hs).trans (eF hX ht)).trans hc⟩
   rename_i ht;rw [if_neg ht];clear ht;obtain ⟨o,c,v,e,hc,ho⟩:=P7 hX h;simp only [e];exact ⟨_, .plain (.index o c v ho),(eF hX hs).trans hc⟩
 exact absurd h kW
theorem Xc (hX:X.Ok):∀n σ,(X.iY (n+1) σ).2.bad=none→∃L,GN (X.iY (n+1) σ).1 L∧oL X σ L (X.iY (n+1) σ).2:=by
 intro n
 induction n with
 |zero=>
  exact JM hX 0 (by intro σ x σ' h;rw [Tx.iY]at h;cases h)
 |succ n ih=>
  refine JM hX (n+1) (fun σ x σ' h hb=> ?_);obtain ⟨L,h1,h2⟩:=ih σ (by rw [h];exact hb);rw [h]at h1 h2;cases h1 with
  |change hG=>exact ⟨L,hG,h2⟩
end
section
variable {X:Tx}
def iy (X:Tx) (σ:Ps) (L:List To):Prop:=σ.bad=none∧X.F.drop σ.i=L
theorem iy.step {σ:Ps}{t:To}{L:List To}(h:iy X σ (t::L)):iy X σ.step L:=⟨h.1,FU h.2⟩
theorem iy.sees {σ:Ps}{L:List To}(h:iy X σ L) (s:ByteArray):X.sees σ s=kV L s:=by rw [Tv h.1,h.2]
theorem iy.get {σ:Ps}{t:To}{L:List To}(h:iy X σ (t::L)):∃u,X.T[σ.i]? =some u∧u.fo=t:=by
 cases hx:X.T[σ.i]? with
 |none=>have:=h.2;rw [FT hx]at this;exact absurd this (by simp)
 |some u=>
  have:=h.2;rw [Aj hx]at this;injection this with h1 _
  exact ⟨u,rfl,h1⟩
theorem iy.len {σ:Ps}{L:List To}(h:iy X σ L):L.length≤X.T.length:=by rw [←h.2];exact Zc _
theorem aQ (a s:ByteArray) (R:List To):kV (aU a::R) s=fB a s:=by
 unfold kV aU;cases lu a yB<;>simp
theorem Xd (a s:ByteArray) (R:List To):kV (fu a::R) s=fB a s:=by unfold kV fu;simp
def kwB (w:ByteArray):Bool:=tX w||lu w yB
theorem Xe {s w:ByteArray}(h:cB s) (hw:kwB w=true):fB s w=false:=by
 cases hb:fB s w with
 |false=>rfl
 |true=>
  have:=dY.1 hb;subst this;unfold kwB at hw;rw [h.2.2.2,CV h.1]at hw;exact absurd hw (by decide)
theorem wZ {s w:ByteArray}(h:cB s) (hw:kwB w=true) (R:List To):kV (fu s::R) w=false:=by rw [Xd,Xe h hw]
theorem TD {σ:Ps}{s:ByteArray}{R:List To}(h:iy X σ (aU s::R)):iy X (X.bS σ s) R:=by
 unfold Tx.bS;rw [if_pos (by rw [h.sees,aQ];exact dY.2 rfl)];exact h.step
theorem cO:∀(l:List ByteArray) {σ:Ps}{R:List To}(_:iy X σ (l.map aU++R)),iy X (X.must σ l) R
 | [],_,_,h=>h
 |s::l,σ,_R,h=>cO l (σ:=X.bS σ s) (TD h)
theorem iN {σ:Ps}{s:ByteArray}{R:List To}(h:iy X σ (fu s::R)) (hn:cB s):(X.name σ).1=s∧iy X (X.name σ).2 R:=by
 obtain ⟨u,hu,hf⟩:=h.get;unfold Tk.fo fu at hf;injection hf with h1 h2
 injection h2 with h2 h3
 have hx:X.next σ 1=some u:=by unfold Tx.next;rw [h.1,hu];simp [h1]
 unfold Tx.name;rw [hx];simp only;rw [h2,hn.2.2.2];exact ⟨rfl,h.step⟩
theorem qO {σ:Ps}{t:Tm}{R:List To}(h:iy X σ (qH t::R)) (hn:rT t):(X.value σ).1=t∧iy X (X.value σ).2 R:=by
 obtain ⟨u,hu,hf⟩:=h.get;unfold Tk.fo qH at hf;unfold Tx.value;rcases hn with ⟨a,b,c,d⟩|⟨a,b,c,d⟩
 · rw [if_pos a]at hf;injection hf with h1 h2
   injection h2 with h2 h3
   have hx:X.next σ 3=some u:=by unfold Tx.next;rw [h.1,hu];simp [h1]
   rw [hx];refine ⟨?_,h.step⟩;cases t;simp only at a d h2;subst a d h2;rfl
 · rw [if_neg (by rw [a];decide)]at hf;injection hf with h1 h2
   injection h2 with h2 h3
   have hx3:X.next σ 3=none:=by unfold Tx.next;rw [h.1,hu];simp [h1]
   have hx:X.next σ 2=some u:=by unfold Tx.next;rw [h.1,hu];simp [h1]
   rw [hx3,hx];refine ⟨?_,h.step⟩;cases t;simp only at a b h3;subst a b h3;rfl
theorem uH {σ:Ps}{n:Int}{R:List To}(h:iy X σ (Ak n::R)) (hn:kN n):(X.count σ).1=n∧iy X (X.count σ).2 R:=by
 have ht:rT ⟨2,⟨#[]⟩,n⟩:= .inr ⟨rfl,rfl,by have:=hn.1;show _≤n;omega,hn.2⟩;obtain ⟨h1,h2⟩:=qO (t:=⟨2,⟨#[]⟩,n⟩) (by unfold qH;rw [if_neg (show¬((2:Int)=1)by decide)];exact h) ht;unfold Tx.count;simp only;rw [h1];refine ⟨rfl, ?_⟩;rw [if_neg]
 · exact h2
 · have:=hn.1;have:=hn.2;simp only [not_or,Decidable.not_not];refine ⟨trivial, ?_, ?_⟩<;>omega
theorem qP {σ:Ps}{s:ByteArray}{R:List To}{l:List ByteArray}{most:Nat}(h:iy X σ (fu s::R)) (hn:cB s) (hd:lu s l=false) (hm:l.length<most):
 (X.column σ l most).1=l++ [s]∧iy X (X.column σ l most).2 R:=by
 unfold Tx.column;simp only;rw [if_neg (by omega)];obtain ⟨h1,h2⟩:=iN h hn;rw [h1,hd];exact ⟨rfl,h2⟩
theorem Bo (most:Nat):∀(r:List ByteArray) (n:Nat) (σ:Ps) (l:List ByteArray) (R:List To),r.length≤n→iy X σ (oM r++R)→kV R (⟨#[44]⟩:ah)=false→(∀s∈r,cB s)→qI l r→(l++r).length≤most→
 (X.dH most n σ l).1=l++r∧iy X (X.dH most n σ l).2 R
 | [],0,σ,l,R,_,h,_,_,_,_=>⟨by simp [Tx.dH],h⟩
 | [],n+1,σ,l,R,_,h,hR,_,_,_=>by
  rw [Tx.dH,if_neg (by rw [h.sees];simp [oM,hR])];exact ⟨by simp,h⟩
 |s::r,0,_,_,_,hn,_,_,_,_,_=>absurd hn (by simp)
 |s::r,n+1,σ,l,R,hn,h,hR,hok,hd,hm=>by
  replace h:iy X σ (aU (⟨#[44]⟩:ah)::fu s::(oM r++R)):=by simpa [oM]using h
  rw [Tx.dH,if_pos (by rw [h.sees,aQ];rfl)];simp only;obtain ⟨h1,h2⟩:=qP (most:=most) (l:=l) h.step (hok s (List.mem_cons_self ..)) hd.1 (by simp at hm;omega);rw [h1];obtain ⟨h3,h4⟩:=Bo most r n _ (l++ [s]) R (by simpa using hn) h2 hR (fun x hx=>hok x (List.mem_cons_of_mem _ hx)) hd.2 (by simpa using hm);exact ⟨by rw [h3];simp,h4⟩
theorem Me (r:List ByteArray):(oM r).length=2*r.length:=by
 induction r with
 |nil=>rfl
 |cons a r ih=>unfold oM at ih⊢;rw [List.flatMap_cons,List.length_append,ih];simp;omega
theorem xg {σ:Ps}{c:List ByteArray}{R:List To}{most:Nat}(hne:c≠ []) (hok:oN most c) (h:iy X σ (qL c++R)) (hR:kV R (⟨#[44]⟩:ah)=false):(X.columns σ most).1=c∧iy X (X.columns σ most).2 R:=by
 cases c with
 |nil=>exact absurd rfl hne
 |cons a c=>
  obtain ⟨h0,hd,hm⟩:=hok;have hl:=h.len;simp only [qL,List.length_append,List.length_cons,Me]at hl;replace h:iy X σ (fu a::(oM c++R)):=h;obtain ⟨h1,h2⟩:=qP (most:=most) (l:= []) h (h0 a (List.mem_cons_self ..)) rfl (by simp at hm⊢;omega);unfold Tx.columns;simp only;rw [h1];obtain ⟨h3,h4⟩:=Bo most c X.T.length _ [a] R (by omega) h2 hR (fun x hx=>h0 x (List.mem_cons_of_mem _ hx)) hd.2 (by simpa using hm);exact ⟨by rw [List.nil_append,h3];rfl,h4⟩
theorem Oo {σ:Ps}{c:List ByteArray}{R:List To}(hok:oN 8 c) (h:iy X σ (tH c++R)) (hR:kV R (⟨#[44]⟩:ah)=false):(X.some_ σ).1=c∧iy X (X.some_ σ).2 R:=by
 unfold Tx.some_;unfold tH at h;by_cases hc:c= []
 · subst hc;rw [if_pos rfl]at h;replace h:iy X σ (aU (⟨#[42]⟩:ah)::R):=h;rw [if_pos (by rw [h.sees,aQ];rfl)];exact ⟨rfl,h.step⟩
 · rw [if_neg hc]at h;rw [if_neg]
   · exact xg hc hok h hR
   · rw [h.sees];cases c with
     |nil=>exact absurd rfl hc
     |cons a c=>
      rw [show qL (a::c)++R=fu a::(oM c++R)from rfl,wZ (hok.1 a (List.mem_cons_self ..)) (by decide+kernel)];decide
theorem yG {σ:Ps}{p:Pr}{R:List To}(h:iy X σ (pairT p++R)) (hp:mq p):(X.equal σ).1=p∧iy X (X.equal σ).2 R:=by
 replace h:iy X σ (fu p.name::aU (⟨#[61]⟩:ah)::qH p.t::R):=h;obtain ⟨h1,h2⟩:=iN h hp.1;have h3:=cO [(⟨#[61]⟩:ah)] h2;obtain ⟨h4,h5⟩:=qO h3 hp.2;unfold Tx.equal;simp only;rw [h1,h4];exact ⟨rfl,h5⟩
theorem yH {σ:Ps}{both:Bool}{l:List Pr}{R:List To}(hok:vR both l) (h:iy X σ (iZ l++R)) (hR:kV R (⟨#[97,110,100]⟩:ah)=false):(X.aO σ both).1=l∧iy X (X.aO σ both).2 R:=by
 obtain ⟨h0,hl⟩:=hok;unfold Tx.aO;simp only;rcases hl with hl|⟨hb,hl⟩
 · obtain ⟨p,q,rfl⟩:∃p q,l= [p,q]:=by
    match l,hl with
    | [p,q],_=>exact ⟨p,q,rfl⟩
   replace h:iy X σ ([(⟨#[119,104,101,114,101]⟩:ah)].map aU++(pairT p++(aU (⟨#[97,110,100]⟩:ah)::(pairT q++R)))):=by simpa [iZ]using h
   have h1:=cO _ h;obtain ⟨h2,h3⟩:=yG h1 (h0 p (by simp));have h4:=h3.step;have h5:=cO [(⟨#[97,110,100]⟩:ah)] h3;cases both with
   |true=>
    rw [if_pos rfl];obtain ⟨h6,h7⟩:=yG h5 (h0 q (by simp));exact ⟨by rw [h2,h6],h7⟩
   |false=>
    rw [if_neg (by decide),if_pos (by rw [h3.sees,aQ];rfl)];obtain ⟨h6,h7⟩:=yG h4 (h0 q (by simp));exact ⟨by rw [h2,h6],h7⟩
 · subst hb
   obtain ⟨p,rfl⟩:∃p,l= [p]:=by
    match l,hl with
    | [p],_=>exact ⟨p,rfl⟩
   replace h:iy X σ ([(⟨#[119,104,101,114,101]⟩:ah)].map aU++(pairT p++R)):=by simpa [iZ]using h
   have h1:=cO _ h;obtain ⟨h2,h3⟩:=yG h1 (h0 p (by simp));rw [if_neg (by decide),if_neg (by rw [h3.sees,hR];decide)];exact ⟨by rw [h2],h3⟩
theorem C9 {σ:Ps}{b:Bool}{x:Sx}(hx:x.stamp=0∧x.ttl=0) {stamp ttl:Int}{R:List To}(hok:rU b stamp ttl) (h:iy X σ (kC stamp ttl++R)) (hR:kV R (⟨#[117,115,105,110,103]⟩:ah)=false) (hR2:kV R (⟨#[97,110,100]⟩:ah)=false):
 (X.using_ σ b x).1={x with stamp:=stamp,ttl:=ttl}∧iy X (X.using_ σ b x).2 R:=by
 obtain ⟨hs,ht⟩:=hok;unfold kC at h;unfold Tx.using_;simp only;by_cases hs0:stamp=0
 · rw [if_pos hs0]at h;by_cases ht0:ttl=0
   · rw [if_pos ht0]at h;rw [if_neg (by rw [h.sees];simp [hR])];refine ⟨?_,h⟩;have h1:=hx.1;have h2:=hx.2;cases x;simp only at h1 h2;subst h1 h2 hs0 ht0;rfl
   · rw [if_neg ht0]at h;obtain ⟨hb,hc⟩:b=true∧kN ttl:=by rcases ht with ht|ht;exact absurd ht ht0;exact ht
     replace h:iy X σ (aU (⟨#[117,115,105,110,103]⟩:ah)::aU (⟨#[116,116,108]⟩:ah)::Ak ttl::R):=h;have h1:=h.step;have h2:=h1.step;obtain ⟨h3,h4⟩:=uH h2 hc;rw [if_pos (by rw [h.sees,aQ];rfl),if_pos (by rw [h1.sees,aQ,hb];rfl)];exact ⟨by rw [h3,hs0,←hx.1],h4⟩
 · rw [if_neg hs0]at h;have hsc:kN stamp:=by rcases hs with hs|hs;exact absurd hs hs0;exact hs
   by_cases ht0:ttl=0
   · rw [if_pos ht0]at h;replace h:iy X σ (aU (⟨#[117,115,105,110,103]⟩:ah)::aU (⟨#[116,105,109,101,115,116,97,109,112]⟩:ah)::Ak stamp::R):=h;have h1:=h.step;have h2:=cO [(⟨#[116,105,109,101,115,116,97,109,112]⟩:ah)] h1;obtain ⟨h3,h4⟩:=uH h2 hsc;rw [if_pos (by rw [h.sees,aQ];rfl),if_neg (by rw [h1.sees,aQ,show fB (⟨#[116,105,109,101,115,116,97,109,112]⟩:ah) (⟨#[116,116,108]⟩:ah)=false by decide,Bool.and_false];decide),if_neg (by rw [h4.sees,hR2,Bool.and_false];decide)];exact ⟨by rw [h3,ht0,←hx.2],h4⟩
   · rw [if_neg ht0]at h;obtain ⟨hb,hc⟩:b=true∧kN ttl:=by rcases ht with ht|ht;exact absurd ht ht0;exact ht
     replace h:iy X σ (aU (⟨#[117,115,105,110,103]⟩:ah)::aU (⟨#[116,105,109,101,115,116,97,109,112]⟩:ah)::Ak stamp::aU (⟨#[97,110,100]⟩:ah)::aU (⟨#[116,116,108]⟩:ah)::Ak ttl::R):=h;have h1:=h.step;have h2:=cO [(⟨#[116,105,109,101,115,116,97,109,112]⟩:ah)] h1;obtain ⟨h3,h4⟩:=uH h2 hsc;have h5:=cO [(⟨#[116,116,108]⟩:ah)] h4.step;obtain ⟨h6,h7⟩:=uH h5 hc;rw [if_pos (by rw [h.sees,aQ];rfl),if_neg (by rw [h1.sees,aQ,show fB (⟨#[116,105,109,101,115,116,97,109,112]⟩:ah) (⟨#[116,116,108]⟩:ah)=false by decide,Bool.and_false];decide),if_pos (by rw [h4.sees,aQ,hb];rfl)];exact ⟨by rw [h3,h6],h7⟩
theorem Mf {σ:Ps}{s:ByteArray}{R:List To}{l:List ByteArray}{but:ByteArray}(h:iy X σ (fu s::R)) (hn:cB s) (hl:s∈l) (hb:s≠but):(X.one σ l but).1=s∧iy X (X.one σ l but).2 R:=by
 obtain ⟨h1,h2⟩:=iN h hn;unfold Tx.one;simp only;rw [h1];have e1:=oh.2 hl
 have e2:fB s but=false:=by
  cases hq:fB s but with
  |false=>rfl
  |true=>exact absurd (dY.1 hq) hb
 rw [e1,e2];exact ⟨rfl,h2⟩
theorem Xf {σ:Ps}{ty:Int}{R:List To}(h:iy X σ (Bj ty::R)) (ht:ty=1∨ty=2):(X.kind σ).1=ty∧iy X (X.kind σ).2 R:=by
 unfold Tx.kind;unfold Bj at h;rcases ht with rfl|rfl
 · rw [if_pos rfl]at h;rw [if_pos (by rw [h.sees,aQ];rfl)];exact ⟨rfl,h.step⟩
 · rw [if_neg (by decide)]at h;rw [if_neg (by rw [h.sees,aQ];decide)];exact ⟨rfl,cO [(⟨#[105,110,116]⟩:ah)] h⟩
theorem FY {s:ByteArray}(h:cB s):s≠⟨#[]⟩:=by
 rintro rfl;exact absurd h.1 (by decide+kernel)
theorem FZ:∀(D:List Cl) (n:Nat) (σ:Ps) (l:List ByteArray) (C:List Cl) (R:List To),D.length<n→iy X σ (D.flatMap CX++aU (⟨#[112,114,105,109,97,114,121]⟩:ah)::R)→(∀c∈D,CY c)→qI l (D.map Cl.name)→(l++D.map Cl.name).length≤10→
 (X.iE n σ l C).1=l++D.map Cl.name∧(X.iE n σ l C).2.1=C++D∧iy X (X.iE n σ l C).2.2 R
 | [],0,_,_,_,_,hn,_,_,_,_=>absurd hn (by simp)
 |c::D,0,_,_,_,_,hn,_,_,_,_=>absurd hn (by simp)
 | [],n+1,σ,l,C,R,_,h,_,_,_=>by
  replace h:iy X σ (aU (⟨#[112,114,105,109,97,114,121]⟩:ah)::R):=h;rw [Tx.iE,h.1,if_neg (by decide),if_pos (by rw [h.sees,aQ];rfl)];exact ⟨by simp,by simp,h.step⟩
 |c::D,n+1,σ,l,C,R,hn,h,hok,hd,hm=>by
  replace h:iy X σ (fu c.name::Bj c.ty::aU (⟨#[44]⟩:ah)::(D.flatMap CX++aU (⟨#[112,114,105,109,97,114,121]⟩:ah)::R)):=by simpa [CX]using h
  obtain ⟨ho1,ho2⟩:=hok c (List.mem_cons_self ..);rw [Tx.iE,h.1,if_neg (by decide),if_neg (by rw [h.sees,wZ ho1 (by decide+kernel)];decide)];obtain ⟨h1,h2⟩:=qP (most:=10) (l:=l) h ho1 hd.1 (by simp at hm;omega);obtain ⟨h3,h4⟩:=Xf h2 ho2;have h5:=cO [(⟨#[44]⟩:ah)] h4;simp only;rw [h1,h3];have hlast:(l++ [c.name]).getLastD ⟨#[]⟩=c.name:=by simp
  rw [hlast];obtain ⟨e1,e2,e3⟩:=FZ D n _ (l++ [c.name]) (C++ [⟨c.name,c.ty⟩]) R (by simpa using hn) h5 (fun x hx=>hok x (List.mem_cons_of_mem _ hx)) hd.2 (by simpa using hm);exact ⟨by rw [e1];simp,by rw [e2];simp,e3⟩
theorem TF (D:List Cl):(D.flatMap CX).length=3*D.length:=by
 induction D with
 |nil=>rfl
 |cons a r ih=>rw [List.flatMap_cons,List.length_append,ih];simp [CX];omega
theorem TG {σ:Ps}{nm:ByteArray}{C:List Cl}{pk ck:ByteArray}{R:List To}(hok:rV nm C pk ck) (h:iy X σ (uG nm C pk ck++R)):(X.table σ).1=mD nm C pk ck∧iy X (X.table σ).2 R:=by
 obtain ⟨o1,o2,o3,o4,o5,o6,o7⟩:=hok
 have ho:∀s∈C.map Cl.name,cB s:=by
  intro s hs;obtain ⟨c,hc,rfl⟩:=List.mem_map.1 hs;exact (o2 c hc).1
 have hlen:=h.len
 replace h:iy X σ (fu nm::([(⟨#[40]⟩:ah)].map aU++(C.flatMap CX++aU (⟨#[112,114,105,109,97,114,121]⟩:ah)::([(⟨#[107,101,121]⟩:ah),(⟨#[40]⟩:ah)].map aU++(fu pk::([(⟨#[44]⟩:ah)].map aU++(fu ck::([(⟨#[41]⟩:ah),(⟨#[41]⟩:ah)].map aU++R)))))))):=by
  simpa [uG]using h
 obtain ⟨h1,h2⟩:=iN h o1;have h3:=cO _ h2;have hl3:=h3.len;simp only [List.length_append,TF]at hl3;obtain ⟨h4,h5,h6⟩:=FZ C (X.T.length+1) _ [] [] _ (by omega) h3 o2 o3 (by simpa using o4);rw [List.nil_append]at h4 h5;have h7:=cO _ h6;rw [←h4]at o5 o6;obtain ⟨h8,h9⟩:=Mf h7 (ho pk (by rw [←h4];exact o5)) o5 (FY (ho pk (by rw [←h4];exact o5)));have h10:=cO _ h9;obtain ⟨h11,h12⟩:=Mf (but:=pk) h10 (ho ck (by rw [←h4];exact o6)) o6 o7;have P8:=cO _ h12;unfold Tx.table;simp only;rw [h8];refine ⟨?_,P8⟩;rw [h11,h5,h1];rfl
theorem Xg {σ:Ps}{nm:ByteArray}{aD:List ByteArray}{o on p q:ByteArray}{R:List To}(hok:Hg nm aD o on p q) (h:iy X σ (Bl nm aD o on p q++R)):(X.view σ).1=wE nm aD o on p q∧iy X (X.view σ).2 R:=by
 obtain ⟨o1,o2,o3,o4,o5,o6⟩:=hok
 replace h:iy X σ ([(⟨#[118,105,101,119]⟩:ah)].map aU++(fu nm::([(⟨#[97,115]⟩:ah),(⟨#[115,101,108,101,99,116]⟩:ah)].map aU++(tH aD++([(⟨#[102,114,111,109]⟩:ah)].map aU++(fu o::([(⟨#[119,104,101,114,101]⟩:ah)].map aU++(fu on::([(⟨#[105,115]⟩:ah),(⟨#[110,111,116]⟩:ah),(⟨#[110,117,108,108]⟩:ah),(⟨#[112,114,105,109,97,114,121]⟩:ah),(⟨#[107,101,121]⟩:ah),(⟨#[40]⟩:ah)].map aU++(fu on::([(⟨#[44]⟩:ah)].map aU++(fu p::([(⟨#[44]⟩:ah)].map aU++(fu q::([(⟨#[41]⟩:ah)].map aU++R))))))))))))))):=by
  simpa [Bl]using h
 have h1:=cO _ h;obtain ⟨h2,h3⟩:=iN h1 o1;have h4:=cO _ h3;obtain ⟨h5,h6⟩:=Oo o2 h4 (by rw [List.map_cons,List.cons_append,aQ];decide);have h7:=cO _ h6;obtain ⟨h8,h9⟩:=iN h7 o3;have h10:=cO _ h9;obtain ⟨h11,h12⟩:=iN h10 o4;have P8:=cO _ h12;obtain ⟨h14,h15⟩:=Mf (l:= [on]) (but:=⟨#[]⟩) P8 o4 (by simp) (FY o4);have h16:=cO _ h15;obtain ⟨h17,h18⟩:=iN h16 o5;have h19:=cO _ h18;obtain ⟨h20,h21⟩:=iN h19 o6;have h22:=cO _ h21;unfold Tx.view;simp only;rw [h11];exact ⟨by rw [h2,h5,h8,h17,h20];rfl,h22⟩
theorem TH {σ:Ps}{nm o on:ByteArray}{R:List To}(hok:cB nm∧cB o∧cB on) (h:iy X σ (Ao nm o on++R)):(X.index σ).1=Ap nm o on∧iy X (X.index σ).2 R:=by
 obtain ⟨o1,o2,o3⟩:=hok;replace h:iy X σ ([(⟨#[105,110,100,101,120]⟩:ah)].map aU++(fu nm::([(⟨#[111,110]⟩:ah)].map aU++(fu o::([(⟨#[40]⟩:ah)].map aU++(fu on::([(⟨#[41]⟩:ah)].map aU++R))))))):=h;have h1:=cO _ h;obtain ⟨h2,h3⟩:=iN h1 o1;have h4:=cO _ h3;obtain ⟨h5,h6⟩:=iN h4 o2;have h7:=cO _ h6;obtain ⟨h8,h9⟩:=iN h7 o3;have h10:=cO _ h9;unfold Tx.index;exact ⟨by simp only;rw [h2,h5,h8];rfl,h10⟩
theorem Da:∀(r:List Tm) (n:Nat) (σ:Ps) (l:List Tm) (R:List To),r.length≤n→iy X σ (qp r++R)→kV R (⟨#[44]⟩:ah)=false→(∀t∈r,rT t)→
 (X.fC n σ l).1=l++r∧iy X (X.fC n σ l).2 R
 | [],0,σ,l,R,_,h,_,_=>⟨by simp [Tx.fC],h⟩
 | [],n+1,σ,l,R,_,h,hR,_=>by
  rw [Tx.fC,if_neg (by rw [h.sees];simp [qp,hR])];exact ⟨by simp,h⟩
 |s::r,0,_,_,_,hn,_,_,_=>absurd hn (by simp)
 |s::r,n+1,σ,l,R,hn,h,hR,hok=>by
  replace h:iy X σ (aU (⟨#[44]⟩:ah)::qH s::(qp r++R)):=by simpa [qp]using h
  rw [Tx.fC,if_pos (by rw [h.sees,aQ];rfl)];simp only;obtain ⟨h1,h2⟩:=qO h.step (hok s (List.mem_cons_self ..));rw [h1];obtain ⟨h3,h4⟩:=Da r n _ (l++ [s]) R (by simpa using hn) h2 hR (fun x hx=>hok x (List.mem_cons_of_mem _ hx));exact ⟨by rw [h3];simp,h4⟩
theorem Mg (r:List Tm):(qp r).length=2*r.length:=by
 induction r with
 |nil=>rfl
 |cons a r ih=>unfold qp at ih⊢;rw [List.flatMap_cons,List.length_append,ih];simp;omega
def Db (R:List To):Prop:=∀w,w≠(⟨#[59]⟩:ah)→kV R w=false
theorem Xh:Db []:=fun _ _=>rfl
theorem JN (R:List To):Db (aU (⟨#[59]⟩:ah)::R):=fun w hw=>by
 rw [aQ];cases hq:fB (⟨#[59]⟩:ah) w with
 |false=>rfl
 |true=>exact absurd (dY.1 hq).symm hw
theorem P9 {σ:Ps}{o:ByteArray}{c:List ByteArray}{v:List Tm}{stamp ttl:Int}{R:List To}(hok:yD o c v stamp ttl) (h:iy X σ (pY o c v stamp ttl++R)) (hR:Db R):(X.insert σ).1=rW o c v stamp ttl∧iy X (X.insert σ).2 R:=by
 obtain ⟨o1,o2,o3,o4,o5,o6⟩:=hok
 obtain ⟨v0,v1,rfl⟩:∃v0 v1,v=v0::v1:=by
  cases v with
  |nil=>cases c with|nil=>exact absurd rfl o2|cons a c=>exact absurd o4 (by simp)
  |cons a v=>exact ⟨a,v,rfl⟩
 replace h:iy X σ ([(⟨#[105,110,116,111]⟩:ah)].map aU++(fu o::([(⟨#[40]⟩:ah)].map aU++(qL c++([(⟨#[41]⟩:ah),(⟨#[118,97,108,117,101,115]⟩:ah),(⟨#[40]⟩:ah)].map aU++(qH v0::(qp v1++([(⟨#[41]⟩:ah)].map aU++(kC stamp ttl++R))))))))):=by
  simpa [pY,JK]using h
 have h1:=cO _ h;obtain ⟨h2,h3⟩:=iN h1 o1;have h4:=cO _ h3;obtain ⟨h5,h6⟩:=xg o2 o3 h4 (by rw [List.map_cons,List.cons_append,aQ];decide);have h7:=cO _ h6;obtain ⟨h8,h9⟩:=qO h7 (o5 v0 (List.mem_cons_self ..));have hl:=h9.len;simp only [List.length_append,Mg]at hl;obtain ⟨h10,h11⟩:=Da v1 X.T.length _ [v0] _ (by omega) h9 (by rw [List.map_cons,List.cons_append,aQ];decide) (fun x hx=>o5 x (List.mem_cons_of_mem _ hx));have h12:=cO _ h11;unfold Tx.insert;simp only;rw [h8,h10,h5];rw [if_neg (by rw [show [v0]++v1=v0::v1 from rfl,o4];simp)];obtain ⟨P8,h14⟩:=C9 (b:=true) (x:={Sx.zero with kind:=5,dA:=o,sets:=List.zipWith Pr.mk c (v0::v1)}) ⟨rfl,rfl⟩ o6 h12 (hR _ (by decide)) (hR _ (by decide));rw [h2];exact ⟨P8,h14⟩
theorem JO:∀(r:List Pr) (n:Nat) (σ:Ps) (l:List ByteArray) (Z:List Pr) (R:List To),r≠ []→r.length≤n→iy X σ (qN r++R)→kV R (⟨#[44]⟩:ah)=false→(∀p∈r,mq p)→qI l (r.map Pr.name)→(l++r.map Pr.name).length≤8→
 (X.lY n σ l Z).1=Z++r∧iy X (X.lY n σ l Z).2 R
 | [],_,_,_,_,_,hne,_,_,_,_,_,_=>absurd rfl hne
 |p::r,0,_,_,_,_,_,hn,_,_,_,_,_=>absurd hn (by simp)
 |p::r,n+1,σ,l,Z,R,_,hn,h,hR,hok,hd,hm=>by
  obtain ⟨ho1,ho2⟩:=hok p (List.mem_cons_self ..);have hlast:(l++ [p.name]).getLastD ⟨#[]⟩=p.name:=by simp
  rw [Tx.lY];try simp only
  cases r with
  |nil=>
   replace h:iy X σ (fu p.name::aU (⟨#[61]⟩:ah)::qH p.t::R):=h;obtain ⟨h1,h2⟩:=qP (most:=8) (l:=l) h ho1 hd.1 (by simp at hm;omega);have h3:=cO [(⟨#[61]⟩:ah)] h2;obtain ⟨h4,h5⟩:=qO h3 ho2;rw [if_neg (by rw [h5.sees,hR];decide),h1,h4,hlast];exact ⟨rfl,h5⟩
  |cons q r=>
   rw [wX p (q::r) (by simp)]at h;replace h:iy X σ (fu p.name::aU (⟨#[61]⟩:ah)::qH p.t::aU (⟨#[44]⟩:ah)::(qN (q::r)++R)):=by simpa [pairT]using h
   obtain ⟨h1,h2⟩:=qP (most:=8) (l:=l) h ho1 hd.1 (by simp at hm;omega);have h3:=cO [(⟨#[61]⟩:ah)] h2;obtain ⟨h4,h5⟩:=qO h3 ho2;rw [if_pos (by rw [h5.sees,aQ];rfl),h1,h4,hlast];obtain ⟨h6,h7⟩:=JO (q::r) n _ (l++ [p.name]) (Z++ [⟨p.name,p.t⟩]) R (by simp) (by simpa using hn) h5.step hR (fun x hx=>hok x (List.mem_cons_of_mem _ hx)) hd.2 (by simpa using hm);exact ⟨by rw [h6];simp,h7⟩
theorem Qa (r:List Pr):r.length≤(qN r).length:=by
 induction r with
 |nil=>exact Nat.le_refl _
 |cons p r ih=>
  by_cases h:r= []
  · subst h;simp [qN,pairT]
  · rw [wX p r h];simp [pairT];omega
theorem Qb {σ:Ps}{o:ByteArray}{stamp ttl:Int}{sets aO:List Pr}{R:List To}(hok:yE o stamp ttl sets aO) (h:iy X σ (rX o stamp ttl sets aO++R)) (hR:Db R):(X.update σ).1=rY o stamp ttl sets aO∧iy X (X.update σ).2 R:=by
 obtain ⟨o1,o2,⟨o3,o4,o5,o6⟩,o7⟩:=hok
 replace h:iy X σ (fu o::(kC stamp ttl++([(⟨#[115,101,116]⟩:ah)].map aU++(qN sets++(iZ aO++R))))):=by
  simpa [rX]using h
 obtain ⟨h1,h2⟩:=iN h o1;obtain ⟨h3,h4⟩:=C9 (b:=true) (x:={Sx.zero with kind:=6,dA:=o}) ⟨rfl,rfl⟩ o2 h2 (by rw [List.map_cons,List.cons_append,aQ];decide) (by rw [List.map_cons,List.cons_append,aQ];decide);have h5:=cO _ h4;have hl:=h5.len;have:=Qa sets;simp only [List.length_append]at hl;obtain ⟨h6,h7⟩:=JO sets (X.T.length+1) _ [] [] _ o3 (by omega) h5 (by unfold iZ;rw [List.cons_append,aQ];decide) o4 o5 (by simpa using o6);obtain ⟨h8,h9⟩:=yH o7 h7 (hR _ (by decide));unfold Tx.update;simp only;rw [h1];refine ⟨?_,h9⟩;rw [h8,h3,h6];rfl
theorem Qc {σ:Ps}{aD:List ByteArray}{o:ByteArray}{stamp:Int}{aO:List Pr}{R:List To}(hok:yF aD o stamp aO) (h:iy X σ (rZ aD o stamp aO++R)) (hR:Db R):(X.remove σ).1=sj aD o stamp aO∧iy X (X.remove σ).2 R:=by
 obtain ⟨o1,o2,o3,o4⟩:=hok
 replace h:iy X σ (qL aD++([(⟨#[102,114,111,109]⟩:ah)].map aU++(fu o::(kC stamp 0++(iZ aO++R))))):=by
  simpa [rZ]using h
 have hc:(if X.sees σ (⟨#[102,114,111,109]⟩:ah)=true then ([],σ)else X.columns σ 8).1=aD∧iy X (if X.sees σ (⟨#[102,114,111,109]⟩:ah)=true then ([],σ)else X.columns σ 8).2 ([(⟨#[102,114,111,109]⟩:ah)].map aU++(fu o::(kC stamp 0++(iZ aO++R)))):=by
  cases aD with
  |nil=>
   replace h:iy X σ ([(⟨#[102,114,111,109]⟩:ah)].map aU++(fu o::(kC stamp 0++(iZ aO++R)))):=h;rw [if_pos (by rw [h.sees,List.map_cons,List.cons_append,aQ];rfl)];exact ⟨rfl,h⟩
  |cons a c=>
   rw [if_neg]
   · exact xg (by simp) o1 h (by rw [List.map_cons,List.cons_append,aQ];decide)
   · rw [h.sees];show¬kV (fu a::_) _=true;rw [wZ (o1.1 a (List.mem_cons_self ..)) (by decide+kernel)];decide
 obtain ⟨h1,h2⟩:=hc;have h3:=cO _ h2;obtain ⟨h4,h5⟩:=iN h3 o2;obtain ⟨h6,h7⟩:=C9 (b:=false) (x:={Sx.zero with kind:=7,aD:=aD,dA:=o}) ⟨rfl,rfl⟩ o3 h5 (by unfold iZ;rw [List.cons_append,aQ];decide) (by unfold iZ;rw [List.cons_append,aQ];decide);obtain ⟨h8,h9⟩:=yH o4 h7 (hR _ (by decide));unfold Tx.remove;simp only;rw [h1,h4];refine ⟨?_,h9⟩;rw [h8,h6];rfl
theorem ZX {σ:Ps}{aD:List ByteArray}{o:ByteArray}{aO:List Pr}{limit:Int}{R:List To}(hok:Om aD o aO limit) (h:iy X σ (JL aD o aO limit++R)) (hR:Db R):(X.ask σ).1=Md aD o aO limit∧iy X (X.ask σ).2 R:=by
 obtain ⟨o1,o2,o3,o4⟩:=hok
 replace h:iy X σ (tH aD++([(⟨#[102,114,111,109]⟩:ah)].map aU++(fu o::(iZ aO++(wY limit++R))))):=by
  simpa [JL]using h
 obtain ⟨h1,h2⟩:=Oo o1 h (by rw [List.map_cons,List.cons_append,aQ];decide);have h3:=cO _ h2;obtain ⟨h4,h5⟩:=iN h3 o2;unfold Tx.ask;simp only;by_cases hl:limit=0
 · subst hl;obtain ⟨h6,h7⟩:=yH o3 h5 (hR _ (by decide));replace h7:iy X _ R:=h7;rw [if_neg (by rw [h7.sees,hR _ (by decide)];decide)];exact ⟨by rw [h1,h4,h6];rfl,h7⟩
 · have hc:kN limit:=by rcases o4 with h|h;exact absurd h hl;exact h
   unfold wY at h5;rw [if_neg hl]at h5;obtain ⟨h6,h7⟩:=yH o3 h5 (by rw [List.cons_append,aQ];decide);replace h7:iy X _ (aU (⟨#[108,105,109,105,116]⟩:ah)::Ak limit::R):=h7;obtain ⟨h8,h9⟩:=uH h7.step hc;rw [if_pos (by rw [h7.sees,aQ];rfl)];exact ⟨by rw [h1,h4,h6,h8];rfl,h9⟩
theorem Xi {x:Sx}{L:List To}(h:GC x L):∃w L',L=aU w::L' ∧(w=(⟨#[105,110,115,101,114,116]⟩:ah)∨w=(⟨#[117,112,100,97,116,101]⟩:ah)∨w=(⟨#[100,101,108,101,116,101]⟩:ah)):=by
 cases h with
 |insert=>exact ⟨_,_,rfl, .inl rfl⟩
 |update=>exact ⟨_,_,rfl, .inr (.inl rfl)⟩
 |remove=>exact ⟨_,_,rfl, .inr (.inr rfl)⟩
theorem F3 (n:Nat) {σ:Ps}{x:Sx}{L R:List To}(hG:GC x L) (h:iy X σ (L++R)) (hR:Db R):(X.iY (n+1) σ).1= .change x∧iy X (X.iY (n+1) σ).2 R:=by
 rw [Tx.iY];cases hG with
 |insert o c v a b ho=>
  rw [List.cons_append]at h;obtain ⟨h1,h2⟩:=P9 ho h.step hR;rw [if_pos (by rw [h.sees,aQ];rfl)];exact ⟨by simp only;rw [h1],h2⟩
 |update o a b c v ho=>
  rw [List.cons_append]at h;obtain ⟨h1,h2⟩:=Qb ho h.step hR;rw [if_neg (by rw [h.sees,aQ];decide),if_pos (by rw [h.sees,aQ];rfl)];exact ⟨by simp only;rw [h1],h2⟩
 |remove o a b c ho=>
  rw [List.cons_append]at h;obtain ⟨h1,h2⟩:=Qc ho h.step hR;rw [if_neg (by rw [h.sees,aQ];decide),if_neg (by rw [h.sees,aQ];decide),if_pos (by rw [h.sees,aQ];rfl)];exact ⟨by simp only;rw [h1],h2⟩
theorem TI (n:Nat) {σ:Ps}{x:Sx}{L R:List To}(hG:GP x L) (h:iy X σ (L++R)) (hR:Db R):(X.iY (n+1) σ).1= .plain x∧iy X (X.iY (n+1) σ).2 R:=by
 rw [Tx.iY];cases hG with
 |ask o a b c ho=>
  rw [List.cons_append]at h;obtain ⟨h1,h2⟩:=ZX ho h.step hR;rw [if_neg (by rw [h.sees,aQ];decide),if_neg (by rw [h.sees,aQ];decide),if_neg (by rw [h.sees,aQ];decide),if_pos (by rw [h.sees,aQ];rfl)];exact ⟨by simp only;rw [h1],h2⟩
 |drop nm ho=>
  rw [List.cons_append]at h;obtain ⟨h1,h2⟩:=iN h.step ho;rw [if_neg (by rw [h.sees,aQ];decide),if_neg (by rw [h.sees,aQ];decide),if_neg (by rw [h.sees,aQ];decide),if_neg (by rw [h.sees,aQ];decide),if_neg (by rw [h.sees,aQ];decide),if_pos (by rw [h.sees,aQ];rfl)];exact ⟨by simp only;rw [h1],h2⟩
 |table nm C pk ck ho=>
  rw [List.cons_append,List.cons_append]at h;obtain ⟨h1,h2⟩:=TG ho h.step.step;rw [if_neg (by rw [h.sees,aQ];decide),if_neg (by rw [h.sees,aQ];decide),if_neg (by rw [h.sees,aQ];decide),if_neg (by rw [h.sees,aQ];decide),if_neg (by rw [h.sees,aQ];decide),if_neg (by rw [h.sees,aQ];decide),if_pos (by rw [h.sees,aQ];rfl),if_pos (by rw [h.step.sees,aQ];rfl)];exact ⟨by simp only;rw [h1],h2⟩
 |view nm c o on p q ho=>
  rw [List.cons_append,List.cons_append]at h;obtain ⟨h1,h2⟩:=Xg ho h.step.step;rw [if_neg (by rw [h.sees,aQ];decide),if_neg (by rw [h.sees,aQ];decide),if_neg (by rw [h.sees,aQ];decide),if_neg (by rw [h.sees,aQ];decide),if_neg (by rw [h.sees,aQ];decide),if_neg (by rw [h.sees,aQ];decide),if_pos (by rw [h.sees,aQ];rfl),if_neg (by rw [h.step.sees,aQ];decide),if_pos (by rw [h.step.sees,aQ];rfl)];exact ⟨by simp only;rw [h1],h2⟩
 |index nm o on ho=>
  rw [List.cons_append]at h;obtain ⟨h1,h2⟩:=TH ho h.step;have h3:=h.step;unfold Ao at h3;rw [List.cons_append]at h3;rw [if_neg (by rw [h.sees,aQ];decide),if_neg (by rw [h.sees,aQ];decide),if_neg (by rw [h.sees,aQ];decide),if_neg (by rw [h.sees,aQ];decide),if_neg (by rw [h.sees,aQ];decide),if_neg (by rw [h.sees,aQ];decide),if_pos (by rw [h.sees,aQ];rfl),if_neg (by rw [h3.sees,aQ];decide),if_neg (by rw [h3.sees,aQ];decide)];exact ⟨by simp only;rw [h1],h2⟩
theorem JQ {st:Ps→Tx.Nd×Ps}(hst:∀σ x L R,GC x L→iy X σ (L++R)→Db R→(st σ).1= .change x∧iy X (st σ).2 R):∀(D:List Sx) (M:List To) (n:Nat) (σ:Ps) (l:List Sx) (R:List To),GB D M→D.length<n→(l++D).length≤8→l++D≠ []→iy X σ (M++aU (⟨#[97,112,112,108,121]⟩:ah)::R)→
 (X.jB st n σ l).1=l++D∧iy X (X.jB st n σ l).2 R
 | [],M,0,_,_,_,_,hn,_,_,_=>absurd hn (by simp)
 |x::D,M,0,_,_,_,_,hn,_,_,_=>absurd hn (by simp)
 | [],M,n+1,σ,l,R,hG,_,_,hne,h=>by
  cases hG;replace h:iy X σ (aU (⟨#[97,112,112,108,121]⟩:ah)::R):=h;rw [List.append_nil]at hne⊢;have he:l.isEmpty=false:=by cases l with|nil=>exact absurd rfl hne|cons a l=>rfl
  rw [Tx.jB,h.1,if_neg (by decide),he,if_pos (by rw [h.sees,aQ];rfl)];exact ⟨rfl,h.step⟩
 |x::D,M,n+1,σ,l,R,hG,hn,hl,_,h=>by
  cases hG with
  | @cons _ L _ M hx hD=>
   rw [List.append_assoc,List.cons_append]at h;obtain ⟨w,L',rfl,hw⟩:=Xi hx
   have hna:X.sees σ (⟨#[97,112,112,108,121]⟩:ah)=false:=by
    rw [List.cons_append]at h;rw [h.sees,aQ];rcases hw with rfl|rfl|rfl<;>decide
   simp at hl;rw [Tx.jB,h.1,if_neg (by decide),hna,Bool.and_false,if_neg (by decide)];simp only;rw [if_neg (by omega)];obtain ⟨h1,h2⟩:=hst σ x _ _ hx h (JN _);rw [h1];simp only;obtain ⟨h3,h4⟩:=JQ hst D M n _ (l++ [x]) R hD (by simpa using hn) (by simp;omega) (by simp) (cO [(⟨#[59]⟩:ah)] h2);exact ⟨by rw [h3];simp,h4⟩
theorem ZY (n:Nat) {σ:Ps}{nd:Tx.Nd}{L R:List To}(hG:GN nd L) (h:iy X σ (L++R)) (hR:Db R):(X.iY (n+2) σ).1=nd∧iy X (X.iY (n+2) σ).2 R:=by
 cases hG with
 |plain hG=>exact TI (n+1) hG h hR
 |change hG=>exact F3 (n+1) hG h hR
 | @batch l L hG h1 h2=>
  replace h:iy X σ (aU (⟨#[98,101,103,105,110]⟩:ah)::([(⟨#[98,97,116,99,104]⟩:ah)].map aU++(L++aU (⟨#[97,112,112,108,121]⟩:ah)::([(⟨#[98,97,116,99,104]⟩:ah)].map aU++R)))):=by simpa using h
  have h3:=cO _ h.step;obtain ⟨h4,h5⟩:=JQ (fun σ x L R hx hc hf=>F3 n hx hc hf) l L 10 _ [] _ hG (by omega) (by simpa using h2) (by simpa using h1) h3;have h6:=cO _ h5;rw [Tx.iY,if_neg (by rw [h.sees,aQ];decide),if_neg (by rw [h.sees,aQ];decide),if_neg (by rw [h.sees,aQ];decide),if_neg (by rw [h.sees,aQ];decide),if_pos (by rw [h.sees,aQ];rfl)];unfold Tx.many;simp only;exact ⟨by rw [h4];rfl,h6⟩
end
end aK
end Go.Proofs.YtnngbhpeeakfaaaGreatDoor
