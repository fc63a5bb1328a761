/- Parts of the proof, joined: PlainPC PlainPD PlainS PlainT PlainU. -/
import Derived.WalkKit
import Derived.Test.YtfbgdjcnlnfoaaaGreatDoorB06
namespace Go.Proofs.YtfbgdjcnlnfoaaaGreatDoor
namespace aH
section
variable {X:Tx}
def AP (c:Cl):List To:= [dW c.name,yS c.ty,aR (⟨#[44]⟩:ByteArray)]
def AQ (c:Cl):Prop:=bH c.name∧(c.ty=1∨c.ty=2)
theorem AU {σ:Ps}(h:σ.bad≠none) (n:Nat) (l:List ByteArray) (C:List Cl):X.gV n σ l C=(l,C,σ):=by
 cases n with
 |zero=>rfl
 |succ n=>
  rw [Tx.gV]
  cases hb:σ.bad with
  |none=>exact absurd hb h
  |some a=>simp
theorem AV (hX:X.Ok):∀n σ l C,C.map Cl.name=l→l.length≤10→(X.F.drop σ.i).length<n→(X.gV n σ l C).2.2.bad=none→
 ∃D:List Cl,(X.gV n σ l C).1=l++D.map Cl.name∧(X.gV n σ l C).2.1=C++D∧mH X σ (D.flatMap AP++ [aR (⟨#[112,114,105,109,97,114,121]⟩:ByteArray)]) (X.gV n σ l C).2.2∧(∀c∈D,AQ c)∧nk l (D.map Cl.name)∧(l++D.map Cl.name).length≤10
 |0,σ,l,C,_,_,hn,_=>absurd hn (by omega)
 |n+1,σ,l,C,hl,abp,hn,h=>by
  cases hb:σ.bad with
  |some a=>
   exfalso
   rw [AU (by rw [hb];simp)]at h
   simp only at h
   rw [hb]at h;exact absurd h (by simp)
  |none=>
   rw [Tx.gV,hb]at h⊢
   simp only [Option.isSome_none,Bool.false_eq_true,if_false]at h⊢
   split at h
   · rename_i hs
     rw [if_pos hs]
     exact ⟨[],by simp,by simp,dZ hX hs,by simp,trivial,by simpa using abp⟩
   · rename_i hs
     rw [if_neg hs]
     obtain ⟨⟨l1,σ1⟩,hc⟩:∃r,X.column σ l 10=r:=⟨_,rfl⟩
     obtain ⟨⟨ty,σ2⟩,hk⟩:∃r,X.kind σ1=r:=⟨_,rfl⟩
     obtain ⟨σ3,h3⟩:∃r,X.must σ2 [(⟨#[44]⟩:ByteArray)]=r:=⟨_,rfl⟩
     simp only [hc,hk,h3]at h⊢
     have hb3:σ3.bad=none:=by
      cases hb3:σ3.bad with
      |none=>rfl
      |some a=>
       rw [AU (by rw [hb3];simp)]at h
       simp only at h
       rw [hb3]at h;exact absurd h (by simp)
     have c3:=bG hX [(⟨#[44]⟩:ByteArray)] (σ:=σ2) (by rw [h3];exact hb3)
     rw [h3]at c3
     have c2:=QJ hX (σ:=σ1) (by rw [hk];exact c3.1)
     rw [hk]at c2
     simp only at c2
     have hcb:(X.column σ l 10).2.bad=none:=by rw [hc];exact c2.1.1
     obtain ⟨s,g1,g2,g3,g4,g5⟩:=kN hX hcb
     rw [hc]at g1 g2
     simp only at g1 g2
     subst g1
     have hcc:=(g2.trans c2.1).trans c3
     have hlen:=congrArg List.length hcc.2
     simp only [List.length_append,List.length_cons,List.length_nil,List.length_map]at hlen
     obtain ⟨D,e1,e2,e3,e4,e5,e6⟩:=AV hX n σ3 (l++ [s]) (C++ [⟨(l++ [s]).getLastD ⟨#[]⟩,ty⟩]) (by rw [List.map_append,hl];simp) (by simp;omega) (by omega) h
     have hlast:(l++ [s]).getLastD ⟨#[]⟩=s:=by simp
     rw [hlast]at e1 e2 e3 h⊢
     refine ⟨⟨s,ty⟩::D,by rw [e1];simp,by rw [e2];simp, ?_, ?_,⟨g4,e5⟩,by simpa using e6⟩
     · have:=hcc.trans e3
       simpa [AP]using this
     · intro c hcm
       rcases List.mem_cons.1 hcm with rfl|hcm
       · exact ⟨g3,c2.2⟩
       · exact e4 c hcm
def uE (nm:ByteArray) (C:List Cl) (pk ck:ByteArray):List To:=
 [dW nm,aR (⟨#[40]⟩:ByteArray)]++C.flatMap AP++ [aR (⟨#[112,114,105,109,97,114,121]⟩:ByteArray),aR (⟨#[107,101,121]⟩:ByteArray),aR (⟨#[40]⟩:ByteArray),dW pk,aR (⟨#[44]⟩:ByteArray),dW ck,aR (⟨#[41]⟩:ByteArray),aR (⟨#[41]⟩:ByteArray)]
def kP (nm:ByteArray) (C:List Cl) (pk ck:ByteArray):Sx:=C.foldl (fun x c=>Tx.place x pk ck c) {Sx.zero with kind:=1,name:=nm,aW:=nm}
def pW (nm:ByteArray) (C:List Cl) (pk ck:ByteArray):Prop:=bH nm∧(∀c∈C,AQ c)∧nk [] (C.map Cl.name)∧C.length≤10∧pk∈C.map Cl.name∧ck∈C.map Cl.name∧ck≠pk
theorem VY (i:Nat):(X.F.drop i).length≤X.T.length:=by
 rw [List.length_drop];unfold Tx.F;rw [List.length_map];omega
theorem K7 (σ:Ps):(X.F.drop σ.i).length<X.T.length+1:=Nat.lt_succ_of_le (VY _)
theorem M4 (hX:X.Ok) {σ:Ps}(h:(X.table σ).2.bad=none):
 ∃nm C pk ck,(X.table σ).1=kP nm C pk ck∧mH X σ (uE nm C pk ck) (X.table σ).2∧pW nm C pk ck:=by
 unfold Tx.table at h⊢
 obtain ⟨⟨nm,WA⟩,g0⟩:∃r,X.name σ=r:=⟨_,rfl⟩
 obtain ⟨σ1,g1⟩:∃r,X.must WA [(⟨#[40]⟩:ByteArray)]=r:=⟨_,rfl⟩
 obtain ⟨⟨l,C,σ2⟩,g2⟩:∃r,X.gV (X.T.length+1) σ1 [] []=r:=⟨_,rfl⟩
 obtain ⟨σ3,g3⟩:∃r,X.must σ2 [(⟨#[107,101,121]⟩:ByteArray),(⟨#[40]⟩:ByteArray)]=r:=⟨_,rfl⟩
 obtain ⟨⟨pk,je⟩,g4⟩:∃r,X.one σ3 l ⟨#[]⟩=r:=⟨_,rfl⟩
 obtain ⟨lY,g5⟩:∃r,X.must je [(⟨#[44]⟩:ByteArray)]=r:=⟨_,rfl⟩
 obtain ⟨⟨ck,Jl⟩,g6⟩:∃r,X.one lY l pk=r:=⟨_,rfl⟩
 simp only [g0,g1,g2,g3,g4,g5,g6]at h⊢
 have c7:=bG hX _ h
 obtain ⟨c6,n6,m6,d6⟩:=EI hX (by rw [g6];exact c7.1)
 rw [g6]at c6 n6 m6 d6
 have c5:=bG hX _ (by rw [g5];exact c6.1)
 rw [g5]at c5
 obtain ⟨c4,n4,m4,d4⟩:=EI hX (by rw [g4];exact c5.1)
 rw [g4]at c4 n4 m4 d4
 have c3:=bG hX _ (by rw [g3];exact c4.1)
 rw [g3]at c3
 obtain ⟨D,e1,e2,e3,e4,e5,e6⟩:=AV hX (X.T.length+1) σ1 [] [] rfl (Nat.zero_le _) (K7 _) (by rw [g2];exact c3.1)
 rw [g2]at e1 e2 e3
 have c1:=bG hX _ (by rw [g1];exact e3.1)
 rw [g1]at c1
 obtain ⟨c0,n0⟩:=gq hX (by rw [g0];exact c1.1)
 rw [g0]at c0 n0
 simp only [List.nil_append]at e1 e2 e6
 subst e2
 simp only at m4 m6
 rw [e1]at m4 m6
 refine ⟨nm,C,pk,ck,rfl, ?_,n0,e4,e5,by simpa using e6,m4,m6,d6⟩
 have:=((((((c0.trans c1).trans e3).trans c3).trans c4).trans c5).trans c6).trans c7
 unfold uE
 simpa using this
def AX (nm:ByteArray) (aO:List ByteArray) (o on p q:ByteArray):List To:=
 [aR (⟨#[118,105,101,119]⟩:ByteArray),dW nm,aR (⟨#[97,115]⟩:ByteArray),aR (⟨#[115,101,108,101,99,116]⟩:ByteArray)]++qz aO++ [aR (⟨#[102,114,111,109]⟩:ByteArray),dW o,aR (⟨#[119,104,101,114,101]⟩:ByteArray),dW on,aR (⟨#[105,115]⟩:ByteArray),aR (⟨#[110,111,116]⟩:ByteArray),aR (⟨#[110,117,108,108]⟩:ByteArray),aR (⟨#[112,114,105,109,97,114,121]⟩:ByteArray),aR (⟨#[107,101,121]⟩:ByteArray),aR (⟨#[40]⟩:ByteArray),dW on,aR (⟨#[44]⟩:ByteArray),dW p,aR (⟨#[44]⟩:ByteArray),dW q,aR (⟨#[41]⟩:ByteArray)]
def tO (nm:ByteArray) (aO:List ByteArray) (o on p q:ByteArray):Sx:={Sx.zero with kind:=2,name:=nm,aO:=aO,bM:=o,on:=on,aP:= [⟨p,Tm.zero⟩,⟨q,Tm.zero⟩]}
def EJ (nm:ByteArray) (aO:List ByteArray) (o on p q:ByteArray):Prop:=bH nm∧mJ 8 aO∧bH o∧bH on∧bH p∧bH q
theorem QK (hX:X.Ok) {σ:Ps}(h:(X.view σ).2.bad=none):
 ∃nm aO o on p q,(X.view σ).1=tO nm aO o on p q∧mH X σ (AX nm aO o on p q) (X.view σ).2∧EJ nm aO o on p q:=by
 unfold Tx.view at h⊢
 simp only at h⊢
 have c1:=bG hX _ h
 obtain ⟨c2,n2⟩:=gq hX c1.1
 have c3:=bG hX _ c2.1
 obtain ⟨c4,n4⟩:=gq hX c3.1
 have c5:=bG hX _ c4.1
 obtain ⟨c6,n6,m6,d6⟩:=EI hX c5.1
 have c7:=bG hX _ c6.1
 obtain ⟨c8,n8⟩:=gq hX c7.1
 have c9:=bG hX _ c8.1
 obtain ⟨c10,n10⟩:=gq hX c9.1
 have c11:=bG hX _ c10.1
 obtain ⟨c12,n12⟩:=Gz hX c11.1
 have c13:=bG hX _ c12.1
 obtain ⟨c14,n14⟩:=gq hX c13.1
 have c15:=bG hX _ c14.1
 simp only [List.mem_cons,List.not_mem_nil,or_false]at m6
 rw [m6]at c6
 refine ⟨_,_,_,_,_,_,rfl, ?_,n14,n12,n10,n8,n4,n2⟩
 have:=(((((((((((((c15.trans c14).trans c13).trans c12).trans c11).trans c10).trans c9).trans c8).trans c7).trans c6).trans c5).trans c4).trans c3).trans c2).trans c1
 unfold AX
 simpa using this
def xK (nm o on:ByteArray):List To:= [aR (⟨#[105,110,100,101,120]⟩:ByteArray),dW nm,aR (⟨#[111,110]⟩:ByteArray),dW o,aR (⟨#[40]⟩:ByteArray),dW on,aR (⟨#[41]⟩:ByteArray)]
def xL (nm o on:ByteArray):Sx:={Sx.zero with kind:=3,name:=nm,bM:=o,on:=on}
theorem M5 (hX:X.Ok) {σ:Ps}(h:(X.index σ).2.bad=none):
 ∃nm o on,(X.index σ).1=xL nm o on∧mH X σ (xK nm o on) (X.index σ).2∧bH nm∧bH o∧bH on:=by
 unfold Tx.index at h⊢
 simp only at h⊢
 have c1:=bG hX _ h
 obtain ⟨c2,n2⟩:=gq hX c1.1
 have c3:=bG hX _ c2.1
 obtain ⟨c4,n4⟩:=gq hX c3.1
 have c5:=bG hX _ c4.1
 obtain ⟨c6,n6⟩:=gq hX c5.1
 have c7:=bG hX _ c6.1
 refine ⟨_,_,_,rfl, ?_,n6,n4,n2⟩
 exact (((((c7.trans c6).trans c5).trans c4).trans c3).trans c2).trans c1
def nO (l:List Tm):List To:=l.flatMap fun b=> [aR (⟨#[44]⟩:ByteArray),oz b]
def GA:List Tm→List To
 | []=> []
 |a::l=>oz a::nO l
theorem yT (hX:X.Ok):∀n σ l,(X.fE n σ l).2.bad=none→∃r,(X.fE n σ l).1=l++r∧mH X σ (nO r) (X.fE n σ l).2∧∀v∈r,nN v
 |0,σ,l,h=>⟨[],by simp [Tx.fE],mH.refl h,by simp⟩
 |n+1,σ,l,h=>by
  rw [Tx.fE]at h⊢
  split at h
  · rename_i hs
    rw [if_pos hs]
    simp only at h⊢
    obtain ⟨r,h1,h2,h3⟩:=yT hX n _ _ h
    obtain ⟨g1,g2⟩:=l5 hX h2.1
    refine ⟨_::r,by rw [h1,List.append_assoc];rfl,((dZ hX hs).trans g1).trans h2, ?_⟩
    intro v hv
    rcases List.mem_cons.1 hv with rfl|hv
    · exact g2
    · exact h3 v hv
  · rename_i hs
    rw [if_neg hs]
    exact ⟨[],by simp,mH.refl h,by simp⟩
def pX (o:ByteArray) (c:List ByteArray) (v:List Tm) (stamp ttl:Int):List To:=
 [aR (⟨#[105,110,116,111]⟩:ByteArray),dW o,aR (⟨#[40]⟩:ByteArray)]++oF c++ [aR (⟨#[41]⟩:ByteArray),aR (⟨#[118,97,108,117,101,115]⟩:ByteArray),aR (⟨#[40]⟩:ByteArray)]++GA v++ [aR (⟨#[41]⟩:ByteArray)]++jA stamp ttl
def ny (o:ByteArray) (c:List ByteArray) (v:List Tm) (stamp ttl:Int):Sx:={Sx.zero with kind:=5,bM:=o,sets:=List.zipWith Pr.mk c v,stamp:=stamp,ttl:=ttl}
def rH (o:ByteArray) (c:List ByteArray) (v:List Tm) (stamp ttl:Int):Prop:=bH o∧c≠ []∧mJ 10 c∧v.length=c.length∧(∀t∈v,nN t)∧nu true stamp ttl
theorem JK (hX:X.Ok) {σ:Ps}(h:(X.insert σ).2.bad=none):
 ∃o c v stamp ttl,(X.insert σ).1=ny o c v stamp ttl∧mH X σ (pX o c v stamp ttl) (X.insert σ).2∧rH o c v stamp ttl:=by
 unfold Tx.insert at h⊢
 obtain ⟨WA,e0⟩:∃r,X.must σ [(⟨#[105,110,116,111]⟩:ByteArray)]=r:=⟨_,rfl⟩
 obtain ⟨⟨o,σ1⟩,e1⟩:∃r,X.name WA=r:=⟨_,rfl⟩
 obtain ⟨σ2,e2⟩:∃r,X.must σ1 [(⟨#[40]⟩:ByteArray)]=r:=⟨_,rfl⟩
 obtain ⟨⟨c,σ3⟩,e3⟩:∃r,X.columns σ2 10=r:=⟨_,rfl⟩
 obtain ⟨je,e4⟩:∃r,X.must σ3 [(⟨#[41]⟩:ByteArray),(⟨#[118,97,108,117,101,115]⟩:ByteArray),(⟨#[40]⟩:ByteArray)]=r:=⟨_,rfl⟩
 obtain ⟨⟨v0,lY⟩,e5⟩:∃r,X.value je=r:=⟨_,rfl⟩
 obtain ⟨⟨v,Jl⟩,e6⟩:∃r,X.fE X.T.length lY [v0]=r:=⟨_,rfl⟩
 simp only [e0,e1,e2,e3,e4,e5,e6]at h⊢
 obtain ⟨stamp,ttl,x1,c1,u1⟩:=xJ hX (by exact ⟨rfl,rfl⟩) h
 rw [x1]
 have c2:=bG hX _ c1.1
 have hk:X.sees Jl (⟨#[41]⟩:ByteArray)=true∧v.length=c.length:=by
  have hh:=c1.1
  cases hq:X.sees Jl (⟨#[41]⟩:ByteArray)with
  |true=>
   refine ⟨rfl, ?_⟩
   by_cases hl:v.length=c.length
   · exact hl
   · exfalso
     rw [hq]at c2
     have:=c2.1
     rw [if_pos (by simpa using hl)]at this
     exact jR this
  |false=>
   exfalso
   rw [hq]at hh
   simp only [Bool.false_and,Bool.false_eq_true,if_false]at hh
   revert hh
   show (X.bV _ _).bad=none→False
   unfold Tx.bV
   rw [hq,if_neg (by decide)]
   exact jR
 have hif:(if (X.sees Jl (⟨#[41]⟩:ByteArray)&&v.length !=c.length)=true then X.fail Jl else Jl)=Jl:=by
  rw [if_neg]
  rw [hk.2];simp
 rw [hif]at c2 c1⊢
 obtain ⟨r,y3,c3,n3⟩:=yT hX X.T.length lY [v0] (by rw [e6];exact c2.1)
 rw [e6]at y3 c3
 obtain ⟨c4,n4⟩:=l5 hX (σ:=je) (by rw [e5];exact c3.1)
 rw [e5]at c4 n4
 have c5:=bG hX _ (by rw [e4];exact c4.1)
 rw [e4]at c5
 obtain ⟨m6,c6,n6⟩:=rG hX (by rw [e3];exact c5.1)
 rw [e3]at m6 c6 n6
 have c7:=bG hX _ (by rw [e2];exact c6.1)
 rw [e2]at c7
 obtain ⟨c8,n8⟩:=gq hX (by rw [e1];exact c7.1)
 rw [e1]at c8 n8
 have c9:=bG hX _ (by rw [e0];exact c8.1)
 rw [e0]at c9
 simp only at y3
 subst y3
 refine ⟨_,_,_,stamp,ttl,rfl, ?_,n8,m6,n6,hk.2, ?_,u1⟩
 · have:=(((((((c9.trans c8).trans c7).trans c6).trans c5).trans c4).trans c3).trans c2).trans c1
   unfold pX
   simpa [GA]using this
 · intro t ht
   simp only [List.cons_append,List.nil_append,List.mem_cons]at ht
   rcases ht with rfl|ht
   · exact n4
   · exact n3 t ht
def oH:List Pr→List To
 | []=> []
 |p::l=>pairT p++l.flatMap fun q=>aR (⟨#[44]⟩:ByteArray)::pairT q
theorem uF (p:Pr) (l:List Pr) (h:l≠ []):oH (p::l)=pairT p++aR (⟨#[44]⟩:ByteArray)::oH l:=by
 cases l with
 |nil=>exact absurd rfl h
 |cons q l=>simp [oH]
theorem Dg (hX:X.Ok):∀n σ l (Z:List Pr),Z.map Pr.name=l→l.length≤8→(X.F.drop σ.i).length<n→(X.ku n σ l Z).2.bad=none→
 ∃r:List Pr,r≠ []∧(X.ku n σ l Z).1=Z++r∧mH X σ (oH r) (X.ku n σ l Z).2∧(∀p∈r,j3 p)∧nk l (r.map Pr.name)∧(l++r.map Pr.name).length≤8
 |0,σ,l,Z,_,_,hn,_=>absurd hn (by omega)
 |n+1,σ,l,Z,hl,Yv,hn,h=>by
  have hcon:∀m σ' l' Z',0<m→(X.ku m σ' l' Z').2.bad=none→σ'.bad=none:=by
   intro m
   induction m with
   |zero=>intro σ' l' Z' hm;exact absurd hm (by omega)
   |succ m ih=>
    intro σ' l' Z' _ hh
    rw [Tx.ku]at hh
    try simp only at hh
    have hv:(X.value (X.must (X.column σ' l' 8).2 [(⟨#[61]⟩:ByteArray)])).2.bad=none:=by
     split at hh
     · rename_i hs;exact kM hs
     · exact hh
    obtain ⟨_,_,g2,_⟩:=kN hX (bG hX _ (l5 hX hv).1.1).1
    exact g2.1
  rw [Tx.ku]at h⊢
  try simp only at h⊢
  obtain ⟨⟨l1,σ1⟩,hc⟩:∃r,X.column σ l 8=r:=⟨_,rfl⟩
  obtain ⟨σ2,h2⟩:∃r,X.must σ1 [(⟨#[61]⟩:ByteArray)]=r:=⟨_,rfl⟩
  obtain ⟨⟨t,σ3⟩,h3⟩:∃r,X.value σ2=r:=⟨_,rfl⟩
  simp only [hc,h2,h3]at h⊢
  have hb3:σ3.bad=none:=by
   split at h
   · rename_i hs;exact kM hs
   · exact h
  have c3:=l5 hX (σ:=σ2) (by rw [h3];exact hb3)
  rw [h3]at c3
  have c2:=bG hX [(⟨#[61]⟩:ByteArray)] (σ:=σ1) (by rw [h2];exact c3.1.1)
  rw [h2]at c2
  have hcb:(X.column σ l 8).2.bad=none:=by rw [hc];exact c2.1
  obtain ⟨s,g1,g2,g3,g4,g5⟩:=kN hX hcb
  rw [hc]at g1 g2
  simp only at g1 g2
  subst g1
  have hlast:(l++ [s]).getLastD ⟨#[]⟩=s:=by simp
  rw [hlast]at h⊢
  have hcc:=(g2.trans c2).trans c3.1
  split at h
  · rename_i hs
    rw [if_pos hs]
    have hc4:=hcc.trans (dZ hX hs)
    have hlen:=congrArg List.length hc4.2
    simp only [List.length_append,List.length_cons,List.length_nil,List.length_map]at hlen
    obtain ⟨r,r0,r1,r2,r3,r4,r5⟩:=Dg hX n σ3.step (l++ [s]) (Z++ [⟨s,t⟩]) (by rw [List.map_append,hl];rfl) (by simp;omega) (by omega) h
    refine ⟨⟨s,t⟩::r,by simp,by rw [r1];simp, ?_, ?_,⟨g4,r4⟩,by simpa using r5⟩
    · rw [uF _ _ r0]
      have:=hc4.trans r2
      simpa [pairT]using this
    · intro p hp
      rcases List.mem_cons.1 hp with rfl|hp
      · exact ⟨g3,c3.2⟩
      · exact r3 p hp
  · rename_i hs
    rw [if_neg hs]
    refine ⟨[⟨s,t⟩],by simp,rfl, ?_, ?_,⟨g4,trivial⟩,by simp;omega⟩
    · simpa [oH,pairT]using hcc
    · intro p hp
      simp only [List.mem_cons,List.not_mem_nil,or_false]at hp
      subst hp
      exact ⟨g3,c3.2⟩
def pY (o:ByteArray) (stamp ttl:Int) (sets aP:List Pr):List To:= [dW o]++jA stamp ttl++ [aR (⟨#[115,101,116]⟩:ByteArray)]++oH sets++iI aP
def p8 (o:ByteArray) (stamp ttl:Int) (sets aP:List Pr):Sx:={Sx.zero with kind:=6,bM:=o,stamp:=stamp,ttl:=ttl,sets:=sets,aP:=aP}
def Xo (l:List Pr):Prop:=l≠ []∧(∀p∈l,j3 p)∧nk [] (l.map Pr.name)∧l.length≤8
def rJ (o:ByteArray) (stamp ttl:Int) (sets aP:List Pr):Prop:=bH o∧nu true stamp ttl∧Xo sets∧sI true aP
theorem JL (hX:X.Ok) {σ:Ps}(h:(X.update σ).2.bad=none):
 ∃o stamp ttl sets aP,(X.update σ).1=p8 o stamp ttl sets aP∧mH X σ (pY o stamp ttl sets aP) (X.update σ).2∧rJ o stamp ttl sets aP:=by
 unfold Tx.update at h⊢
 obtain ⟨⟨o,WA⟩,g0⟩:∃r,X.name σ=r:=⟨_,rfl⟩
 simp only [g0]at h⊢
 obtain ⟨⟨u,σ1⟩,g1⟩:∃r,X.using_ WA true {Sx.zero with kind:=6,bM:=o}=r:=⟨_,rfl⟩
 obtain ⟨σ2,g2⟩:∃r,X.must σ1 [(⟨#[115,101,116]⟩:ByteArray)]=r:=⟨_,rfl⟩
 obtain ⟨⟨Z,σ3⟩,g3⟩:∃r,X.ku (X.T.length+1) σ2 [] []=r:=⟨_,rfl⟩
 simp only [g1,g2,g3]at h⊢
 obtain ⟨c1,n1⟩:=xI hX h
 obtain ⟨r,r0,r1,r2,r3,r4,r5⟩:=Dg hX (X.T.length+1) σ2 [] [] rfl (Nat.zero_le _) (K7 _) (by rw [g3];exact c1.1)
 rw [g3]at r1 r2
 have c2:=bG hX _ (by rw [g2];exact r2.1)
 rw [g2]at c2
 obtain ⟨stamp,ttl,e3,c3,u3⟩:=xJ (x:={Sx.zero with kind:=6,bM:=o}) hX (by exact ⟨rfl,rfl⟩) (by rw [g1];exact c2.1)
 rw [g1]at e3 c3
 obtain ⟨c4,n4⟩:=gq hX (by rw [g0];exact c3.1)
 rw [g0]at c4 n4
 simp only [List.nil_append]at r1 r5
 simp only at e3
 subst r1 e3
 refine ⟨o,stamp,ttl,Z,_,rfl, ?_,n4,u3,⟨r0,r3,r4,by simpa using r5⟩,n1⟩
 have:=(((c4.trans c3).trans c2).trans r2).trans c1
 unfold pY
 simpa using this
def qb (aO:List ByteArray) (o:ByteArray) (stamp:Int) (aP:List Pr):List To:=oF aO++ [aR (⟨#[102,114,111,109]⟩:ByteArray),dW o]++jA stamp 0++iI aP
def qd (aO:List ByteArray) (o:ByteArray) (stamp:Int) (aP:List Pr):Sx:={Sx.zero with kind:=7,aO:=aO,bM:=o,stamp:=stamp,aP:=aP}
def rM (aO:List ByteArray) (o:ByteArray) (stamp:Int) (aP:List Pr):Prop:=mJ 8 aO∧bH o∧nu false stamp 0∧sI false aP
theorem JM (hX:X.Ok) {σ:Ps}(h:(X.remove σ).2.bad=none):
 ∃aO o stamp aP,(X.remove σ).1=qd aO o stamp aP∧mH X σ (qb aO o stamp aP) (X.remove σ).2∧rM aO o stamp aP:=by
 unfold Tx.remove at h⊢
 simp only at h⊢
 obtain ⟨c1,n1⟩:=xI hX h
 obtain ⟨stamp,ttl,e3,c3,u3⟩:=xJ hX (by exact ⟨rfl,rfl⟩) c1.1
 have ht:ttl=0:=by
  rcases u3.2 with ht|⟨ht,_⟩
  · exact ht
  · exact absurd ht (by decide)
 subst ht
 obtain ⟨c4,n4⟩:=gq hX c3.1
 have c5:=bG hX _ c4.1
 have c6:∃aO,(if X.sees σ (⟨#[102,114,111,109]⟩:ByteArray)=true then ([],σ)else X.columns σ 8).1=aO∧mH X σ (oF aO) (if X.sees σ (⟨#[102,114,111,109]⟩:ByteArray)=true then ([],σ)else X.columns σ 8).2∧mJ 8 aO:=by
  have hb:=c5.1
  split at hb
  · rename_i hs
    rw [if_pos hs]
    exact ⟨_,rfl,mH.refl hb,by simp,trivial,by simp⟩
  · rename_i hs
    rw [if_neg hs]
    obtain ⟨_,a,b⟩:=rG hX hb
    exact ⟨_,rfl,a,b⟩
 obtain ⟨aO,e6,c6,n6⟩:=c6
 refine ⟨aO,_,stamp,_,by rw [e3,e6];rfl, ?_,n6,n4,u3,n1⟩
 have:=(((c6.trans c5).trans c4).trans c3).trans c1
 unfold qb
 simpa using this
def uG (n:Int):List To:=if n=0 then []else [aR (⟨#[108,105,109,105,116]⟩:ByteArray),xH n]
def GD (aO:List ByteArray) (o:ByteArray) (aP:List Pr) (limit:Int):List To:=qz aO++ [aR (⟨#[102,114,111,109]⟩:ByteArray),dW o]++iI aP++uG limit
def JN (aO:List ByteArray) (o:ByteArray) (aP:List Pr) (limit:Int):Sx:={Sx.zero with kind:=8,aO:=aO,bM:=o,aP:=aP,limit:=limit}
def GH (aO:List ByteArray) (o:ByteArray) (aP:List Pr) (limit:Int):Prop:=mJ 8 aO∧bH o∧sI false aP∧(limit=0∨jK limit)
theorem Uh (hX:X.Ok) {σ:Ps}(h:(X.ask σ).2.bad=none):
 ∃aO o aP limit,(X.ask σ).1=JN aO o aP limit∧mH X σ (GD aO o aP limit) (X.ask σ).2∧GH aO o aP limit:=by
 unfold Tx.ask at h⊢
 simp only at h⊢
 have go:∀{je:Ps} {L:List To},mH X (X.aP (X.name (X.must (X.some_ σ).2 [(⟨#[102,114,111,109]⟩:ByteArray)])).2 false).2 L je→mH X σ (qz (X.some_ σ).1++ [aR (⟨#[102,114,111,109]⟩:ByteArray),dW (X.name (X.must (X.some_ σ).2 [(⟨#[102,114,111,109]⟩:ByteArray)])).1]++iI (X.aP (X.name (X.must (X.some_ σ).2 [(⟨#[102,114,111,109]⟩:ByteArray)])).2 false).1++L) je∧mJ 8 (X.some_ σ).1∧bH (X.name (X.must (X.some_ σ).2 [(⟨#[102,114,111,109]⟩:ByteArray)])).1∧sI false (X.aP (X.name (X.must (X.some_ σ).2 [(⟨#[102,114,111,109]⟩:ByteArray)])).2 false).1:=by
  intro je L hc
  obtain ⟨c1,n1⟩:=xI hX hc.1
  obtain ⟨c2,n2⟩:=gq hX c1.1
  have c3:=bG hX _ c2.1
  obtain ⟨c4,n4⟩:=Gz hX c3.1
  refine ⟨?_,n4,n2,n1⟩
  have:=(((c4.trans c3).trans c2).trans c1).trans hc
  simpa using this
 split at h
 · rename_i hs
   rw [if_pos hs]
   simp only at h⊢
   obtain ⟨c0,n0⟩:=oD hX h
   obtain ⟨g1,g2,g3,g4⟩:=go ((dZ hX hs).trans c0)
   refine ⟨_,_,_,_,rfl, ?_,g2,g3,g4, .inr n0⟩
   unfold GD uG
   rw [if_neg (mK n0)]
   exact g1
 · rename_i hs
   rw [if_neg hs]
   obtain ⟨g1,g2,g3,g4⟩:=go (mH.refl h)
   refine ⟨_,_,_,0,rfl, ?_,g2,g3,g4, .inl rfl⟩
   unfold GD uG
   rw [if_pos rfl]
   exact g1
inductive GC:Sx→List To→Prop
 |insert (o:ByteArray) (c:List ByteArray) (v:List Tm) (stamp ttl:Int) (h:rH o c v stamp ttl):GC (ny o c v stamp ttl) (aR (⟨#[105,110,115,101,114,116]⟩:ByteArray)::pX o c v stamp ttl)
 |update (o:ByteArray) (stamp ttl:Int) (sets aP:List Pr) (h:rJ o stamp ttl sets aP):GC (p8 o stamp ttl sets aP) (aR (⟨#[117,112,100,97,116,101]⟩:ByteArray)::pY o stamp ttl sets aP)
 |remove (aO:List ByteArray) (o:ByteArray) (stamp:Int) (aP:List Pr) (h:rM aO o stamp aP):GC (qd aO o stamp aP) (aR (⟨#[100,101,108,101,116,101]⟩:ByteArray)::qb aO o stamp aP)
inductive GP:Sx→List To→Prop
 |table (nm:ByteArray) (C:List Cl) (pk ck:ByteArray) (h:pW nm C pk ck):GP (kP nm C pk ck) (aR (⟨#[99,114,101,97,116,101]⟩:ByteArray)::aR (⟨#[116,97,98,108,101]⟩:ByteArray)::uE nm C pk ck)
 |view (nm:ByteArray) (aO:List ByteArray) (o on p q:ByteArray) (h:EJ nm aO o on p q):GP (tO nm aO o on p q) (aR (⟨#[99,114,101,97,116,101]⟩:ByteArray)::aR (⟨#[109,97,116,101,114,105,97,108,105,122,101,100]⟩:ByteArray)::AX nm aO o on p q)
 |index (nm o on:ByteArray) (h:bH nm∧bH o∧bH on):GP (xL nm o on) (aR (⟨#[99,114,101,97,116,101]⟩:ByteArray)::xK nm o on)
 |drop (nm:ByteArray) (h:bH nm):GP {Sx.zero with kind:=4,name:=nm} [aR (⟨#[100,114,111,112]⟩:ByteArray),dW nm]
 |ask (aO:List ByteArray) (o:ByteArray) (aP:List Pr) (limit:Int) (h:GH aO o aP limit):GP (JN aO o aP limit) (aR (⟨#[115,101,108,101,99,116]⟩:ByteArray)::GD aO o aP limit)
inductive GB:List Sx→List To→Prop
 |nil:GB [] []
 |cons {x:Sx} {L:List To} {l:List Sx} {M:List To} (h:GC x L) (h' :GB l M):GB (x::l) (L++aR (⟨#[59]⟩:ByteArray)::M)
inductive GN:Tx.Nd→List To→Prop
 |plain {x:Sx} {L:List To} (h:GP x L):GN (.plain x) L
 |change {x:Sx} {L:List To} (h:GC x L):GN (.change x) L
 |batch {l:List Sx} {L:List To} (h:GB l L) (h1:l≠ []) (h2:l.length≤8):GN (.batch l) ([aR (⟨#[98,101,103,105,110]⟩:ByteArray),aR (⟨#[98,97,116,99,104]⟩:ByteArray)]++L++ [aR (⟨#[97,112,112,108,121]⟩:ByteArray),aR (⟨#[98,97,116,99,104]⟩:ByteArray)])
theorem Dh {st:Ps→Tx.Nd×Ps}{σ:Ps}(h:σ.bad≠none) (n:Nat) (l:List Sx):X.iT st n σ l=(l,σ):=by
 cases n with
 |zero=>rfl
 |succ n=>
  rw [Tx.iT]
  cases hb:σ.bad with
  |none=>exact absurd hb h
  |some a=>simp
theorem Di (hX:X.Ok) {st:Ps→Tx.Nd×Ps}(hst:∀σ x σ',st σ=(.change x,σ')→σ'.bad=none→∃L,GC x L∧mH X σ L σ'):∀n σ l,10≤l.length+n→l.length≤8→(X.iT st n σ l).2.bad=none→
 ∃D M,(X.iT st n σ l).1=l++D∧GB D M∧mH X σ (M++ [aR (⟨#[97,112,112,108,121]⟩:ByteArray)]) (X.iT st n σ l).2∧(l++D).length≤8∧l++D≠ []
 |0,σ,l,h1,h2,_=>absurd h1 (by omega)
 |n+1,σ,l,h1,h2,h=>by
  cases hb:σ.bad with
  |some a=>
   exfalso
   rw [Dh (by rw [hb];simp)]at h
   simp only at h
   rw [hb]at h;exact absurd h (by simp)
  |none=>
   rw [Tx.iT,hb]at h⊢
   simp only [Option.isSome_none,Bool.false_eq_true,if_false]at h⊢
   split at h
   · rename_i hs
     rw [if_pos hs]
     simp only [Bool.and_eq_true,Bool.not_eq_true']at hs
     refine ⟨[], [],by simp, .nil,dZ hX hs.2,by simpa using h2, ?_⟩
     intro e
     rw [List.append_nil]at e
     rw [e]at hs;exact absurd hs.1 (by decide)
   · rename_i hs
     rw [if_neg hs]
     obtain ⟨⟨nd,σ1⟩,h3⟩:∃r,st (if 8≤l.length then σ.wrong (X.here σ)else σ)=r:=⟨_,rfl⟩
     simp only [h3]at h⊢
     cases nd with
     |plain x=>exact absurd h (by simp)
     |batch x=>exact absurd h (by simp)
     |change x=>
      simp only at h⊢
      have hb2:(X.must σ1 [(⟨#[59]⟩:ByteArray)]).bad=none:=by
       cases hb2:(X.must σ1 [(⟨#[59]⟩:ByteArray)]).bad with
       |none=>rfl
       |some a=>
        rw [Dh (by rw [hb2];simp)]at h
        simp only at h
        rw [hb2]at h;exact absurd h (by simp)
      have c2:=bG hX _ hb2
      obtain ⟨L,hG,c1⟩:=hst _ _ _ h3 c2.1
      obtain ⟨k1,k2⟩:=oC c1.1
      rw [k2]at c1
      obtain ⟨D,M,d1,d2,d3,d4,d5⟩:=Di hX hst n _ (l++ [x]) (by simp;omega) (by simp;omega) h
      refine ⟨x::D,L++aR (⟨#[59]⟩:ByteArray)::M,by rw [d1];simp, .cons hG d2, ?_,by simpa using d4,by simp⟩
      have:=(c1.trans c2).trans d3
      simpa using this
theorem GI (hX:X.Ok) (n:Nat) (hst:∀σ x σ',X.iq n σ=(.change x,σ')→σ'.bad=none→∃L,GC x L∧mH X σ L σ') (σ:Ps) (h:(X.iq (n+1) σ).2.bad=none):∃L,GN (X.iq (n+1) σ).1 L∧mH X σ L (X.iq (n+1) σ).2:=by
 rw [Tx.iq]at h⊢
 split at h
 · rename_i hs
   rw [if_pos hs]
   obtain ⟨o,c,v,a,b,e,hc,ho⟩:=JK hX h
   simp only [e]
   exact ⟨_, .change (.insert o c v a b ho),(dZ hX hs).trans hc⟩
 rename_i hs;rw [if_neg hs];clear hs
 split at h
 · rename_i hs
   rw [if_pos hs]
   obtain ⟨o,c,v,a,b,e,hc,ho⟩:=JL hX h
   simp only [e]
   exact ⟨_, .change (.update o c v a b ho),(dZ hX hs).trans hc⟩
 rename_i hs;rw [if_neg hs];clear hs
 split at h
 · rename_i hs
   rw [if_pos hs]
   obtain ⟨o,c,v,a,e,hc,ho⟩:=JM hX h
   simp only [e]
   exact ⟨_, .change (.remove o c v a ho),(dZ hX hs).trans hc⟩
 rename_i hs;rw [if_neg hs];clear hs
 split at h
 · rename_i hs
   rw [if_pos hs]
   obtain ⟨o,c,v,a,e,hc,ho⟩:=Uh hX h
   simp only [e]
   exact ⟨_, .plain (.ask o c v a ho),(dZ hX hs).trans hc⟩
 rename_i hs;rw [if_neg hs];clear hs
 split at h
 · rename_i hs
   rw [if_pos hs]
   unfold Tx.many at h⊢
   simp only at h⊢
   have c3:=bG hX _ h
   obtain ⟨D,M,d1,d2,d3,d4,d5⟩:=Di hX hst 10 _ [] (by simp) (by simp) c3.1
   have c1:=bG hX _ d3.1
   rw [List.nil_append]at d1 d4 d5
   rw [d1]
   refine ⟨_, .batch d2 d5 d4, ?_⟩
   have:=(((dZ hX hs).trans c1).trans d3).trans c3
   simpa using this
 rename_i hs;rw [if_neg hs];clear hs
 split at h
 · rename_i hs
   rw [if_pos hs]
   obtain ⟨hc,ho⟩:=gq hX h
   exact ⟨_, .plain (.drop _ ho),(dZ hX hs).trans hc⟩
 rename_i hs;rw [if_neg hs];clear hs
 split at h
 · rename_i hs
   rw [if_pos hs]
   split at h
   · rename_i ht
     rw [if_pos ht]
     obtain ⟨o,c,v,a,e,hc,ho⟩:=M4 hX h
     simp only [e]
     exact ⟨_, .plain (.table o c v a ho),((dZ hX hs).trans (dZ hX ht)).trans hc⟩
   rename_i ht;rw [if_neg ht];clear ht
   split at h
   · rename_i ht
     rw [if_pos ht]
     obtain ⟨o,c,v,a,p,q,e,hc,ho⟩:=QK hX h
     simp only [e]
     exact ⟨_, .plain (.view o c v a p q ho),((dZ hX hs).trans (dZ hX ht)).trans hc⟩
   rename_i ht;rw [if_neg ht];clear ht
   obtain ⟨o,c,v,e,hc,ho⟩:=M5 hX h
   simp only [e]
   exact ⟨_, .plain (.index o c v ho),(dZ hX hs).trans hc⟩
 exact absurd h jR
theorem Ui (hX:X.Ok):∀n σ,(X.iq (n+1) σ).2.bad=none→∃L,GN (X.iq (n+1) σ).1 L∧mH X σ L (X.iq (n+1) σ).2:=by
 intro n
 induction n with
 |zero=>
  exact GI hX 0 (by intro σ x σ' h;rw [Tx.iq]at h;cases h)
 |succ n ih=>
  refine GI hX (n+1) (fun σ x σ' h hb=> ?_)
  obtain ⟨L,h1,h2⟩:=ih σ (by rw [h];exact hb)
  rw [h]at h1 h2
  cases h1 with
  |change hG=>exact ⟨L,hG,h2⟩
end
section
variable {X:Tx}
def gL (X:Tx) (σ:Ps) (L:List To):Prop:=σ.bad=none∧X.F.drop σ.i=L
theorem gL.step {σ:Ps}{t:To}{L:List To}(h:gL X σ (t::L)):gL X σ.step L:=⟨h.1,Df h.2⟩
theorem gL.sees {σ:Ps}{L:List To}(h:gL X σ L) (s:ByteArray):X.sees σ s=jD L s:=by rw [QH h.1,h.2]
theorem gL.get {σ:Ps}{t:To}{L:List To}(h:gL X σ (t::L)):∃u,X.T[σ.i]? =some u∧u.fo=t:=by
 cases hx:X.T[σ.i]? with
 |none=>have:=h.2;rw [Dc hx]at this;exact absurd this (by simp)
 |some u=>
  have:=h.2
  rw [xG hx]at this
  injection this with h1 _
  exact ⟨u,rfl,h1⟩
theorem gL.len {σ:Ps}{L:List To}(h:gL X σ L):L.length≤X.T.length:=by rw [←h.2];exact VY _
theorem aQ (a s:ByteArray) (R:List To):jD (aR a::R) s=iW a s:=by
 unfold jD aR
 cases qI a vW<;>simp
theorem Uj (a s:ByteArray) (R:List To):jD (dW a::R) s=iW a s:=by unfold jD dW;simp
def kwB (w:ByteArray):Bool:=Eo w||qI w vW
theorem Uk {s w:ByteArray}(h:bH s) (hw:kwB w=true):iW s w=false:=by
 cases hb:iW s w with
 |false=>rfl
 |true=>
  have:=dY.1 hb
  subst this
  unfold kwB at hw
  rw [h.2.2.2,uD h.1]at hw
  exact absurd hw (by decide)
theorem uH {s w:ByteArray}(h:bH s) (hw:kwB w=true) (R:List To):jD (dW s::R) w=false:=by rw [Uj,Uk h hw]
theorem QL {σ:Ps}{s:ByteArray}{R:List To}(h:gL X σ (aR s::R)):gL X (X.bV σ s) R:=by
 unfold Tx.bV
 rw [if_pos (by rw [h.sees,aQ];exact dY.2 rfl)]
 exact h.step
theorem bW:∀(l:List ByteArray) {σ:Ps}{R:List To}(_:gL X σ (l.map aR++R)),gL X (X.must σ l) R
 | [],_,_,h=>h
 |s::l,σ,_R,h=>bW l (σ:=X.bV σ s) (QL h)
theorem gX {σ:Ps}{s:ByteArray}{R:List To}(h:gL X σ (dW s::R)) (hn:bH s):(X.name σ).1=s∧gL X (X.name σ).2 R:=by
 obtain ⟨u,hu,hf⟩:=h.get
 unfold Tk.fo dW at hf
 injection hf with h1 h2
 injection h2 with h2 h3
 have hx:X.next σ 1=some u:=by unfold Tx.next;rw [h.1,hu];simp [h1]
 unfold Tx.name
 rw [hx]
 simp only
 rw [h2,hn.2.2.2]
 exact ⟨rfl,h.step⟩
theorem oI {σ:Ps}{t:Tm}{R:List To}(h:gL X σ (oz t::R)) (hn:nN t):(X.value σ).1=t∧gL X (X.value σ).2 R:=by
 obtain ⟨u,hu,hf⟩:=h.get
 unfold Tk.fo oz at hf
 unfold Tx.value
 rcases hn with ⟨a,b,c,d⟩|⟨a,b,c,d⟩
 · rw [if_pos a]at hf
   injection hf with h1 h2
   injection h2 with h2 h3
   have hx:X.next σ 3=some u:=by unfold Tx.next;rw [h.1,hu];simp [h1]
   rw [hx]
   refine ⟨?_,h.step⟩
   cases t;simp only at a d h2;subst a d h2;rfl
 · rw [if_neg (by rw [a];decide)]at hf
   injection hf with h1 h2
   injection h2 with h2 h3
   have hx3:X.next σ 3=none:=by unfold Tx.next;rw [h.1,hu];simp [h1]
   have hx:X.next σ 2=some u:=by unfold Tx.next;rw [h.1,hu];simp [h1]
   rw [hx3,hx]
   refine ⟨?_,h.step⟩
   cases t;simp only at a b h3;subst a b h3;rfl
theorem rO {σ:Ps}{n:Int}{R:List To}(h:gL X σ (xH n::R)) (hn:jK n):(X.count σ).1=n∧gL X (X.count σ).2 R:=by
 have ht:nN ⟨2,⟨#[]⟩,n⟩:= .inr ⟨rfl,rfl,by have:=hn.1;show _≤n;omega,hn.2⟩
 obtain ⟨h1,h2⟩:=oI (t:=⟨2,⟨#[]⟩,n⟩) (by unfold oz;rw [if_neg (show¬((2:Int)=1)by decide)];exact h) ht
 unfold Tx.count
 simp only
 rw [h1]
 refine ⟨rfl, ?_⟩
 rw [if_neg]
 · exact h2
 · have:=hn.1;have:=hn.2
   simp only [not_or,Decidable.not_not]
   refine ⟨trivial, ?_, ?_⟩<;>omega
theorem oJ {σ:Ps}{s:ByteArray}{R:List To}{l:List ByteArray}{most:Nat}(h:gL X σ (dW s::R)) (hn:bH s) (hd:qI s l=false) (hm:l.length<most):
 (X.column σ l most).1=l++ [s]∧gL X (X.column σ l most).2 R:=by
 unfold Tx.column
 simp only
 rw [if_neg (by omega)]
 obtain ⟨h1,h2⟩:=gX h hn
 rw [h1,hd]
 exact ⟨rfl,h2⟩
theorem yU (most:Nat):∀(r:List ByteArray) (n:Nat) (σ:Ps) (l:List ByteArray) (R:List To),r.length≤n→gL X σ (mI r++R)→jD R (⟨#[44]⟩:ByteArray)=false→(∀s∈r,bH s)→nk l r→(l++r).length≤most→
 (X.dA most n σ l).1=l++r∧gL X (X.dA most n σ l).2 R
 | [],0,σ,l,R,_,h,_,_,_,_=>⟨by simp [Tx.dA],h⟩
 | [],n+1,σ,l,R,_,h,hR,_,_,_=>by
  rw [Tx.dA,if_neg (by rw [h.sees];simp [mI,hR])]
  exact ⟨by simp,h⟩
 |s::r,0,_,_,_,hn,_,_,_,_,_=>absurd hn (by simp)
 |s::r,n+1,σ,l,R,hn,h,hR,hok,hd,hm=>by
  replace h:gL X σ (aR (⟨#[44]⟩:ByteArray)::dW s::(mI r++R)):=by simpa [mI]using h
  rw [Tx.dA,if_pos (by rw [h.sees,aQ];rfl)]
  simp only
  obtain ⟨h1,h2⟩:=oJ (most:=most) (l:=l) h.step (hok s (List.mem_cons_self ..)) hd.1 (by simp at hm;omega)
  rw [h1]
  obtain ⟨h3,h4⟩:=yU most r n _ (l++ [s]) R (by simpa using hn) h2 hR (fun x hx=>hok x (List.mem_cons_of_mem _ hx)) hd.2 (by simpa using hm)
  exact ⟨by rw [h3];simp,h4⟩
theorem JO (r:List ByteArray):(mI r).length=2*r.length:=by
 induction r with
 |nil=>rfl
 |cons a r ih=>unfold mI at ih⊢;rw [List.flatMap_cons,List.length_append,ih];simp;omega
theorem uI {σ:Ps}{c:List ByteArray}{R:List To}{most:Nat}(hne:c≠ []) (hok:mJ most c) (h:gL X σ (oF c++R)) (hR:jD R (⟨#[44]⟩:ByteArray)=false):(X.columns σ most).1=c∧gL X (X.columns σ most).2 R:=by
 cases c with
 |nil=>exact absurd rfl hne
 |cons a c=>
  obtain ⟨h0,hd,hm⟩:=hok
  have hl:=h.len
  simp only [oF,List.length_append,List.length_cons,JO]at hl
  replace h:gL X σ (dW a::(mI c++R)):=h
  obtain ⟨h1,h2⟩:=oJ (most:=most) (l:= []) h (h0 a (List.mem_cons_self ..)) rfl (by simp at hm⊢;omega)
  unfold Tx.columns
  simp only
  rw [h1]
  obtain ⟨h3,h4⟩:=yU most c X.T.length _ [a] R (by omega) h2 hR (fun x hx=>h0 x (List.mem_cons_of_mem _ hx)) hd.2 (by simpa using hm)
  exact ⟨by rw [List.nil_append,h3];rfl,h4⟩
theorem K8 {σ:Ps}{c:List ByteArray}{R:List To}(hok:mJ 8 c) (h:gL X σ (qz c++R)) (hR:jD R (⟨#[44]⟩:ByteArray)=false):(X.some_ σ).1=c∧gL X (X.some_ σ).2 R:=by
 unfold Tx.some_
 unfold qz at h
 by_cases hc:c= []
 · subst hc
   rw [if_pos rfl]at h
   replace h:gL X σ (aR (⟨#[42]⟩:ByteArray)::R):=h
   rw [if_pos (by rw [h.sees,aQ];rfl)]
   exact ⟨rfl,h.step⟩
 · rw [if_neg hc]at h
   rw [if_neg]
   · exact uI hc hok h hR
   · rw [h.sees]
     cases c with
     |nil=>exact absurd rfl hc
     |cons a c=>
      rw [show oF (a::c)++R=dW a::(mI c++R)from rfl,uH (hok.1 a (List.mem_cons_self ..)) (by decide+kernel)]
      decide
theorem vY {σ:Ps}{p:Pr}{R:List To}(h:gL X σ (pairT p++R)) (hp:j3 p):(X.equal σ).1=p∧gL X (X.equal σ).2 R:=by
 replace h:gL X σ (dW p.name::aR (⟨#[61]⟩:ByteArray)::oz p.t::R):=h
 obtain ⟨h1,h2⟩:=gX h hp.1
 have h3:=bW [(⟨#[61]⟩:ByteArray)] h2
 obtain ⟨h4,h5⟩:=oI h3 hp.2
 unfold Tx.equal
 simp only
 rw [h1,h4]
 exact ⟨rfl,h5⟩
theorem vZ {σ:Ps}{both:Bool}{l:List Pr}{R:List To}(hok:sI both l) (h:gL X σ (iI l++R)) (hR:jD R (⟨#[97,110,100]⟩:ByteArray)=false):(X.aP σ both).1=l∧gL X (X.aP σ both).2 R:=by
 obtain ⟨h0,hl⟩:=hok
 unfold Tx.aP
 simp only
 rcases hl with hl|⟨hb,hl⟩
 · obtain ⟨p,q,rfl⟩:∃p q,l= [p,q]:=by
    match l,hl with
    | [p,q],_=>exact ⟨p,q,rfl⟩
   replace h:gL X σ ([(⟨#[119,104,101,114,101]⟩:ByteArray)].map aR++(pairT p++(aR (⟨#[97,110,100]⟩:ByteArray)::(pairT q++R)))):=by simpa [iI]using h
   have h1:=bW _ h
   obtain ⟨h2,h3⟩:=vY h1 (h0 p (by simp))
   have h4:=h3.step
   have h5:=bW [(⟨#[97,110,100]⟩:ByteArray)] h3
   cases both with
   |true=>
    rw [if_pos rfl]
    obtain ⟨h6,h7⟩:=vY h5 (h0 q (by simp))
    exact ⟨by rw [h2,h6],h7⟩
   |false=>
    rw [if_neg (by decide),if_pos (by rw [h3.sees,aQ];rfl)]
    obtain ⟨h6,h7⟩:=vY h4 (h0 q (by simp))
    exact ⟨by rw [h2,h6],h7⟩
 · subst hb
   obtain ⟨p,rfl⟩:∃p,l= [p]:=by
    match l,hl with
    | [p],_=>exact ⟨p,rfl⟩
   replace h:gL X σ ([(⟨#[119,104,101,114,101]⟩:ByteArray)].map aR++(pairT p++R)):=by simpa [iI]using h
   have h1:=bW _ h
   obtain ⟨h2,h3⟩:=vY h1 (h0 p (by simp))
   rw [if_neg (by decide),if_neg (by rw [h3.sees,hR];decide)]
   exact ⟨by rw [h2],h3⟩
theorem AY {σ:Ps}{b:Bool}{x:Sx}(hx:x.stamp=0∧x.ttl=0) {stamp ttl:Int}{R:List To}(hok:nu b stamp ttl) (h:gL X σ (jA stamp ttl++R)) (hR:jD R (⟨#[117,115,105,110,103]⟩:ByteArray)=false) (hR2:jD R (⟨#[97,110,100]⟩:ByteArray)=false):
 (X.using_ σ b x).1={x with stamp:=stamp,ttl:=ttl}∧gL X (X.using_ σ b x).2 R:=by
 obtain ⟨hs,ht⟩:=hok
 unfold jA at h
 unfold Tx.using_
 simp only
 by_cases hs0:stamp=0
 · rw [if_pos hs0]at h
   by_cases ht0:ttl=0
   · rw [if_pos ht0]at h
     rw [if_neg (by rw [h.sees];simp [hR])]
     refine ⟨?_,h⟩
     have h1:=hx.1
     have h2:=hx.2
     cases x
     simp only at h1 h2
     subst h1 h2 hs0 ht0
     rfl
   · rw [if_neg ht0]at h
     obtain ⟨hb,hc⟩:b=true∧jK ttl:=by rcases ht with ht|ht;exact absurd ht ht0;exact ht
     replace h:gL X σ (aR (⟨#[117,115,105,110,103]⟩:ByteArray)::aR (⟨#[116,116,108]⟩:ByteArray)::xH ttl::R):=h
     have h1:=h.step
     have h2:=h1.step
     obtain ⟨h3,h4⟩:=rO h2 hc
     rw [if_pos (by rw [h.sees,aQ];rfl),if_pos (by rw [h1.sees,aQ,hb];rfl)]
     exact ⟨by rw [h3,hs0,←hx.1],h4⟩
 · rw [if_neg hs0]at h
   have hsc:jK stamp:=by rcases hs with hs|hs;exact absurd hs hs0;exact hs
   by_cases ht0:ttl=0
   · rw [if_pos ht0]at h
     replace h:gL X σ (aR (⟨#[117,115,105,110,103]⟩:ByteArray)::aR (⟨#[116,105,109,101,115,116,97,109,112]⟩:ByteArray)::xH stamp::R):=h
     have h1:=h.step
     have h2:=bW [(⟨#[116,105,109,101,115,116,97,109,112]⟩:ByteArray)] h1
     obtain ⟨h3,h4⟩:=rO h2 hsc
     rw [if_pos (by rw [h.sees,aQ];rfl),if_neg (by rw [h1.sees,aQ,show iW (⟨#[116,105,109,101,115,116,97,109,112]⟩:ByteArray) (⟨#[116,116,108]⟩:ByteArray)=false by decide,Bool.and_false];decide),if_neg (by rw [h4.sees,hR2,Bool.and_false];decide)]
     exact ⟨by rw [h3,ht0,←hx.2],h4⟩
   · rw [if_neg ht0]at h
     obtain ⟨hb,hc⟩:b=true∧jK ttl:=by rcases ht with ht|ht;exact absurd ht ht0;exact ht
     replace h:gL X σ (aR (⟨#[117,115,105,110,103]⟩:ByteArray)::aR (⟨#[116,105,109,101,115,116,97,109,112]⟩:ByteArray)::xH stamp::aR (⟨#[97,110,100]⟩:ByteArray)::aR (⟨#[116,116,108]⟩:ByteArray)::xH ttl::R):=h
     have h1:=h.step
     have h2:=bW [(⟨#[116,105,109,101,115,116,97,109,112]⟩:ByteArray)] h1
     obtain ⟨h3,h4⟩:=rO h2 hsc
     have h5:=bW [(⟨#[116,116,108]⟩:ByteArray)] h4.step
     obtain ⟨h6,h7⟩:=rO h5 hc
     rw [if_pos (by rw [h.sees,aQ];rfl),if_neg (by rw [h1.sees,aQ,show iW (⟨#[116,105,109,101,115,116,97,109,112]⟩:ByteArray) (⟨#[116,116,108]⟩:ByteArray)=false by decide,Bool.and_false];decide),if_pos (by rw [h4.sees,aQ,hb];rfl)]
     exact ⟨by rw [h3,h6],h7⟩
theorem JQ {σ:Ps}{s:ByteArray}{R:List To}{l:List ByteArray}{but:ByteArray}(h:gL X σ (dW s::R)) (hn:bH s) (hl:s∈l) (hb:s≠but):(X.one σ l but).1=s∧gL X (X.one σ l but).2 R:=by
 obtain ⟨h1,h2⟩:=gX h hn
 unfold Tx.one
 simp only
 rw [h1]
 have e1:=jI.2 hl
 have e2:iW s but=false:=by
  cases hq:iW s but with
  |false=>rfl
  |true=>exact absurd (dY.1 hq) hb
 rw [e1,e2]
 exact ⟨rfl,h2⟩
theorem Ul {σ:Ps}{ty:Int}{R:List To}(h:gL X σ (yS ty::R)) (ht:ty=1∨ty=2):(X.kind σ).1=ty∧gL X (X.kind σ).2 R:=by
 unfold Tx.kind
 unfold yS at h
 rcases ht with rfl|rfl
 · rw [if_pos rfl]at h
   rw [if_pos (by rw [h.sees,aQ];rfl)]
   exact ⟨rfl,h.step⟩
 · rw [if_neg (by decide)]at h
   rw [if_neg (by rw [h.sees,aQ];decide)]
   exact ⟨rfl,bW [(⟨#[105,110,116]⟩:ByteArray)] h⟩
theorem Dj {s:ByteArray}(h:bH s):s≠⟨#[]⟩:=by
 rintro rfl
 exact absurd h.1 (by decide+kernel)
theorem Dk:∀(D:List Cl) (n:Nat) (σ:Ps) (l:List ByteArray) (C:List Cl) (R:List To),D.length<n→gL X σ (D.flatMap AP++aR (⟨#[112,114,105,109,97,114,121]⟩:ByteArray)::R)→(∀c∈D,AQ c)→nk l (D.map Cl.name)→(l++D.map Cl.name).length≤10→
 (X.gV n σ l C).1=l++D.map Cl.name∧(X.gV n σ l C).2.1=C++D∧gL X (X.gV n σ l C).2.2 R
 | [],0,_,_,_,_,hn,_,_,_,_=>absurd hn (by simp)
 |c::D,0,_,_,_,_,hn,_,_,_,_=>absurd hn (by simp)
 | [],n+1,σ,l,C,R,_,h,_,_,_=>by
  replace h:gL X σ (aR (⟨#[112,114,105,109,97,114,121]⟩:ByteArray)::R):=h
  rw [Tx.gV,h.1,if_neg (by decide),if_pos (by rw [h.sees,aQ];rfl)]
  exact ⟨by simp,by simp,h.step⟩
 |c::D,n+1,σ,l,C,R,hn,h,hok,hd,hm=>by
  replace h:gL X σ (dW c.name::yS c.ty::aR (⟨#[44]⟩:ByteArray)::(D.flatMap AP++aR (⟨#[112,114,105,109,97,114,121]⟩:ByteArray)::R)):=by simpa [AP]using h
  obtain ⟨ho1,ho2⟩:=hok c (List.mem_cons_self ..)
  rw [Tx.gV,h.1,if_neg (by decide),if_neg (by rw [h.sees,uH ho1 (by decide+kernel)];decide)]
  obtain ⟨h1,h2⟩:=oJ (most:=10) (l:=l) h ho1 hd.1 (by simp at hm;omega)
  obtain ⟨h3,h4⟩:=Ul h2 ho2
  have h5:=bW [(⟨#[44]⟩:ByteArray)] h4
  simp only
  rw [h1,h3]
  have hlast:(l++ [c.name]).getLastD ⟨#[]⟩=c.name:=by simp
  rw [hlast]
  obtain ⟨e1,e2,e3⟩:=Dk D n _ (l++ [c.name]) (C++ [⟨c.name,c.ty⟩]) R (by simpa using hn) h5 (fun x hx=>hok x (List.mem_cons_of_mem _ hx)) hd.2 (by simpa using hm)
  exact ⟨by rw [e1];simp,by rw [e2];simp,e3⟩
theorem QM (D:List Cl):(D.flatMap AP).length=3*D.length:=by
 induction D with
 |nil=>rfl
 |cons a r ih=>rw [List.flatMap_cons,List.length_append,ih];simp [AP];omega
theorem QN {σ:Ps}{nm:ByteArray}{C:List Cl}{pk ck:ByteArray}{R:List To}(hok:pW nm C pk ck) (h:gL X σ (uE nm C pk ck++R)):(X.table σ).1=kP nm C pk ck∧gL X (X.table σ).2 R:=by
 obtain ⟨o1,o2,o3,o4,o5,o6,o7⟩:=hok
 have ho:∀s∈C.map Cl.name,bH s:=by
  intro s hs
  obtain ⟨c,hc,rfl⟩:=List.mem_map.1 hs
  exact (o2 c hc).1
 have hlen:=h.len
 replace h:gL X σ (dW nm::([(⟨#[40]⟩:ByteArray)].map aR++(C.flatMap AP++aR (⟨#[112,114,105,109,97,114,121]⟩:ByteArray)::([(⟨#[107,101,121]⟩:ByteArray),(⟨#[40]⟩:ByteArray)].map aR++(dW pk::([(⟨#[44]⟩:ByteArray)].map aR++(dW ck::([(⟨#[41]⟩:ByteArray),(⟨#[41]⟩:ByteArray)].map aR++R)))))))):=by
  simpa [uE]using h
 obtain ⟨h1,h2⟩:=gX h o1
 have h3:=bW _ h2
 have hl3:=h3.len
 simp only [List.length_append,QM]at hl3
 obtain ⟨h4,h5,h6⟩:=Dk C (X.T.length+1) _ [] [] _ (by omega) h3 o2 o3 (by simpa using o4)
 rw [List.nil_append]at h4 h5
 have h7:=bW _ h6
 rw [←h4]at o5 o6
 obtain ⟨h8,h9⟩:=JQ h7 (ho pk (by rw [←h4];exact o5)) o5 (Dj (ho pk (by rw [←h4];exact o5)))
 have h10:=bW _ h9
 obtain ⟨h11,h12⟩:=JQ (but:=pk) h10 (ho ck (by rw [←h4];exact o6)) o6 o7
 have zm:=bW _ h12
 unfold Tx.table
 simp only
 rw [h8]
 refine ⟨?_,zm⟩
 rw [h11,h5,h1];rfl
theorem Um {σ:Ps}{nm:ByteArray}{aO:List ByteArray}{o on p q:ByteArray}{R:List To}(hok:EJ nm aO o on p q) (h:gL X σ (AX nm aO o on p q++R)):(X.view σ).1=tO nm aO o on p q∧gL X (X.view σ).2 R:=by
 obtain ⟨o1,o2,o3,o4,o5,o6⟩:=hok
 replace h:gL X σ ([(⟨#[118,105,101,119]⟩:ByteArray)].map aR++(dW nm::([(⟨#[97,115]⟩:ByteArray),(⟨#[115,101,108,101,99,116]⟩:ByteArray)].map aR++(qz aO++([(⟨#[102,114,111,109]⟩:ByteArray)].map aR++(dW o::([(⟨#[119,104,101,114,101]⟩:ByteArray)].map aR++(dW on::([(⟨#[105,115]⟩:ByteArray),(⟨#[110,111,116]⟩:ByteArray),(⟨#[110,117,108,108]⟩:ByteArray),(⟨#[112,114,105,109,97,114,121]⟩:ByteArray),(⟨#[107,101,121]⟩:ByteArray),(⟨#[40]⟩:ByteArray)].map aR++(dW on::([(⟨#[44]⟩:ByteArray)].map aR++(dW p::([(⟨#[44]⟩:ByteArray)].map aR++(dW q::([(⟨#[41]⟩:ByteArray)].map aR++R))))))))))))))):=by
  simpa [AX]using h
 have h1:=bW _ h
 obtain ⟨h2,h3⟩:=gX h1 o1
 have h4:=bW _ h3
 obtain ⟨h5,h6⟩:=K8 o2 h4 (by rw [List.map_cons,List.cons_append,aQ];decide)
 have h7:=bW _ h6
 obtain ⟨h8,h9⟩:=gX h7 o3
 have h10:=bW _ h9
 obtain ⟨h11,h12⟩:=gX h10 o4
 have zm:=bW _ h12
 obtain ⟨QO,Xp⟩:=JQ (l:= [on]) (but:=⟨#[]⟩) zm o4 (by simp) (Dj o4)
 have h16:=bW _ Xp
 obtain ⟨h17,h18⟩:=gX h16 o5
 have h19:=bW _ h18
 obtain ⟨h20,h21⟩:=gX h19 o6
 have h22:=bW _ h21
 unfold Tx.view
 simp only
 rw [h11]
 exact ⟨by rw [h2,h5,h8,h17,h20];rfl,h22⟩
theorem QS {σ:Ps}{nm o on:ByteArray}{R:List To}(hok:bH nm∧bH o∧bH on) (h:gL X σ (xK nm o on++R)):(X.index σ).1=xL nm o on∧gL X (X.index σ).2 R:=by
 obtain ⟨o1,o2,o3⟩:=hok
 replace h:gL X σ ([(⟨#[105,110,100,101,120]⟩:ByteArray)].map aR++(dW nm::([(⟨#[111,110]⟩:ByteArray)].map aR++(dW o::([(⟨#[40]⟩:ByteArray)].map aR++(dW on::([(⟨#[41]⟩:ByteArray)].map aR++R))))))):=h
 have h1:=bW _ h
 obtain ⟨h2,h3⟩:=gX h1 o1
 have h4:=bW _ h3
 obtain ⟨h5,h6⟩:=gX h4 o2
 have h7:=bW _ h6
 obtain ⟨h8,h9⟩:=gX h7 o3
 have h10:=bW _ h9
 unfold Tx.index
 exact ⟨by simp only;rw [h2,h5,h8];rfl,h10⟩
theorem AZ:∀(r:List Tm) (n:Nat) (σ:Ps) (l:List Tm) (R:List To),r.length≤n→gL X σ (nO r++R)→jD R (⟨#[44]⟩:ByteArray)=false→(∀t∈r,nN t)→
 (X.fE n σ l).1=l++r∧gL X (X.fE n σ l).2 R
 | [],0,σ,l,R,_,h,_,_=>⟨by simp [Tx.fE],h⟩
 | [],n+1,σ,l,R,_,h,hR,_=>by
  rw [Tx.fE,if_neg (by rw [h.sees];simp [nO,hR])]
  exact ⟨by simp,h⟩
 |s::r,0,_,_,_,hn,_,_,_=>absurd hn (by simp)
 |s::r,n+1,σ,l,R,hn,h,hR,hok=>by
  replace h:gL X σ (aR (⟨#[44]⟩:ByteArray)::oz s::(nO r++R)):=by simpa [nO]using h
  rw [Tx.fE,if_pos (by rw [h.sees,aQ];rfl)]
  simp only
  obtain ⟨h1,h2⟩:=oI h.step (hok s (List.mem_cons_self ..))
  rw [h1]
  obtain ⟨h3,h4⟩:=AZ r n _ (l++ [s]) R (by simpa using hn) h2 hR (fun x hx=>hok x (List.mem_cons_of_mem _ hx))
  exact ⟨by rw [h3];simp,h4⟩
theorem JR (r:List Tm):(nO r).length=2*r.length:=by
 induction r with
 |nil=>rfl
 |cons a r ih=>unfold nO at ih⊢;rw [List.flatMap_cons,List.length_append,ih];simp;omega
def Ba (R:List To):Prop:=∀w,w≠(⟨#[59]⟩:ByteArray)→jD R w=false
theorem Un:Ba []:=fun _ _=>rfl
theorem GJ (R:List To):Ba (aR (⟨#[59]⟩:ByteArray)::R):=fun w hw=>by
 rw [aQ]
 cases hq:iW (⟨#[59]⟩:ByteArray) w with
 |false=>rfl
 |true=>exact absurd (dY.1 hq).symm hw
theorem M6 {σ:Ps}{o:ByteArray}{c:List ByteArray}{v:List Tm}{stamp ttl:Int}{R:List To}(hok:rH o c v stamp ttl) (h:gL X σ (pX o c v stamp ttl++R)) (hR:Ba R):(X.insert σ).1=ny o c v stamp ttl∧gL X (X.insert σ).2 R:=by
 obtain ⟨o1,o2,o3,o4,o5,o6⟩:=hok
 obtain ⟨v0,v1,rfl⟩:∃v0 v1,v=v0::v1:=by
  cases v with
  |nil=>cases c with|nil=>exact absurd rfl o2|cons a c=>exact absurd o4 (by simp)
  |cons a v=>exact ⟨a,v,rfl⟩
 replace h:gL X σ ([(⟨#[105,110,116,111]⟩:ByteArray)].map aR++(dW o::([(⟨#[40]⟩:ByteArray)].map aR++(oF c++([(⟨#[41]⟩:ByteArray),(⟨#[118,97,108,117,101,115]⟩:ByteArray),(⟨#[40]⟩:ByteArray)].map aR++(oz v0::(nO v1++([(⟨#[41]⟩:ByteArray)].map aR++(jA stamp ttl++R))))))))):=by
  simpa [pX,GA]using h
 have h1:=bW _ h
 obtain ⟨h2,h3⟩:=gX h1 o1
 have h4:=bW _ h3
 obtain ⟨h5,h6⟩:=uI o2 o3 h4 (by rw [List.map_cons,List.cons_append,aQ];decide)
 have h7:=bW _ h6
 obtain ⟨h8,h9⟩:=oI h7 (o5 v0 (List.mem_cons_self ..))
 have hl:=h9.len
 simp only [List.length_append,JR]at hl
 obtain ⟨h10,h11⟩:=AZ v1 X.T.length _ [v0] _ (by omega) h9 (by rw [List.map_cons,List.cons_append,aQ];decide) (fun x hx=>o5 x (List.mem_cons_of_mem _ hx))
 have h12:=bW _ h11
 unfold Tx.insert
 simp only
 rw [h8,h10,h5]
 rw [if_neg (by rw [show [v0]++v1=v0::v1 from rfl,o4];simp)]
 obtain ⟨zm,QO⟩:=AY (b:=true) (x:={Sx.zero with kind:=5,bM:=o,sets:=List.zipWith Pr.mk c (v0::v1)}) ⟨rfl,rfl⟩ o6 h12 (hR _ (by decide)) (hR _ (by decide))
 rw [h2]
 exact ⟨zm,QO⟩
theorem GK:∀(r:List Pr) (n:Nat) (σ:Ps) (l:List ByteArray) (Z:List Pr) (R:List To),r≠ []→r.length≤n→gL X σ (oH r++R)→jD R (⟨#[44]⟩:ByteArray)=false→(∀p∈r,j3 p)→nk l (r.map Pr.name)→(l++r.map Pr.name).length≤8→
 (X.ku n σ l Z).1=Z++r∧gL X (X.ku n σ l Z).2 R
 | [],_,_,_,_,_,hne,_,_,_,_,_,_=>absurd rfl hne
 |p::r,0,_,_,_,_,_,hn,_,_,_,_,_=>absurd hn (by simp)
 |p::r,n+1,σ,l,Z,R,_,hn,h,hR,hok,hd,hm=>by
  obtain ⟨ho1,ho2⟩:=hok p (List.mem_cons_self ..)
  have hlast:(l++ [p.name]).getLastD ⟨#[]⟩=p.name:=by simp
  rw [Tx.ku]
  try simp only
  cases r with
  |nil=>
   replace h:gL X σ (dW p.name::aR (⟨#[61]⟩:ByteArray)::oz p.t::R):=h
   obtain ⟨h1,h2⟩:=oJ (most:=8) (l:=l) h ho1 hd.1 (by simp at hm;omega)
   have h3:=bW [(⟨#[61]⟩:ByteArray)] h2
   obtain ⟨h4,h5⟩:=oI h3 ho2
   rw [if_neg (by rw [h5.sees,hR];decide),h1,h4,hlast]
   exact ⟨rfl,h5⟩
  |cons q r=>
   rw [uF p (q::r) (by simp)]at h
   replace h:gL X σ (dW p.name::aR (⟨#[61]⟩:ByteArray)::oz p.t::aR (⟨#[44]⟩:ByteArray)::(oH (q::r)++R)):=by simpa [pairT]using h
   obtain ⟨h1,h2⟩:=oJ (most:=8) (l:=l) h ho1 hd.1 (by simp at hm;omega)
   have h3:=bW [(⟨#[61]⟩:ByteArray)] h2
   obtain ⟨h4,h5⟩:=oI h3 ho2
   rw [if_pos (by rw [h5.sees,aQ];rfl),h1,h4,hlast]
   obtain ⟨h6,h7⟩:=GK (q::r) n _ (l++ [p.name]) (Z++ [⟨p.name,p.t⟩]) R (by simp) (by simpa using hn) h5.step hR (fun x hx=>hok x (List.mem_cons_of_mem _ hx)) hd.2 (by simpa using hm)
   exact ⟨by rw [h6];simp,h7⟩
theorem M7 (r:List Pr):r.length≤(oH r).length:=by
 induction r with
 |nil=>exact Nat.le_refl _
 |cons p r ih=>
  by_cases h:r= []
  · subst h;simp [oH,pairT]
  · rw [uF p r h];simp [pairT];omega
theorem M8 {σ:Ps}{o:ByteArray}{stamp ttl:Int}{sets aP:List Pr}{R:List To}(hok:rJ o stamp ttl sets aP) (h:gL X σ (pY o stamp ttl sets aP++R)) (hR:Ba R):(X.update σ).1=p8 o stamp ttl sets aP∧gL X (X.update σ).2 R:=by
 obtain ⟨o1,o2,⟨o3,o4,o5,o6⟩,o7⟩:=hok
 replace h:gL X σ (dW o::(jA stamp ttl++([(⟨#[115,101,116]⟩:ByteArray)].map aR++(oH sets++(iI aP++R))))):=by
  simpa [pY]using h
 obtain ⟨h1,h2⟩:=gX h o1
 obtain ⟨h3,h4⟩:=AY (b:=true) (x:={Sx.zero with kind:=6,bM:=o}) ⟨rfl,rfl⟩ o2 h2 (by rw [List.map_cons,List.cons_append,aQ];decide) (by rw [List.map_cons,List.cons_append,aQ];decide)
 have h5:=bW _ h4
 have hl:=h5.len
 have:=M7 sets
 simp only [List.length_append]at hl
 obtain ⟨h6,h7⟩:=GK sets (X.T.length+1) _ [] [] _ o3 (by omega) h5 (by unfold iI;rw [List.cons_append,aQ];decide) o4 o5 (by simpa using o6)
 obtain ⟨h8,h9⟩:=vZ o7 h7 (hR _ (by decide))
 unfold Tx.update
 simp only
 rw [h1]
 refine ⟨?_,h9⟩
 rw [h8,h3,h6];rfl
theorem M9 {σ:Ps}{aO:List ByteArray}{o:ByteArray}{stamp:Int}{aP:List Pr}{R:List To}(hok:rM aO o stamp aP) (h:gL X σ (qb aO o stamp aP++R)) (hR:Ba R):(X.remove σ).1=qd aO o stamp aP∧gL X (X.remove σ).2 R:=by
 obtain ⟨o1,o2,o3,o4⟩:=hok
 replace h:gL X σ (oF aO++([(⟨#[102,114,111,109]⟩:ByteArray)].map aR++(dW o::(jA stamp 0++(iI aP++R))))):=by
  simpa [qb]using h
 have hc:(if X.sees σ (⟨#[102,114,111,109]⟩:ByteArray)=true then ([],σ)else X.columns σ 8).1=aO∧gL X (if X.sees σ (⟨#[102,114,111,109]⟩:ByteArray)=true then ([],σ)else X.columns σ 8).2 ([(⟨#[102,114,111,109]⟩:ByteArray)].map aR++(dW o::(jA stamp 0++(iI aP++R)))):=by
  cases aO with
  |nil=>
   replace h:gL X σ ([(⟨#[102,114,111,109]⟩:ByteArray)].map aR++(dW o::(jA stamp 0++(iI aP++R)))):=h
   rw [if_pos (by rw [h.sees,List.map_cons,List.cons_append,aQ];rfl)]
   exact ⟨rfl,h⟩
  |cons a c=>
   rw [if_neg]
   · exact uI (by simp) o1 h (by rw [List.map_cons,List.cons_append,aQ];decide)
   · rw [h.sees]
     show¬jD (dW a::_) _=true
     rw [uH (o1.1 a (List.mem_cons_self ..)) (by decide+kernel)]
     decide
 obtain ⟨h1,h2⟩:=hc
 have h3:=bW _ h2
 obtain ⟨h4,h5⟩:=gX h3 o2
 obtain ⟨h6,h7⟩:=AY (b:=false) (x:={Sx.zero with kind:=7,aO:=aO,bM:=o}) ⟨rfl,rfl⟩ o3 h5 (by unfold iI;rw [List.cons_append,aQ];decide) (by unfold iI;rw [List.cons_append,aQ];decide)
 obtain ⟨h8,h9⟩:=vZ o4 h7 (hR _ (by decide))
 unfold Tx.remove
 simp only
 rw [h1,h4]
 refine ⟨?_,h9⟩
 rw [h8,h6];rfl
theorem Xq {σ:Ps}{aO:List ByteArray}{o:ByteArray}{aP:List Pr}{limit:Int}{R:List To}(hok:GH aO o aP limit) (h:gL X σ (GD aO o aP limit++R)) (hR:Ba R):(X.ask σ).1=JN aO o aP limit∧gL X (X.ask σ).2 R:=by
 obtain ⟨o1,o2,o3,o4⟩:=hok
 replace h:gL X σ (qz aO++([(⟨#[102,114,111,109]⟩:ByteArray)].map aR++(dW o::(iI aP++(uG limit++R))))):=by
  simpa [GD]using h
 obtain ⟨h1,h2⟩:=K8 o1 h (by rw [List.map_cons,List.cons_append,aQ];decide)
 have h3:=bW _ h2
 obtain ⟨h4,h5⟩:=gX h3 o2
 unfold Tx.ask
 simp only
 by_cases hl:limit=0
 · subst hl
   obtain ⟨h6,h7⟩:=vZ o3 h5 (hR _ (by decide))
   replace h7:gL X _ R:=h7
   rw [if_neg (by rw [h7.sees,hR _ (by decide)];decide)]
   exact ⟨by rw [h1,h4,h6];rfl,h7⟩
 · have hc:jK limit:=by rcases o4 with h|h;exact absurd h hl;exact h
   unfold uG at h5
   rw [if_neg hl]at h5
   obtain ⟨h6,h7⟩:=vZ o3 h5 (by rw [List.cons_append,aQ];decide)
   replace h7:gL X _ (aR (⟨#[108,105,109,105,116]⟩:ByteArray)::xH limit::R):=h7
   obtain ⟨h8,h9⟩:=rO h7.step hc
   rw [if_pos (by rw [h7.sees,aQ];rfl)]
   exact ⟨by rw [h1,h4,h6,h8];rfl,h9⟩
theorem Uo {x:Sx}{L:List To}(h:GC x L):∃w L',L=aR w::L' ∧(w=(⟨#[105,110,115,101,114,116]⟩:ByteArray)∨w=(⟨#[117,112,100,97,116,101]⟩:ByteArray)∨w=(⟨#[100,101,108,101,116,101]⟩:ByteArray)):=by
 cases h with
 |insert=>exact ⟨_,_,rfl, .inl rfl⟩
 |update=>exact ⟨_,_,rfl, .inr (.inl rfl)⟩
 |remove=>exact ⟨_,_,rfl, .inr (.inr rfl)⟩
theorem Dl (n:Nat) {σ:Ps}{x:Sx}{L R:List To}(hG:GC x L) (h:gL X σ (L++R)) (hR:Ba R):(X.iq (n+1) σ).1= .change x∧gL X (X.iq (n+1) σ).2 R:=by
 rw [Tx.iq]
 cases hG with
 |insert o c v a b ho=>
  rw [List.cons_append]at h
  obtain ⟨h1,h2⟩:=M6 ho h.step hR
  rw [if_pos (by rw [h.sees,aQ];rfl)]
  exact ⟨by simp only;rw [h1],h2⟩
 |update o a b c v ho=>
  rw [List.cons_append]at h
  obtain ⟨h1,h2⟩:=M8 ho h.step hR
  rw [if_neg (by rw [h.sees,aQ];decide),if_pos (by rw [h.sees,aQ];rfl)]
  exact ⟨by simp only;rw [h1],h2⟩
 |remove o a b c ho=>
  rw [List.cons_append]at h
  obtain ⟨h1,h2⟩:=M9 ho h.step hR
  rw [if_neg (by rw [h.sees,aQ];decide),if_neg (by rw [h.sees,aQ];decide),if_pos (by rw [h.sees,aQ];rfl)]
  exact ⟨by simp only;rw [h1],h2⟩
theorem QT (n:Nat) {σ:Ps}{x:Sx}{L R:List To}(hG:GP x L) (h:gL X σ (L++R)) (hR:Ba R):(X.iq (n+1) σ).1= .plain x∧gL X (X.iq (n+1) σ).2 R:=by
 rw [Tx.iq]
 cases hG with
 |ask o a b c ho=>
  rw [List.cons_append]at h
  obtain ⟨h1,h2⟩:=Xq ho h.step hR
  rw [if_neg (by rw [h.sees,aQ];decide),if_neg (by rw [h.sees,aQ];decide),if_neg (by rw [h.sees,aQ];decide),if_pos (by rw [h.sees,aQ];rfl)]
  exact ⟨by simp only;rw [h1],h2⟩
 |drop nm ho=>
  rw [List.cons_append]at h
  obtain ⟨h1,h2⟩:=gX h.step ho
  rw [if_neg (by rw [h.sees,aQ];decide),if_neg (by rw [h.sees,aQ];decide),if_neg (by rw [h.sees,aQ];decide),if_neg (by rw [h.sees,aQ];decide),if_neg (by rw [h.sees,aQ];decide),if_pos (by rw [h.sees,aQ];rfl)]
  exact ⟨by simp only;rw [h1],h2⟩
 |table nm C pk ck ho=>
  rw [List.cons_append,List.cons_append]at h
  obtain ⟨h1,h2⟩:=QN ho h.step.step
  rw [if_neg (by rw [h.sees,aQ];decide),if_neg (by rw [h.sees,aQ];decide),if_neg (by rw [h.sees,aQ];decide),if_neg (by rw [h.sees,aQ];decide),if_neg (by rw [h.sees,aQ];decide),if_neg (by rw [h.sees,aQ];decide),if_pos (by rw [h.sees,aQ];rfl),if_pos (by rw [h.step.sees,aQ];rfl)]
  exact ⟨by simp only;rw [h1],h2⟩
 |view nm c o on p q ho=>
  rw [List.cons_append,List.cons_append]at h
  obtain ⟨h1,h2⟩:=Um ho h.step.step
  rw [if_neg (by rw [h.sees,aQ];decide),if_neg (by rw [h.sees,aQ];decide),if_neg (by rw [h.sees,aQ];decide),if_neg (by rw [h.sees,aQ];decide),if_neg (by rw [h.sees,aQ];decide),if_neg (by rw [h.sees,aQ];decide),if_pos (by rw [h.sees,aQ];rfl),if_neg (by rw [h.step.sees,aQ];decide),if_pos (by rw [h.step.sees,aQ];rfl)]
  exact ⟨by simp only;rw [h1],h2⟩
 |index nm o on ho=>
  rw [List.cons_append]at h
  obtain ⟨h1,h2⟩:=QS ho h.step
  have h3:=h.step
  unfold xK at h3
  rw [List.cons_append]at h3
  rw [if_neg (by rw [h.sees,aQ];decide),if_neg (by rw [h.sees,aQ];decide),if_neg (by rw [h.sees,aQ];decide),if_neg (by rw [h.sees,aQ];decide),if_neg (by rw [h.sees,aQ];decide),if_neg (by rw [h.sees,aQ];decide),if_pos (by rw [h.sees,aQ];rfl),if_neg (by rw [h3.sees,aQ];decide),if_neg (by rw [h3.sees,aQ];decide)]
  exact ⟨by simp only;rw [h1],h2⟩
theorem GL {st:Ps→Tx.Nd×Ps}(hst:∀σ x L R,GC x L→gL X σ (L++R)→Ba R→(st σ).1= .change x∧gL X (st σ).2 R):∀(D:List Sx) (M:List To) (n:Nat) (σ:Ps) (l:List Sx) (R:List To),GB D M→D.length<n→(l++D).length≤8→l++D≠ []→gL X σ (M++aR (⟨#[97,112,112,108,121]⟩:ByteArray)::R)→
 (X.iT st n σ l).1=l++D∧gL X (X.iT st n σ l).2 R
 | [],M,0,_,_,_,_,hn,_,_,_=>absurd hn (by simp)
 |x::D,M,0,_,_,_,_,hn,_,_,_=>absurd hn (by simp)
 | [],M,n+1,σ,l,R,hG,_,_,hne,h=>by
  cases hG
  replace h:gL X σ (aR (⟨#[97,112,112,108,121]⟩:ByteArray)::R):=h
  rw [List.append_nil]at hne⊢
  have he:l.isEmpty=false:=by cases l with|nil=>exact absurd rfl hne|cons a l=>rfl
  rw [Tx.iT,h.1,if_neg (by decide),he,if_pos (by rw [h.sees,aQ];rfl)]
  exact ⟨rfl,h.step⟩
 |x::D,M,n+1,σ,l,R,hG,hn,hl,_,h=>by
  cases hG with
  | @cons _ L _ M hx hD=>
   rw [List.append_assoc,List.cons_append]at h
   obtain ⟨w,L',rfl,hw⟩:=Uo hx
   have hna:X.sees σ (⟨#[97,112,112,108,121]⟩:ByteArray)=false:=by
    rw [List.cons_append]at h
    rw [h.sees,aQ]
    rcases hw with rfl|rfl|rfl<;>decide
   simp at hl
   rw [Tx.iT,h.1,if_neg (by decide),hna,Bool.and_false,if_neg (by decide)]
   simp only
   rw [if_neg (by omega)]
   obtain ⟨h1,h2⟩:=hst σ x _ _ hx h (GJ _)
   rw [h1]
   simp only
   obtain ⟨h3,h4⟩:=GL hst D M n _ (l++ [x]) R hD (by simpa using hn) (by simp;omega) (by simp) (bW [(⟨#[59]⟩:ByteArray)] h2)
   exact ⟨by rw [h3];simp,h4⟩
theorem Xr (n:Nat) {σ:Ps}{nd:Tx.Nd}{L R:List To}(hG:GN nd L) (h:gL X σ (L++R)) (hR:Ba R):(X.iq (n+2) σ).1=nd∧gL X (X.iq (n+2) σ).2 R:=by
 cases hG with
 |plain hG=>exact QT (n+1) hG h hR
 |change hG=>exact Dl (n+1) hG h hR
 | @batch l L hG h1 h2=>
  replace h:gL X σ (aR (⟨#[98,101,103,105,110]⟩:ByteArray)::([(⟨#[98,97,116,99,104]⟩:ByteArray)].map aR++(L++aR (⟨#[97,112,112,108,121]⟩:ByteArray)::([(⟨#[98,97,116,99,104]⟩:ByteArray)].map aR++R)))):=by simpa using h
  have h3:=bW _ h.step
  obtain ⟨h4,h5⟩:=GL (fun σ x L R hx hc hf=>Dl n hx hc hf) l L 10 _ [] _ hG (by omega) (by simpa using h2) (by simpa using h1) h3
  have h6:=bW _ h5
  rw [Tx.iq,if_neg (by rw [h.sees,aQ];decide),if_neg (by rw [h.sees,aQ];decide),if_neg (by rw [h.sees,aQ];decide),if_neg (by rw [h.sees,aQ];decide),if_pos (by rw [h.sees,aQ];rfl)]
  unfold Tx.many
  simp only
  exact ⟨by rw [h4];rfl,h6⟩
end
theorem rP (n b0 b1 b2 b3 c1 c2 c3 w:Nat) (hw:(Lib.decodeN n b0 b1 b2 b3).2=w) (h1:1<w→c1=b1) (h2:2<w→c2=b2) (h3:3<w→c3=b3)
 (hok:(Lib.decodeN n b0 b1 b2 b3).1≠65533∨1<(Lib.decodeN n b0 b1 b2 b3).2):Lib.decodeN w b0 c1 c2 c3=Lib.decodeN n b0 b1 b2 b3:=by
 unfold Lib.decodeN at hok hw⊢
 by_cases a1:b0<128
 · rw [if_pos a1,if_pos a1]
 · rw [if_neg a1]at hok hw
   rw [if_neg a1,if_neg a1]
   by_cases a2:b0 / 32=6∧(1<n∧b1 / 64=2)
   · rw [if_pos a2]at hok hw
     by_cases q:b0 % 32*64+b1 % 64≥128
     · rw [if_pos q]at hw
       simp only at hw
       obtain rfl:=h1 (by omega)
       rw [if_pos a2,if_pos ⟨a2.1,by omega,a2.2.2⟩]
     · rw [if_neg q]at hok;simp at hok
   · rw [if_neg a2]at hok hw
     by_cases a3:b0 / 16=14∧(1<n∧b1 / 64=2)∧(2<n∧b2 / 64=2)
     · rw [if_pos a3]at hok hw
       by_cases q:b0 % 16*4096+b1 % 64*64+b2 % 64≥2048∧(b0 % 16*4096+b1 % 64*64+b2 % 64<55296∨(57344≤b0 % 16*4096+b1 % 64*64+b2 % 64∧b0 % 16*4096+b1 % 64*64+b2 % 64≤1114111))
       · rw [if_pos q]at hw
         simp only at hw
         obtain rfl:=h1 (by omega)
         obtain rfl:=h2 (by omega)
         rw [if_neg a2,if_pos a3,if_neg (by omega),if_pos ⟨a3.1,⟨by omega,a3.2.1.2⟩,⟨by omega,a3.2.2.2⟩⟩]
       · rw [if_neg q]at hok;simp at hok
     · rw [if_neg a3]at hok hw
       by_cases a4:b0 / 8=30∧(1<n∧b1 / 64=2)∧(2<n∧b2 / 64=2)∧(3<n∧b3 / 64=2)
       · rw [if_pos a4]at hok hw
         by_cases q:b0 % 8*262144+b1 % 64*4096+b2 % 64*64+b3 % 64≥65536∧(b0 % 8*262144+b1 % 64*4096+b2 % 64*64+b3 % 64<55296∨(57344≤b0 % 8*262144+b1 % 64*4096+b2 % 64*64+b3 % 64∧b0 % 8*262144+b1 % 64*4096+b2 % 64*64+b3 % 64≤1114111))
         · rw [if_pos q]at hw
           simp only at hw
           obtain rfl:=h1 (by omega)
           obtain rfl:=h2 (by omega)
           obtain rfl:=h3 (by omega)
           rw [if_neg a2,if_neg a3,if_pos a4,if_neg (by omega),if_neg (by omega),if_pos ⟨a4.1,⟨by omega,a4.2.1.2⟩,⟨by omega,a4.2.2.1.2⟩,⟨by omega,a4.2.2.2.2⟩⟩]
         · rw [if_neg q]at hok;simp at hok
       · rw [if_neg a4]at hok;simp at hok
theorem wh (s:ByteArray) (n k:Nat) (hk:k<n) (hn:n≤s.size):bY (s.extract 0 n) k=bY s k:=by
 have h1:k<(s.extract 0 n).size:=by rw [ByteArray.size_extract];omega
 rw [←kY _ k h1,←kY s k (by omega)]
 congr 1
 rw [ByteArray.getElem_extract]
 simp
theorem Bb (s:ByteArray) (n:Nat) (_hn:n≤s.size):s=s.extract 0 n++s.extract n s.size:=by
 apply ByteArray.ext
 apply Array.ext'
 simp only [ByteArray.data_extract,ByteArray.data_append,Array.toList_extract,Array.toList_append,List.extract_eq_take_drop,List.drop_zero,Nat.sub_zero]
 rw [List.take_of_length_le (l:=s.data.toList.drop n) (by simp)]
 exact (List.take_append_drop n _).symm
theorem Na {C:ByteArray→Prop}(nil:C ⟨#[]⟩)
 (cons:∀c t,valid c=true→(pts c).length=1→((∃b:UInt8,c=⟨#[b]⟩∧b.toNat<128)∨(∀b∈c.data.toList,128≤b.toNat))→valid t=true→C t→C (c++t)):
 ∀(n:Nat) (s:ByteArray),s.size≤n→valid s=true→C s:=by
 intro n
 induction n with
 |zero=>
  intro s hs _
  have:s=⟨#[]⟩:=by
   apply ByteArray.ext
   exact Array.eq_empty_of_size_eq_zero (by show s.size=0;omega)
  rw [this];exact nil
 |succ n ih=>
  intro s hs hv
  by_cases h0:s.size=0
  · exact ih s (by omega) hv
  · have hlt:0<s.size:=by omega
    have hw:=width_pos s 0 hlt
    have hl:=width_le s 0 hlt
    have hall:(dK s 0).all Pt.ok=true:=by rw [←iF];exact hv
    rw [bD s 0 hlt,List.all_cons,Bool.and_eq_true]at hall
    have hok:=(Ph s 0).1 hall.1
    obtain ⟨w,hwd⟩:∃w,(Utf8.decode s 0).2=w:=⟨_,rfl⟩
    rw [hwd]at hw hl
    rw [Nat.zero_add]at hl
    have hcs:(s.extract 0 w).size=w:=by rw [ByteArray.size_extract];omega
    have hf:=Ml s 0 hlt
    have hbd:(Utf8.decode s 0).2≤4:=by
     rw [iN]
     rcases iG (s.size - 0) (bY s 0) (bY s (0+1)) (bY s (0+2)) (bY s (0+3)) (by omega)with h1|⟨_,_,_,h4,_⟩<;>omega
    have hdec:Utf8.decode (s.extract 0 w) 0=Utf8.decode s 0:=by
     rw [iN,iN s 0,hcs,Nat.sub_zero]
     rw [iN]at hok hwd
     rw [wh s w 0 (by omega) (by omega)]
     exact rP (s.size - 0) (bY s 0) (bY s (0+1)) (bY s (0+2)) (bY s (0+3)) _ _ _ w hwd (fun h=>wh s w 1 (by omega) (by omega)) (fun h=>wh s w 2 (by omega) (by omega)) (fun h=>wh s w 3 (by omega) (by omega)) hok
    have hpc:pts (s.extract 0 w)= [⟨(Utf8.decode s 0).1,0,w⟩]:=by
     rw [iF,bD _ 0 (by omega),hdec,hwd,bI _ _ (by omega)]
    have hvc:valid (s.extract 0 w)=true:=by
     unfold valid
     rw [hpc]
     have:=hall.1
     rw [hwd]at this
     simp [this]
    have hvt:valid (s.extract w s.size)=true:=by
     have:=nT (s.extract 0 w) (s.extract w s.size) hvc
     rw [←Bb s w (by omega),hv]at this
     exact this.symm
    have hcases:(∃b:UInt8,s.extract 0 w=⟨#[b]⟩∧b.toNat<128)∨(∀b∈(s.extract 0 w).data.toList,128≤b.toNat):=by
     rcases hf with ⟨h1,h2⟩|⟨h1,h2,h3⟩
     · left
       have hw1:w=1:=by omega
       subst hw1
       refine ⟨s[0],Pg s 0 hlt, ?_⟩
       rw [kY s 0 hlt]
       rcases h2 with h2|h2
       · exact h2.2
       · rw [h1]at hok;rcases hok with hok|hok
         · exact absurd h2 hok
         · omega
     · right
       intro b hb
       obtain ⟨k,hk,rfl⟩:=List.getElem_of_mem hb
       have hk' :k<(s.extract 0 w).size:=hk
       have:(s.extract 0 w).data.toList[k]=(s.extract 0 w)[k]:=rfl
       rw [this,kY _ k hk',wh s w k (by omega) (by omega)]
       by_cases hk0:k=0
       · subst hk0;exact h1
       · have:=h3 k (by omega) (by omega)
         rw [Nat.zero_add]at this
         omega
    rw [Bb s w (by omega)]
    exact cons _ _ hvc (by rw [hpc];rfl) hcases hvt (ih _ (by rw [ByteArray.size_extract];omega) hvt)
theorem Uq (a b:ByteArray):(⟨((a++b).data.toList.flatMap qD).toArray⟩:ByteArray)=⟨(a.data.toList.flatMap qD).toArray⟩++⟨(b.data.toList.flatMap qD).toArray⟩:=by
 apply ByteArray.ext
 apply Array.ext'
 simp
theorem QU:∀(l:List UInt8),(∀b∈l,128≤b.toNat)→l.flatMap qD=l:=by
 intro l
 induction l with
 |nil=>intro _;rfl
 |cons c l ih=>
  intro h
  have hc:c≠39:=fun e=>by have:=h c (List.mem_cons_self);rw [e]at this;exact absurd this (by decide)
  rw [List.flatMap_cons,ih (fun b hb=>h b (List.mem_cons_of_mem _ hb))]
  simp [qD,hc]
theorem Nb (s:ByteArray) (h:valid s=true):valid ⟨(s.data.toList.flatMap qD).toArray⟩=true:=by
 refine Na (C:=fun s=>valid ⟨(s.data.toList.flatMap qD).toArray⟩=true) rfl ?_ s.size s (Nat.le_refl _) h
 intro c t hc _ hcs _ ht
 rw [Uq]
 have hvc:valid ⟨(c.data.toList.flatMap qD).toArray⟩=true:=by
  rcases hcs with ⟨b,rfl,hb⟩|hhi
  · by_cases TB:b=39
    · subst TB;decide+kernel
    · have e:(⟨((⟨#[b]⟩:ByteArray).data.toList.flatMap qD).toArray⟩:ByteArray)=⟨#[b]⟩:=by
       apply ByteArray.ext;apply Array.ext';simp [qD,TB]
      rw [e];exact kL b hb
  · rw [QU _ hhi]
    exact hc
 rw [nT _ _ hvc]
 exact ht
theorem rQ (s:ByteArray):quote s=⟨#[39]⟩++(⟨(s.data.toList.flatMap qD).toArray⟩++⟨#[39]⟩):=by
 rw [xk]
 apply ByteArray.ext;apply Array.ext';simp
theorem yV (s:ByteArray) (h:valid s=true):valid (quote s)=true:=by
 rw [rQ,nT _ _ (kL 39 (by decide)),nT _ _ (Nb s h)]
 exact kL 39 (by decide)
def Xt (t:ByteArray):Prop:=t.data.toList.head? ≠some 39
theorem K9 (c:UInt8) (hc:c≠39) (t:ByteArray):Xt (⟨#[c]⟩++t):=by
 unfold Xt
 rw [ByteArray.data_append,Array.toList_append]
 simp [hc]
theorem EK (v t:ByteArray) (ht:Xt t):dz (quote v++t) 0=some (v,(((quote v).size:Nat):Int)):=by
 have hd:(quote v++t).data.toList=39::(v.data.toList.flatMap qD++39::t.data.toList):=by
  rw [ByteArray.data_append,Array.toList_append,z8];simp
 have hsz:(quote v++t).size=(quote v).size+t.size:=by rw [ByteArray.size_append]
 have hq:=ug v
 unfold dz
 rw [if_pos ⟨by omega,by omega,by rw [hd];rfl⟩,hd]
 simp only [Int.toNat_zero,Nat.zero_add,List.drop_succ_cons,List.drop_zero]
 rw [KS t.data.toList ht v.data.toList]
 simp only [Option.map_some,Option.some.injEq,Prod.mk.injEq]
 refine ⟨trivial, ?_⟩
 rw [hq];omega
theorem QV (s:ByteArray):∀n pos,s.size - pos≤n→∀p∈dK s pos,p.at_<s.size:=by
 intro n
 induction n with
 |zero=>intro pos h p hp;rw [bI s pos (by omega)]at hp;cases hp
 |succ n ih=>
  intro pos h p hp
  by_cases hlt:pos<s.size
  · have hw:=width_pos s pos hlt
    rw [bD s pos hlt]at hp
    rcases List.mem_cons.1 hp with rfl|hp
    · exact hlt
    · exact ih _ (by omega) p hp
  · rw [bI s pos hlt]at hp;cases hp
theorem Zv (s:ByteArray) (k:Nat) (h:k<(pts s).length):(pts s)[k].at_<s.size:=
 QV s s.size 0 (by omega) _ (by rw [←iF];exact List.getElem_mem h)
theorem QW {v t:ByteArray}(hv:valid v=true) (hs:v.size≤100) (ht:Xt t):dF (quote v++t) (pts (quote v++t)) 0=(⟨3,v,0,0⟩,true,(pts (quote v)).length)∧skip (pts (quote v++t)) 0=0∧pts (quote v)≠ []:=by
 have hvq:=yV v hv
 have hcut:=Cut.rE (quote v) t hvq
 have hlen:=hcut.len
 have e1:quote v++t=⟨#[39]⟩++((⟨(v.data.toList.flatMap qD).toArray⟩++⟨#[39]⟩)++t):=by rw [rQ,lZ]
 have hst:Stop (quote v++t):=by rw [e1];exact rF 39 (by decide) _
 have hB:∀c,gy (pts (quote v++t)) 0 c=((39:Int)==c):=fun c=>by rw [e1];exact gW 39 (by decide) _ c
 have hq:=ug v
 have hne:pts (quote v)≠ []:=by
  rw [rQ,(pU 39 (by decide) _).pts];simp
 have hend:bZ (pts (quote v++t)) (((quote v).size:Nat):Int) 0=(pts (quote v)).length:=by
  refine Db (by rw [hlen];omega) (fun j hj=> ?_) ?_
  · simp only [zO (quote v) t hvq j hj,List.getElem?_eq_getElem hj]
    exact decide_eq_true (by have:=Zv (quote v) j hj;omega)
  · have:=hcut.get 0
    rw [Nat.add_zero]at this
    simp only [this]
    cases hp:(pts t)[0]? with
    |none=>rfl
    |some p=>
     simp only [Option.map_some]
     exact decide_eq_false (by show¬(((p.at_+(quote v).size:Nat):Int)<_);omega)
 refine ⟨?_, ?_,hne⟩
 · unfold dF
   rw [hst.1,hst.2,hB,hB]
   show jf (quote v++t) (pts (quote v++t)) 0=_
   unfold jf
   rw [ni]
   show (match dz (quote v++t) 0 with|some x=>_|none=>_)=_
   rw [EK v t ht]
   simp only []
   rw [hend,hv,decide_eq_true hs];rfl
 · refine ig ?_ ?_
   · unfold dO;rw [hB,hB,hB,hB];rfl
   · unfold iO;rw [hB];rfl
theorem Lx.text {v t:ByteArray}{l:List Tk}(hv:valid v=true) (hs:v.size≤100) (ht:Xt t) (h:Lx t l):Lx (quote v++t) (⟨3,v,0,0⟩::l.map (Tk.on (pts (quote v)).length)):=by
 obtain ⟨h1,h2,h3⟩:=QW hv hs ht
 exact Lx.tok (yV v hv) h3 h2 h1 h
def qg:List UInt8→Int→Bool→Int×Bool
 | [],v,ok=>(v,ok)
 |c::l,v,ok=>qg l (min (v*10+((c.toNat:Int) - 48)) 1099511627776) (ok&&decide (v*10+((c.toNat:Int) - 48)≤1099511627776))
def Cx (l:List UInt8):Bool:=l.all fun c=>decide (48≤c.toNat)&&decide (c.toNat≤57)
theorem rR (c:UInt8) (l:List UInt8):(⟨(c::l).toArray⟩:ByteArray)=⟨#[c]⟩++⟨l.toArray⟩:=by
 apply ByteArray.ext;apply Array.ext';simp
theorem GQ:∀l:List UInt8,(∀c∈l,c.toNat<128)→valid ⟨l.toArray⟩=true∧(pts ⟨l.toArray⟩).length=l.length:=by
 intro l
 induction l with
 |nil=>intro _;exact ⟨rfl,rfl⟩
 |cons c l ih=>
  intro h
  have hc:=h c (List.mem_cons_self)
  obtain ⟨h1,h2⟩:=ih (fun b hb=>h b (List.mem_cons_of_mem _ hb))
  rw [rR]
  refine ⟨by rw [nT _ _ (kL c hc)];exact h1, ?_⟩
  rw [(pU c hc _).len,h2];simp;omega
theorem JU (t:ByteArray) (ht:dn (pts t) 0=false):∀(l:List UInt8),Cx l=true→∀v ok,
 num (pts (⟨l.toArray⟩++t)) 0 v ok=((qg l v ok).1,(qg l v ok).2,l.length):=by
 intro l
 induction l with
 |nil=>
  intro _ v ok
  have e:(⟨([]:List UInt8).toArray⟩:ByteArray)++t=t:=by apply ByteArray.ext;simp
  rw [e,jU ht];rfl
 |cons c l ih=>
  intro h v ok
  simp only [Cx,List.all_cons,Bool.and_eq_true,decide_eq_true_eq]at h
  have hlt:c.toNat<128:=by omega
  have ih' :=ih (by unfold Cx;exact h.2)
  rw [rR,lZ]
  have hcut:=pU c hlt (⟨l.toArray⟩++t)
  have hd:dn (pts (⟨#[c]⟩++(⟨l.toArray⟩++t))) 0=true:=by
   unfold dn;rw [pV c hlt]
   simp only [kE,Bool.and_eq_true,decide_eq_true_eq];omega
  have hr:mR (pts (⟨#[c]⟩++(⟨l.toArray⟩++t))) 0=(c.toNat:Int):=by unfold mR;rw [pV c hlt]
  rw [oW hd,hr]
  have:=hcut.num 0 (min (v*10+((c.toNat:Int) - 48)) 1099511627776) (ok&&decide (v*10+((c.toNat:Int) - 48)≤1099511627776))
  rw [Nat.add_zero]at this
  show num _ ([(⟨c.toNat,0,1⟩:Pt)].length) _ _=_
  rw [this,ih']
  simp only [qg,List.length_cons,List.length_nil]
  rw [Nat.add_comm]
def fD (neg:Bool):List UInt8:=if neg then [45]else []
theorem GR (neg:Bool) (l:List UInt8) (hl:Cx l=true) (hne:l≠ []) (t:ByteArray) (ht:dn (pts t) 0=false) (V:Int) (ok:Bool) (hV:qg l 0 true=(V,ok)):
 dF (⟨(fD neg++l).toArray⟩++t) (pts (⟨(fD neg++l).toArray⟩++t)) 0=(⟨2,⟨#[]⟩,if neg then -V else V,0⟩,ok&& !dQ (pts t) 0,(fD neg++l).length)∧skip (pts (⟨(fD neg++l).toArray⟩++t)) 0=0∧valid ⟨(fD neg++l).toArray⟩=true∧(pts ⟨(fD neg++l).toArray⟩).length=(fD neg++l).length:=by
 have hall:∀c∈fD neg++l,c.toNat<128:=by
  intro c hc
  rcases List.mem_append.1 hc with hc|hc
  · unfold fD at hc;split at hc
    · rw [List.mem_singleton.1 hc];decide
    · cases hc
  · have:=List.all_eq_true.1 hl c hc
    simp only [Bool.and_eq_true,decide_eq_true_eq]at this;omega
 obtain ⟨hv,hlen⟩:=GQ _ hall
 obtain ⟨d,l',rfl⟩:∃d l',l=d::l' :=by cases l with|nil=>exact absurd rfl hne|cons d l' =>exact ⟨d,l',rfl⟩
 have hdd:48≤d.toNat∧d.toNat≤57:=by
  have:=List.all_eq_true.1 hl d (List.mem_cons_self)
  simp only [Bool.and_eq_true,decide_eq_true_eq]at this;exact this
 have Xu:d.toNat<128:=by omega
 have Zw:=JU t ht (d::l') hl
 have hds:∀r,(⟨(d::l').toArray⟩:ByteArray)++r=⟨#[d]⟩++(⟨l'.toArray⟩++r):=fun r=>by rw [rR,lZ]
 have hdig:dn (pts (⟨(d::l').toArray⟩++t)) 0=true:=by
  rw [hds];unfold dn;rw [pV d Xu]
  simp only [kE,Bool.and_eq_true,decide_eq_true_eq];omega
 have hend:dQ (pts (⟨(fD neg++(d::l')).toArray⟩++t)) (fD neg++(d::l')).length=dQ (pts t) 0:=by
  have hcut:=Cut.rE _ t hv
  have:=hcut.dQ 0
  rw [Nat.add_zero,hlen]at this
  exact this
 have hnb:∀x:Int,(x=32∨x=9∨x=10∨x=13∨x=39∨x=45)→gy (pts (⟨(d::l').toArray⟩++t)) 0 x=false:=by
  intro x hx
  rw [hds,gW d Xu,beq_eq_false_iff_ne];omega
 have hnl:dQ (pts (⟨(d::l').toArray⟩++t)) 0=false:=by
  rw [hds];unfold dQ;rw [pV d Xu]
  simp only [kT]
  rw [Bool.and_eq_false_iff];right
  simp only [Bool.or_eq_false_iff,Bool.and_eq_false_iff,beq_eq_false_iff_ne,decide_eq_false_iff_not]
  omega
 cases neg with
 |false=>
  have e0:fD false++(d::l')=d::l' :=rfl
  rw [e0]at hend hv hlen⊢
  refine ⟨?_, ?_,hv,hlen⟩
  · unfold dF
    rw [hnl,hdig]
    show dh _ 0=_
    unfold dh iA bK
    rw [hnb 45 (by omega)]
    simp only [Bool.false_eq_true,if_false]
    rw [hdig,Zw 0 true,hV]
    simp only []
    rw [hend]
    try rfl
  · refine ig ?_ ?_
    · unfold dO;rw [hnb 32 (by omega),hnb 9 (by omega),hnb 10 (by omega),hnb 13 (by omega)];rfl
    · unfold iO;rw [hnb 45 (by omega)];rfl
 |true=>
  have e0:fD true++(d::l')=45::(d::l'):=rfl
  rw [e0]at hend hv hlen⊢
  have e1:(⟨(45::(d::l')).toArray⟩:ByteArray)++t=⟨#[45]⟩++(⟨(d::l').toArray⟩++t):=by rw [rR,lZ]
  have hcut:=pU 45 (by decide) (⟨(d::l').toArray⟩++t)
  have hB:∀x,gy (pts (⟨#[45]⟩++(⟨(d::l').toArray⟩++t))) 0 x=((45:Int)==x):=fun x=>gW 45 (by decide) _ x
  have hst:=rF 45 (by decide) (⟨(d::l').toArray⟩++t)
  have hd1:dn (pts (⟨#[45]⟩++(⟨(d::l').toArray⟩++t))) 1=true:=by
   have:=hcut.dn 0;rw [Nat.add_zero]at this
   exact this.trans hdig
  have hn1:=hcut.num 0 0 true
  rw [Nat.add_zero,Zw 0 true,hV]at hn1
  rw [e1]at hend⊢
  refine ⟨?_, ?_,hv,hlen⟩
  · unfold dF
    rw [hst.1,hst.2,hB]
    show dh _ 0=_
    unfold dh iA bK
    rw [hB]
    show ((⟨2,⟨#[]⟩, -(num _ (0+1) 0 (dn _ (0+1))).1,0⟩,(num _ (0+1) 0 (dn _ (0+1))).2.1&& !dQ _ (num _ (0+1) 0 (dn _ (0+1))).2.2,(num _ (0+1) 0 (dn _ (0+1))).2.2):Tk×Bool×Nat)=_
    rw [hd1]
    have hn2:num (pts (⟨#[45]⟩++(⟨(d::l').toArray⟩++t))) (0+1) 0 true=(V,ok,(45::(d::l')).length):=by
     refine hn1.trans ?_
     simp;omega
    rw [hn2]
    simp only []
    rw [hend]
    try rfl
  · refine ig ?_ ?_
    · unfold dO;rw [hB,hB,hB,hB];rfl
    · unfold iO
      have:=hcut.gy 0 45;rw [Nat.add_zero]at this
      rw [show (0+1:Nat)= [(⟨(45:UInt8).toNat,0,1⟩:Pt)].length from rfl,this,hnb 45 (by omega),Bool.and_false]
theorem JV (neg:Bool) (l:List UInt8) (hl:Cx l=true) (hne:l≠ []) (t:ByteArray) (ht:Stop t) (V:Int) (hV:qg l 0 true=(V,true)):
 dF (⟨(fD neg++l).toArray⟩++t) (pts (⟨(fD neg++l).toArray⟩++t)) 0=(⟨2,⟨#[]⟩,if neg then -V else V,0⟩,true,(fD neg++l).length)∧skip (pts (⟨(fD neg++l).toArray⟩++t)) 0=0∧valid ⟨(fD neg++l).toArray⟩=true∧(pts ⟨(fD neg++l).toArray⟩).length=(fD neg++l).length:=by
 have h:=GR neg l hl hne t ht.2 V true hV
 rw [ht.1]at h
 exact h
theorem Lx.number (neg:Bool) (l:List UInt8) (hl:Cx l=true) (hne:l≠ []) {t:ByteArray}(ht:Stop t) (V:Int) (hV:qg l 0 true=(V,true)) {k:List Tk}(h:Lx t k):
 Lx (⟨(fD neg++l).toArray⟩++t) (⟨2,⟨#[]⟩,if neg then -V else V,0⟩::k.map (Tk.on (fD neg++l).length)):=by
 obtain ⟨h1,h2,h3,h4⟩:=JV neg l hl hne t ht V hV
 have:=Lx.tok (l:=k) h3 (by intro e;rw [e]at h4;simp at h4;exact hne (List.eq_nil_of_length_eq_zero (by omega))) h2 (by rw [h1,h4]) h
 rw [h4]at this
 exact this
def GU:Nat→Nat→List UInt8
 |0,_=> []
 |f+1,n=>if n<10 then [UInt8.ofNat (48+n)]else GU f (n / 10)++ [UInt8.ofNat (48+n % 10)]
def dec (n:Nat):List UInt8:=GU (n+1) n
theorem Nc:∀f g n,n<f→n<g→GU f n=GU g n:=by
 intro f
 induction f with
 |zero=>intro g n h;omega
 |succ f ih=>
  intro g n h1 h2
  cases g with
  |zero=>omega
  |succ g=>
   rw [GU,GU]
   split
   · rfl
   · rw [ih g (n / 10) (by omega) (by omega)]
theorem wm {n:Nat}(h:n<10):dec n= [UInt8.ofNat (48+n)]:=by unfold dec;rw [GU,if_pos h]
theorem wo {n:Nat}(h:10≤n):dec n=dec (n / 10)++ [UInt8.ofNat (48+n % 10)]:=by
 unfold dec
 rw [GU,if_neg (by omega),Nc n (n / 10+1) (n / 10) (by omega) (by omega)]
theorem sJ (k:Nat) (h:k<10):(UInt8.ofNat (48+k)).toNat=48+k:=by
 rw [UInt8.toNat_ofNat'];omega
theorem EL {C:Nat→Prop}(one:∀n,n<10→C n) (more:∀n,10≤n→C (n / 10)→C n):∀n,C n:=by
 intro n
 induction n using Nat.strongRecOn with
 |_ n ih=>
  by_cases h:n<10
  · exact one n h
  · exact more n (by omega) (ih (n / 10) (by omega))
theorem La (n:Nat):Cx (dec n)=true∧dec n≠ []:=by
 refine EL (C:=fun n=>Cx (dec n)=true∧dec n≠ []) (fun n h=> ?_) (fun n h ih=> ?_) n
 · rw [wm h]
   refine ⟨?_,by simp⟩
   simp only [Cx,List.all_cons,List.all_nil,Bool.and_true,Bool.and_eq_true,decide_eq_true_eq]
   rw [sJ n h];omega
 · rw [wo h]
   refine ⟨?_,by simp⟩
   have:=sJ (n % 10) (by omega)
   unfold Cx at ih⊢
   rw [List.all_append,ih.1]
   simp only [Bool.true_and,List.all_cons,List.all_nil,Bool.and_true,Bool.and_eq_true,decide_eq_true_eq]
   omega
theorem QX:∀(l:List UInt8) (m:List UInt8) v ok,qg (l++m) v ok=qg m (qg l v ok).1 (qg l v ok).2:=by
 intro l
 induction l with
 |nil=>intro m v ok;rfl
 |cons c l ih=>intro m v ok;rw [List.cons_append,qg,ih,qg]
theorem GV (n:Nat) (h:n≤1099511627776):qg (dec n) 0 true=((n:Int),true):=by
 revert h
 refine EL (C:=fun n=>n≤1099511627776→qg (dec n) 0 true=((n:Int),true)) (fun n h hn=> ?_) (fun n h ih hn=> ?_) n
 · rw [wm h,qg,qg,sJ n h]
   simp only [Prod.mk.injEq,Bool.true_and,decide_eq_true_eq]
   omega
 · rw [wo h,QX,ih (by omega),qg,qg,sJ (n % 10) (by omega)]
   simp only [Prod.mk.injEq,Bool.true_and,decide_eq_true_eq]
   omega
def EM (t:ByteArray) (a:Nat):Prop:=dS t (pts t) ((pts t).length+1) 0= .error a
theorem EM.aX {t:ByteArray}{a:Nat}(h:EM t a) (hs:t.size≤1000):aX t=([],a,3):=by
 unfold EM at h
 unfold aH.aX
 rw [if_neg (by omega),h]
theorem EM.here {t:ByteArray}(hne:pts t≠ []) (hsk:skip (pts t) 0=0) (hb:(dF t (pts t) 0).2.1=false):EM t 0:=by
 unfold EM
 rw [F4 (by rw [hsk];exact List.length_pos_iff.2 hne) (by rw [hsk];exact hb),hsk]
theorem EM.blank (c:UInt8) (hc:c=32∨c=9∨c=10∨c=13) {t:ByteArray}{a:Nat}(h:EM t a):EM (⟨#[c]⟩++t) (1+a):=by
 have hlt:c.toNat<128:=by rcases hc with rfl|rfl|rfl|rfl<;>decide
 have hcut:=pU c hlt t
 have hlen:=hcut.len
 have hb:dO (pts (⟨#[c]⟩++t)) 0=true:=by
  unfold dO
  rw [gW c hlt,gW c hlt,gW c hlt,gW c hlt]
  rcases hc with rfl|rfl|rfl|rfl<;>rfl
 have hsk:skip (pts (⟨#[c]⟩++t)) 0=skip (pts (⟨#[c]⟩++t)) 1:=gG (by rw [hlen];show 0<1+_;omega) hb
 have hx:=hcut.dS ((pts (⟨#[c]⟩++t)).length+1) 0
 rw [Nat.add_zero,xE t (pts t) _ ((pts t).length+1) 0 (by rw [hlen];show _<1+_+1+0;omega) (by omega),h]at hx
 refine Eq.trans ?_ hx
 show _=dS _ _ _ 1
 rw [dS,dS,hsk]
open Go.RowKit
def j4 (n:Int):ByteArray:=⟨(fD (decide (n<0))++dec n.natAbs).toArray⟩
end aH
end Go.Proofs.YtfbgdjcnlnfoaaaGreatDoor
