/- Parts of a proof. -/
import Derived.Test.YtcgadodckoalnaaGreatDoorB06
namespace Go.Proofs.YtcgadodckoalnaaGreatDoor
namespace aN
section
variable (X:Tx)
theorem Sk {σ:Ps}{k:Int}{t:Tk}(h:X.next σ k=some t):X.T[σ.i]? =some t∧t.kind=k∧σ.bad=none:=by
 unfold Tx.next at h;cases hb:σ.bad with
 |some e=>rw [hb]at h;cases h
 |none=>
  rw [hb]at h;simp only at h;cases ht:X.T[σ.i]? with
  |none=>rw [ht]at h;cases h
  |some u=>
   rw [ht]at h;simp only at h;split at h
   · rename_i hk;cases h;exact ⟨rfl,hk,rfl⟩
   · cases h
theorem abX {X:Tx}(hX:X.Ok) {σ:Ps}{k:Int}{t:Tk}(h:X.next σ k=some t):KY t.fo∧t.kind=k:=by
 obtain ⟨h1,h2,_⟩:=Sk X h;refine ⟨hX _ (List.mem_map_of_mem (List.mem_of_getElem? h1)),h2⟩
theorem BM (σ:Ps) (s:ByteArray):X.sees σ s=(X.isK σ 1 s||X.isK σ 4 s):=rfl
theorem P8 {σ:Ps}{k:Int}{s:ByteArray}(h:X.isK σ k s=true):∃t,X.next σ k=some t∧t.s=s:=by
 unfold Tx.isK at h;split at h
 · rename_i t ht;exact ⟨t,ht,eD.1 h⟩
 · cases h
theorem XC {X:Tx}(hX:X.Ok) (σ:Ps) {s:ByteArray}(hs:pW s um=true):X.isK σ 4 s=X.sees σ s:=by
 rw [BM];cases h:X.isK σ 1 s with
 |false=>rfl
 |true=>
  obtain ⟨t,ht,rfl⟩:=P8 X h;obtain ⟨ho,hk⟩:=abX hX ht;have hk' :t.fo.1=1:=hk;rcases ho with ⟨_,h2,_⟩|⟨h1,_⟩|⟨h1,_⟩|⟨h1,_⟩
  · have h3:pW t.s um=false:=zZ h2;rw [h3]at hs;cases hs
  all_goals omega
theorem XD {X:Tx}(hX:X.Ok) (σ:Ps) {s:ByteArray}(hs:pW s um=false):X.isK σ 1 s=X.sees σ s:=by
 rw [BM];cases h:X.isK σ 4 s with
 |false=>rw [Bool.or_false]
 |true=>
  obtain ⟨t,ht,rfl⟩:=P8 X h;obtain ⟨ho,hk⟩:=abX hX ht;have hk' :t.fo.1=4:=hk;rcases ho with ⟨h1,_⟩|⟨h1,_⟩|⟨h1,_⟩|⟨_,h2,_⟩
  · omega
  · omega
  · omega
  · have h3:pW t.s um=true:=h2;rw [h3]at hs;cases hs
theorem Sl {σ:Ps}{s:ByteArray}(h:X.sees σ s=true):σ.bad=none∧∃t,X.T[σ.i]? =some t∧t.s=s:=by
 rw [BM,Bool.or_eq_true]at h;rcases h with h|h<;>
 · obtain ⟨t,ht,hs⟩:=P8 X h;obtain ⟨h1,_,h3⟩:=Sk X ht;exact ⟨h3,t,h1,hs⟩
theorem xU {σ:Ps}{a b:ByteArray}(ha:X.sees σ a=true) (hb:jf b a=false):X.sees σ b=false:=by
 cases h:X.sees σ b with
 |false=>rfl
 |true=>
  obtain ⟨_,t,h1,h2⟩:=Sl X ha;obtain ⟨_,u,h3,h4⟩:=Sl X h;rw [h1]at h3;cases h3;rw [eD.2 (h4.symm.trans h2)]at hb;cases hb
def Tx.ni (o:ByteArray) (c:List ByteArray×Ps):Sx×Ps:=
 let v0:=X.value (X.must c.2 [(⟨#[41]⟩:ah),(⟨#[118,97,108,117,101,115]⟩:ah),(⟨#[40]⟩:ah)])
 let v:=X.dY X.T.length v0.2 [v0.1]
 let σ1:=if X.sees v.2 (⟨#[41]⟩:ah)&&v.1.length !=c.1.length then X.fail v.2 else v.2
 X.using_ (X.must σ1 [(⟨#[41]⟩:ah)]) true {Sx.zero with kind:=5,bT:=o,sets:=List.zipWith Pr.mk c.1 v.1}
theorem P9 (o:ByteArray) (c:List ByteArray×Ps):Lf c.2 (X.ni o c).2:=
 (((((bD X _ _).trans (kZ X _)).trans (Ai X _ _ _)).trans (qC (sJ X _) (Lf.refl _))).trans (bD X _ _)).trans (BJ X _ _ _)
theorem Es (o:ByteArray) (c:List ByteArray×Ps):Lf c.2 (X.xP o c).2:=
 (((((bD X _ _).trans (kZ X _)).trans (Ai X _ _ _)).trans (qC (sJ X _) (Lf.refl _))).trans (bD X _ _)).trans (BJ X _ _ _)
theorem Qa (σ:Ps):Lf σ (X.oH σ).2:=((((bD X _ σ).trans (gZ X _)).trans (bD X _ _)).trans (Ep X _ _)).trans (Es X _ _)
theorem Qb {X:Tx}(hX:X.Ok) (σ:Ps):Er (X.oH σ) (X.insert σ):=
 Er.bind (f:=X.xP (X.name (X.must σ [(⟨#[105,110,116,111]⟩:ah)])).1) (g:=X.ni (X.name (X.must σ [(⟨#[105,110,116,111]⟩:ah)])).1) (xS X (X.must (X.name (X.must σ [(⟨#[105,110,116,111]⟩:ah)])).2 [(⟨#[40]⟩:ah)]) 10)
  (fun r=> .inl (by unfold Tx.xP Tx.ni;simp only;rw [XC hX _ (by decide+kernel)])) (fun r=>Es X _ r) (fun r=>P9 X _ r)
theorem Dx:∀n σ l Z,Lf σ (X.rD n σ l Z).2
 |0,σ,l,Z=>Lf.refl σ
 |n+1,σ,l,Z=>by
  have h0:=((rE X σ l 8).trans (bD X [(⟨#[61]⟩:ah)] _)).trans (kZ X _);rw [Tx.rD];try simp only
  split
  · exact (h0.trans (fQ _)).trans (Dx n _ _ _)
  · exact h0
theorem J8:∀n σ l Z,Er (X.rD n σ l Z) (X.kU n σ l Z)
 |0,σ,l,Z=>Er.rfl
 |n+1,σ,l,Z=>by
  rw [Tx.rD,Tx.kU]
  refine Er.bind (f:=fun r=>if X.sees (X.value (X.must r.2 [(⟨#[61]⟩:ah)])).2 (⟨#[44]⟩:ah)then X.rD n (X.value (X.must r.2 [(⟨#[61]⟩:ah)])).2.step r.1 (Z++ [⟨r.1.getLastD ⟨#[]⟩,(X.value (X.must r.2 [(⟨#[61]⟩:ah)])).1⟩])else (Z++ [⟨r.1.getLastD ⟨#[]⟩,(X.value (X.must r.2 [(⟨#[61]⟩:ah)])).1⟩],(X.value (X.must r.2 [(⟨#[61]⟩:ah)])).2))
   (g:=fun r=>if X.sees (X.value (X.must r.2 [(⟨#[61]⟩:ah)])).2 (⟨#[44]⟩:ah)then X.kU n (X.value (X.must r.2 [(⟨#[61]⟩:ah)])).2.step r.1 (Z++ [⟨r.1.getLastD ⟨#[]⟩,(X.value (X.must r.2 [(⟨#[61]⟩:ah)])).1⟩])else (Z++ [⟨r.1.getLastD ⟨#[]⟩,(X.value (X.must r.2 [(⟨#[61]⟩:ah)])).1⟩],(X.value (X.must r.2 [(⟨#[61]⟩:ah)])).2))
   (vN X σ l 8) (fun r=> ?_) (fun r=> ?_) (fun r=> ?_)
  · show Er (if _ then _ else _) (if _ then _ else _);split
    · exact J8 n _ _ _
    · exact Er.rfl
  · show Lf r.2 (if _ then _ else _:List Pr×Ps).2;split
    · exact (((bD X [(⟨#[61]⟩:ah)] _).trans (kZ X _)).trans (fQ _)).trans (Dx X n _ _ _)
    · exact (bD X [(⟨#[61]⟩:ah)] _).trans (kZ X _)
  · show Lf r.2 (if _ then _ else _:List Pr×Ps).2;split
    · exact (((bD X [(⟨#[61]⟩:ah)] _).trans (kZ X _)).trans (fQ _)).trans (Nr X n _ _ _)
    · exact (bD X [(⟨#[61]⟩:ah)] _).trans (kZ X _)
theorem xV (x:Sx) (s:List Pr×Ps):Lf s.2 (X.xQ x s).2:=Ld X _ _
theorem Qc (σ:Ps):Lf σ (X.qG σ).2:=((((gZ X σ).trans (BJ X _ _ _)).trans (bD X _ _)).trans (Dx X _ _ _ _)).trans (xV X _ _)
theorem Qd (σ:Ps):Er (X.qG σ) (X.update σ):=
 Er.bind (f:=X.xQ (X.using_ (X.name σ).2 true {Sx.zero with kind:=6,bT:=(X.name σ).1}).1) (g:=X.xQ (X.using_ (X.name σ).2 true {Sx.zero with kind:=6,bT:=(X.name σ).1}).1) (J8 X (X.T.length+1) (X.must (X.using_ (X.name σ).2 true {Sx.zero with kind:=6,bT:=(X.name σ).1}).2 [(⟨#[115,101,116]⟩:ah)]) [] []) (fun _r=>Er.rfl) (fun r=>xV X _ r) (fun r=>xV X _ r)
theorem xW (c:List ByteArray×Ps):Lf c.2 (X.xR c).2:=(((bD X _ _).trans (gZ X _)).trans (BJ X _ _ _)).trans (Ld X _ _)
theorem Qe (σ:Ps):Lf σ (X.Fv σ).2:=by
 have h0:Lf σ (if X.isK σ 1 (⟨#[102,114,111,109]⟩:ah)=true then ([],σ)else X.gq σ 8).2:=by
  split
  · exact Lf.refl σ
  · exact Ep X _ _
 exact h0.trans (xW X _)
theorem Qf {X:Tx}(hX:X.Ok) (σ:Ps):Er (X.Fv σ) (X.remove σ):=by
 refine Er.bind (a:=if X.isK σ 1 (⟨#[102,114,111,109]⟩:ah)then ([],σ)else X.gq σ 8) (b:=if X.sees σ (⟨#[102,114,111,109]⟩:ah)then ([],σ)else X.columns σ 8) (f:=X.xR) (g:=X.xR) ?_ (fun r=>Er.rfl) (fun r=>xW X r) (fun r=>xW X r);rw [XD hX _ (by decide+kernel)];split
 · exact Er.rfl
 · exact xS X _ _
theorem Nu (c:List ByteArray×Ps):Lf c.2 (X.J7 c).2:=by
 have h0:=((bD X [(⟨#[102,114,111,109]⟩:ah)] c.2).trans (gZ X _)).trans (Ld X _ false);unfold Tx.J7;simp only;split
 · exact (h0.trans (fQ _)).trans (BI X _)
 · exact h0
theorem aaM (σ:Ps):Er (X.acV σ) (X.ask σ):=Er.bind (f:=X.J7) (g:=X.J7) (Nt X σ) (fun _r=>Er.rfl) (fun r=>Nu X r) (fun r=>Nu X r)
theorem Gz (σ:Ps):Lf σ (X.ig σ).2.2:=by
 unfold Tx.ig;split
 · exact (fQ σ).trans (Qa X _)
 split
 · exact (fQ σ).trans (Qc X _)
 split
 · exact (fQ σ).trans (Qe X _)
 · exact Lf.refl σ
theorem Dy:∀n σ l,Lf σ (X.nY n σ l).2
 |0,σ,l=>Lf.refl σ
 |n+1,σ,l=>by
  rw [Tx.nY];split
  · exact Lf.refl σ
  · split
    · exact fQ σ
    · simp only;refine ((?_:Lf σ _).trans (bD X _ _)).trans (Dy n _ _);exact ((qC (kY _ _) (Lf.refl _)).trans (Gz X _)).trans (qC (kY _ _) (Lf.refl _))
theorem XE (st:Ps→Tx.Nd×Ps):∀n σ l,Lf σ (X.jk st n σ l).2
 |0,σ,l=>Lf.refl σ
 |n+1,σ,l=>by
  intro a ha;rw [Tx.jk,if_pos (by rw [ha];rfl)];exact ha
theorem GA {X:Tx}(hX:X.Ok) (n:Nat) (σ:Ps):
 (∃x y τ ρ,X.ig σ=(x,true,τ)∧X.jh (n+1) σ=(.change y,ρ)∧Er (x,τ) (y,ρ))∨
 (X.ig σ=(Sx.zero,false,σ)∧X.sees σ (⟨#[105,110,115,101,114,116]⟩:ah)=false∧X.sees σ (⟨#[117,112,100,97,116,101]⟩:ah)=false∧X.sees σ (⟨#[100,101,108,101,116,101]⟩:ah)=false∧∀y,(X.jh (n+1) σ).1≠ .change y):=by
 unfold Tx.ig;rw [Tx.jh];cases h1:X.sees σ (⟨#[105,110,115,101,114,116]⟩:ah)with
 |true=>exact .inl ⟨_,_,_,_,rfl,rfl,Qb hX _⟩
 |false=>
  cases h2:X.sees σ (⟨#[117,112,100,97,116,101]⟩:ah)with
  |true=>exact .inl ⟨_,_,_,_,rfl,rfl,Qd X _⟩
  |false=>
   cases h3:X.sees σ (⟨#[100,101,108,101,116,101]⟩:ah)with
   |true=>exact .inl ⟨_,_,_,_,rfl,rfl,Qf hX _⟩
   |false=>
    refine .inr ⟨rfl,rfl,rfl,rfl,fun y=> ?_⟩;simp only [Bool.false_eq_true,if_false]
    repeat' split
    all_goals (intro h;cases h)
theorem J9 {X:Tx}(hX:X.Ok) (m:Nat):∀n σ l,Er (X.nY n σ l) (X.jk (X.jh (m+1)) n σ l)
 |0,σ,l=>Er.rfl
 |n+1,σ,l=>by
  rw [Tx.nY,Tx.jk];split
  · exact Er.rfl
  · rename_i hb;split
    · exact Er.rfl
    · simp only
      have hbn:σ.bad=none:=by
       cases h:σ.bad with
       |none=>rfl
       |some e=>rw [h]at hb;exact absurd rfl hb
      obtain ⟨σ1,h1⟩:∃r,(if 8≤l.length then σ.wrong (X.here σ)else σ)=r:=⟨_,rfl⟩
      have hs:σ1=σ∨σ1.bad=some (X.here σ):=by
       rw [←h1];split
       · exact .inr (qP hbn _)
       · exact .inl rfl
      rw [h1];rcases GA hX m σ1 with ⟨x,y,τ,ρ,e1,e2,hE⟩|⟨e1,_,_,_,hno⟩
      · rw [e1,e2];simp only [Bool.not_true,Bool.false_eq_true,if_false];exact Er.bind (a:=(x,τ)) (b:=(y,ρ)) (f:=fun r=>X.nY n (X.must r.2 [(⟨#[59]⟩:ah)]) (l++ [r.1])) (g:=fun r=>X.jk (X.jh (m+1)) n (X.must r.2 [(⟨#[59]⟩:ah)]) (l++ [r.1])) hE (fun r=>J9 hX m n _ _) (fun r=>(bD X _ _).trans (Dy X n _ _)) (fun r=>(bD X _ _).trans (XE X _ n _ _))
      · rw [e1];simp only [Bool.not_false,if_true];refine .inr ⟨X.here σ, ?_, ?_⟩
        · refine Dy X n _ _ _ (bD X _ _ _ ?_);rcases hs with rfl|hs
          · exact qP hbn _
          · exact vM hs _
        · cases hst:X.jh (m+1) σ1 with
          |mk nd ρ=>
           cases nd with
           |change y=>exact absurd (by rw [hst]) (hno y)
           |_=>rfl
theorem XF {X:Tx}(hX:X.Ok) (m:Nat) (σ:Ps):Er (X.En σ) (X.many (X.jh (m+1)) σ):=
 Er.bind (f:=fun r:List Sx×Ps=>(r.1,X.must r.2 [(⟨#[98,97,116,99,104]⟩:ah)])) (g:=fun r:List Sx×Ps=>(r.1,X.must r.2 [(⟨#[98,97,116,99,104]⟩:ah)])) (J9 hX m 10 (X.must σ [(⟨#[98,97,116,99,104]⟩:ah)]) []) (fun _=>Er.rfl) (fun _=>bD X _ _) (fun _=>bD X _ _)
theorem Er.map {α β:Type}{a b:α×Ps}(f:α→β) (h:Er a b):Er (f a.1,a.2) (f b.1,b.2):=by
 rcases h with h|h
 · rw [h];exact Er.rfl
 · exact .inr h
theorem Qg {X:Tx}(hX:X.Ok) (σ:Ps):Er (X.lQ σ) (if X.sees σ (⟨#[116,97,98,108,101]⟩:ah)then X.table σ.step else if X.sees σ (⟨#[109,97,116,101,114,105,97,108,105,122,101,100]⟩:ah)then X.view σ.step else X.index σ):=by
 unfold Tx.lQ;split
 · exact Un X hX _
 split
 · exact XB X hX _
 · exact Er.rfl
theorem acW {X:Tx}(hX:X.Ok) (m:Nat) (σ:Ps):Er (X.Eo σ) (X.jh (m+2) σ):=by
 rcases GA hX (m+1) σ with ⟨x,y,τ,ρ,e1,e2,hE⟩|⟨e1,n1,n2,n3,_⟩
 · rw [e2];unfold Tx.Eo;simp only [e1,if_true];exact hE.map Tx.Nd.change
 · unfold Tx.Eo;rw [Tx.jh,n1,n2,n3];simp only [e1,Bool.false_eq_true,if_false];cases hc:X.sees σ (⟨#[99,114,101,97,116,101]⟩:ah)with
   |true=>
    have d1:X.sees σ (⟨#[115,101,108,101,99,116]⟩:ah)=false:=xU X hc (by decide+kernel);have d2:X.sees σ (⟨#[98,101,103,105,110]⟩:ah)=false:=xU X hc (by decide+kernel);have d3:X.sees σ (⟨#[100,114,111,112]⟩:ah)=false:=xU X hc (by decide+kernel);rw [d1,d2,d3];simp only [Bool.false_eq_true,if_false,if_true];have h:=(Qg hX σ.step).map Tx.Nd.plain;split
    · rename_i ht;rw [if_pos ht]at h;exact h
    · rename_i ht;rw [if_neg ht]at h;split
      · rename_i hm;rw [if_pos hm]at h;exact h
      · rename_i hm;rw [if_neg hm]at h;exact h
   |false=>
    cases hd:X.sees σ (⟨#[100,114,111,112]⟩:ah)with
    |true=>
     have d1:X.sees σ (⟨#[115,101,108,101,99,116]⟩:ah)=false:=xU X hd (by decide+kernel);have d2:X.sees σ (⟨#[98,101,103,105,110]⟩:ah)=false:=xU X hd (by decide+kernel);rw [d1,d2];simp only [Bool.false_eq_true,if_false,if_true];exact Er.rfl
    |false=>
     cases hs:X.sees σ (⟨#[115,101,108,101,99,116]⟩:ah)with
     |true=>
      simp only [Bool.false_eq_true,if_false,if_true];exact (aaM X _).map Tx.Nd.plain
     |false=>
      cases hg:X.sees σ (⟨#[98,101,103,105,110]⟩:ah)with
      |true=>
       simp only [Bool.false_eq_true,if_false,if_true];exact (XF hX m _).map Tx.Nd.batch
      |false=>
       simp only [Bool.false_eq_true,if_false];exact Er.rfl
end
def sK (X:Tx):Tx.Nd×Ps:=
 let r:=X.Eo ⟨0,none⟩
 let σ:=X.may r.2 (⟨#[59]⟩:ah)
 (r.1,if σ.i<X.T.length then X.fail σ else σ)
theorem vO {X:Tx}(hX:X.Ok):Er (sK X) (jv X):=by
 refine Er.bind (f:=fun r:Tx.Nd×Ps=>(r.1,if (X.may r.2 (⟨#[59]⟩:ah)).i<X.T.length then X.fail (X.may r.2 (⟨#[59]⟩:ah))else X.may r.2 (⟨#[59]⟩:ah))) (g:=fun r:Tx.Nd×Ps=>(r.1,if (X.may r.2 (⟨#[59]⟩:ah)).i<X.T.length then X.fail (X.may r.2 (⟨#[59]⟩:ah))else X.may r.2 (⟨#[59]⟩:ah))) (acW hX X.T.length ⟨0,none⟩) (fun _=>Er.rfl) (fun r=> ?_) (fun r=> ?_)
 · exact (Xz X _ _).trans (qC (sJ X _) (Lf.refl _))
 · exact (Xz X _ _).trans (qC (sJ X _) (Lf.refl _))
def BN (s:ByteArray):kD×Int×Int:=
 let l:=aP s
 if l.2.2≠0 then (kD.zero,l.2.1,l.2.2)
 else
  let r:=sK ⟨l.1,(pts s).length⟩
  match r.2.bad with
  |some a=>(kD.zero,a,3)
  |none=>if 1000<(eO (je r.1)).size then (kD.zero,0,2)else (je r.1,0,0)
theorem Ak (s:ByteArray):BN s=bE s:=by
 unfold BN bE;simp only;by_cases h:(aP s).2.2≠0
 · rw [if_pos h,if_pos h]
 · rw [if_neg h,if_neg h];obtain ⟨hx,_⟩:=oG (Decidable.not_not.1 h);have hX:=Lx.ok hx (pts s).length;rcases vO hX with e|⟨a,h1,h2⟩
   · rw [e];cases (jv ⟨(aP s).1,(pts s).length⟩).2.bad<;>rfl
   · rw [h1,h2]
def tL:ByteArray:=(⟨#[32,99,114,101,97,116,101,32,116,97,98,108,101,32,112,114,105,109,97,114,121,32,107,101,121,32,109,97,116,101,114,105,97,108,105,122,101,100,32,118,105,101,119,32,97,115,32,115,101,108,101,99,116,32,102,114,111,109,32,119,104,101,114,101,32,105,115,32,110,111,116,32,110,117,108,108,32,105,110,100,101,120,32,111,110,32,100,114,111,112,32,105,110,115,101,114,116,32,105,110,116,111,32,118,97,108,117,101,115,32,117,115,105,110,103,32,117,112,100,97,116,101,32,115,101,116,32,97,110,100,32,100,101,108,101,116,101,32,116,105,109,101,115,116,97,109,112,32,108,105,109,105,116,32,98,101,103,105,110,32,98,97,116,99,104,32,97,112,112,108,121,32,116,116,108,32,116,101,120,116,32,105,110,116,32]⟩:ah)
def tN:List UInt8:=tL.data.toList
def Nv (s:ByteArray):ByteArray:=(⟨#[32]⟩:ah)++s++(⟨#[32]⟩:ah)
def GD (s:ByteArray) (i:Nat):Bool:=decide (i+(s.size+2)≤185)&&jf (tL.extract i (i+(s.size+2))) (Nv s)
def wM (s:ByteArray):Bool:=(List.range 186).any (GD s)
theorem Qh:tL.size=185:=by decide+kernel
theorem XG (s:ByteArray):(Nv s).size=s.size+2:=by
 unfold Nv;rw [ByteArray.size_append,ByteArray.size_append];show 1+s.size+1=_;omega
theorem aaN:∀s∈FX,wM s=true:=by decide+kernel
def abY (i n:Nat):Bool:= !((tN.drop i).take (n+2)==32::((tN.drop (i+1)).take n++ [32]))||((tN.drop (i+1)).take n).contains 32||n==0||zX ⟨((tN.drop (i+1)).take n).toArray⟩
theorem aaO:(List.range 186).all (fun i=>(List.range 14).all (fun n=>abY i n))=true:=by decide+kernel
theorem Ur:(List.range 172).all (fun i=>((tN.drop i).take 14).contains 32)=true:=by decide+kernel
theorem afi (n b0 b1 b2 b3:Nat):(2≤(Lib.decodeN n b0 b1 b2 b3).2→b1 / 64=2)∧(3≤(Lib.decodeN n b0 b1 b2 b3).2→b2 / 64=2)∧(4≤(Lib.decodeN n b0 b1 b2 b3).2→b3 / 64=2)∧(Lib.decodeN n b0 b1 b2 b3).2≤4:=by
 unfold Lib.decodeN
 repeat' split
 all_goals (try simp only)
 all_goals (refine ⟨?_, ?_, ?_, ?_⟩<;>omega)
theorem XH (s:ByteArray):∀n pos,s.size - pos≤n→(∀p∈dS s pos,p.r≠32)→∀j,pos≤j→j<s.size→bY s j≠32:=by
 intro n
 induction n with
 |zero=>intro pos h _ j h1 h2;omega
 |succ n ih=>
  intro pos h hp j h1 h2;have hlt:pos<s.size:=by omega
  have hw0:=width_pos s pos hlt;rw [bM s pos hlt]at hp;have h0:=hp _ (List.mem_cons_self ..);by_cases hj:pos+(Utf8.decode s pos).2≤j
  · exact ih (pos+(Utf8.decode s pos).2) (by omega) (fun p hq=>hp p (List.mem_cons_of_mem _ hq)) j hj h2
  · by_cases hj0:j=pos
    · subst hj0;intro h32;rw [yP s j hlt (by omega)]at h0;exact h0 h32
    · have hd:=afi (s.size - pos) (bY s pos) (bY s (pos+1)) (bY s (pos+2)) (bY s (pos+3));rw [←jK]at hd;obtain ⟨d1,d2,d3,d4⟩:=hd;have:j=pos+1∨j=pos+2∨j=pos+3:=by omega
      rcases this with rfl|rfl|rfl
      · have:=d1 (by omega);omega
      · have:=d2 (by omega);omega
      · have:=d3 (by omega);omega
theorem Nw {s:ByteArray}(h:nP s=true):(32:UInt8)∉ s.data.toList:=by
 unfold nP at h;simp only [Bool.and_eq_true]at h;obtain ⟨⟨_,h⟩,_⟩:=h;rw [List.all_eq_true]at h
 have hp:∀p∈dS s 0,p.r≠32:=by
  intro p hp;obtain ⟨k,hk,rfl⟩:=List.getElem_of_mem hp;have:=h k (List.mem_range.2 hk);rw [Bool.or_eq_true]at this;rw [ji]at this;unfold dJ dh at this;rw [List.getElem?_eq_getElem hk]at this;simp only at this;rcases this with h1|h1
  · have h2:=(Bool.and_eq_true _ _▸h1).2;unfold gD at h2;simp only [Bool.or_eq_true,Bool.and_eq_true,decide_eq_true_eq,beq_iff_eq]at h2;omega
  · unfold kG at h1;simp only [Bool.and_eq_true,decide_eq_true_eq]at h1;omega
 have hn:=XH s s.size 0 (by omega) hp;intro hm;obtain ⟨j,hj,he⟩:=List.getElem_of_mem hm;have hj2:j<s.size:=by simpa using hj
 refine hn j (Nat.zero_le _) hj2 ?_;rw [←jZ s j hj2];have:s[j]=32:=by rw [←he];rfl
 rw [this];rfl
theorem aaP {s:ByteArray}(hs:(32:UInt8)∉ s.data.toList) {i:Nat}(h:GD s i=true):zX s=true:=by
 unfold GD at h;rw [Bool.and_eq_true,decide_eq_true_eq]at h;obtain ⟨hi,h⟩:=h;have he:=congrArg (fun b:ByteArray=>b.data.toList) (eD.1 h);obtain ⟨S,hS⟩:∃S,s.data.toList=S:=⟨_,rfl⟩;have hn:S.length=s.size:=by rw [←hS];simp
 have hse:s=⟨S.toArray⟩:=by rw [←hS]
 simp only [Nv,ByteArray.data_append,ByteArray.data_extract,Array.toList_extract,Array.toList_append,hS]at he
 replace he:(tN.drop i).take (S.length+2)=32::(S++ [32]):=by
  rw [hn];have e:i+(s.size+2) - i=s.size+2:=by omega
  rw [List.extract_eq_take_drop,e]at he;exact he
 have hL:tN.length=185:=by have:=Qh;simpa [tN]using this
 rw [hS]at hs
 have hd:(tN.drop (i+1)).take S.length=S:=by
  have h1:=congrArg (fun l=>(l.drop 1).take S.length) he;simp only [List.drop_succ_cons,List.drop_zero,List.take_left']at h1;rw [List.drop_take,List.drop_drop,List.take_take]at h1;rw [show min S.length (S.length+2 - 1)=S.length by omega]at h1;exact h1
 by_cases h0:S.length=0
 · exfalso;have hS0:S= []:=List.eq_nil_of_length_eq_zero h0
   have:wM ⟨#[]⟩=true:=by
    unfold wM;rw [List.any_eq_true];refine ⟨i,List.mem_range.2 (by omega), ?_⟩;have:s=⟨#[]⟩:=by rw [hse,hS0]
    rw [←this];unfold GD;rw [Bool.and_eq_true,decide_eq_true_eq];exact ⟨hi,h⟩
   exact absurd this (by decide+kernel)
 · by_cases ZU:S.length<14
   · have hg:=aaO;rw [List.all_eq_true]at hg;have hg:=hg i (List.mem_range.2 (by omega));rw [List.all_eq_true]at hg;have hg:=hg S.length (List.mem_range.2 ZU);unfold abY at hg;rw [hd,he]at hg
     have hc:S.contains 32=false:=by
      cases hc:S.contains 32 with
      |false=>rfl
      |true=>exact absurd (List.contains_iff_mem.1 hc) hs
     rw [hc,beq_self_eq_true,beq_eq_false_iff_ne.2 h0]at hg;rw [hse];simpa using hg
   · exfalso;have hg:=Ur;rw [List.all_eq_true]at hg;have hg:=hg (i+1) (List.mem_range.2 (by omega));have hm:=List.contains_iff_mem.1 hg;refine hs ?_
     have:(tN.drop (i+1)).take 14=S.take 14:=by
      conv=>rhs;rw [←hd]
      rw [List.take_take,show min 14 S.length=14 by omega]
     rw [this]at hm;exact List.mem_of_mem_take hm
theorem aaQ {s:ByteArray}(h:nP s=true):wM s=zX s:=by
 cases hr:zX s with
 |true=>exact aaN s (qF.1 hr)
 |false=>
  cases hh:wM s with
  |false=>rfl
  |true=>
   unfold wM at hh;rw [List.any_eq_true]at hh;obtain ⟨i,_,hi⟩:=hh;rw [aaP (Nw h) hi]at hr;cases hr
end aN
end Go.Proofs.YtcgadodckoalnaaGreatDoor
