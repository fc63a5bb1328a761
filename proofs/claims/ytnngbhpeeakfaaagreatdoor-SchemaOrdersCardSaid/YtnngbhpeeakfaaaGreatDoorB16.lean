/- Parts of a proof. -/
import Derived.Test.YtnngbhpeeakfaaaGreatDoorB15
set_option maxHeartbeats 4000000
set_option maxRecDepth 100000
namespace Go.Proofs.YtnngbhpeeakfaaaGreatDoor
open Go.Proofs.Tryz
open Go.RowKit
open aK
theorem Cv (X:Tx) (σ:Ps) (s:ByteArray):σ.i≤(X.must σ [s]).i:=by
 show σ.i≤(X.bS σ s).i;unfold Tx.bS;split
 · show σ.i≤σ.i+1;omega
 · show σ.i≤(σ.wrong _).i;rw [oq];exact Nat.le_refl _
def ac0 (K:PK) (v:Value) (w:World):Nat:=match v with| .bool true=>K.X.T.length - UU K w+1|_=>0
theorem xK (l:List Pr) (p:Pr):fG (l++ [p])=fG l++lM p:=by simp [fG]
theorem D7 (l:List ByteArray) (x:ByteArray):(l++ [x]).getLastD ⟨#[]⟩=x:=by simp
theorem BK (X:Tx) (σ:Ps) (l:List ByteArray) (most:Nat):∃x,(X.column σ l most).1=l++ [x]:=⟨_,rfl⟩
theorem M4 {K:PK}{w:World}{σ:Ps}(h:PQ K w σ):
 Calls prog 191 #[.pointer (some ⟨K.b,0,none⟩)] w (gD K w 330 (K.X.update σ).1 (K.X.update σ).2):=by
 have hle:=h.le;have hD0:=Did.refl h;obtain ⟨⟨o,σ1⟩,hq1⟩:∃r,K.X.name σ=r:=⟨_,rfl⟩;obtain ⟨⟨xu,σ2⟩,hq2⟩:∃r,K.X.using_ σ1 true {Sx.zero with kind:=6,dA:=o}=r:=⟨_,rfl⟩;obtain ⟨σ3,hq3⟩:∃r,K.X.must σ2 [(⟨#[115,101,116]⟩:ah)]=r:=⟨_,rfl⟩;obtain ⟨⟨Zf,sP⟩,hR⟩:∃r,K.X.lY (K.X.T.length+1) σ3 [] []=r:=⟨_,rfl⟩;obtain ⟨⟨q,σq⟩,hQ⟩:∃r,K.X.aO sP true=r:=⟨_,rfl⟩;have HU:=Lib.hid (nA K.X _ _ _ _ _ hq2);have HE:Hid (K.X.update σ=({xu with sets:=Zf,aO:=q},σq)):=by show _=_;unfold Tx.update;simp only [hq1,hq2,hq3,hR,hQ]
 have HT:=Lib.hid K.hT;go_enter func191,ntmps191;have hm1:=dS hD0.1;rw [hq1]at hm1;try simp only at hm1
 go_wp2_with fail;refine hm1.mono ?_;rintro e w1 ⟨rfl,hd1⟩;have hD1:=hD0.trans hd1;have hB2:=KH 6 o;have dK:K.L≤w1.heap.size:=Nat.le_trans hle hD1.size;have hbx:w.heap.size≤w1.heap.size:=hD1.size;have hblk2:(w1.alloc (.cells (aP {Sx.zero with kind:=6,dA:=o} au au au au au) 39)).heap[w1.heap.size]? =some (.cells (aP {Sx.zero with kind:=6,dA:=o} au au au au au) 39 (0,0)):=aB w1 _;have hD2:=hD1.alloc (.cells (aP {Sx.zero with kind:=6,dA:=o} au au au au au) 39);have mY:=kX hD2 hbx (x:={Sx.zero with kind:=6,dA:=o}) hblk2 true;rw [hq2]at mY;go_wp2_with (refine lN rfl _ _ rfl rfl rfl rfl rfl ?_);refine mY.mono ?_;rintro e w3 ⟨rfl,hD3,hblk3,hk3⟩;have mK:=bS hD3.1 (⟨#[115,101,116]⟩:ah);rw [hq3]at mK;try simp only [av,bB]at mK
 go_wp2_with fail;refine mK.mono ?_;rintro e w4 ⟨rfl,hd4⟩;have hD4:=hD3.trans hd4;have eZ:=hd4.blk hblk3 dK;go_wp2_with fail
 go_loopw [4,5] (fun names more wr=>∃(mb:Bool) (l:List ByteArray) (a:Option Addr) (c:Nat) (Z:List Pr) (a3:Option Addr) (c3:Nat) (σ2:Ps) (n:Nat),more= .bool mb∧names= .slice a l.length c∧Did K w σ2 wr∧wr.heap[w1.heap.size]? =some (.cells (aP xu au au (.slice a3 Z.length c3) au au) 39 (0,0))∧wr.ownsRow w.heap.size 43 4 (.slice a3 Z.length c3) Z.length (fG Z)∧wr.ownsRow w.heap.size 9 1 (.slice a l.length c) l.length (l.map Value.string)∧Hid ((if mb then K.X.lY n σ2 l Z else (Z,σ2))=(Zf,sP))∧(mb=true→K.X.T.length - σ2.i<n)∧l.length+n≤K.X.T.length+1∧Hid (Z.length=l.length)) (fun _ more wr=>ac0 K more wr)
 case atStart=>exact ⟨true, [],none,0, [],none,0,σ3,K.X.T.length+1,rfl,rfl,hD4,eZ,World.ownsRow_nil _ _ _ _,World.ownsRow_nil _ _ _ _,hR,fun _=>by omega,by simp,rfl⟩
 case round=>
  obtain ⟨mb,l,a,c,Z,a3,c3,σ2,n,rfl,rfl,hD,hb,hs,hnr,HR,hn,hln,O6⟩:=hrel;have hT:=HT.out;have hpI:=xG hD.1;have hsz:=hD.size;cases mb with
  |false=>
   have HR2:(Z,σ2)=(Zf,sP):=HR.out;cases HR2;have hw:=qX hD.1 true;rw [hQ]at hw;go_wp2_with fail;refine hw.mono ?_;rintro e O5 ⟨aq,cq,rfl,dN,aaF⟩;have fZ:=hD.trans dN;have jF:=dN.blk hb dK;have KT:=dN.row hs hle;replace aaF:=bH aaF hsz;have y20:=(bn jF).2.2.2.2.2.2.2.2.2.2.2.2.2.1;have u20:=ak jF 13;have tZ:=qZ jF (.slice aq q.length cq);have hBx:=ny;have MU:=uV;go_wp2_with (refine bK rfl _ rfl rfl rfl tZ ?_);go_ret;rw [HE.out];refine ⟨au,au,_,_,rfl,fZ.own hbx 13 _, ?_⟩;obtain ⟨u1,u2,rfl⟩:=HU.out;exact ⟨World.ownsRow_nil _ _ _ _,World.ownsRow_nil _ _ _ _,aZ KT jF (by decide) 13 _,aZ aaF jF (by decide) 13 _⟩
  |true=>
   have hnn:=hn rfl;clear hn;obtain ⟨n,rfl⟩:∃m,n=m+1:=⟨n - 1,by omega⟩;have IB:=sM hD w.heap.size (Nat.le_refl _) hsz _ l 8 hnr (by omega) (by omega);have hi1:=DV K.X σ2 l 8;obtain ⟨nm,hnm⟩:=BK K.X σ2 l 8;obtain ⟨⟨l3,σ3⟩,hc3⟩:∃r,K.X.column σ2 l 8=r:=⟨_,rfl⟩;rw [hc3]at IB hi1 hnm;replace hnm:l3=l++ [nm]:=hnm;replace hi1:σ2.i≤σ3.i:=hi1;subst hnm;have hi2:=Cv K.X σ3 (⟨#[61]⟩:ah);obtain ⟨jH,h4⟩:∃r,K.X.must σ3 [(⟨#[61]⟩:ah)]=r:=⟨_,rfl⟩;rw [h4]at hi2;have hi3:=O4 K.X jH;obtain ⟨⟨t,oF⟩,hv4⟩:∃r,K.X.value jH=r:=⟨_,rfl⟩;rw [hv4]at hi3;replace hi3:jH.i≤oF.i:=hi3
   have HR2:Hid ((if K.X.sees oF (⟨#[44]⟩:ah)then K.X.lY n oF.step (l++ [nm]) (Z++ [⟨nm,t⟩])else (Z++ [⟨nm,t⟩],oF))=(Zf,sP)):=by
    have h:=HR.out;rw [if_pos rfl,Tx.lY]at h;simp only [hc3,h4,hv4,D7]at h;exact Lib.hid h
   go_wp2_with fail;refine IB.mono ?_;rintro e Jq ⟨a2,c2,rfl,mM,KU,hel⟩;have tZ:=hel.1 _ _ dK (fA hnr hb (by decide)) hb;have Ye:=hel.row (eD hnr hs (by decide)) hs hle;have U8:=bS mM.1 (⟨#[61]⟩:ah);rw [h4]at U8;go_wp2_with fail;refine U8.mono ?_;rintro e Zt ⟨rfl,lQ⟩;have jU:=mM.trans lQ;have sQ:=lQ.blk tZ dK;have aaG:=lQ.row Ye hle;have QZ:=lQ.row KU hle;obtain ⟨_,_,hsl,hgn⟩:=aN QZ;cases hsl;obtain ⟨gn,rfl,_,ac1,_⟩:=hgn (by omega);have k22:=aM QZ l.length (.string nm) (by simp);have y22:=(bn sQ).2.2.2.2.2.2.2.2.2.2.2.2.1;have z22:=aG sQ;have p0:IntKind.i64.wrap (((l.length+1:Nat):Int) - 1)=(l.length:Int):=by rw [IntWalk.i64_in _ (by omega)];omega
   have p0' :IntKind.i64.wrap (((l.length:Int)+1) - 1)=(l.length:Int):=by rw [IntWalk.i64_in _ (by omega)];omega
   have p3:IntKind.i64.wrap (l.length:Int)=(l.length:Int):=IntWalk.i64_in _ (by omega);have p1:(0:Int)≤(l.length:Int):=by omega
   have p2:(l.length:Int)<((l.length+1:Nat):Int):=by omega
   have p2' :(l.length:Int)<(l.length:Int)+1:=by omega
   have hZb:Z.length≤100001:=by have:=O6.out;omega
   go_wp2_with fail
   go_region_law (first|(refine jT Tryz.Fe rfl _ _ rfl w.heap.size _ _ _ rfl (zq.alloc _) _ _ [.string nm, .int .i64 t.ty, .string t.s, .int .i64 t.n] rfl rfl (fun j u hj=>by rw [jO,Nat.zero_add];exact bA _ _ _ j u hj) (by intro u hu;simp at hu;rcases hu with rfl|rfl|rfl|rfl<;>rfl) (by omega) (by simp;omega) ?_;intro g3 iR w3 h3 hg3 OI hl3;have hb3:w3.heap[w1.heap.size]? =some (.cells (aP xu au au (.slice a3 Z.length c3) au au) 39 (0,0)):=(hg3.block _ (aG (ay uX _)) (fun e=>fA zq uX (by decide) e.symm)).trans (ay uX _);have y3:=(bn hb3).2.2.2.2.2.2.2.2.2.2.2.2.1;have u3:=ak hb3 12)|(go_simp;go_at_call 268;refine (za (K:=K) (σ:=jH) (jU.drewN 1).1 hv4).mono ?_;rintro e w30 ⟨rfl,zu⟩;have uX:=zu.blk sQ dK;have zq:=zu.row aaG hle;have Fg:=zu.row QZ hle;have KV:=(jU.drewN 1).trans zu;have y30:=(bn uX).2.2.2.2.2.2.2.2.2.2.2.2.1;have u30:=ak uX 12;have k30:=aM Fg l.length (.string nm) (by simp);have z30:=aG uX;have aff:=eH k30;have Zu:=KV.size))
   all_goals
    have hg4:(w30.alloc (.cells #[.string nm, .int .i64 t.ty, .string t.s, .int .i64 t.n] 43)).grownBy w3 (Value.slice a3 Z.length c3).ownBlock:=⟨hg3.os,hg3.tape,hg3.output,hg3.size,hg3.block⟩;have hD4:=((KV.alloc _).grown hg4 (fun g hg2=>(zq.lt g hg2).1)).own hbx 12 (.slice (some ⟨g3,0,none⟩) (Z.length+1) iR);have hb4:=qY hb3 (.slice (some ⟨g3,0,none⟩) (Z.length+1) iR);have hs4:=aZ h3 hb3 (by decide) 12 (.slice (some ⟨g3,0,none⟩) (Z.length+1) iR);have hn4:=aZ ((eD zq Fg (by decide)).keep (Fg.alloc _) hg4) hb3 (by decide) 12 (.slice (some ⟨g3,0,none⟩) (Z.length+1) iR);have hmay:=aS hD4.1 (⟨#[44]⟩:ah);unfold Tx.may at hmay;cases hse:K.X.sees oF (⟨#[44]⟩:ah)with
    |true=>
     rw [hse,if_pos rfl]at hmay;obtain ⟨hlt,_⟩:=sJ hse;go_wp2_with fail;refine hmay.mono ?_;rintro e w6 ⟨rfl,hd6⟩;have hD6:=hD4.trans hd6;have hb6:=hd6.blk hb4 dK;have hs6:=hd6.row hs4 hle;have Q0:=hd6.row hn4 hle;have hp6:=xG hD6.1;have hst:oF.step.i=oF.i+1:=rfl;go_wp2_with fail;go_roundw
     case rel=>
      refine ⟨true,l++ [nm],some ⟨gn,0,none⟩,c2,Z++ [⟨nm,t⟩],some ⟨g3,0,none⟩,iR,oF.step,n,rfl,by rw [List.length_append];rfl,hD6,by rw [List.length_append];exact hb6, ?_, ?_, ?_,(fun _=>by omega),by rw [List.length_append];show l.length+1+n≤_;omega,by show _=_;rw [List.length_append,List.length_append,O6.out];rfl⟩
      · rw [List.length_append,xK];exact hs6
      · rw [List.length_append];exact Q0
      · have h:=HR2.out;rw [hse,if_pos rfl]at h;show _=_;rw [if_pos rfl];exact h
     case measure=>
      show K.X.T.length - UU K w6+1<K.X.T.length - UU K wr+1;rw [hp6,hpI];omega
    |false=>
     rw [hse,if_neg (by decide)]at hmay;go_wp2_with fail;refine hmay.mono ?_;rintro e w6 ⟨rfl,hd6⟩;have hD6:=hD4.trans hd6;have hb6:=hd6.blk hb4 dK;have hs6:=hd6.row hs4 hle;have Q0:=hd6.row hn4 hle;go_wp2_with fail;go_roundw
     case rel=>
      refine ⟨false,l++ [nm],some ⟨gn,0,none⟩,c2,Z++ [⟨nm,t⟩],some ⟨g3,0,none⟩,iR,oF,n,rfl,by rw [List.length_append];rfl,hD6,by rw [List.length_append];exact hb6, ?_, ?_, ?_,(fun h=>absurd h (by decide)),by rw [List.length_append];show l.length+1+n≤_;omega,by show _=_;rw [List.length_append,List.length_append,O6.out];rfl⟩
      · rw [List.length_append,xK];exact hs6
      · rw [List.length_append];exact Q0
      · have h:=HR2.out;rw [hse,if_neg (by decide)]at h;show _=_;rw [if_neg (by decide)];exact h
     case measure=>
      show 0<K.X.T.length - UU K wr+1;omega
def vF (X:Tx):Nat→Ps→List Pr→List Pr×Ps
 |0,σ,Z=>(Z,σ)
 |n+1,σ,Z=>let r:=X.name (X.must σ [(⟨#[44]⟩:ah)]);vF X n r.2 (Z++ [⟨r.1,Tm.zero⟩])
theorem U9 {K:PK}{w:World}{σ:Ps}(h:PQ K w σ):
 Calls prog 197 #[.pointer (some ⟨K.b,0,none⟩)] w (gD K w 280 (K.X.view σ).1 (K.X.view σ).2):=by
 have hle:=h.le;have hD0:=Did.refl h;obtain ⟨σ1,hq1⟩:∃r,K.X.must σ [(⟨#[118,105,101,119]⟩:ah)]=r:=⟨_,rfl⟩;obtain ⟨⟨x,σ2⟩,hq2⟩:∃r,K.X.name σ1=r:=⟨_,rfl⟩;obtain ⟨σ3,hq3⟩:∃r,K.X.must σ2 [(⟨#[97,115]⟩:ah),(⟨#[115,101,108,101,99,116]⟩:ah)]=r:=⟨_,rfl⟩;obtain ⟨⟨c,jH⟩,hq4⟩:∃r,K.X.some_ σ3=r:=⟨_,rfl⟩;obtain ⟨oF,Jo⟩:∃r,K.X.must jH [(⟨#[102,114,111,109]⟩:ah)]=r:=⟨_,rfl⟩;obtain ⟨⟨o,L8⟩,QO⟩:∃r,K.X.name oF=r:=⟨_,rfl⟩;obtain ⟨σ7,hq7⟩:∃r,K.X.must L8 [(⟨#[119,104,101,114,101]⟩:ah)]=r:=⟨_,rfl⟩;obtain ⟨⟨nm,σ8⟩,hq8⟩:∃r,K.X.name σ7=r:=⟨_,rfl⟩;obtain ⟨σ9,hq9⟩:∃r,K.X.must σ8 [(⟨#[105,115]⟩:ah),(⟨#[110,111,116]⟩:ah),(⟨#[110,117,108,108]⟩:ah),(⟨#[112,114,105,109,97,114,121]⟩:ah),(⟨#[107,101,121]⟩:ah),(⟨#[40]⟩:ah)]=r:=⟨_,rfl⟩;obtain ⟨⟨k1,ac3⟩,ac4⟩:∃r,K.X.one σ9 [nm] ⟨#[]⟩=r:=⟨_,rfl⟩;obtain ⟨⟨Zf,sP⟩,hR⟩:∃r,vF K.X 2 ac3 []=r:=⟨_,rfl⟩;obtain ⟨σz,hz⟩:∃r,K.X.must sP [(⟨#[41]⟩:ah)]=r:=⟨_,rfl⟩
 have HE:Hid (K.X.view σ=({Sx.zero with kind:=2,name:=x,aD:=c,dA:=o,on:=nm,aO:=Zf},σz)):=by
  show _=_;have h2:=hR;simp only [vF,List.nil_append,List.cons_append]at h2;have h3:=congrArg Prod.fst h2;have h4:=congrArg Prod.snd h2;simp only at h3 h4;unfold Tx.view;simp only [hq1,hq2,hq3,hq4,Jo,QO,hq7,hq8,hq9,ac4,h3,h4,hz]
 go_enter func197,ntmps197;have hm1:=bS hD0.1 (⟨#[118,105,101,119]⟩:ah);rw [hq1]at hm1;try simp only [av,bB]at hm1
 go_wp2_with fail;refine hm1.mono ?_;rintro e w1 ⟨rfl,hd1⟩;have hD1:=hD0.trans hd1;have hm2:=dS hD1.1;rw [hq2]at hm2;try simp only at hm2
 go_wp2_with fail;refine hm2.mono ?_;rintro e w2 ⟨rfl,hd2⟩;have hD2:=hD1.trans hd2;have hB3:=zf 2 x;have dK:K.L≤w2.heap.size:=Nat.le_trans hle hD2.size;have hbx:w.heap.size≤w2.heap.size:=hD2.size;have hblk3:(w2.alloc (.cells (aP {Sx.zero with kind:=2,name:=x} au au au au au) 39)).heap[w2.heap.size]? =some (.cells (aP {Sx.zero with kind:=2,name:=x} au au au au au) 39 (0,0)):=aB w2 _;have hD3:=hD2.alloc (.cells (aP {Sx.zero with kind:=2,name:=x} au au au au au) 39);have mK:=KF hD3.1 (⟨#[97,115]⟩:ah) (⟨#[115,101,108,101,99,116]⟩:ah);rw [hq3]at mK;try simp only [av]at mK
 go_wp2_with (refine lN rfl _ _ rfl rfl rfl rfl rfl ?_);refine mK.mono ?_;rintro e w4 ⟨rfl,hd4⟩;have hD4:=hD3.trans hd4;have eZ:=hd4.blk hblk3 dK;have oV:=DW hD4.1;rw [hq4]at oV;try simp only at oV
 go_wp2_with fail;refine oV.mono ?_;rintro e w5 ⟨ac,cc,rfl,hd5,Yd⟩;have hD5:=hD4.trans hd5;have hblk5:=hd5.blk eZ dK;have hz5:=hD4.size;try simp only [av,bB]at hz5 Yd
 replace Yd:=bH Yd hz5;have tt5:=(bn hblk5).2.2.2.2.2.2.2.2.2.2.2.1;have uu5:=ak hblk5 11;have hD6:=hD5.own hbx 11 (.slice ac c.length cc);have hblk6:=KG hblk5 (.slice ac c.length cc);have zh:=aZ Yd hblk5 (by decide) 11 (.slice ac c.length cc);have yc:=bS hD6.1 (⟨#[102,114,111,109]⟩:ah);rw [Jo]at yc;try simp only [bB]at yc
 go_wp2_with fail;refine yc.mono ?_;rintro e w7 ⟨rfl,hd7⟩;have hD7:=hD6.trans hd7;have hblk7:=hd7.blk hblk6 dK;have zi:=hd7.row zh hle;have wH:=dS hD7.1;rw [QO]at wH;try simp only at wH
 go_wp2_with fail;refine wH.mono ?_;rintro e w8 ⟨rfl,BH⟩;have BI:=hD7.trans BH;have kY:=BH.blk hblk7 dK;have DX:=BH.row zi hle;have tt8:=(bn kY).2.2.1;have uu8:=ak kY 2;have wI:=BI.own hbx 2 (.string o);have oZ:=AU kY o;have KO:=aZ DX kY (by decide) 2 (.string o);have MS:=bS wI.1 (⟨#[119,104,101,114,101]⟩:ah);rw [hq7]at MS;try simp only [bB]at MS
 go_wp2_with fail;refine MS.mono ?_;rintro e w10 ⟨rfl,QY⟩;have nC:=wI.trans QY;have xI:=QY.blk oZ dK;have DY:=QY.row KO hle;have aaI:=dS nC.1;rw [hq8]at aaI;try simp only at aaI
 go_wp2_with fail;refine aaI.mono ?_;rintro e w11 ⟨rfl,aaJ⟩;have afg:=nC.trans aaJ;have IC:=aaJ.blk xI dK;have aaK:=aaJ.row DY hle;have aiT:=(bn IC).2.2.2.1;have aiU:=ak IC 3;have ac5:=afg.own hbx 3 (.string nm);have aaL:=UY IC nm;have aaM:=aZ aaK IC (by decide) 3 (.string nm);have aaN:=acN ac5.1 (⟨#[105,115]⟩:ah) (⟨#[110,111,116]⟩:ah) (⟨#[110,117,108,108]⟩:ah) (⟨#[112,114,105,109,97,114,121]⟩:ah) (⟨#[107,101,121]⟩:ah) (⟨#[40]⟩:ah);rw [hq9]at aaN;try simp only [bB]at aaN
 go_wp2_with fail;refine aaN.mono ?_;rintro e w13 ⟨rfl,aaO⟩;have ac6:=ac5.trans aaO;have Va:=aaO.blk aaL dK;have aaP:=aaO.row aaM hle;have y14:=(bn Va).2.2.2.1;have afh:=kR w13 [.string nm] 9 1 1 w.heap.size rfl (by decide) ac6.size;have Zv:=ac6.alloc (.cells #[.string nm] 9);have Yj:=ay Va (.cells #[.string nm] 9);have ac7:=aaP.alloc (.cells #[.string nm] 9);have ac8:=Yb Zv.1 (l:= [nm]) afh hle (by simp) ⟨#[]⟩;rw [ac4]at ac8;go_wp2_with fail;refine ac8.mono ?_;rintro e w14 ⟨rfl,aaQ⟩;have afi:=Zv.trans aaQ;have aaR:=aaQ.blk Yj dK;have aaS:=aaQ.row ac7 hle;go_wp2_with fail
 go_loopw [36] (fun i wr=>∃(j:Nat) (Z:List Pr) (a3:Option Addr) (c3:Nat) (σ2:Ps),i= .int .i64 j∧j≤2∧Did K w σ2 wr∧wr.heap[w2.heap.size]? =some (.cells (aP {Sx.zero with kind:=2,name:=x,dA:=o,on:=nm} au (.slice ac c.length cc) au (.slice a3 Z.length c3) au) 39 (0,0))∧wr.ownsRow w.heap.size 43 4 (.slice a3 Z.length c3) Z.length (fG Z)∧wr.ownsRow w.heap.size 9 1 (.slice ac c.length cc) c.length (c.map Value.string)∧Hid (vF K.X (2 - j) σ2 Z=(Zf,sP))∧Z.length≤j) (fun i _=>2 - (intOf i).toNat)
 case atStart=>exact ⟨0, [],none,0,ac3,rfl,by omega,afi,aaR,World.ownsRow_nil _ _ _ _,aaS,hR,Nat.le_refl _⟩
 case round=>
  obtain ⟨j,Z,a3,c3,σ2,rfl,hj,hD,hb,hs,hnr,HR,O6⟩:=hrel;have hsz:=hD.size;by_cases hjl:j<2
  · have p0:(j:Int)<2:=by omega
    have p1:(0:Int)≤(j:Int):=by omega
    obtain ⟨σ3,h3e⟩:∃r,K.X.must σ2 [(⟨#[44]⟩:ah)]=r:=⟨_,rfl⟩;obtain ⟨⟨y,jH⟩,hy⟩:∃r,K.X.name σ3=r:=⟨_,rfl⟩
    have HR2:Hid (vF K.X (2 - (j+1)) jH (Z++ [⟨y,Tm.zero⟩])=(Zf,sP)):=by
     have h:=HR.out;rw [show 2 - j=(2 - (j+1))+1 by omega,vF]at h;simp only [h3e,hy]at h;exact Lib.hid h
    have U8:=bS hD.1 (⟨#[44]⟩:ah);rw [h3e]at U8;go_wp2_with fail;refine U8.mono ?_;rintro e Zt ⟨rfl,lQ⟩;have jU:=hD.trans lQ;have sQ:=lQ.blk hb dK;have aaG:=lQ.row hs hle;have QZ:=lQ.row hnr hle;have y22:=(bn sQ).2.2.2.2.2.2.2.2.2.2.2.2.2.1;have z22:=aG sQ;go_wp2_with fail
    go_region_law (first|(refine jT Tryz.Fe rfl _ _ rfl w.heap.size _ _ _ rfl (zq.alloc _) _ _ [.string y, .int .i64 0, .string ⟨#[]⟩, .int .i64 0] rfl rfl (fun j u hj=>by rw [jO,Nat.zero_add];exact bA _ _ _ j u hj) (by intro u hu;simp at hu;rcases hu with rfl|rfl|rfl|rfl<;>rfl) (by omega) (by simp;omega) ?_;intro g3 iR w3 h3 hg3 OI hl3;have hb3:w3.heap[w2.heap.size]? =some (.cells (aP {Sx.zero with kind:=2,name:=x,dA:=o,on:=nm} au (.slice ac c.length cc) au (.slice a3 Z.length c3) au) 39 (0,0)):=(hg3.block _ (aG (ay uX _)) (fun e=>fA zq uX (by decide) e.symm)).trans (ay uX _);have y3:=(bn hb3).2.2.2.2.2.2.2.2.2.2.2.2.2.1;have u3:=ak hb3 13)|(go_simp;go_at_call 195;have hnn:=dS (K:=K) (σ:=σ3) (jU.drewN 1).1;rw [hy]at hnn;refine hnn.mono ?_;rintro e w30 ⟨rfl,zu⟩;have uX:=zu.blk sQ dK;have zq:=zu.row aaG hle;have Fg:=zu.row QZ hle;have KV:=(jU.drewN 1).trans zu;have y30:=(bn uX).2.2.2.2.2.2.2.2.2.2.2.2.2.1;have u30:=ak uX 13;have z30:=aG uX;have Zu:=KV.size))
    all_goals
     have hg4:(w30.alloc (.cells #[.string y, .int .i64 0, .string ⟨#[]⟩, .int .i64 0] 43)).grownBy w3 (Value.slice a3 Z.length c3).ownBlock:=⟨hg3.os,hg3.tape,hg3.output,hg3.size,hg3.block⟩;have hD4:=((KV.alloc _).grown hg4 (fun g hg2=>(zq.lt g hg2).1)).own hbx 13 (.slice (some ⟨g3,0,none⟩) (Z.length+1) iR);have hb4:=qZ hb3 (.slice (some ⟨g3,0,none⟩) (Z.length+1) iR);have hs4:=aZ h3 hb3 (by decide) 13 (.slice (some ⟨g3,0,none⟩) (Z.length+1) iR);have hn4:=aZ ((eD zq Fg (by decide)).keep (Fg.alloc _) hg4) hb3 (by decide) 13 (.slice (some ⟨g3,0,none⟩) (Z.length+1) iR);go_wp2_with fail;go_roundw
     case rel=>
      refine ⟨j+1,Z++ [⟨y,Tm.zero⟩],some ⟨g3,0,none⟩,iR,jH,by go_num,by omega,hD4,by rw [List.length_append];exact hb4, ?_,hn4,HR2,by rw [List.length_append];show Z.length+1≤_;omega⟩;rw [List.length_append,xK];exact hs4
     case measure=>simp [intOf];omega
  · have jV:j=2:=by omega
    subst jV;have HR2:(Z,σ2)=(Zf,sP):=HR.out;cases HR2;have ac9:=bS hD.1 (⟨#[41]⟩:ah);rw [hz]at ac9;go_wp2_with fail;refine ac9.mono ?_;rintro e AX ⟨rfl,iT⟩;have mO:=iT.blk hb dK;have hBx:=oW;have MU:=uU;go_wp2_with (refine bK rfl _ rfl rfl rfl mO ?_);go_ret;rw [HE.out];exact ⟨au,_,au,_,rfl,hD.trans iT,World.ownsRow_nil _ _ _ _,iT.row hnr hle,World.ownsRow_nil _ _ _ _,iT.row hs hle⟩
end Go.Proofs.YtnngbhpeeakfaaaGreatDoor
