/- Parts of a proof. -/
import Derived.Test.YtcgadodckoalnaaGreatDoorB14
set_option maxHeartbeats 4000000
set_option maxRecDepth 100000
namespace Go.Proofs.YtcgadodckoalnaaGreatDoor
open Go.Proofs.Tryz
open Go.RowKit
open aN
theorem Ck (X:Tx) (σ:Ps) (s:ByteArray):σ.i≤(X.must σ [s]).i:=by
 show σ.i≤(X.bC σ s).i;unfold Tx.bC;split
 · show σ.i≤σ.i+1;omega
 · show σ.i≤(σ.wrong _).i;rw [oK];exact Nat.le_refl _
def SC (K:PK) (v:Value) (w:World):Nat:=match v with| .bool true=>K.X.T.length - UG K w+1|_=>0
theorem vX (l:List Pr) (p:Pr):dI (l++ [p])=dI l++kI p:=by simp [dI]
theorem Cm (l:List ByteArray) (x:ByteArray):(l++ [x]).getLastD ⟨#[]⟩=x:=by simp
theorem EG (X:Tx) (σ:Ps) (l:List ByteArray) (most:Nat):∃x,(X.column σ l most).1=l++ [x]:=⟨_,rfl⟩
theorem Qz {K:PK}{w:World}{σ:Ps}(h:PQ K w σ):
 Calls prog 63 #[.pointer (some ⟨K.b,0,none⟩)] w (iH K w 133 (K.X.update σ).1 (K.X.update σ).2):=by
 have hle:=h.le;have hD0:=Did.refl h;obtain ⟨⟨o,σ1⟩,hq1⟩:∃r,K.X.name σ=r:=⟨_,rfl⟩;obtain ⟨⟨xu,σ2⟩,hq2⟩:∃r,K.X.using_ σ1 true {Sx.zero with kind:=6,bT:=o}=r:=⟨_,rfl⟩;obtain ⟨σ3,hq3⟩:∃r,K.X.must σ2 [(⟨#[115,101,116]⟩:ah)]=r:=⟨_,rfl⟩;obtain ⟨⟨Zf,nN⟩,hR⟩:∃r,K.X.kU (K.X.T.length+1) σ3 [] []=r:=⟨_,rfl⟩;obtain ⟨⟨q,σq⟩,hQ⟩:∃r,K.X.aH nN true=r:=⟨_,rfl⟩;have HU:=Lib.hid (lD K.X _ _ _ _ _ hq2);have HE:Hid (K.X.update σ=({xu with sets:=Zf,aH:=q},σq)):=by show _=_;unfold Tx.update;simp only [hq1,hq2,hq3,hR,hQ]
 have HT:=Lib.hid K.hT;go_enter func63,ntmps63;have hm1:=gu hD0.1;rw [hq1]at hm1;try simp only at hm1
 go_wp2_with fail;refine hm1.mono ?_;rintro e w1 ⟨rfl,hd1⟩;have hD1:=hD0.trans hd1;have hB2:=NS 6 o;have dW:K.L≤w1.heap.size:=Nat.le_trans hle hD1.size;have hbx:w.heap.size≤w1.heap.size:=hD1.size;have hblk2:(w1.alloc (.cells (aG {Sx.zero with kind:=6,bT:=o} ak ak ak ak ak) 31)).heap[w1.heap.size]? =some (.cells (aG {Sx.zero with kind:=6,bT:=o} ak ak ak ak ak) 31 (0,0)):=aA w1 _;have hD2:=hD1.alloc (.cells (aG {Sx.zero with kind:=6,bT:=o} ak ak ak ak ak) 31);have oL:=mQ hD2 hbx (x:={Sx.zero with kind:=6,bT:=o}) hblk2 true;rw [hq2]at oL;go_wp2_with (refine lT rfl _ _ rfl rfl rfl rfl rfl ?_);refine oL.mono ?_;rintro e w3 ⟨rfl,hD3,hblk3,hk3⟩;have om:=bC hD3.1 (⟨#[115,101,116]⟩:ah);rw [hq3]at om;try simp only [av,bO]at om
 go_wp2_with fail;refine om.mono ?_;rintro e w4 ⟨rfl,hd4⟩;have hD4:=hD3.trans hd4;have fK:=hd4.blk hblk3 dW;go_wp2_with fail
 go_loopw [4,5] (fun names more wr=>∃(mb:Bool) (l:List ByteArray) (a:Option Addr) (c:Nat) (Z:List Pr) (a3:Option Addr) (c3:Nat) (σ2:Ps) (n:Nat),more= .bool mb∧names= .slice a l.length c∧Did K w σ2 wr∧wr.heap[w1.heap.size]? =some (.cells (aG xu ak ak (.slice a3 Z.length c3) ak ak) 31 (0,0))∧wr.ownsRow w.heap.size 62 4 (.slice a3 Z.length c3) Z.length (dI Z)∧wr.ownsRow w.heap.size 9 1 (.slice a l.length c) l.length (l.map Value.string)∧Hid ((if mb then K.X.kU n σ2 l Z else (Z,σ2))=(Zf,nN))∧(mb=true→K.X.T.length - σ2.i<n)∧l.length+n≤K.X.T.length+1∧Hid (Z.length=l.length)) (fun _ more wr=>SC K more wr)
 case atStart=>exact ⟨true, [],none,0, [],none,0,σ3,K.X.T.length+1,rfl,rfl,hD4,fK,World.ownsRow_nil _ _ _ _,World.ownsRow_nil _ _ _ _,hR,fun _=>by omega,by simp,rfl⟩
 case round=>
  obtain ⟨mb,l,a,c,Z,a3,c3,σ2,n,rfl,rfl,hD,hb,hs,hnr,HR,hn,hln,ME⟩:=hrel;have hT:=HT.out;have Wp:=Aq hD.1;have hsz:=hD.size;cases mb with
  |false=>
   have HR2:(Z,σ2)=(Zf,nN):=HR.out;cases HR2;have hw:=uL hD.1 true;rw [hQ]at hw;go_wp2_with fail;refine hw.mono ?_;rintro e I6 ⟨aq,cq,rfl,eH,adk⟩;have iA:=hD.trans eH;have kN:=eH.blk hb dW;have Oa:=eH.row hs hle;replace adk:=aR adk hsz;have y20:=(aK kN).2.2.2.2.2.2.2.2.2.2.2.2.2.1;have u20:=aj kN 13;have wS:=uN kN (.slice aq q.length cq);have hBx:=oV;have Qt:=yt;go_wp2_with (refine aT rfl _ rfl rfl rfl wS ?_);go_ret;rw [HE.out];refine ⟨ak,ak,_,_,rfl,iA.own hbx 13 _, ?_⟩;obtain ⟨u1,u2,rfl⟩:=HU.out;exact ⟨World.ownsRow_nil _ _ _ _,World.ownsRow_nil _ _ _ _,aL Oa kN (by decide) 13 _,aL adk kN (by decide) 13 _⟩
  |true=>
   have hnn:=hn rfl;clear hn;obtain ⟨n,rfl⟩:∃m,n=m+1:=⟨n - 1,by omega⟩;have Cn:=vT hD w.heap.size (Nat.le_refl _) hsz _ l 8 hnr (by omega) (by omega);have hi1:=GV K.X σ2 l 8;obtain ⟨nm,hnm⟩:=EG K.X σ2 l 8;obtain ⟨⟨l3,σ3⟩,hc3⟩:∃r,K.X.column σ2 l 8=r:=⟨_,rfl⟩;rw [hc3]at Cn hi1 hnm;replace hnm:l3=l++ [nm]:=hnm;replace hi1:σ2.i≤σ3.i:=hi1;subst hnm;have hi2:=Ck K.X σ3 (⟨#[61]⟩:ah);obtain ⟨jS,h4⟩:∃r,K.X.must σ3 [(⟨#[61]⟩:ah)]=r:=⟨_,rfl⟩;rw [h4]at hi2;have hi3:=Fz K.X jS;obtain ⟨⟨t,lX⟩,hv4⟩:∃r,K.X.value jS=r:=⟨_,rfl⟩;rw [hv4]at hi3;replace hi3:jS.i≤lX.i:=hi3
   have HR2:Hid ((if K.X.sees lX (⟨#[44]⟩:ah)then K.X.kU n lX.step (l++ [nm]) (Z++ [⟨nm,t⟩])else (Z++ [⟨nm,t⟩],lX))=(Zf,nN)):=by
    have h:=HR.out;rw [if_pos rfl,Tx.kU]at h;simp only [hc3,h4,hv4,Cm]at h;exact Lib.hid h
   go_wp2_with fail;refine Cn.mono ?_;rintro e DL ⟨a2,c2,rfl,mX,G9,hel⟩;have wS:=hel.1 _ _ dW (gy hnr hb (by decide)) hb;have Yi:=hel.row (dH hnr hs (by decide)) hs hle;have Yp:=bC mX.1 (⟨#[61]⟩:ah);rw [h4]at Yp;go_wp2_with fail;refine Yp.mono ?_;rintro e UN ⟨rfl,nG⟩;have lG:=mX.trans nG;have vY:=nG.blk wS dW;have adl:=nG.row Yi hle;have Qy:=nG.row G9 hle;obtain ⟨_,_,hsl,hgn⟩:=aY Qy;cases hsl;obtain ⟨gn,rfl,_,adn,_⟩:=hgn (by omega);have k22:=aS Qy l.length (.string nm) (by simp);have y22:=(aK vY).2.2.2.2.2.2.2.2.2.2.2.2.1;have z22:=aD vY;have p0:IntKind.i64.wrap (((l.length+1:Nat):Int) - 1)=(l.length:Int):=by rw [IntWalk.i64_in _ (by omega)];omega
   have p0' :IntKind.i64.wrap (((l.length:Int)+1) - 1)=(l.length:Int):=by rw [IntWalk.i64_in _ (by omega)];omega
   have p3:IntKind.i64.wrap (l.length:Int)=(l.length:Int):=IntWalk.i64_in _ (by omega);have p1:(0:Int)≤(l.length:Int):=by omega
   have p2:(l.length:Int)<((l.length+1:Nat):Int):=by omega
   have p2' :(l.length:Int)<(l.length:Int)+1:=by omega
   have hZb:Z.length≤100001:=by have:=ME.out;omega
   go_wp2_with fail
   go_region_law (first|(refine fM Tryz.vV rfl _ _ rfl w.heap.size _ _ _ rfl (rJ.alloc _) _ _ [.string nm, .int .i64 t.ty, .string t.s, .int .i64 t.n] rfl rfl (fun j u hj=>by rw [iG,Nat.zero_add];exact bg _ _ _ j u hj) (by intro u hu;simp at hu;rcases hu with rfl|rfl|rfl|rfl<;>rfl) (by omega) (by simp;omega) ?_;intro g3 jm w3 h3 hg3 wU hl3;have hb3:w3.heap[w1.heap.size]? =some (.cells (aG xu ak ak (.slice a3 Z.length c3) ak ak) 31 (0,0)):=(hg3.block _ (aD (aC kK _)) (fun e=>gy rJ kK (by decide) e.symm)).trans (aC kK _);have y3:=(aK hb3).2.2.2.2.2.2.2.2.2.2.2.2.1;have u3:=aj hb3 12)|(go_simp;go_at_call 106;refine (BX (K:=K) (σ:=jS) (lG.drewN 1).1 hv4).mono ?_;rintro e EU ⟨rfl,jq⟩;have kK:=jq.blk vY dW;have rJ:=jq.row adl hle;have Av:=jq.row Qy hle;have Ob:=(lG.drewN 1).trans jq;have y30:=(aK kK).2.2.2.2.2.2.2.2.2.2.2.2.1;have u30:=aj kK 12;have k30:=aS Av l.length (.string nm) (by simp);have z30:=aD kK;have LG:=dZ k30;have Yq:=Ob.size))
   all_goals
    have hg4:(EU.alloc (.cells #[.string nm, .int .i64 t.ty, .string t.s, .int .i64 t.n] 62)).grownBy w3 (Value.slice a3 Z.length c3).ownBlock:=⟨hg3.os,hg3.tape,hg3.output,hg3.size,hg3.block⟩;have hD4:=((Ob.alloc _).grown hg4 (fun g hg2=>(rJ.lt g hg2).1)).own hbx 12 (.slice (some ⟨g3,0,none⟩) (Z.length+1) jm);have hb4:=uM hb3 (.slice (some ⟨g3,0,none⟩) (Z.length+1) jm);have hs4:=aL h3 hb3 (by decide) 12 (.slice (some ⟨g3,0,none⟩) (Z.length+1) jm);have hn4:=aL ((dH rJ Av (by decide)).keep (Av.alloc _) hg4) hb3 (by decide) 12 (.slice (some ⟨g3,0,none⟩) (Z.length+1) jm);have hmay:=aV hD4.1 (⟨#[44]⟩:ah);unfold Tx.may at hmay;cases hse:K.X.sees lX (⟨#[44]⟩:ah)with
    |true=>
     rw [hse,if_pos rfl]at hmay;obtain ⟨hlt,_⟩:=oJ hse;go_wp2_with fail;refine hmay.mono ?_;rintro e w6 ⟨rfl,hd6⟩;have hD6:=hD4.trans hd6;have hb6:=hd6.blk hb4 dW;have hs6:=hd6.row hs4 hle;have UQ:=hd6.row hn4 hle;have hp6:=Aq hD6.1;have hst:lX.step.i=lX.i+1:=rfl;go_wp2_with fail;go_roundw
     case rel=>
      refine ⟨true,l++ [nm],some ⟨gn,0,none⟩,c2,Z++ [⟨nm,t⟩],some ⟨g3,0,none⟩,jm,lX.step,n,rfl,by rw [List.length_append];rfl,hD6,by rw [List.length_append];exact hb6, ?_, ?_, ?_,(fun _=>by omega),by rw [List.length_append];show l.length+1+n≤_;omega,by show _=_;rw [List.length_append,List.length_append,ME.out];rfl⟩
      · rw [List.length_append,vX];exact hs6
      · rw [List.length_append];exact UQ
      · have h:=HR2.out;rw [hse,if_pos rfl]at h;show _=_;rw [if_pos rfl];exact h
     case measure=>
      show K.X.T.length - UG K w6+1<K.X.T.length - UG K wr+1;rw [hp6,Wp];omega
    |false=>
     rw [hse,if_neg (by decide)]at hmay;go_wp2_with fail;refine hmay.mono ?_;rintro e w6 ⟨rfl,hd6⟩;have hD6:=hD4.trans hd6;have hb6:=hd6.blk hb4 dW;have hs6:=hd6.row hs4 hle;have UQ:=hd6.row hn4 hle;go_wp2_with fail;go_roundw
     case rel=>
      refine ⟨false,l++ [nm],some ⟨gn,0,none⟩,c2,Z++ [⟨nm,t⟩],some ⟨g3,0,none⟩,jm,lX,n,rfl,by rw [List.length_append];rfl,hD6,by rw [List.length_append];exact hb6, ?_, ?_, ?_,(fun h=>absurd h (by decide)),by rw [List.length_append];show l.length+1+n≤_;omega,by show _=_;rw [List.length_append,List.length_append,ME.out];rfl⟩
      · rw [List.length_append,vX];exact hs6
      · rw [List.length_append];exact UQ
      · have h:=HR2.out;rw [hse,if_neg (by decide)]at h;show _=_;rw [if_neg (by decide)];exact h
     case measure=>
      show 0<K.X.T.length - UG K wr+1;omega
def vF (X:Tx):Nat→Ps→List Pr→List Pr×Ps
 |0,σ,Z=>(Z,σ)
 |n+1,σ,Z=>let r:=X.name (X.must σ [(⟨#[44]⟩:ah)]);vF X n r.2 (Z++ [⟨r.1,Tm.zero⟩])
theorem Yr {K:PK}{w:World}{σ:Ps}(h:PQ K w σ):
 Calls prog 69 #[.pointer (some ⟨K.b,0,none⟩)] w (iH K w 100 (K.X.view σ).1 (K.X.view σ).2):=by
 have hle:=h.le;have hD0:=Did.refl h;obtain ⟨σ1,hq1⟩:∃r,K.X.must σ [(⟨#[118,105,101,119]⟩:ah)]=r:=⟨_,rfl⟩;obtain ⟨⟨x,σ2⟩,hq2⟩:∃r,K.X.name σ1=r:=⟨_,rfl⟩;obtain ⟨σ3,hq3⟩:∃r,K.X.must σ2 [(⟨#[97,115]⟩:ah),(⟨#[115,101,108,101,99,116]⟩:ah)]=r:=⟨_,rfl⟩;obtain ⟨⟨c,jS⟩,hq4⟩:∃r,K.X.some_ σ3=r:=⟨_,rfl⟩;obtain ⟨lX,MC⟩:∃r,K.X.must jS [(⟨#[102,114,111,109]⟩:ah)]=r:=⟨_,rfl⟩;obtain ⟨⟨o,yT⟩,UC⟩:∃r,K.X.name lX=r:=⟨_,rfl⟩;obtain ⟨LA,hq7⟩:∃r,K.X.must yT [(⟨#[119,104,101,114,101]⟩:ah)]=r:=⟨_,rfl⟩;obtain ⟨⟨nm,UR⟩,hq8⟩:∃r,K.X.name LA=r:=⟨_,rfl⟩;obtain ⟨ZX,hq9⟩:∃r,K.X.must UR [(⟨#[105,115]⟩:ah),(⟨#[110,111,116]⟩:ah),(⟨#[110,117,108,108]⟩:ah),(⟨#[112,114,105,109,97,114,121]⟩:ah),(⟨#[107,101,121]⟩:ah),(⟨#[40]⟩:ah)]=r:=⟨_,rfl⟩;obtain ⟨⟨k1,afG⟩,afH⟩:∃r,K.X.one ZX [nm] ⟨#[]⟩=r:=⟨_,rfl⟩;obtain ⟨⟨Zf,nN⟩,hR⟩:∃r,vF K.X 2 afG []=r:=⟨_,rfl⟩;obtain ⟨σz,hz⟩:∃r,K.X.must nN [(⟨#[41]⟩:ah)]=r:=⟨_,rfl⟩
 have HE:Hid (K.X.view σ=({Sx.zero with kind:=2,name:=x,aI:=c,bT:=o,on:=nm,aH:=Zf},σz)):=by
  show _=_;have h2:=hR;simp only [vF,List.nil_append,List.cons_append]at h2;have h3:=congrArg Prod.fst h2;have h4:=congrArg Prod.snd h2;simp only at h3 h4;unfold Tx.view;simp only [hq1,hq2,hq3,hq4,MC,UC,hq7,hq8,hq9,afH,h3,h4,hz]
 go_enter func69,ntmps69;have hm1:=bC hD0.1 (⟨#[118,105,101,119]⟩:ah);rw [hq1]at hm1;try simp only [av,bO]at hm1
 go_wp2_with fail;refine hm1.mono ?_;rintro e w1 ⟨rfl,hd1⟩;have hD1:=hD0.trans hd1;have hm2:=gu hD1.1;rw [hq2]at hm2;try simp only at hm2
 go_wp2_with fail;refine hm2.mono ?_;rintro e w2 ⟨rfl,hd2⟩;have hD2:=hD1.trans hd2;have hB3:=Ca 2 x;have dW:K.L≤w2.heap.size:=Nat.le_trans hle hD2.size;have hbx:w.heap.size≤w2.heap.size:=hD2.size;have hblk3:(w2.alloc (.cells (aG {Sx.zero with kind:=2,name:=x} ak ak ak ak ak) 31)).heap[w2.heap.size]? =some (.cells (aG {Sx.zero with kind:=2,name:=x} ak ak ak ak ak) 31 (0,0)):=aA w2 _;have hD3:=hD2.alloc (.cells (aG {Sx.zero with kind:=2,name:=x} ak ak ak ak ak) 31);have om:=NQ hD3.1 (⟨#[97,115]⟩:ah) (⟨#[115,101,108,101,99,116]⟩:ah);rw [hq3]at om;try simp only [av]at om
 go_wp2_with (refine lT rfl _ _ rfl rfl rfl rfl rfl ?_);refine om.mono ?_;rintro e w4 ⟨rfl,hd4⟩;have hD4:=hD3.trans hd4;have fK:=hd4.blk hblk3 dW;have rF:=GX hD4.1;rw [hq4]at rF;try simp only at rF
 go_wp2_with fail;refine rF.mono ?_;rintro e w5 ⟨ac,cc,rfl,hd5,hr5⟩;have hD5:=hD4.trans hd5;have hblk5:=hd5.blk fK dW;have hz5:=hD4.size;try simp only [av,bO]at hz5 hr5
 replace hr5:=aR hr5 hz5;have tt5:=(aK hblk5).2.2.2.2.2.2.2.2.2.2.2.1;have uu5:=aj hblk5 11;have hD6:=hD5.own hbx 11 (.slice ac c.length cc);have hblk6:=NR hblk5 (.slice ac c.length cc);have Cc:=aL hr5 hblk5 (by decide) 11 (.slice ac c.length cc);have AZ:=bC hD6.1 (⟨#[102,114,111,109]⟩:ah);rw [MC]at AZ;try simp only [bO]at AZ
 go_wp2_with fail;refine AZ.mono ?_;rintro e w7 ⟨rfl,hd7⟩;have hD7:=hD6.trans hd7;have hblk7:=hd7.blk hblk6 dW;have Ce:=hd7.row Cc hle;have zI:=gu hD7.1;rw [UC]at zI;try simp only at zI
 go_wp2_with fail;refine zI.mono ?_;rintro e w8 ⟨rfl,EF⟩;have Cb:=hD7.trans EF;have mR:=EF.blk hblk7 dW;have GY:=EF.row Ce hle;have tt8:=(aK mR).2.2.1;have uu8:=aj mR 2;have zJ:=Cb.own hbx 2 (.string o);have rH:=DJ mR o;have NZ:=aL GY mR (by decide) 2 (.string o);have Qs:=bC zJ.1 (⟨#[119,104,101,114,101]⟩:ah);rw [hq7]at Qs;try simp only [bO]at Qs
 go_wp2_with fail;refine Qs.mono ?_;rintro e w10 ⟨rfl,UM⟩;have oW:=zJ.trans UM;have Ar:=UM.blk rH dW;have GZ:=UM.row NZ hle;have ado:=gu oW.1;rw [hq8]at ado;try simp only at ado
 go_wp2_with fail;refine ado.mono ?_;rintro e w11 ⟨rfl,adp⟩;have ahI:=oW.trans adp;have LH:=adp.blk Ar dW;have adq:=adp.row GZ hle;have akV:=(aK LH).2.2.2.1;have akW:=aj LH 3;have afI:=ahI.own hbx 3 (.string nm);have adr:=Ya LH nm;have ads:=aL adq LH (by decide) 3 (.string nm);have adt:=aft afI.1 (⟨#[105,115]⟩:ah) (⟨#[110,111,116]⟩:ah) (⟨#[110,117,108,108]⟩:ah) (⟨#[112,114,105,109,97,114,121]⟩:ah) (⟨#[107,101,121]⟩:ah) (⟨#[40]⟩:ah);rw [hq9]at adt;try simp only [bO]at adt
 go_wp2_with fail;refine adt.mono ?_;rintro e w13 ⟨rfl,adu⟩;have afJ:=afI.trans adu;have Yt:=adu.blk adr dW;have adv:=adu.row ads hle;have y14:=(aK Yt).2.2.2.1;have ahK:=sN w13 [.string nm] 9 1 1 w.heap.size rfl (by decide) afJ.size;have ab7:=afJ.alloc (.cells #[.string nm] 9);have abe:=aC Yt (.cells #[.string nm] 9);have afK:=adv.alloc (.cells #[.string nm] 9);have afL:=aa6 ab7.1 (l:= [nm]) ahK hle (by simp) ⟨#[]⟩;rw [afH]at afL;go_wp2_with fail;refine afL.mono ?_;rintro e w14 ⟨rfl,adw⟩;have ahM:=ab7.trans adw;have adx:=adw.blk abe dW;have ady:=adw.row afK hle;go_wp2_with fail
 go_loopw [36] (fun i wr=>∃(j:Nat) (Z:List Pr) (a3:Option Addr) (c3:Nat) (σ2:Ps),i= .int .i64 j∧j≤2∧Did K w σ2 wr∧wr.heap[w2.heap.size]? =some (.cells (aG {Sx.zero with kind:=2,name:=x,bT:=o,on:=nm} ak (.slice ac c.length cc) ak (.slice a3 Z.length c3) ak) 31 (0,0))∧wr.ownsRow w.heap.size 62 4 (.slice a3 Z.length c3) Z.length (dI Z)∧wr.ownsRow w.heap.size 9 1 (.slice ac c.length cc) c.length (c.map Value.string)∧Hid (vF K.X (2 - j) σ2 Z=(Zf,nN))∧Z.length≤j) (fun i _=>2 - (intOf i).toNat)
 case atStart=>exact ⟨0, [],none,0,afG,rfl,by omega,ahM,adx,World.ownsRow_nil _ _ _ _,ady,hR,Nat.le_refl _⟩
 case round=>
  obtain ⟨j,Z,a3,c3,σ2,rfl,hj,hD,hb,hs,hnr,HR,ME⟩:=hrel;have hsz:=hD.size;by_cases hjl:j<2
  · have p0:(j:Int)<2:=by omega
    have p1:(0:Int)≤(j:Int):=by omega
    obtain ⟨σ3,h3e⟩:∃r,K.X.must σ2 [(⟨#[44]⟩:ah)]=r:=⟨_,rfl⟩;obtain ⟨⟨y,jS⟩,hy⟩:∃r,K.X.name σ3=r:=⟨_,rfl⟩
    have HR2:Hid (vF K.X (2 - (j+1)) jS (Z++ [⟨y,Tm.zero⟩])=(Zf,nN)):=by
     have h:=HR.out;rw [show 2 - j=(2 - (j+1))+1 by omega,vF]at h;simp only [h3e,hy]at h;exact Lib.hid h
    have Yp:=bC hD.1 (⟨#[44]⟩:ah);rw [h3e]at Yp;go_wp2_with fail;refine Yp.mono ?_;rintro e UN ⟨rfl,nG⟩;have lG:=hD.trans nG;have vY:=nG.blk hb dW;have adl:=nG.row hs hle;have Qy:=nG.row hnr hle;have y22:=(aK vY).2.2.2.2.2.2.2.2.2.2.2.2.2.1;have z22:=aD vY;go_wp2_with fail
    go_region_law (first|(refine fM Tryz.vV rfl _ _ rfl w.heap.size _ _ _ rfl (rJ.alloc _) _ _ [.string y, .int .i64 0, .string ⟨#[]⟩, .int .i64 0] rfl rfl (fun j u hj=>by rw [iG,Nat.zero_add];exact bg _ _ _ j u hj) (by intro u hu;simp at hu;rcases hu with rfl|rfl|rfl|rfl<;>rfl) (by omega) (by simp;omega) ?_;intro g3 jm w3 h3 hg3 wU hl3;have hb3:w3.heap[w2.heap.size]? =some (.cells (aG {Sx.zero with kind:=2,name:=x,bT:=o,on:=nm} ak (.slice ac c.length cc) ak (.slice a3 Z.length c3) ak) 31 (0,0)):=(hg3.block _ (aD (aC kK _)) (fun e=>gy rJ kK (by decide) e.symm)).trans (aC kK _);have y3:=(aK hb3).2.2.2.2.2.2.2.2.2.2.2.2.2.1;have u3:=aj hb3 13)|(go_simp;go_at_call 67;have hnn:=gu (K:=K) (σ:=σ3) (lG.drewN 1).1;rw [hy]at hnn;refine hnn.mono ?_;rintro e EU ⟨rfl,jq⟩;have kK:=jq.blk vY dW;have rJ:=jq.row adl hle;have Av:=jq.row Qy hle;have Ob:=(lG.drewN 1).trans jq;have y30:=(aK kK).2.2.2.2.2.2.2.2.2.2.2.2.2.1;have u30:=aj kK 13;have z30:=aD kK;have Yq:=Ob.size))
    all_goals
     have hg4:(EU.alloc (.cells #[.string y, .int .i64 0, .string ⟨#[]⟩, .int .i64 0] 62)).grownBy w3 (Value.slice a3 Z.length c3).ownBlock:=⟨hg3.os,hg3.tape,hg3.output,hg3.size,hg3.block⟩;have hD4:=((Ob.alloc _).grown hg4 (fun g hg2=>(rJ.lt g hg2).1)).own hbx 13 (.slice (some ⟨g3,0,none⟩) (Z.length+1) jm);have hb4:=uN hb3 (.slice (some ⟨g3,0,none⟩) (Z.length+1) jm);have hs4:=aL h3 hb3 (by decide) 13 (.slice (some ⟨g3,0,none⟩) (Z.length+1) jm);have hn4:=aL ((dH rJ Av (by decide)).keep (Av.alloc _) hg4) hb3 (by decide) 13 (.slice (some ⟨g3,0,none⟩) (Z.length+1) jm);go_wp2_with fail;go_roundw
     case rel=>
      refine ⟨j+1,Z++ [⟨y,Tm.zero⟩],some ⟨g3,0,none⟩,jm,jS,by go_num,by omega,hD4,by rw [List.length_append];exact hb4, ?_,hn4,HR2,by rw [List.length_append];show Z.length+1≤_;omega⟩;rw [List.length_append,vX];exact hs4
     case measure=>simp [intOf];omega
  · have mF:j=2:=by omega
    subst mF;have HR2:(Z,σ2)=(Zf,nN):=HR.out;cases HR2;have afM:=bC hD.1 (⟨#[41]⟩:ah);rw [hz]at afM;go_wp2_with fail;refine afM.mono ?_;rintro e Cj ⟨rfl,jI⟩;have oo:=jI.blk hb dW;have hBx:=rG;have Qt:=yj;go_wp2_with (refine aT rfl _ rfl rfl rfl oo ?_);go_ret;rw [HE.out];exact ⟨ak,_,ak,_,rfl,hD.trans jI,World.ownsRow_nil _ _ _ _,jI.row hnr hle,World.ownsRow_nil _ _ _ _,jI.row hs hle⟩
end Go.Proofs.YtcgadodckoalnaaGreatDoor
