/- Parts of a proof. -/
import Derived.Test.YtcgadodckoalnaaGreatDoorB19
import Derived.Test.YtcgadodckoalnaaGreatDoorB29
import Derived.Test.YtcgadodckoalnaaGreatDoorB38
import Derived.Test.YtcgadodckoalnaaGreatDoorB40
set_option maxHeartbeats 8000000
set_option maxRecDepth 100000
namespace Go.Proofs.YtcgadodckoalnaaGreatDoor
open Go.Proofs.Tryz
open Go.RowKit
open aN
theorem OU {K:PK}{w:World}{σ:Ps}(h:RQ K w σ):
 Calls prog 88 #[.pointer (some ⟨K.b,0,none⟩), .agg (aG Sx.zero ak ak ak ak ak)] w (Ir K w (K.X.lQ σ).1 (K.X.lQ σ).2):=by
 have hle:=h.le;cases i0:K.X.sees σ (⟨#[116,97,98,108,101]⟩:ah)with
 |true=>
  have HE:Hid (K.X.lQ σ=K.X.Aj σ.step):=by show _=_;unfold Tx.lQ;simp only [i0,if_true]
  go_enter func88,ntmps88;go_wp2_with fail;have hE:=RE.new h Sx.zero ak ak ak ak ak;generalize ((w.alloc (.cells (aG Sx.zero ak ak ak ak ak) 31)).alloc (.cells bf 31))=w0 at hE⊢;have hm:=bB hE.did.1 (⟨#[116,97,98,108,101]⟩:ah);unfold Tx.may at hm;rw [i0]at hm;go_wp2_with fail;refine hm.mono ?_;rintro e v0 ⟨rfl,hd⟩;replace hE:RE K w v0 σ.step _ _ _ _ _ _ _ _:=hE.call hd;clear hm hd;have hb5:=hE.base;have qQ:=hE.hx;have sI:=Rn hE.did.1;go_wp2_with (refine aT rfl _ rfl rfl rfl qQ ?_);refine sI.mono ?_;rintro e w5 ⟨tc,c,s,wv,rfl,hd,hR⟩;replace hE:=hE.call hd;have lF:=hE.hr;have ho:=hR.one;go_wp2_with (refine bH rfl _ _ rfl rfl rfl lF rfl rfl ho ?_;intro W6 iD);refine bodyPost_ret (bQ rfl rfl (jO iD.blk rfl)) rfl ?_;rw [HE.out];exact ⟨tc,c,s,wv,rfl,hE.fin iD,bV (aR hR.1 hb5) lF iD (by decide),bV (aR hR.2.1 hb5) lF iD (by decide),bV (aR hR.2.2.1 hb5) lF iD (by decide),bV (aR hR.2.2.2 hb5) lF iD (by decide)⟩
 |false=>
  cases i1:K.X.sees σ (⟨#[109,97,116,101,114,105,97,108,105,122,101,100]⟩:ah)with
  |true=>
   have HE:Hid (K.X.lQ σ=K.X.Gw σ.step):=by show _=_;unfold Tx.lQ;simp only [i0,i1,if_true,if_neg (show¬(false=true)by decide)]
   go_enter func88,ntmps88;go_wp2_with fail;have hE:=RE.new h Sx.zero ak ak ak ak ak;generalize ((w.alloc (.cells (aG Sx.zero ak ak ak ak ak) 31)).alloc (.cells bf 31))=w0 at hE⊢;have hm:=bB hE.did.1 (⟨#[116,97,98,108,101]⟩:ah);unfold Tx.may at hm;rw [i0]at hm;go_wp2_with fail;refine hm.mono ?_;rintro e v0 ⟨rfl,hd⟩;replace hE:RE K w v0 σ _ _ _ _ _ _ _ _:=hE.call hd;clear hm hd;have hm:=bB hE.did.1 (⟨#[109,97,116,101,114,105,97,108,105,122,101,100]⟩:ah);unfold Tx.may at hm;rw [i1]at hm;go_wp2_with fail;refine hm.mono ?_;rintro e v1 ⟨rfl,hd⟩;replace hE:RE K w v1 σ.step _ _ _ _ _ _ _ _:=hE.call hd;clear hm hd;have hb5:=hE.base;have qQ:=hE.hx;have sI:=VY hE.did.1;go_wp2_with (refine aT rfl _ rfl rfl rfl qQ ?_);refine sI.mono ?_;rintro e w5 ⟨tc,c,s,wv,rfl,hd,hR⟩;replace hE:=hE.call hd;have lF:=hE.hr;have ho:=hR.one;go_wp2_with (refine bH rfl _ _ rfl rfl rfl lF rfl rfl ho ?_;intro W6 iD);refine bodyPost_ret (bQ rfl rfl (jO iD.blk rfl)) rfl ?_;rw [HE.out];exact ⟨tc,c,s,wv,rfl,hE.fin iD,bV (aR hR.1 hb5) lF iD (by decide),bV (aR hR.2.1 hb5) lF iD (by decide),bV (aR hR.2.2.1 hb5) lF iD (by decide),bV (aR hR.2.2.2 hb5) lF iD (by decide)⟩
  |false=>
   obtain ⟨σ1,h1⟩:∃r,K.X.bC σ (⟨#[105,110,100,101,120]⟩:ah)=r:=⟨_,rfl⟩;obtain ⟨⟨x,σ2⟩,h2⟩:∃r,K.X.name σ1=r:=⟨_,rfl⟩;obtain ⟨σ3,h3⟩:∃r,K.X.bC σ2 (⟨#[111,110]⟩:ah)=r:=⟨_,rfl⟩;obtain ⟨⟨o,jS⟩,h4⟩:∃r,K.X.name σ3=r:=⟨_,rfl⟩;obtain ⟨lX,h5⟩:∃r,K.X.bC jS (⟨#[40]⟩:ah)=r:=⟨_,rfl⟩;obtain ⟨⟨n,yT⟩,h6⟩:∃r,K.X.name lX=r:=⟨_,rfl⟩;obtain ⟨LA,h7⟩:∃r,K.X.bC yT (⟨#[41]⟩:ah)=r:=⟨_,rfl⟩
   have HE:Hid (K.X.lQ σ=({Sx.zero with kind:=3,name:=x,bT:=o,on:=n},LA)):=by
    show _=_;have e1:K.X.must σ [(⟨#[105,110,100,101,120]⟩:ah)]=σ1:=h1;have e3:K.X.must σ2 [(⟨#[111,110]⟩:ah)]=σ3:=h3;have e5:K.X.must jS [(⟨#[40]⟩:ah)]=lX:=h5;have e7:K.X.must yT [(⟨#[41]⟩:ah)]=LA:=h7;unfold Tx.lQ Tx.index;simp only [i0,i1,if_neg (show¬(false=true)by decide),e1,h2,e3,h4,e5,h6,e7]
   have H1:=Lib.hid h1;have H2:=Lib.hid h2;have H3:=Lib.hid h3;have H4:=Lib.hid h4;have H5:=Lib.hid h5;have H6:=Lib.hid h6;have H7:=Lib.hid h7;clear h1 h2 h3 h4 h5 h6 h7;go_enter func88,ntmps88;go_wp2_with fail;have hE:=RE.new h Sx.zero ak ak ak ak ak;generalize ((w.alloc (.cells (aG Sx.zero ak ak ak ak ak) 31)).alloc (.cells bf 31))=w0 at hE⊢;have hm:=bB hE.did.1 (⟨#[116,97,98,108,101]⟩:ah);unfold Tx.may at hm;rw [i0]at hm;go_wp2_with fail;refine hm.mono ?_;rintro e v0 ⟨rfl,hd⟩;replace hE:RE K w v0 σ _ _ _ _ _ _ _ _:=hE.call hd;clear hm hd;have hm:=bB hE.did.1 (⟨#[109,97,116,101,114,105,97,108,105,122,101,100]⟩:ah);unfold Tx.may at hm;rw [i1]at hm;go_wp2_with fail;refine hm.mono ?_;rintro e v1 ⟨rfl,hd⟩;replace hE:RE K w v1 σ _ _ _ _ _ _ _ _:=hE.call hd;clear hm hd;have hm:=bI hE.did.1 (⟨#[105,110,100,101,120]⟩:ah);rw [H1.out]at hm;go_wp2_with fail;refine hm.mono ?_;rintro e w1 ⟨rfl,hd⟩;replace hE:=hE.call hd;clear hm hd;have hm:=fB hE.did.1;rw [H2.out]at hm;go_wp2_with fail;refine hm.mono ?_;rintro e w2 ⟨rfl,hd⟩;replace hE:=hE.call hd;clear hm hd;have Po:=aj hE.hx 0;have fz1:=aj hE.hx 1;have k0:=(aK hE.hx).1;have k1:=(aK hE.hx).2.1;have zb:=aD hE.hx;have hE2:RE K w ((w2.setCell ⟨w.heap.size,0,none⟩ (.int .i64 3)).setCell ⟨w.heap.size,1,none⟩ (.string x)) σ2 w.heap.size (w.heap.size+1) {Sx.zero with kind:=3,name:=x} ak ak ak ak ak:=(hE.own 0 (.int .i64 3) (x' :={Sx.zero with kind:=3}) rfl).own 1 (.string x) rfl;clear hE;have hm:=bI hE2.did.1 (⟨#[111,110]⟩:ah);rw [H3.out]at hm;go_wp2_with fail;refine hm.mono ?_;rintro e w3 ⟨rfl,hd⟩;have hE:=hE2.call hd;clear hm hd hE2 Po fz1 k0 k1 zb;have hm:=fB hE.did.1;rw [H4.out]at hm;go_wp2_with fail;refine hm.mono ?_;rintro e w4 ⟨rfl,hd⟩;replace hE:=hE.call hd;clear hm hd;have Zi:=aj hE.hx 2;have k2:=(aK hE.hx).2.2.1;have hE2:=hE.own 2 (.string o) (x' :={Sx.zero with kind:=3,name:=x,bT:=o}) rfl;have hm:=bI hE2.did.1 (⟨#[40]⟩:ah);rw [H5.out]at hm;go_wp2_with fail;refine hm.mono ?_;rintro e w5 ⟨rfl,hd⟩;clear hE;have hE:=hE2.call hd;clear hm hd hE2 Zi k2;have hm:=fB hE.did.1;rw [H6.out]at hm;go_wp2_with fail;refine hm.mono ?_;rintro e w6 ⟨rfl,hd⟩;replace hE:=hE.call hd;clear hm hd;have fz3:=aj hE.hx 3;have k3:=(aK hE.hx).2.2.2.1;have hE2:=hE.own 3 (.string n) (x' :={Sx.zero with kind:=3,name:=x,bT:=o,on:=n}) rfl;have hm:=bI hE2.did.1 (⟨#[41]⟩:ah);rw [H7.out]at hm;go_wp2_with fail;refine hm.mono ?_;rintro e w7 ⟨rfl,hd⟩;clear hE;have hE:=hE2.call hd;clear hm hd hE2 fz3 k3;have qQ:=hE.hx;have lF:=hE.hr;go_wp2_with (first|refine aT rfl _ rfl rfl rfl qQ ?_|(refine bH rfl _ _ rfl rfl rfl lF rfl rfl rfl ?_;intro W6 iD));refine bodyPost_ret (bQ rfl rfl (jO iD.blk rfl)) rfl ?_;rw [HE.out];exact ⟨ak,ak,ak,ak,rfl,hE.fin iD,ko _ _ _ rfl rfl rfl rfl⟩
def Zv (K:PK) (w:World) (z:kD) (σ:Ps):Ending→World→Prop:=fun e w' =>
 ∃(p:Pw) (L:List Pw),e= .returned (.agg p.arr)∧dQ K w σ w' ∧oq w' w.heap.size p L z
def Ro (b:Nat) (w:World):Nat:=match w.cell? ⟨b,17,none⟩with|some (.slice _ n _)=>n|_=>0
theorem RE.parts {K:PK}{w W:World}{σ:Ps}{bx br:Nat}{x:Sx}{tc c s wv:Value}{a:Option Addr}{n k:Nat}(h:RE K w W σ bx br x tc c s wv (.slice a n k)):Ro bx W=n:=by
 have:=(aK h.hx).2.2.2.2.2.2.2.2.2.2.2.2.2.2.2.2.2;unfold Ro;rw [this]
theorem RE.aeC {K:PK}{w W W' :World}{σ:Ps}{bx br:Nat}{x:Sx}{tc c s wv pv:Value}(h:RE K w W σ bx br x tc c s wv pv) {v:Value}(hv:∀g,v.ownBlock=some g→w.heap.size+2≤g) (h1:bx<w.heap.size+2) (h2:br<w.heap.size+2) (hg:W.grownBy W' v.ownBlock):RE K w W' σ bx br x tc c s wv pv:=
 ⟨h.did.grown hg (fun g hg2=>by have:=hv g hg2;omega),by rw [hg.block _ (aD h.hx) (fun e=>by have:=hv _ e.symm;omega)];exact h.hx,by rw [hg.block _ (aD h.hr) (fun e=>by have:=hv _ e.symm;omega)];exact h.hr,h.lx,h.lr,h.ne⟩
theorem fO.IG {K:PK}{σ:Ps}{w w' :World}{base:Nat}{L:List Pv}(h:fO w base L) (hd:dQ K w σ w') (hb:K.L≤base):fO w' base L:=h.map fun _ _ _ _ _ _ hr=>hd.row hr hb
theorem OV (L:List Pv) (p:Pv):nH (L++ [p])=nH L++p.arr.toList:=by unfold nH;simp
def Pv.w (p:Pv):Pw:=⟨p.x,p.tc,p.c,p.s,p.wv,ak⟩
theorem Zw (L:List Pv):jP (L.map Pv.w)=nH L:=by
 unfold jP nH;rw [List.flatMap_map];rfl
theorem Rp {W W' :World}{r:Nat}{V:Array Value}{T e:TypeId}{base size n:Nat}{v:Value}{xs:List Value}(h:W.ownsRow base e size v n xs) (hr:r<base) (hw:Wrote W r V T W'):W'.ownsRow base e size v n xs:=by
 obtain ⟨h1,h2⟩:=h;refine ⟨h1, ?_⟩;rcases h2 with h2|⟨g,c,cur,e1,e2,e3,e4⟩
 · exact .inl h2
 · subst e1;exact .inr ⟨g,c,cur,rfl,e2,by rw [hw.rest g (by omega)];exact e3,e4⟩
theorem V4 {K:PK}{w:World}{σ:Ps}(h:RQ K w σ):
 Calls prog 94 #[.pointer (some ⟨K.b,0,none⟩), .agg (aG Sx.zero ak ak ak ak ak)] w (Zv K w (je (.batch (K.X.En σ).1)) (K.X.En σ).2):=by
 have hle:=h.le;obtain ⟨σ1,h1⟩:∃r,K.X.bC σ (⟨#[98,97,116,99,104]⟩:ah)=r:=⟨_,rfl⟩;obtain ⟨⟨lf,nN⟩,h2⟩:∃r,K.X.nY 10 σ1 []=r:=⟨_,rfl⟩;obtain ⟨σ3,h3⟩:∃r,K.X.bC nN (⟨#[98,97,116,99,104]⟩:ah)=r:=⟨_,rfl⟩
 have HE:Hid (K.X.En σ=(lf,σ3)):=by
  show _=_;have e1:K.X.must σ [(⟨#[98,97,116,99,104]⟩:ah)]=σ1:=h1;have e3:K.X.must nN [(⟨#[98,97,116,99,104]⟩:ah)]=σ3:=h3;unfold Tx.En;simp only [e1,h2,e3]
 have H1:=Lib.hid h1;have H2:=Lib.hid h2;have H3:=Lib.hid h3;clear h1 h2 h3;go_enter func94,ntmps94;go_wp2_with fail;have hE:=RE.new h Sx.zero ak ak ak ak ak;generalize ((w.alloc (.cells (aG Sx.zero ak ak ak ak ak) 31)).alloc (.cells bf 31))=w0 at hE⊢;have hm:=bI hE.did.1 (⟨#[98,97,116,99,104]⟩:ah);rw [H1.out]at hm;go_wp2_with fail;refine hm.mono ?_;rintro e w1 ⟨rfl,hd⟩;replace hE:=hE.call hd;clear hm hd;have Po:=aj hE.hx 0;have k0:=(aK hE.hx).1;have hE2:RE K w (w1.setCell ⟨w.heap.size,0,none⟩ (.int .i64 9)) σ1 w.heap.size (w.heap.size+1) {Sx.zero with kind:=9} ak ak ak ak ak:=hE.own 0 (.int .i64 9) rfl;go_upto_block 0 with fail
 clear Po k0 hE;generalize w1.setCell ⟨w.heap.size,0,none⟩ (.int .i64 9)=w2 at *
 go_cut []from 11 to 53 (fun wx=>∃(L:List Pv) (a:Option Addr) (c:Nat),RE K w wx nN w.heap.size (w.heap.size+1) {Sx.zero with kind:=9} ak ak ak ak (.slice a L.length c)∧wx.ownsRow (w.heap.size+2) 31 18 (.slice a L.length c) L.length (nH L)∧fO wx w.heap.size L∧L.map Pv.x=lf∧L.length≤9)
 case first=>
  go_wp2_with fail
  go_loopw [5] (fun _ wr=>∃(L:List Pv) (a:Option Addr) (c:Nat) (τ:Ps) (n:Nat),RE K w wr τ w.heap.size (w.heap.size+1) {Sx.zero with kind:=9} ak ak ak ak (.slice a L.length c)∧wr.ownsRow (w.heap.size+2) 31 18 (.slice a L.length c) L.length (nH L)∧fO wr w.heap.size L∧Hid (K.X.nY n τ (L.map Pv.x)=(lf,nN))∧L.length+n=10∧L.length≤9∧Hid (9≤L.length→τ.bad≠none)) (fun _ wr=>10 - Ro w.heap.size wr)
  case atStart=>exact ⟨[],none,0,σ1,10,hE2,World.ownsRow_nil _ _ _ _,(fun _ h=>nomatch h),H2.out,rfl,by decide,fun h=>absurd h (by decide)⟩
  case round=>
   clear hE2;obtain ⟨L,a,c,τ,n,hE,hr,hp,HR,hn,hL9,H9⟩:=hrel;have hpm:=hE.parts;have c3b:=hE.bad;have k17:=(aK hE.hx).2.2.2.2.2.2.2.2.2.2.2.2.2.2.2.2.2;cases hbad:τ.bad with
   |some bd=>
    have hbi:τ.fT=(bd:Int):=by unfold Ps.fT;rw [hbad]
    rw [hbi]at c3b;have q0:¬(bd:Int)<0:=by omega
    have HR2:(L.map Pv.x,τ)=(lf,nN):=by
     have h:=HR.out;obtain ⟨n,rfl⟩:∃m,n=m+1:=⟨n - 1,by omega⟩;rw [Tx.nY,hbad]at h;exact h
    obtain ⟨hl2,rfl⟩:=Prod.mk.inj HR2;have HL2:=Lib.hid hl2;clear hbi hbad HR HR2 hl2 H9;go_wp2_with fail;go_meet
    case rel=>exact ⟨L,a,c,hE,hr,hp,HL2.out,hL9⟩
   |none=>
    have hbi:τ.fT= -1:=by unfold Ps.fT;rw [hbad]
    rw [hbi]at c3b;clear hbi;have Zp:L.length≤8:=Nat.le_of_not_lt fun h=>H9.out h hbad
    obtain ⟨n,rfl⟩:∃m,n=m+1:=⟨n - 1,by omega⟩;obtain ⟨b26,Rq⟩:∃b,(!(L.map Pv.x).isEmpty&&K.X.sees τ (⟨#[97,112,112,108,121]⟩:ah))=b:=⟨_,rfl⟩;cases b26 with
    |true=>
     have agx:=Rq;rw [Bool.and_eq_true]at agx;obtain ⟨hb1,hb2⟩:=agx;have hne:¬(L.length:Int)=0:=by intro h;have h0:L= []:=List.eq_nil_of_length_eq_zero (by omega);rw [h0]at hb1;cases hb1
     have q5:((L.length:Int)==0)=false:=beq_eq_false_iff_ne.2 hne;have q6:(L.length==0)=false:=beq_eq_false_iff_ne.2 (by omega)
     have HR2:(L.map Pv.x,τ.step)=(lf,nN):=by
      have h:=HR.out;rw [Tx.nY,hbad,Rq]at h;exact h
     have hmay:=bB hE.did.1 (⟨#[97,112,112,108,121]⟩:ah);unfold Tx.may at hmay;rw [hb2,if_pos rfl]at hmay;have HR3:=Lib.hid HR2;clear Rq hb1 hb2 HR HR2 hbad H9 hne;go_wp2_with fail;refine hmay.mono ?_;rintro e I6 ⟨rfl,hd⟩;have hEa:=hE.call hd;have hra:=hd.row hr (by omega);have hpa:=hp.IG hd hle;go_wp2_with fail;obtain ⟨hl2,rfl⟩:=Prod.mk.inj HR3.out;go_meet
     case rel=>exact ⟨L,a,c,hEa,hra,hpa,hl2,hL9⟩
    |false=>
     obtain ⟨zH,tT⟩:∃x,K.X.here τ=x:=⟨_,rfl⟩;obtain ⟨τ1,h1⟩:∃r,(if 8≤L.length then τ.wrong zH else τ)=r:=⟨_,rfl⟩;obtain ⟨⟨y,ok,τ2⟩,h2⟩:∃r,K.X.ig τ1=r:=⟨_,rfl⟩;obtain ⟨AP,h3⟩:∃r,(if !ok then τ2.wrong zH else τ2)=r:=⟨_,rfl⟩;obtain ⟨FI,h4⟩:∃r,K.X.bC AP (⟨#[59]⟩:ah)=r:=⟨_,rfl⟩
     have HR2:Hid (K.X.nY n FI (L.map Pv.x++ [y])=(lf,nN)):=by
      have h:=HR.out;have h4' :K.X.must AP [(⟨#[59]⟩:ah)]=FI:=h4;rw [Tx.nY,hbad,Rq]at h;simp only [Option.isSome_none,Bool.false_eq_true,if_false,tT,List.length_map,h1,h2,h3,h4']at h;exact Lib.hid h
     have HB8:Hid (8≤L.length→FI.bad≠none):=by
      show 8≤L.length→_;intro h8;have e1:τ1.bad=some zH:=by rw [←h1,if_pos h8];exact qP hbad _
      have e2:τ2.bad=some zH:=by have:=Gz K.X τ1 zH e1;rw [h2]at this;exact this
      have e3:AP.bad=some zH:=by rw [←h3];split;exact vM e2 _;exact e2
      have e4:FI.bad=some zH:=by rw [←h4];exact Nq K.X AP _ zH e3
      rw [e4];simp
     have HT0:=Lib.hid tT;have Q1:=Lib.hid h1;have Q2:=Lib.hid h2;have Q3:=Lib.hid h3;have Q4:=Lib.hid h4;have hmay:=bB hE.did.1 (⟨#[97,112,112,108,121]⟩:ah);unfold Tx.may at hmay
     have hempty:L.length=0∨(L.length≠0∧K.X.sees τ (⟨#[97,112,112,108,121]⟩:ah)=false):=by
      by_cases h0:L.length=0
      · exact .inl h0
      · refine .inr ⟨h0, ?_⟩;have:(L.map Pv.x).isEmpty=false:=by cases L with|nil=>exact absurd rfl h0|cons a l=>rfl
        rw [this]at Rq;exact Rq
     clear tT h1 h2 h3 h4 HR hbad H9 Rq;have hE0:=Lib.hid hempty;clear hempty;go_upto_region 3 with fail
     go_cut [26]from 11 to 53 (fun s26 wx=>s26= .bool true∧RE K w wx τ w.heap.size (w.heap.size+1) {Sx.zero with kind:=9} ak ak ak ak (.slice a L.length c)∧wx.ownsRow (w.heap.size+2) 31 18 (.slice a L.length c) L.length (nH L)∧fO wx w.heap.size L)
     case first=>
      rcases hE0.out with h0|⟨h0,hs0⟩
      · have q5:((L.length:Int)==0)=true:=by rw [h0];rfl
        have q6:(L.length==0)=true:=by rw [h0];rfl
        clear h0;go_wp2_with fail;go_meet
        case rel=>exact ⟨rfl,hE,hr,hp⟩
      · have q5:((L.length:Int)==0)=false:=beq_eq_false_iff_ne.2 (by omega);have q6:(L.length==0)=false:=beq_eq_false_iff_ne.2 h0;rw [hs0,if_neg (by decide)]at hmay;clear hs0 h0;go_wp2_with fail;refine hmay.mono ?_;rintro e I6 ⟨rfl,hd⟩;have hEa:=hE.call hd;have hra:=hd.row hr (by omega);have hpa:=hp.IG hd hle;go_wp2_with fail;go_meet
        case rel=>exact ⟨rfl,hEa,hra,hpa⟩
     clear hE hr hp hmay c3b k17;obtain ⟨rfl,hE,hr,hp⟩:=hcut
     rename World=>DL
     have hat:=iR hE.did.1;rw [HT0.out]at hat;go_wp2_with fail;refine hat.mono ?_;rintro e alU ⟨rfl,m,rfl⟩;replace hE:=hE.drewN m;replace hr:=dL hr m;replace hp:fO (DL.drewN m) w.heap.size L:=hp;clear hat;generalize DL.drewN m=UN at *;have k17:=(aK hE.hx).2.2.2.2.2.2.2.2.2.2.2.2.2.2.2.2.2;have q8:((8:Int)≤(L.length:Int)∧8≤L.length)∨(¬(8:Int)≤(L.length:Int)∧¬8≤L.length):=by omega
     have Q8:=Lib.hid q8;clear q8;go_upto_if 32 with fail
     go_cut []from 11 to 53 (fun wx=>RE K w wx τ1 w.heap.size (w.heap.size+1) {Sx.zero with kind:=9} ak ak ak ak (.slice a L.length c)∧wx.ownsRow (w.heap.size+2) 31 18 (.slice a L.length c) L.length (nH L)∧fO wx w.heap.size L)
     case first=>
      rcases Q8.out with ⟨q8,q9⟩|⟨q8,q9⟩
      · have Q1b:=Q1.out;rw [if_pos q9]at Q1b;have Q1c:=Lib.hid Q1b;clear Q1b q9;have hw:=fU hE.did.1 zH;rw [Q1c.out]at hw;go_wp2_with fail;refine hw.mono ?_;rintro e Ws ⟨rfl,hd⟩;go_wp2_with fail;go_meet
        case rel=>exact ⟨hE.call hd,hd.row hr (by omega),hp.IG hd hle⟩
      · have Q1b:=Q1.out;rw [if_neg q9]at Q1b;subst Q1b;clear q9;go_wp2_with fail;go_meet
        case rel=>exact ⟨hE,hr,hp⟩
     clear hE hr hp k17;obtain ⟨hE,hr,hp⟩:=hcut
     rename World=>w24
     have hch:=EP hE.did.1;rw [Q2.out]at hch;have DN:=hE.base;go_wp2_with fail;refine hch.mono ?_;rintro e YP ⟨tc,cc,s,wv,rfl,hd,hR⟩;replace hE:=hE.call hd;replace hr:=hd.row hr (by omega);replace hp:=hp.IG hd hle;replace hR:=hR.mono DN;have ho:=hR.one;have hy:=aA YP (.cells (aG y tc cc s wv ak) 31);have hEy:=hE.alloc (.cells (aG y tc cc s wv ak) 31);have hry:=hr.alloc (.cells (aG y tc cc s wv ak) 31);have hpy:=hp.alloc (.cells (aG y tc cc s wv ak) 31);have hRy:eX (YP.alloc (.cells (aG y tc cc s wv ak) 31)) w.heap.size y tc cc s wv:=hR.map fun _ _ _ _ _ _ hq=>hq.alloc _
     have yE:=hE.base;clear hd hch hE hr hp hR;go_upto_if 42 with (refine fA rfl _ _ rfl rfl rfl rfl rfl ho ?_)
     generalize YP.alloc (.cells (aG y tc cc s wv ak) 31)=w26 at *
     go_cut []from 11 to 53 (fun wx=>RE K w wx AP w.heap.size (w.heap.size+1) {Sx.zero with kind:=9} ak ak ak ak (.slice a L.length c)∧wx.ownsRow (w.heap.size+2) 31 18 (.slice a L.length c) L.length (nH L)∧fO wx w.heap.size L∧eX wx w.heap.size y tc cc s wv∧wx.heap[YP.heap.size]? =some (.cells (aG y tc cc s wv ak) 31 (0,0)))
     case first=>
      cases ok with
      |true=>
       have Q3b:τ2=AP:=Q3.out;subst Q3b;go_wp2_with fail;go_meet
       case rel=>exact ⟨hEy,hry,hpy,hRy,hy⟩
      |false=>
       have Q3b:Hid (τ2.wrong zH=AP):=Q3.out;have hw:=fU hEy.did.1 zH;rw [Q3b.out]at hw;go_wp2_with fail;refine hw.mono ?_;rintro e w27 ⟨rfl,hd⟩;go_wp2_with fail;go_meet
       case rel=>exact ⟨hEy.call hd,hd.row hry (by omega),hpy.IG hd hle,hRy.map fun _ _ _ _ _ _ hq=>hd.row hq hle,hd.blk hy (Nat.le_trans hle yE)⟩
     clear hEy hry hpy hRy hy;obtain ⟨hE,hr,hp,hR,hy⟩:=hcut
     rename World=>w28
     have hm:=bI hE.did.1 (⟨#[59]⟩:ah);rw [Q4.out]at hm;go_wp2_with fail;refine hm.mono ?_;rintro e w29 ⟨rfl,hd⟩;replace hE:=hE.call hd;replace hr:=hd.row hr (by omega);replace hp:=hp.IG hd hle;replace hR:eX w29 w.heap.size y tc cc s wv:=hR.map fun _ _ _ _ _ _ hq=>hd.row hq hle
     replace hy:=hd.blk hy (Nat.le_trans hle yE);clear hm hd;have k17:=(aK hE.hx).2.2.2.2.2.2.2.2.2.2.2.2.2.2.2.2.2;have alW:=aj hE.hx 17;have alX:=hE.base;have akf:=aD hE.hr;have HO:Hid (∀u∈((aG y tc cc s wv ak).toList:List Value),u.oneCell' =true):=fun u hu=>(List.all_eq_true.1 ho) u hu
     go_wp2_with (first|refine aT rfl _ rfl rfl rfl hy ?_|(at_builtin;refine app1 Tryz.afS rfl _ _ rfl (w.heap.size+2) _ _ _ rfl (hr.alloc _) _ _ (aG y tc cc s wv ak).toList rfl rfl (bg _ _ _) HO.out (by omega) (by simp;omega) ?_;intro a5 c5 EU h30 agz Av;have hE5:=(hE.alloc (.cells (aG y tc cc s wv ak) 31)).aeC (fun g hg2=>(hr.lt g hg2).1) (by omega) (by omega) agz;have y17:=(aK hE5.hx).2.2.2.2.2.2.2.2.2.2.2.2.2.2.2.2.2;have alZ:=aj hE5.hx 17));have V3:=hE5.own 17 (.slice a5 (L.length+1) c5) (x' :={Sx.zero with kind:=9}) (pv' := .slice a5 (L.length+1) c5) rfl;have NW:=YS h30 (show w.heap.size<w.heap.size+2 by omega) 17 (.slice a5 (L.length+1) c5);have hkeep:∀(e:TypeId) (size n:Nat) (u:Value) (xs:List Value),(e=23∨e=9∨e=62)→w29.ownsRow w.heap.size e size u n xs→(EU.setCell ⟨w.heap.size,17,none⟩ (.slice a5 (L.length+1) c5)).ownsRow w.heap.size e size u n xs:=fun e size n u xs he hq=>aL ((dH (hr.alloc (.cells (aG y tc cc s wv ak) 31)) (hq.alloc _) (o8 (by decide) he)).keep (hq.alloc _) agz) hE5.hx (fun e2=>o8 (T:=31) (by decide) he e2.symm) 17 _
     have hp6:=hp.map hkeep;have hR6:=hR.map hkeep;have aiY:=V3.parts;go_wp2_with fail;go_roundw
     case rel=>
      refine ⟨L++ [⟨y,tc,cc,s,wv⟩],a5,c5,FI,n,by rw [List.length_append];exact V3, ?_,hp6.snoc hR6, ?_,by rw [List.length_append];show L.length+1+n=10;omega,by rw [List.length_append];show L.length+1≤9;omega, ?_⟩
      · rw [List.length_append,OV];exact NW
      · rw [List.map_append];exact HR2
      · show _→_;rw [List.length_append];intro h9;exact HB8.out (by have:L.length+1=L.length+ [(⟨y,tc,cc,s,wv⟩:Pv)].length:=rfl;omega)
     case measure=>rw [hpm,aiY];omega
 clear hE2;obtain ⟨L,a,c,hE,hr,hp,hlf,hL9⟩:=hcut
 rename World=>Cj
 have HLF:=Lib.hid hlf;clear hlf;have hm:=bI hE.did.1 (⟨#[98,97,116,99,104]⟩:ah);rw [H3.out]at hm;go_wp2_with fail;refine hm.mono ?_;rintro e w41 ⟨rfl,hd⟩;replace hE:=hE.call hd;replace hr:=hd.row hr (by omega);replace hp:=hp.IG hd hle;clear hm hd;have qQ:=hE.hx;have lF:=hE.hr;go_wp2_with (first|refine aT rfl _ rfl rfl rfl qQ ?_|(refine bH rfl _ _ rfl rfl rfl lF rfl rfl rfl ?_;intro W6 iD));refine bodyPost_ret (bQ rfl rfl (jO iD.blk rfl)) rfl ?_;rw [HE.out];refine ⟨⟨{Sx.zero with kind:=9},ak,ak,ak,ak, .slice a L.length c⟩,L.map Pv.w,rfl,hE.fin iD,rfl, ?_,ko _ _ _ rfl rfl rfl rfl, ?_, ?_⟩
 · rw [List.map_map];exact HLF.out
 · rw [List.length_map,Zw];exact aR (Rp hr (by omega) iD) (by omega)
 · intro q hq;obtain ⟨p,hp1,rfl⟩:=List.mem_map.1 hq;exact ⟨(hp p hp1).map fun _ _ _ _ _ he hq2=>bV hq2 hE.hr iD (fun e2=>o8 (T:=31) (by decide) he e2.symm),rfl⟩
theorem Rs {X:Tx}{σ:Ps}(h:(X.ig σ).2.1=false):(X.ig σ).2.2=σ:=by
 unfold Tx.ig at h⊢;split
 · rename_i h1;rw [if_pos h1]at h;cases h
 · rename_i h1;rw [if_neg h1]at h;split
   · rename_i h2;rw [if_pos h2]at h;cases h
   · rename_i h2;rw [if_neg h2]at h;split
     · rename_i h3;rw [if_pos h3]at h;cases h
     · rfl
theorem RE.Zx {K:PK}{w w1:World}{σ:Ps}(hd:dQ K w σ w1) {br:Nat}(hr:w1.heap[br]? =some (.cells bf 31 (0,0))) (hb:w.heap.size≤br):RE K w (w1.alloc (.cells bf 31)) σ w1.heap.size br Sx.zero ak ak ak ak ak:=
 ⟨hd.alloc _,aA w1 _,aC hr _,hd.size,hb,Nat.ne_of_lt (aD hr)⟩
theorem qR {w:World}{base:Nat}{x:Sx}{tc c s wv:Value}(h:eX w base x tc c s wv):oq w base ⟨x,tc,c,s,wv,ak⟩ [] ⟨x, []⟩:=
 ⟨rfl,rfl,h,World.ownsRow_nil _ _ _ _,fun _ h=>nomatch h⟩
theorem oq.one {w:World}{base:Nat}{p:Pw}{L:List Pw}{z:kD}(h:oq w base p L z):p.arr.toList.all (·.oneCell')=true:=by
 obtain ⟨x,tc,c,s,wv,pv⟩:=p;obtain ⟨_,_,h1,_⟩:=aY h.rows.1;obtain ⟨_,_,h2,_⟩:=aY h.rows.2.1;obtain ⟨_,_,h3,_⟩:=aY h.rows.2.2.1;obtain ⟨_,_,h4,_⟩:=aY h.rows.2.2.2;obtain ⟨_,_,h5,_⟩:=aY h.row;simp only at h1 h2 h3 h4 h5;show (aG x tc c s wv pv).toList.all (·.oneCell')=true;rw [h1,h2,h3,h4,h5];rfl
theorem eX.wrote {W W' :World}{r base:Nat}{C V:Array Value}{x:Sx}{tc c s wv:Value}(h:eX W base x tc c s wv) (hr:W.heap[r]? =some (.cells C 31 (0,0))) (hw:Wrote W r V 31 W'):eX W' base x tc c s wv:=
 h.map fun _ _ _ _ _ he hq=>bV hq hr hw (fun e2=>o8 (T:=31) (by decide) he e2.symm)
theorem Mi {K:PK}{w:World}{σ:Ps}(h:RQ K w σ):
 Calls prog 51 #[.pointer (some ⟨K.b,0,none⟩)] w (Zv K w (je (K.X.Eo σ).1) (K.X.Eo σ).2):=by
 have hle:=h.le;have hZ:=aA w (.cells bf 31);have hD0:=(dQ.refl h).alloc (.cells bf 31);have hch:=EP hD0.1;have hno:=fun h=>Rs (X:=K.X) (σ:=σ) h
 obtain ⟨⟨y,ok,σ1⟩,hc⟩:∃r,K.X.ig σ=r:=⟨_,rfl⟩;rw [hc]at hch hno;have HC:=Lib.hid hc;clear hc;replace hno:ok=false→σ1=σ:=hno;have HN:=Lib.hid hno;clear hno;cases ok with
 |true=>
  have HE:Hid (K.X.Eo σ=(.change y,σ1)):=by show _=_;unfold Tx.Eo;simp only [HC.out,if_true]
  go_enter func51,ntmps51;go_wp2_with fail;refine hch.mono ?_;rintro e w1 ⟨tc,c,s,wv,rfl,hd,hR⟩;have hD1:=hD0.trans hd;have hr1:=hd.blk hZ hle;have ho:=hR.one;have hs1:w.heap.size+1≤w1.heap.size:=by have:=hd.size;rw [av]at this;exact this
  replace hR:eX w1 w.heap.size y tc c s wv:=hR.mono (by rw [av];omega);have hy:=aA w1 (.cells (aG y tc c s wv ak) 31);have hD2:=hD1.alloc (.cells (aG y tc c s wv ak) 31);have hr2:=aC hr1 (.cells (aG y tc c s wv ak) 31);clear hd hch hD0 hZ hD1 hr1;have hR2:eX (w1.alloc (.cells (aG y tc c s wv ak) 31)) w.heap.size y tc c s wv:=hR.map fun _ _ _ _ _ _ hq=>hq.alloc _
  go_wp2_with (first|refine fA rfl _ _ rfl rfl rfl rfl rfl ho ?_|refine aT rfl _ rfl rfl rfl hy ?_|(refine bH rfl _ _ rfl rfl rfl hr2 rfl rfl ho ?_;intro W6 iD));refine bodyPost_ret (bQ rfl rfl (jO iD.blk rfl)) rfl ?_;rw [HE.out];exact ⟨⟨y,tc,c,s,wv,ak⟩, [],rfl,hD2.wrote iD (Nat.le_refl _),qR (hR2.wrote hr2 iD)⟩
 |false=>
  have e1:σ1=σ:=HN.out rfl;subst e1;cases j0:K.X.sees σ1 (⟨#[99,114,101,97,116,101]⟩:ah)with
  |true=>
   have HE:Hid (K.X.Eo σ1=(.plain (K.X.lQ σ1.step).1,(K.X.lQ σ1.step).2)):=by show _=_;unfold Tx.Eo;simp only [HC.out,j0,if_true,if_neg (show¬(false=true)by decide)]
   go_enter func51,ntmps51;go_wp2_with fail;refine hch.mono ?_;rintro e w1 ⟨tc,c,s,wv,rfl,hd,hR⟩;have hD1:=hD0.trans hd;have hr1:=hd.blk hZ hle;have ho:=hR.one;have hs1:w.heap.size+1≤w1.heap.size:=by have:=hd.size;rw [av]at this;exact this
   replace hR:eX w1 w.heap.size y tc c s wv:=hR.mono (by rw [av];omega);have hy:=aA w1 (.cells (aG y tc c s wv ak) 31);have hD2:=hD1.alloc (.cells (aG y tc c s wv ak) 31);have hr2:=aC hr1 (.cells (aG y tc c s wv ak) 31);clear hd hch hD0 hZ hD1 hr1
   have hE:RE K w ((w1.alloc (.cells (aG y tc c s wv ak) 31)).alloc (.cells bf 31)) σ1 (w1.heap.size+1) w.heap.size Sx.zero ak ak ak ak ak:=by
    have h:=RE.Zx hD2 hr2 (Nat.le_refl _);rw [av]at h;exact h
   go_upto_block 0 with (refine fA rfl _ _ rfl rfl rfl rfl rfl ho ?_)
   generalize (w1.alloc (.cells (aG y tc c s wv ak) 31)).alloc (.cells bf 31)=w3 at hE⊢;generalize w1.heap.size+1=bz at hE⊢;clear hD2 hr2 hy hR ho;have hm:=bB hE.did.1 (⟨#[99,114,101,97,116,101]⟩:ah);unfold Tx.may at hm;rw [j0]at hm;go_wp2_with fail;refine hm.mono ?_;rintro e v0 ⟨rfl,hd⟩;replace hE:RE K w v0 σ1.step _ _ _ _ _ _ _ _:=hE.call hd;clear hm hd;have hb5:=hE.base;have qQ:=hE.hx;have sI:=OU hE.did.1;go_wp2_with (refine aT rfl _ rfl rfl rfl qQ ?_);refine sI.mono ?_;rintro e w5 ⟨VX,c2,s2,wv2,rfl,hd,hR⟩;replace hE:=hE.call hd;have lF:=hE.hr;have ho:=hR.one;go_wp2_with (refine bH rfl _ _ rfl rfl rfl lF rfl rfl ho ?_;intro W6 iD);refine bodyPost_ret (bQ rfl rfl (jO iD.blk rfl)) rfl ?_;rw [HE.out];exact ⟨⟨_,VX,c2,s2,wv2,ak⟩, [],rfl,hE.fin iD,qR ((hR.mono hb5).wrote lF iD)⟩
  |false=>
   cases j1:K.X.sees σ1 (⟨#[100,114,111,112]⟩:ah)with
   |true=>
    obtain ⟨⟨n,σ2⟩,h2⟩:∃r,K.X.name σ1.step=r:=⟨_,rfl⟩;have HE:Hid (K.X.Eo σ1=(.plain {Sx.zero with kind:=4,name:=n},σ2)):=by show _=_;unfold Tx.Eo;simp only [HC.out,h2,j0,j1,if_true,if_neg (show¬(false=true)by decide)]
    have H2:=Lib.hid h2;clear h2;go_enter func51,ntmps51;go_wp2_with fail;refine hch.mono ?_;rintro e w1 ⟨tc,c,s,wv,rfl,hd,hR⟩;have hD1:=hD0.trans hd;have hr1:=hd.blk hZ hle;have ho:=hR.one;have hs1:w.heap.size+1≤w1.heap.size:=by have:=hd.size;rw [av]at this;exact this
    replace hR:eX w1 w.heap.size y tc c s wv:=hR.mono (by rw [av];omega);have hy:=aA w1 (.cells (aG y tc c s wv ak) 31);have hD2:=hD1.alloc (.cells (aG y tc c s wv ak) 31);have hr2:=aC hr1 (.cells (aG y tc c s wv ak) 31);clear hd hch hD0 hZ hD1 hr1
    have hE:RE K w ((w1.alloc (.cells (aG y tc c s wv ak) 31)).alloc (.cells bf 31)) σ1 (w1.heap.size+1) w.heap.size Sx.zero ak ak ak ak ak:=by
     have h:=RE.Zx hD2 hr2 (Nat.le_refl _);rw [av]at h;exact h
    go_upto_block 0 with (refine fA rfl _ _ rfl rfl rfl rfl rfl ho ?_)
    generalize (w1.alloc (.cells (aG y tc c s wv ak) 31)).alloc (.cells bf 31)=w3 at hE⊢;generalize w1.heap.size+1=bz at hE⊢;clear hD2 hr2 hy hR ho;have hm:=bB hE.did.1 (⟨#[99,114,101,97,116,101]⟩:ah);unfold Tx.may at hm;rw [j0]at hm;go_wp2_with fail;refine hm.mono ?_;rintro e v0 ⟨rfl,hd⟩;replace hE:RE K w v0 σ1 _ _ _ _ _ _ _ _:=hE.call hd;clear hm hd;have hm:=bB hE.did.1 (⟨#[100,114,111,112]⟩:ah);unfold Tx.may at hm;rw [j1]at hm;go_wp2_with fail;refine hm.mono ?_;rintro e v1 ⟨rfl,hd⟩;replace hE:RE K w v1 σ1.step _ _ _ _ _ _ _ _:=hE.call hd;clear hm hd;have hm:=fB hE.did.1;rw [H2.out]at hm;go_wp2_with fail;refine hm.mono ?_;rintro e w5 ⟨rfl,hd⟩;replace hE:=hE.call hd;clear hm hd;have Po:=aj hE.hx 0;have fz1:=aj hE.hx 1;have k0:=(aK hE.hx).1;have k1:=(aK hE.hx).2.1;have zb:=aD hE.hx;have hE2:RE K w ((w5.setCell ⟨bz,0,none⟩ (.int .i64 4)).setCell ⟨bz,1,none⟩ (.string n)) σ2 bz w.heap.size {Sx.zero with kind:=4,name:=n} ak ak ak ak ak:=(hE.own 0 (.int .i64 4) (x' :={Sx.zero with kind:=4}) rfl).own 1 (.string n) rfl;clear hE;have hE:=hE2;clear hE2;have qQ:=hE.hx;have lF:=hE.hr;go_wp2_with (first|refine aT rfl _ rfl rfl rfl qQ ?_|(refine bH rfl _ _ rfl rfl rfl lF rfl rfl rfl ?_;intro W6 iD));refine bodyPost_ret (bQ rfl rfl (jO iD.blk rfl)) rfl ?_;rw [HE.out];exact ⟨⟨_,ak,ak,ak,ak,ak⟩, [],rfl,hE.fin iD,qR (ko _ _ _ rfl rfl rfl rfl)⟩
   |false=>
    cases j2:K.X.sees σ1 (⟨#[115,101,108,101,99,116]⟩:ah)with
    |true=>
     obtain ⟨⟨c0,σ2⟩,h2⟩:∃r,K.X.wL σ1.step=r:=⟨_,rfl⟩;obtain ⟨σ3,h3⟩:∃r,K.X.bC σ2 (⟨#[102,114,111,109]⟩:ah)=r:=⟨_,rfl⟩;obtain ⟨⟨o,jS⟩,h4⟩:∃r,K.X.name σ3=r:=⟨_,rfl⟩;obtain ⟨⟨V,lX⟩,h5⟩:∃r,K.X.aH jS false=r:=⟨_,rfl⟩;obtain ⟨bl,hbl⟩:∃b,K.X.sees lX (⟨#[108,105,109,105,116]⟩:ah)=b:=⟨_,rfl⟩;obtain ⟨⟨lim,yT⟩,h6⟩:∃r,(if bl=true then K.X.count lX.step else (0,lX))=r:=⟨_,rfl⟩
     have HE:Hid (K.X.Eo σ1=(.plain {Sx.zero with kind:=8,aI:=c0,bT:=o,aH:=V,limit:=lim},yT)):=by
      show _=_;have e3:K.X.must σ2 [(⟨#[102,114,111,109]⟩:ah)]=σ3:=h3;unfold Tx.Eo Tx.acV Tx.J7;simp only [HC.out,j0,j1,j2,if_true,if_neg (show¬(false=true)by decide),h2,e3,h4,h5,hbl];cases bl with
      |true=>rw [if_pos rfl]at h6;simp only [h6,if_true]
      |false=>rw [if_neg (by decide)]at h6;cases h6;rfl
     have H2:=Lib.hid h2;have H3:=Lib.hid h3;have H4:=Lib.hid h4;have H5:=Lib.hid h5;have H6:=Lib.hid h6;have HBL:=Lib.hid hbl;clear h2 h3 h4 h5 h6 hbl;go_enter func51,ntmps51;go_wp2_with fail;refine hch.mono ?_;rintro e w1 ⟨tc,c,s,wv,rfl,hd,hR⟩;have hD1:=hD0.trans hd;have hr1:=hd.blk hZ hle;have ho:=hR.one;have hs1:w.heap.size+1≤w1.heap.size:=by have:=hd.size;rw [av]at this;exact this
     replace hR:eX w1 w.heap.size y tc c s wv:=hR.mono (by rw [av];omega);have hy:=aA w1 (.cells (aG y tc c s wv ak) 31);have hD2:=hD1.alloc (.cells (aG y tc c s wv ak) 31);have hr2:=aC hr1 (.cells (aG y tc c s wv ak) 31);clear hd hch hD0 hZ hD1 hr1
     have hE:RE K w ((w1.alloc (.cells (aG y tc c s wv ak) 31)).alloc (.cells bf 31)) σ1 (w1.heap.size+1) w.heap.size Sx.zero ak ak ak ak ak:=by
      have h:=RE.Zx hD2 hr2 (Nat.le_refl _);rw [av]at h;exact h
     go_upto_block 0 with (refine fA rfl _ _ rfl rfl rfl rfl rfl ho ?_)
     generalize (w1.alloc (.cells (aG y tc c s wv ak) 31)).alloc (.cells bf 31)=w3 at hE⊢;generalize w1.heap.size+1=bz at hE⊢;clear hD2 hr2 hy hR ho;have hm:=bB hE.did.1 (⟨#[99,114,101,97,116,101]⟩:ah);unfold Tx.may at hm;rw [j0]at hm;go_wp2_with fail;refine hm.mono ?_;rintro e v0 ⟨rfl,hd⟩;replace hE:RE K w v0 σ1 _ _ _ _ _ _ _ _:=hE.call hd;clear hm hd;have hm:=bB hE.did.1 (⟨#[100,114,111,112]⟩:ah);unfold Tx.may at hm;rw [j1]at hm;go_wp2_with fail;refine hm.mono ?_;rintro e v1 ⟨rfl,hd⟩;replace hE:RE K w v1 σ1 _ _ _ _ _ _ _ _:=hE.call hd;clear hm hd;have hm:=bB hE.did.1 (⟨#[115,101,108,101,99,116]⟩:ah);unfold Tx.may at hm;rw [j2]at hm;go_wp2_with fail;refine hm.mono ?_;rintro e v2 ⟨rfl,hd⟩;replace hE:RE K w v2 σ1.step _ _ _ _ _ _ _ _:=hE.call hd;clear hm hd;have hm:=Kv hE.did.1;rw [H2.out]at hm;go_wp2_with fail;refine hm.mono ?_;rintro e w5 ⟨a1,k1,rfl,hd,Zt⟩;have hrc:=aR Zt hE.base;replace hE:=hE.call hd;clear hm hd Zt;have Po:=aj hE.hx 0;have abN:=aj hE.hx 11;have k0:=(aK hE.hx).1;have k11:=(aK hE.hx).2.2.2.2.2.2.2.2.2.2.2.1;have zb:=aD hE.hx;have hE2:RE K w ((w5.setCell ⟨bz,0,none⟩ (.int .i64 8)).setCell ⟨bz,11,none⟩ (.slice a1 c0.length k1)) σ2 bz w.heap.size {Sx.zero with kind:=8} ak (.slice a1 c0.length k1) ak ak ak:=(hE.own 0 (.int .i64 8) (x' :={Sx.zero with kind:=8}) rfl).own 11 (.slice a1 c0.length k1) rfl;have vg:=aL (aL hrc hE.hx (by decide) 0 (.int .i64 8)) (hE.own 0 (.int .i64 8) (x' :={Sx.zero with kind:=8}) rfl).hx (by decide) 11 (.slice a1 c0.length k1);go_upto_region 12 with fail
     clear Po abN k0 k11 zb hE hrc;generalize (w5.setCell ⟨bz,0,none⟩ (.int .i64 8)).setCell ⟨bz,11,none⟩ (.slice a1 c0.length k1)=w6 at *;have hE:=hE2;have hrc:=vg;clear hE2 vg;have hm:=bI hE.did.1 (⟨#[102,114,111,109]⟩:ah);rw [H3.out]at hm;go_wp2_with fail;refine hm.mono ?_;rintro e w7 ⟨rfl,hd⟩;replace hE:=hE.call hd;replace hrc:=hd.row hrc hle;clear hm hd;have hm:=fB hE.did.1;rw [H4.out]at hm;go_wp2_with fail;refine hm.mono ?_;rintro e w8 ⟨rfl,hd⟩;replace hE:=hE.call hd;replace hrc:=hd.row hrc hle;clear hm hd;have Zi:=aj hE.hx 2;have k2:=(aK hE.hx).2.2.1;have hE2:=hE.own 2 (.string o) (x' :={Sx.zero with kind:=8,bT:=o}) rfl;have vg:=aL hrc hE.hx (by decide) 2 (.string o);go_upto_region 14 with fail
     clear hE hrc Zi k2;generalize w8.setCell ⟨bz,2,none⟩ (.string o)=w9 at *;have hE:=hE2;have hrc:=vg;clear hE2 vg;have qQ:=hE.hx;have Oj:=hE.base;have sI:=Iq hE.did.1 {Sx.zero with kind:=8,bT:=o} ak (.slice a1 c0.length k1) ak ak rfl;rw [H5.out]at sI;go_wp2_with (refine aT rfl _ rfl rfl rfl qQ ?_);refine sI.mono ?_;rintro e w10 ⟨wv2,rfl,hd,hrw⟩;replace hE:=hE.call hd;replace hrc:=hd.row hrc hle;replace hrw:=aR hrw Oj;clear hd sI qQ;obtain ⟨aw,kw,rfl,_⟩:=aY hrw;have agA:=hE.hx;go_upto_region 15 with (refine bH rfl _ _ rfl rfl rfl agA rfl rfl rfl ?_;intro W7 hW7)
     have aeD:=bV hrc hE.hx hW7 (by decide);have aeE:=bV hrw hE.hx hW7 (by decide);have WB:=hE.put hW7;clear hE hrc hrw hW7 agA;have hml:=bB WB.did.1 (⟨#[108,105,109,105,116]⟩:ah);unfold Tx.may at hml;rw [HBL.out]at hml;cases bl with
     |false=>
      have e6:=H6.out;rw [if_neg (by decide)]at e6;cases e6;go_wp2_with fail;refine hml.mono ?_;rintro e w11 ⟨rfl,hd⟩;have hE:RE K w w11 lX _ _ _ _ _ _ _ _:=WB.call hd;have hrc:=hd.row aeD hle;have hrw:=hd.row aeE hle;have qQ:=hE.hx;have lF:=hE.hr;go_wp2_with (first|refine aT rfl _ rfl rfl rfl qQ ?_|(refine bH rfl _ _ rfl rfl rfl lF rfl rfl rfl ?_;intro W6 iD));refine bodyPost_ret (bQ rfl rfl (jO iD.blk rfl)) rfl ?_;rw [HE.out];exact ⟨⟨{Sx.zero with kind:=8,aI:=c0,bT:=o,aH:=V,limit:=0},ak,_,ak,_,ak⟩, [],rfl,hE.fin iD,qR ⟨World.ownsRow_nil _ _ _ _,bV hrc hE.hr iD (by decide),World.ownsRow_nil _ _ _ _,bV hrw hE.hr iD (by decide)⟩⟩
     |true=>
      have H6b:Hid (K.X.count lX.step=(lim,yT)):=H6.out;go_wp2_with fail;refine hml.mono ?_;rintro e w11 ⟨rfl,hd⟩;have hE:RE K w w11 lX.step _ _ _ _ _ _ _ _:=WB.call hd;have hrc:=hd.row aeD hle;have hrw:=hd.row aeE hle;clear hd hml WB aeD aeE;have hm:=mW hE.did.1;rw [H6b.out]at hm;go_wp2_with fail;refine hm.mono ?_;rintro e w12 ⟨rfl,hd⟩;replace hE:=hE.call hd;replace hrc:=hd.row hrc hle;replace hrw:=hd.row hrw hle;clear hm hd;have al2:=aj hE.hx 16;have k16:=(aK hE.hx).2.2.2.2.2.2.2.2.2.2.2.2.2.2.2.2.1;have hE2:=hE.own 16 (.int .i64 lim) (x' :={Sx.zero with kind:=8,bT:=o,limit:=lim}) rfl;have vg:=aL hrc hE.hx (by decide) 16 (.int .i64 lim);have hrw2:=aL hrw hE.hx (by decide) 16 (.int .i64 lim);clear hE hrc hrw;have hE:=hE2;have hrc:=vg;have hrw:=hrw2;clear hE2 vg hrw2;have qQ:=hE.hx;have lF:=hE.hr;go_wp2_with (first|refine aT rfl _ rfl rfl rfl qQ ?_|(refine bH rfl _ _ rfl rfl rfl lF rfl rfl rfl ?_;intro W6 iD));refine bodyPost_ret (bQ rfl rfl (jO iD.blk rfl)) rfl ?_;rw [HE.out];exact ⟨⟨{Sx.zero with kind:=8,aI:=c0,bT:=o,aH:=V,limit:=lim},ak,_,ak,_,ak⟩, [],rfl,hE.fin iD,qR ⟨World.ownsRow_nil _ _ _ _,bV hrc hE.hr iD (by decide),World.ownsRow_nil _ _ _ _,bV hrw hE.hr iD (by decide)⟩⟩
    |false=>
     cases j3:K.X.sees σ1 (⟨#[98,101,103,105,110]⟩:ah)with
     |true=>
      have HE:Hid (K.X.Eo σ1=(.batch (K.X.En σ1.step).1,(K.X.En σ1.step).2)):=by show _=_;unfold Tx.Eo;simp only [HC.out,j0,j1,j2,j3,if_true,if_neg (show¬(false=true)by decide)]
      go_enter func51,ntmps51;go_wp2_with fail;refine hch.mono ?_;rintro e w1 ⟨tc,c,s,wv,rfl,hd,hR⟩;have hD1:=hD0.trans hd;have hr1:=hd.blk hZ hle;have ho:=hR.one;have hs1:w.heap.size+1≤w1.heap.size:=by have:=hd.size;rw [av]at this;exact this
      replace hR:eX w1 w.heap.size y tc c s wv:=hR.mono (by rw [av];omega);have hy:=aA w1 (.cells (aG y tc c s wv ak) 31);have hD2:=hD1.alloc (.cells (aG y tc c s wv ak) 31);have hr2:=aC hr1 (.cells (aG y tc c s wv ak) 31);clear hd hch hD0 hZ hD1 hr1
      have hE:RE K w ((w1.alloc (.cells (aG y tc c s wv ak) 31)).alloc (.cells bf 31)) σ1 (w1.heap.size+1) w.heap.size Sx.zero ak ak ak ak ak:=by
       have h:=RE.Zx hD2 hr2 (Nat.le_refl _);rw [av]at h;exact h
      go_upto_block 0 with (refine fA rfl _ _ rfl rfl rfl rfl rfl ho ?_)
      generalize (w1.alloc (.cells (aG y tc c s wv ak) 31)).alloc (.cells bf 31)=w3 at hE⊢;generalize w1.heap.size+1=bz at hE⊢;clear hD2 hr2 hy hR ho;have hm:=bB hE.did.1 (⟨#[99,114,101,97,116,101]⟩:ah);unfold Tx.may at hm;rw [j0]at hm;go_wp2_with fail;refine hm.mono ?_;rintro e v0 ⟨rfl,hd⟩;replace hE:RE K w v0 σ1 _ _ _ _ _ _ _ _:=hE.call hd;clear hm hd;have hm:=bB hE.did.1 (⟨#[100,114,111,112]⟩:ah);unfold Tx.may at hm;rw [j1]at hm;go_wp2_with fail;refine hm.mono ?_;rintro e v1 ⟨rfl,hd⟩;replace hE:RE K w v1 σ1 _ _ _ _ _ _ _ _:=hE.call hd;clear hm hd;have hm:=bB hE.did.1 (⟨#[115,101,108,101,99,116]⟩:ah);unfold Tx.may at hm;rw [j2]at hm;go_wp2_with fail;refine hm.mono ?_;rintro e v2 ⟨rfl,hd⟩;replace hE:RE K w v2 σ1 _ _ _ _ _ _ _ _:=hE.call hd;clear hm hd;have hm:=bB hE.did.1 (⟨#[98,101,103,105,110]⟩:ah);unfold Tx.may at hm;rw [j3]at hm;go_wp2_with fail;refine hm.mono ?_;rintro e v3 ⟨rfl,hd⟩;replace hE:RE K w v3 σ1.step _ _ _ _ _ _ _ _:=hE.call hd;clear hm hd;have hb5:=hE.base;have qQ:=hE.hx;have sI:=V4 hE.did.1;go_wp2_with (refine aT rfl _ rfl rfl rfl qQ ?_);refine sI.mono ?_;rintro e w5 ⟨p,L,rfl,hd,hH⟩;have hs5:=hE.base;have aiZ:=aD hE.hr;replace hE:=hE.call hd;have lF:=hE.hr;have ho:=hH.one;obtain ⟨px,ptc,pc,ps,pwv,ppv⟩:=p;go_wp2_with (refine bH rfl _ _ rfl rfl rfl lF rfl rfl ho ?_;intro W6 iD);refine bodyPost_ret (bQ rfl rfl (jO iD.blk rfl)) rfl ?_;rw [HE.out];exact ⟨_,L,rfl,hE.fin iD,(iD.has hH aiZ).mono hb5⟩
     |false=>
      have HE:Hid (K.X.Eo σ1=(.plain Sx.zero,K.X.fail σ1)):=by show _=_;unfold Tx.Eo;simp only [HC.out,j0,j1,j2,j3,if_neg (show¬(false=true)by decide)]
      go_enter func51,ntmps51;go_wp2_with fail;refine hch.mono ?_;rintro e w1 ⟨tc,c,s,wv,rfl,hd,hR⟩;have hD1:=hD0.trans hd;have hr1:=hd.blk hZ hle;have ho:=hR.one;have hs1:w.heap.size+1≤w1.heap.size:=by have:=hd.size;rw [av]at this;exact this
      replace hR:eX w1 w.heap.size y tc c s wv:=hR.mono (by rw [av];omega);have hy:=aA w1 (.cells (aG y tc c s wv ak) 31);have hD2:=hD1.alloc (.cells (aG y tc c s wv ak) 31);have hr2:=aC hr1 (.cells (aG y tc c s wv ak) 31);clear hd hch hD0 hZ hD1 hr1
      have hE:RE K w ((w1.alloc (.cells (aG y tc c s wv ak) 31)).alloc (.cells bf 31)) σ1 (w1.heap.size+1) w.heap.size Sx.zero ak ak ak ak ak:=by
       have h:=RE.Zx hD2 hr2 (Nat.le_refl _);rw [av]at h;exact h
      go_upto_block 0 with (refine fA rfl _ _ rfl rfl rfl rfl rfl ho ?_)
      generalize (w1.alloc (.cells (aG y tc c s wv ak) 31)).alloc (.cells bf 31)=w3 at hE⊢;generalize w1.heap.size+1=bz at hE⊢;clear hD2 hr2 hy hR ho;have hm:=bB hE.did.1 (⟨#[99,114,101,97,116,101]⟩:ah);unfold Tx.may at hm;rw [j0]at hm;go_wp2_with fail;refine hm.mono ?_;rintro e v0 ⟨rfl,hd⟩;replace hE:RE K w v0 σ1 _ _ _ _ _ _ _ _:=hE.call hd;clear hm hd;have hm:=bB hE.did.1 (⟨#[100,114,111,112]⟩:ah);unfold Tx.may at hm;rw [j1]at hm;go_wp2_with fail;refine hm.mono ?_;rintro e v1 ⟨rfl,hd⟩;replace hE:RE K w v1 σ1 _ _ _ _ _ _ _ _:=hE.call hd;clear hm hd;have hm:=bB hE.did.1 (⟨#[115,101,108,101,99,116]⟩:ah);unfold Tx.may at hm;rw [j2]at hm;go_wp2_with fail;refine hm.mono ?_;rintro e v2 ⟨rfl,hd⟩;replace hE:RE K w v2 σ1 _ _ _ _ _ _ _ _:=hE.call hd;clear hm hd;have hm:=bB hE.did.1 (⟨#[98,101,103,105,110]⟩:ah);unfold Tx.may at hm;rw [j3]at hm;go_wp2_with fail;refine hm.mono ?_;rintro e v3 ⟨rfl,hd⟩;replace hE:RE K w v3 σ1 _ _ _ _ _ _ _ _:=hE.call hd;clear hm hd;have ha:=iR hE.did.1;go_wp2_with fail;refine ha.mono ?_;rintro e w5 ⟨rfl,m,rfl⟩;replace hE:=hE.drewN m;have hw:=fU hE.did.1 (K.X.here σ1);go_wp2_with fail;refine hw.mono ?_;rintro e w6 ⟨rfl,hd⟩;replace hE:=hE.call hd;have qQ:=hE.hx;have lF:=hE.hr;go_wp2_with (first|refine aT rfl _ rfl rfl rfl qQ ?_|(refine bH rfl _ _ rfl rfl rfl lF rfl rfl rfl ?_;intro W6 iD));refine bodyPost_ret (bQ rfl rfl (jO iD.blk rfl)) rfl ?_;rw [HE.out];exact ⟨⟨_,ak,ak,ak,ak,ak⟩, [],rfl,hE.fin iD,qR (ko _ _ _ rfl rfl rfl rfl)⟩
end Go.Proofs.YtcgadodckoalnaaGreatDoor
