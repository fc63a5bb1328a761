/- Parts of a proof. -/
import Derived.Test.YtcgadodckoalnaaGreatDoorB35
import Derived.Test.YtcgadodckoalnaaGreatDoorB38
set_option maxHeartbeats 8000000
set_option maxRecDepth 100000
namespace Go.Proofs.YtcgadodckoalnaaGreatDoor
open Go.Proofs.Tryz
open Go.RowKit
open aN
theorem oP {P:Program}{fn:Func}{a u:Tmp}{t:TypeId}(h:fn.results= #[.cell a t, .tmp u]) {tm:Array Value}{ad:Addr}{x:Value}{W:World}(ht:tm.getD a undef= .pointer (some ad)) (hl:(loadVar t ad).run P W= .ok x W):
 (results fn tm).run P W= .ok (.tuple #[x,tm.getD u undef]) W:=by
 unfold results;rw [h];rw [Array.getD_eq_getD_getElem?]at ht;simp [ht,asAddr,hl,Result.andThen_ok]
theorem RE.new2 {K:PK}{w:World}{σ:Ps}(h:RQ K w σ):RE K w ((w.alloc (.cells bf 31)).alloc (.cells bf 31)) σ (w.heap.size+1) w.heap.size Sx.zero ak ak ak ak ak:=by
 have hz:=aA (w.alloc (.cells bf 31)) (.cells bf 31);rw [av]at hz;exact ⟨((dQ.refl h).alloc _).alloc _,hz,aC (aA w _) _,by omega,Nat.le_refl _,by omega⟩
def aez (K:PK) (w:World) (x:Sx) (b:Bool) (σ:Ps):Ending→World→Prop:=fun e w' =>
 ∃tc c s wv,e= .returned (.tuple #[.agg (aG x tc c s wv ak), .bool b])∧dQ K w σ w' ∧eX w' w.heap.size x tc c s wv
theorem EP {K:PK}{w:World}{σ:Ps}(h:RQ K w σ):
 Calls prog 87 #[.pointer (some ⟨K.b,0,none⟩)] w (aez K w (K.X.ig σ).1 (K.X.ig σ).2.1 (K.X.ig σ).2.2):=by
 have hle:=h.le;cases i0:K.X.sees σ (⟨#[105,110,115,101,114,116]⟩:ah)with
 |true=>
  have HE:Hid (K.X.ig σ=((K.X.oH σ.step).1,true,(K.X.oH σ.step).2)):=by show _=_;unfold Tx.ig;simp only [i0,if_true]
  go_enter func87,ntmps87;go_wp2_with fail;have hE:=RE.new2 h;generalize ((w.alloc (.cells bf 31)).alloc (.cells bf 31))=w0 at hE⊢;have hm:=bB hE.did.1 (⟨#[105,110,115,101,114,116]⟩:ah);unfold Tx.may at hm;rw [i0]at hm;go_wp2_with fail;refine hm.mono ?_;rintro e v0 ⟨rfl,hd⟩;replace hE:RE K w v0 σ.step _ _ _ _ _ _ _ _:=hE.call hd;clear hm hd;have hb5:=hE.base;have qQ:=hE.hx;have sI:=OE hE.did.1;go_wp2_with (refine aT rfl _ rfl rfl rfl qQ ?_);refine sI.mono ?_;rintro e w5 ⟨tc,c,s,wv,rfl,hd,hR⟩;replace hE:=hE.call hd;have lF:=hE.hr;have ho:=hR.one;go_wp2_with (refine bH rfl _ _ rfl rfl rfl lF rfl rfl ho ?_;intro W6 iD);refine bodyPost_ret (oP rfl rfl (jO iD.blk rfl)) rfl ?_;rw [HE.out];exact ⟨tc,c,s,wv,rfl,hE.fin iD,bV (aR hR.1 hb5) lF iD (by decide),bV (aR hR.2.1 hb5) lF iD (by decide),bV (aR hR.2.2.1 hb5) lF iD (by decide),bV (aR hR.2.2.2 hb5) lF iD (by decide)⟩
 |false=>
  cases i1:K.X.sees σ (⟨#[117,112,100,97,116,101]⟩:ah)with
  |true=>
   have HE:Hid (K.X.ig σ=((K.X.qG σ.step).1,true,(K.X.qG σ.step).2)):=by show _=_;unfold Tx.ig;simp only [i0,i1,if_true,if_neg (show¬(false=true)by decide)]
   go_enter func87,ntmps87;go_wp2_with fail;have hE:=RE.new2 h;generalize ((w.alloc (.cells bf 31)).alloc (.cells bf 31))=w0 at hE⊢;have hm:=bB hE.did.1 (⟨#[105,110,115,101,114,116]⟩:ah);unfold Tx.may at hm;rw [i0]at hm;go_wp2_with fail;refine hm.mono ?_;rintro e v0 ⟨rfl,hd⟩;replace hE:RE K w v0 σ _ _ _ _ _ _ _ _:=hE.call hd;clear hm hd;have hm:=bB hE.did.1 (⟨#[117,112,100,97,116,101]⟩:ah);unfold Tx.may at hm;rw [i1]at hm;go_wp2_with fail;refine hm.mono ?_;rintro e v1 ⟨rfl,hd⟩;replace hE:RE K w v1 σ.step _ _ _ _ _ _ _ _:=hE.call hd;clear hm hd;have hb5:=hE.base;have qQ:=hE.hx;have sI:=OG hE.did.1;go_wp2_with (refine aT rfl _ rfl rfl rfl qQ ?_);refine sI.mono ?_;rintro e w5 ⟨tc,c,s,wv,rfl,hd,hR⟩;replace hE:=hE.call hd;have lF:=hE.hr;have ho:=hR.one;go_wp2_with (refine bH rfl _ _ rfl rfl rfl lF rfl rfl ho ?_;intro W6 iD);refine bodyPost_ret (oP rfl rfl (jO iD.blk rfl)) rfl ?_;rw [HE.out];exact ⟨tc,c,s,wv,rfl,hE.fin iD,bV (aR hR.1 hb5) lF iD (by decide),bV (aR hR.2.1 hb5) lF iD (by decide),bV (aR hR.2.2.1 hb5) lF iD (by decide),bV (aR hR.2.2.2 hb5) lF iD (by decide)⟩
  |false=>
   cases i2:K.X.sees σ (⟨#[100,101,108,101,116,101]⟩:ah)with
   |true=>
    obtain ⟨⟨c0,σ2⟩,h2⟩:∃r,(if K.X.isK σ.step 1 (⟨#[102,114,111,109]⟩:ah)then ([],σ.step)else K.X.gq σ.step 8)=r:=⟨_,rfl⟩;obtain ⟨σ3,h3⟩:∃r,K.X.bC σ2 (⟨#[102,114,111,109]⟩:ah)=r:=⟨_,rfl⟩;obtain ⟨⟨o,jS⟩,h4⟩:∃r,K.X.name σ3=r:=⟨_,rfl⟩;obtain ⟨⟨xu,lX⟩,h5⟩:∃r,K.X.using_ jS false {Sx.zero with kind:=7,aI:=c0,bT:=o}=r:=⟨_,rfl⟩;obtain ⟨⟨V,yT⟩,h6⟩:∃r,K.X.aH lX false=r:=⟨_,rfl⟩;have HU:=Lib.hid (lD K.X _ _ _ _ _ h5)
    have HE:Hid (K.X.ig σ=({xu with aH:=V},true,yT)):=by
     show _=_;have e3:K.X.must σ2 [(⟨#[102,114,111,109]⟩:ah)]=σ3:=h3;unfold Tx.ig Tx.Fv Tx.xR;simp only [i0,i1,i2,if_true,if_neg (show¬(false=true)by decide),h2,e3,h4,h5,h6]
    have H2:=Lib.hid h2;have H3:=Lib.hid h3;have H4:=Lib.hid h4;have H5:=Lib.hid h5;have H6:=Lib.hid h6;clear h2 h3 h4 h5 h6;go_enter func87,ntmps87;go_wp2_with fail;have hE:=RE.new2 h;generalize ((w.alloc (.cells bf 31)).alloc (.cells bf 31))=w0 at hE⊢;have hm:=bB hE.did.1 (⟨#[105,110,115,101,114,116]⟩:ah);unfold Tx.may at hm;rw [i0]at hm;go_wp2_with fail;refine hm.mono ?_;rintro e v0 ⟨rfl,hd⟩;replace hE:RE K w v0 σ _ _ _ _ _ _ _ _:=hE.call hd;clear hm hd;have hm:=bB hE.did.1 (⟨#[117,112,100,97,116,101]⟩:ah);unfold Tx.may at hm;rw [i1]at hm;go_wp2_with fail;refine hm.mono ?_;rintro e v1 ⟨rfl,hd⟩;replace hE:RE K w v1 σ _ _ _ _ _ _ _ _:=hE.call hd;clear hm hd;have hm:=bB hE.did.1 (⟨#[100,101,108,101,116,101]⟩:ah);unfold Tx.may at hm;rw [i2]at hm;go_wp2_with fail;refine hm.mono ?_;rintro e v2 ⟨rfl,hd⟩;replace hE:RE K w v2 σ.step _ _ _ _ _ _ _ _:=hE.call hd;clear hm hd;have Po:=aj hE.hx 0;have k0:=(aK hE.hx).1;have zb:=aD hE.hx;have hE2:RE K w (v2.setCell ⟨w.heap.size+1,0,none⟩ (.int .i64 7)) σ.step (w.heap.size+1) w.heap.size {Sx.zero with kind:=7,aI:=c0} ak ak ak ak ak:=hE.own 0 (.int .i64 7) rfl;clear hE;go_upto_region 8 with fail
    clear Po k0 zb;generalize v2.setCell ⟨w.heap.size+1,0,none⟩ (.int .i64 7)=v3 at *;have his:=FH hE2.did.1 1 (⟨#[102,114,111,109]⟩:ah);obtain ⟨b,hb⟩:∃b,K.X.isK σ.step 1 (⟨#[102,114,111,109]⟩:ah)=b:=⟨_,rfl⟩;rw [hb]at his;go_upto_if 23 with (go_at_call 95;refine his.mono ?_;rintro e v4 ⟨rfl,m,rfl⟩)
    replace hE2:=hE2.drewN m
    go_cut []from 20 to 26 (fun wx=>∃a1 k1,RE K w wx σ2 (w.heap.size+1) w.heap.size {Sx.zero with kind:=7,aI:=c0} ak (.slice a1 c0.length k1) ak ak ak∧wx.ownsRow w.heap.size 9 1 (.slice a1 c0.length k1) c0.length (c0.map Value.string))
    case first=>
     have H2b:=H2.out;rw [hb]at H2b;cases b with
     |true=>
      cases H2b;go_wp2_with fail;go_meet
      case rel=>exact ⟨none,0,hE2,World.ownsRow_nil _ _ _ _⟩
     |false=>
      have H2c:Hid (K.X.gq σ.step 8=(c0,σ2)):=H2b;clear H2b;have hc:=wE hE2.did.1 8 (by omega);rw [H2c.out]at hc;go_wp2_with fail;refine hc.mono ?_;rintro e v5 ⟨a1,k1,rfl,hd,hrc⟩;have aiL:=aR hrc hE2.base;have mE:=hE2.call hd;have abN:=aj mE.hx 11;have k11:=(aK mE.hx).2.2.2.2.2.2.2.2.2.2.2.1;go_wp2_with fail;go_meet
      case rel=>exact ⟨a1,k1,mE.own 11 _ rfl,aL aiL mE.hx (by decide) 11 _⟩
    clear hE2 his hb;obtain ⟨a1,k1,hE,hrc⟩:=hcut
    rename World=>v6
    have hm:=bI hE.did.1 (⟨#[102,114,111,109]⟩:ah);rw [H3.out]at hm;go_wp2_with fail;refine hm.mono ?_;rintro e v7 ⟨rfl,hd⟩;replace hE:=hE.call hd;replace hrc:=hd.row hrc hle;clear hm hd;have hm:=fB hE.did.1;rw [H4.out]at hm;go_wp2_with fail;refine hm.mono ?_;rintro e v8 ⟨rfl,hd⟩;replace hE:=hE.call hd;replace hrc:=hd.row hrc hle;clear hm hd;have Zi:=aj hE.hx 2;have k2:=(aK hE.hx).2.2.1;have hE2:=hE.own 2 (.string o) (x' :={Sx.zero with kind:=7,aI:=c0,bT:=o}) rfl;have vg:=aL hrc hE.hx (by decide) 2 (.string o);clear hE hrc;have hx2:=hE2.hx;have sI:=AL hE2.did.1 {Sx.zero with kind:=7,aI:=c0,bT:=o} ak (.slice a1 c0.length k1) ak ak ak (fun _=>rfl) false;rw [H5.out]at sI;go_wp2_with (refine aT rfl _ rfl rfl rfl hx2 ?_);refine sI.mono ?_;rintro e v9 ⟨rfl,hd⟩;have hE:=hE2.call hd;have hrc:=hd.row vg hle;clear hd sI hE2 vg hx2 Zi k2;have hb5:=hE.base;have hw:=Iq hE.did.1 xu ak (.slice a1 c0.length k1) ak ak rfl;rw [H6.out]at hw;go_wp2_with fail;refine hw.mono ?_;rintro e v10 ⟨wv,rfl,hd,hrw⟩;replace hE:=hE.call hd;replace hrc:=hd.row hrc hle;replace hrw:=aR hrw hb5;clear hd hw;obtain ⟨aw,kw,rfl,_⟩:=aY hrw;have lF:=hE.hr;go_wp2_with (refine bH rfl _ _ rfl rfl rfl lF rfl rfl rfl ?_;intro W6 iD);refine bodyPost_ret (oP rfl rfl (jO iD.blk rfl)) rfl ?_;rw [HE.out];obtain ⟨u1,u2,rfl⟩:=HU.out;exact ⟨ak,_,ak,_,rfl,hE.fin iD,World.ownsRow_nil _ _ _ _,bV hrc hE.hr iD (by decide),World.ownsRow_nil _ _ _ _,bV hrw hE.hr iD (by decide)⟩
   |false=>
    go_enter func87,ntmps87;go_wp2_with fail;have hE:=RE.new2 h;generalize ((w.alloc (.cells bf 31)).alloc (.cells bf 31))=w0 at hE⊢;have hm:=bB hE.did.1 (⟨#[105,110,115,101,114,116]⟩:ah);unfold Tx.may at hm;rw [i0]at hm;go_wp2_with fail;refine hm.mono ?_;rintro e v0 ⟨rfl,hd⟩;replace hE:RE K w v0 σ _ _ _ _ _ _ _ _:=hE.call hd;clear hm hd;have hm:=bB hE.did.1 (⟨#[117,112,100,97,116,101]⟩:ah);unfold Tx.may at hm;rw [i1]at hm;go_wp2_with fail;refine hm.mono ?_;rintro e v1 ⟨rfl,hd⟩;replace hE:RE K w v1 σ _ _ _ _ _ _ _ _:=hE.call hd;clear hm hd;have hm:=bB hE.did.1 (⟨#[100,101,108,101,116,101]⟩:ah);unfold Tx.may at hm;rw [i2]at hm;go_wp2_with fail;refine hm.mono ?_;rintro e v2 ⟨rfl,hd⟩;replace hE:RE K w v2 σ _ _ _ _ _ _ _ _:=hE.call hd;clear hm hd;have qQ:=hE.hx;have lF:=hE.hr;go_wp2_with (first|refine aT rfl _ rfl rfl rfl qQ ?_|(refine bH rfl _ _ rfl rfl rfl lF rfl rfl rfl ?_;intro W6 iD));refine bodyPost_ret (oP rfl rfl (jO iD.blk rfl)) rfl ?_;unfold Tx.ig;simp only [i0,i1,i2,if_neg (show¬(false=true)by decide)];exact ⟨ak,ak,ak,ak,rfl,hE.fin iD,ko _ _ _ rfl rfl rfl rfl⟩
theorem Mh {K:PK}{w:World}{σ σ' :Ps}(h:RQ K w σ) {x:ByteArray}(hn:K.X.name σ=(x,σ')):
 Calls prog 89 #[.pointer (some ⟨K.b,0,none⟩)] w (pR K w (.string x) σ'):=by
 have:=fB h;rw [hn]at this;exact this
theorem VY {K:PK}{w:World}{σ:Ps}(h:RQ K w σ):
 Calls prog 134 #[.pointer (some ⟨K.b,0,none⟩), .agg (aG Sx.zero ak ak ak ak ak)] w (Ir K w (K.X.Gw σ).1 (K.X.Gw σ).2):=by
 have hle:=h.le;obtain ⟨σ1,h1⟩:∃r,K.X.bC σ (⟨#[118,105,101,119]⟩:ah)=r:=⟨_,rfl⟩;obtain ⟨⟨nm,σ2⟩,h2⟩:∃r,K.X.name σ1=r:=⟨_,rfl⟩;obtain ⟨σ3,h3⟩:∃r,K.X.must σ2 [(⟨#[97,115]⟩:ah),(⟨#[115,101,108,101,99,116]⟩:ah)]=r:=⟨_,rfl⟩;obtain ⟨⟨c0,jS⟩,h4⟩:∃r,K.X.wL σ3=r:=⟨_,rfl⟩;obtain ⟨lX,h5⟩:∃r,K.X.bC jS (⟨#[102,114,111,109]⟩:ah)=r:=⟨_,rfl⟩;obtain ⟨⟨o,yT⟩,h6⟩:∃r,K.X.name lX=r:=⟨_,rfl⟩;obtain ⟨LA,h7⟩:∃r,K.X.bC yT (⟨#[119,104,101,114,101]⟩:ah)=r:=⟨_,rfl⟩;obtain ⟨⟨n,UR⟩,h8⟩:∃r,K.X.name LA=r:=⟨_,rfl⟩;obtain ⟨ZX,h9⟩:∃r,K.X.must UR [(⟨#[105,115]⟩:ah),(⟨#[110,111,116]⟩:ah),(⟨#[110,117,108,108]⟩:ah),(⟨#[112,114,105,109,97,114,121]⟩:ah),(⟨#[107,101,121]⟩:ah),(⟨#[40]⟩:ah)]=r:=⟨_,rfl⟩;obtain ⟨⟨k,Yw⟩,h10⟩:∃r,K.X.name ZX=r:=⟨_,rfl⟩;obtain ⟨Wq,h11⟩:∃r,(if !pW k [n]then Yw.wrong (K.X.here ZX)else Yw)=r:=⟨_,rfl⟩;obtain ⟨ZY,h12⟩:∃r,K.X.bC Wq (⟨#[44]⟩:ah)=r:=⟨_,rfl⟩;obtain ⟨⟨p,Z0⟩,K4⟩:∃r,K.X.name ZY=r:=⟨_,rfl⟩;obtain ⟨QB,ZU⟩:∃r,K.X.bC Z0 (⟨#[44]⟩:ah)=r:=⟨_,rfl⟩;obtain ⟨⟨q,nN⟩,h15⟩:∃r,K.X.name QB=r:=⟨_,rfl⟩;obtain ⟨σg,h16⟩:∃r,K.X.bC nN (⟨#[41]⟩:ah)=r:=⟨_,rfl⟩
 have HE:Hid (K.X.Gw σ=({Sx.zero with kind:=2,name:=nm,aI:=c0,bT:=o,on:=n,aH:= [⟨p,Tm.zero⟩,⟨q,Tm.zero⟩]},σg)):=by
  show _=_;have e1:K.X.must σ [(⟨#[118,105,101,119]⟩:ah)]=σ1:=h1;have e5:K.X.must jS [(⟨#[102,114,111,109]⟩:ah)]=lX:=h5;have e7:K.X.must yT [(⟨#[119,104,101,114,101]⟩:ah)]=LA:=h7;have e12:K.X.must Wq [(⟨#[44]⟩:ah)]=ZY:=h12;have e14:K.X.must Z0 [(⟨#[44]⟩:ah)]=QB:=ZU;have e16:K.X.must nN [(⟨#[41]⟩:ah)]=σg:=h16;unfold Tx.Gw Tx.Dw Tx.Ns;simp only [e1,h2,h3,h4,e5,h6,e7,h8,h9,h10,h11,e12,K4,e14,h15,e16]
 have H1:=Lib.hid h1;have H2:=Lib.hid h2;have H3:=Lib.hid h3;have H4:=Lib.hid h4;have H5:=Lib.hid h5;have H6:=Lib.hid h6;have H7:=Lib.hid h7;have H8:=Lib.hid h8;have H9:=Lib.hid h9;have XM:=Lib.hid h10;have H11:=Lib.hid h11;have H12:=Lib.hid h12;have H13:=Lib.hid K4;have H14:=Lib.hid ZU;have H15:=Lib.hid h15;have H16:=Lib.hid h16;clear h1 h2 h3 h4 h5 h6 h7 h8 h9 h10 h11 h12 K4 ZU h15 h16;go_enter func134,ntmps134;go_wp2_with fail;have hE:=RE.new h Sx.zero ak ak ak ak ak;generalize ((w.alloc (.cells (aG Sx.zero ak ak ak ak ak) 31)).alloc (.cells bf 31))=w0 at hE⊢;have hm:=bI hE.did.1 (⟨#[118,105,101,119]⟩:ah);rw [H1.out]at hm;go_wp2_with fail;refine hm.mono ?_;rintro e w1 ⟨rfl,hd⟩;replace hE:=hE.call hd;clear hm hd;have hm:=fB hE.did.1;rw [H2.out]at hm;go_wp2_with fail;refine hm.mono ?_;rintro e w2 ⟨rfl,hd⟩;replace hE:=hE.call hd;clear hm hd;have Po:=aj hE.hx 0;have fz1:=aj hE.hx 1;have k0:=(aK hE.hx).1;have k1:=(aK hE.hx).2.1;have zb:=aD hE.hx;have hE2:RE K w ((w2.setCell ⟨w.heap.size,0,none⟩ (.int .i64 2)).setCell ⟨w.heap.size,1,none⟩ (.string nm)) σ2 w.heap.size (w.heap.size+1) {Sx.zero with kind:=2,name:=nm} ak ak ak ak ak:=(hE.own 0 (.int .i64 2) (x' :={Sx.zero with kind:=2}) rfl).own 1 (.string nm) rfl;clear hE;go_upto_region 3 with fail
 clear Po fz1 k0 k1 zb;generalize (w2.setCell ⟨w.heap.size,0,none⟩ (.int .i64 2)).setCell ⟨w.heap.size,1,none⟩ (.string nm)=w2s at *;have hm:=Mf hE2.did.1 (⟨#[97,115]⟩:ah) (⟨#[115,101,108,101,99,116]⟩:ah);rw [H3.out]at hm;go_wp2_with fail;refine hm.mono ?_;rintro e w3 ⟨rfl,hd⟩;have hE:=hE2.call hd;clear hm hd hE2;have hm:=Kv hE.did.1;rw [H4.out]at hm;go_wp2_with fail;refine hm.mono ?_;rintro e w4 ⟨a1,k1,rfl,hd,Zt⟩;have hrc:=aR Zt hE.base;replace hE:=hE.call hd;clear hm hd Zt;have abN:=aj hE.hx 11;have k11:=(aK hE.hx).2.2.2.2.2.2.2.2.2.2.2.1;have hE2:=hE.own 11 (.slice a1 c0.length k1) (x' :={Sx.zero with kind:=2,name:=nm}) (c' := .slice a1 c0.length k1) rfl;have vg:=aL hrc hE.hx (by decide) 11 (.slice a1 c0.length k1);have hm:=bI hE2.did.1 (⟨#[102,114,111,109]⟩:ah);rw [H5.out]at hm;go_wp2_with fail;refine hm.mono ?_;rintro e w5 ⟨rfl,hd⟩;clear hE;have hE:=hE2.call hd;replace hrc:=hd.row vg hle;clear hm hd hE2 abN k11 vg;have hm:=fB hE.did.1;rw [H6.out]at hm;go_wp2_with fail;refine hm.mono ?_;rintro e w6 ⟨rfl,hd⟩;replace hE:=hE.call hd;replace hrc:=hd.row hrc hle;clear hm hd;have Zi:=aj hE.hx 2;have k2:=(aK hE.hx).2.2.1;have hE2:=hE.own 2 (.string o) (x' :={Sx.zero with kind:=2,name:=nm,bT:=o}) rfl;have vg:=aL hrc hE.hx (by decide) 2 (.string o);have hm:=bI hE2.did.1 (⟨#[119,104,101,114,101]⟩:ah);rw [H7.out]at hm;go_wp2_with fail;refine hm.mono ?_;rintro e w7 ⟨rfl,hd⟩;clear hE;have hE:=hE2.call hd;replace hrc:=hd.row vg hle;clear hm hd hE2 Zi k2 vg;have hm:=fB hE.did.1;rw [H8.out]at hm;go_wp2_with fail;refine hm.mono ?_;rintro e w8 ⟨rfl,hd⟩;replace hE:=hE.call hd;replace hrc:=hd.row hrc hle;clear hm hd;have fz3:=aj hE.hx 3;have k3:=(aK hE.hx).2.2.2.1;have hE2:=hE.own 3 (.string n) (x' :={Sx.zero with kind:=2,name:=nm,bT:=o,on:=n}) rfl;have vg:=aL hrc hE.hx (by decide) 3 (.string n);go_upto_region 9 with fail
 clear hE;generalize w8.setCell ⟨w.heap.size,3,none⟩ (.string n)=w9s at *;have hm:=abG hE2.did.1 (⟨#[105,115]⟩:ah) (⟨#[110,111,116]⟩:ah) (⟨#[110,117,108,108]⟩:ah) (⟨#[112,114,105,109,97,114,121]⟩:ah) (⟨#[107,101,121]⟩:ah) (⟨#[40]⟩:ah);rw [H9.out]at hm;go_wp2_with fail;refine hm.mono ?_;rintro e w9 ⟨rfl,hd⟩;have hE:=hE2.call hd;replace hrc:=hd.row vg hle;clear hm hd hE2 fz3 k3 vg;have hat:=iR hE.did.1;obtain ⟨zH,tT⟩:∃x,K.X.here ZX=x:=⟨_,rfl⟩;rw [tT]at hat;have HA:=Lib.hid tT;clear tT;go_wp2_with fail;refine hat.mono ?_;rintro e w10 ⟨rfl,m,rfl⟩;replace hE:=hE.drewN m;replace hrc:=dL hrc m;clear hat;generalize w9.drewN m=w10 at *;have k3:=(aK hE.hx).2.2.2.1;have e1:=dR k n;obtain ⟨b37,hb⟩:∃b,jf k n=b:=⟨_,rfl⟩;rw [hb]at e1;have HB:=Lib.hid hb;clear hb;go_upto_region 11 with fail
 go_cut [37]from 31 to 37 (fun s37 wx=>s37= .bool (!b37)∧RE K w wx Yw w.heap.size (w.heap.size+1) {Sx.zero with kind:=2,name:=nm,bT:=o,on:=n} ak (.slice a1 c0.length k1) ak ak ak∧wx.ownsRow w.heap.size 9 1 (.slice a1 c0.length k1) c0.length (c0.map Value.string))
 case first=>
  cases b37
  all_goals
   go_region_law (first|(go_simp;go_at_call 89;refine (Mh (K:=K) (hE.drewN 1).did.1 XM.out).mono ?_;rintro e EU ⟨rfl,jq⟩;have kR:=(hE.drewN 1).call jq;have IC:=jq.row (dL hrc 1) hle;have k30:=(aK kR.hx).2.2.2.1))
   all_goals
    (try go_wp2_with fail)
    go_meet
    case rel=>exact ⟨rfl,kR,IC⟩
 clear hE hrc k3 e1;obtain ⟨rfl,hE,hrc⟩:=hcut
 rename World=>w11
 go_upto_if 37 with fail
 go_cut []from 31 to 42 (fun wx=>RE K w wx Wq w.heap.size (w.heap.size+1) {Sx.zero with kind:=2,name:=nm,bT:=o,on:=n} ak (.slice a1 c0.length k1) ak ak ak∧wx.ownsRow w.heap.size 9 1 (.slice a1 c0.length k1) c0.length (c0.map Value.string))
 case first=>
  have hi:pW k [n]=b37:=by rw [←HB.out];unfold pW;simp
  have abO:=H11.out;rw [hi]at abO;cases b37 with
  |true=>
   have e11:Yw=Wq:=abO;subst e11;go_wp2_with fail;go_meet
   case rel=>exact ⟨hE,hrc⟩
  |false=>
   have aiM:Hid (Yw.wrong zH=Wq):=by rw [←HA.out];exact abO
   have hw:=fU hE.did.1 zH;clear abO hi;rw [aiM.out]at hw;go_wp2_with fail;refine hw.mono ?_;rintro e w12 ⟨rfl,hd⟩;go_wp2_with fail;go_meet
   case rel=>exact ⟨hE.call hd,hd.row hrc hle⟩
 clear hE hrc;obtain ⟨hE,hrc⟩:=hcut
 rename World=>w13
 have hm:=bI hE.did.1 (⟨#[44]⟩:ah);rw [H12.out]at hm;go_wp2_with fail;refine hm.mono ?_;rintro e w14 ⟨rfl,hd⟩;replace hE:=hE.call hd;replace hrc:=hd.row hrc hle;clear hm hd;have hr0:w14.ownsRow w.heap.size 62 4 ak 0 (dI []):=World.ownsRow_nil _ _ _ _;have k13:=(aK hE.hx).2.2.2.2.2.2.2.2.2.2.2.2.2.1;have D5:=aj hE.hx 13;have VF:=aD hE.hx;go_upto_region 14 with fail
 go_cut []from 31 to 60 (fun wx=>∃a' c',RE K w wx Z0 w.heap.size (w.heap.size+1) {Sx.zero with kind:=2,name:=nm,bT:=o,on:=n} ak (.slice a1 c0.length k1) ak (.slice a' 1 c') ak∧wx.ownsRow w.heap.size 62 4 (.slice a' 1 c') 1 (dI [⟨p,Tm.zero⟩])∧wx.ownsRow w.heap.size 9 1 (.slice a1 c0.length k1) c0.length (c0.map Value.string))
 case first=>
  go_region_law (first|(refine fM Tryz.vV rfl _ _ rfl w.heap.size _ _ _ rfl (sw.alloc _) _ _ [.string p, .int .i64 0, .string ⟨#[]⟩, .int .i64 0] rfl rfl (fun j u hj=>by rw [iG,Nat.zero_add];exact bg _ _ _ j u hj) (by intro u hu;simp at hu;rcases hu with rfl|rfl|rfl|rfl<;>rfl) (by omega) (by simp;omega) ?_;intro g3 jm w3 h3 hg3 wU hl3;have mE:=(kR.alloc (.cells #[.string p, .int .i64 0, .string ⟨#[]⟩, .int .i64 0] 62)).grown (sw.alloc _) (by decide) hg3;have aeA:=(dH (sw.alloc (.cells #[.string p, .int .i64 0, .string ⟨#[]⟩, .int .i64 0] 62)) (IC.alloc _) (by decide)).keep (IC.alloc _) hg3;have hx3:=mE.hx;have y3:=(aK hx3).2.2.2.2.2.2.2.2.2.2.2.2.2.1;have u3:=aj hx3 13)|(go_simp;go_at_call 89;refine (Mh (K:=K) (hE.drewN 1).did.1 H13.out).mono ?_;rintro e EU ⟨rfl,jq⟩;have kR:=(hE.drewN 1).call jq;have sw:=jq.row (dL hr0 1) hle;have IC:=jq.row (dL hrc 1) hle;have ow:=kR.hx;have y30:=(aK ow).2.2.2.2.2.2.2.2.2.2.2.2.2.1;have u30:=aj ow 13;have z30:=aD ow;have LG:=kR.base))
  all_goals
   (try go_wp2_with fail)
   go_meet
   case rel=>exact ⟨_,_,mE.own 13 _ rfl,aL h3 mE.hx (by decide) 13 _,aL aeA mE.hx (by decide) 13 _⟩
 clear k13 D5 VF hE hrc
 rename World=>wq
 obtain ⟨aw1,cw1,hE,hrw1,hrc⟩:=hcut;have hm:=bI hE.did.1 (⟨#[44]⟩:ah);rw [H14.out]at hm;go_wp2_with fail;refine hm.mono ?_;rintro e w15 ⟨rfl,hd⟩;replace hE:=hE.call hd;replace hrc:=hd.row hrc hle;replace hrw1:=hd.row hrw1 hle;clear hm hd;have k13:=(aK hE.hx).2.2.2.2.2.2.2.2.2.2.2.2.2.1;have D5:=aj hE.hx 13;have VF:=aD hE.hx;go_upto_region 16 with fail
 go_cut []from 31 to 60 (fun wx=>∃a' c',RE K w wx nN w.heap.size (w.heap.size+1) {Sx.zero with kind:=2,name:=nm,bT:=o,on:=n} ak (.slice a1 c0.length k1) ak (.slice a' 2 c') ak∧wx.ownsRow w.heap.size 62 4 (.slice a' 2 c') 2 (dI [⟨p,Tm.zero⟩,⟨q,Tm.zero⟩])∧wx.ownsRow w.heap.size 9 1 (.slice a1 c0.length k1) c0.length (c0.map Value.string))
 case first=>
  go_region_law (first|(refine fM Tryz.vV rfl _ _ rfl w.heap.size _ _ _ rfl (sw.alloc _) _ _ [.string q, .int .i64 0, .string ⟨#[]⟩, .int .i64 0] rfl rfl (fun j u hj=>by rw [iG,Nat.zero_add];exact bg _ _ _ j u hj) (by intro u hu;simp at hu;rcases hu with rfl|rfl|rfl|rfl<;>rfl) (by omega) (by simp;omega) ?_;intro g3 jm w3 h3 hg3 wU hl3;have mE:=(kR.alloc (.cells #[.string q, .int .i64 0, .string ⟨#[]⟩, .int .i64 0] 62)).grown (sw.alloc _) (by decide) hg3;have aeA:=(dH (sw.alloc (.cells #[.string q, .int .i64 0, .string ⟨#[]⟩, .int .i64 0] 62)) (IC.alloc _) (by decide)).keep (IC.alloc _) hg3;have hx3:=mE.hx;have y3:=(aK hx3).2.2.2.2.2.2.2.2.2.2.2.2.2.1;have u3:=aj hx3 13)|(go_simp;go_at_call 89;refine (Mh (K:=K) (hE.drewN 1).did.1 H15.out).mono ?_;rintro e EU ⟨rfl,jq⟩;have kR:=(hE.drewN 1).call jq;have sw:=jq.row (dL hrw1 1) hle;have IC:=jq.row (dL hrc 1) hle;have ow:=kR.hx;have y30:=(aK ow).2.2.2.2.2.2.2.2.2.2.2.2.2.1;have u30:=aj ow 13;have z30:=aD ow;have LG:=kR.base))
  all_goals
   (try go_wp2_with fail)
   go_meet
   case rel=>exact ⟨_,_,mE.own 13 _ rfl,aL h3 mE.hx (by decide) 13 _,aL aeA mE.hx (by decide) 13 _⟩
 clear k13 D5 VF hE hrc hrw1
 rename World=>wq
 obtain ⟨a2,c2,hE,hrw2,hrc⟩:=hcut;have hm:=bI hE.did.1 (⟨#[41]⟩:ah);rw [H16.out]at hm;go_wp2_with fail;refine hm.mono ?_;rintro e w16 ⟨rfl,hd⟩;replace hE:=hE.call hd;replace hrc:=hd.row hrc hle;replace hrw2:=hd.row hrw2 hle;clear hm hd;have qQ:=hE.hx;have lF:=hE.hr;go_wp2_with (first|refine aT rfl _ rfl rfl rfl qQ ?_|(refine bH rfl _ _ rfl rfl rfl lF rfl rfl rfl ?_;intro W6 iD));refine bodyPost_ret (bQ rfl rfl (jO iD.blk rfl)) rfl ?_;rw [HE.out];exact ⟨ak,_,ak,_,rfl,hE.fin iD,World.ownsRow_nil _ _ _ _,bV hrc hE.hr iD (by decide),World.ownsRow_nil _ _ _ _,bV hrw2 hE.hr iD (by decide)⟩
theorem Rm {X:Tx}{σ:Ps}{l:List ByteArray}{most:Nat}(h:(X.dU σ l most).2.bad=none):σ.i<X.T.length∧σ.i+1≤(X.dU σ l most).2.i:=by
 unfold Tx.dU at h⊢
 have e:∀(b:Bool) (τ:Ps) (a:Nat),(if b=true then τ.wrong a else τ).bad=none→τ.bad=none:=by
  intro b τ a hh;cases b
  · exact hh
  · exact He hh
 have ei:∀(b:Bool) (τ:Ps) (a:Nat),(if b=true then τ.wrong a else τ).i=τ.i:=by intro b τ a;cases b<;>simp [oK]
 simp only [ei];obtain ⟨_,h3,h4⟩:=SE (e _ _ _ h);exact ⟨h3,by omega⟩
theorem KC {K:PK}{w:World}{σ:Ps}(h:RQ K w σ) (hb:σ.bad=none):SF K w=K.X.T.length - σ.i+1:=by
 obtain ⟨_,_,_,_,_,c3,_⟩:=h.cells;have hi:=wD h;unfold SF;rw [c3];have:σ.fT= -1:=by unfold Ps.fT;rw [hb]
 rw [this,hi];rfl
theorem VZ {K:PK}{w:World}{σ:Ps}(h:RQ K w σ) (hb:σ.bad≠none):SF K w=0:=by
 obtain ⟨_,_,_,_,_,c3,_⟩:=h.cells;unfold SF;rw [c3];cases hx:σ.bad with
 |none=>exact absurd hx hb
 |some a=>
  have:σ.fT=(a:Int):=by unfold Ps.fT;rw [hx]
  rw [this];simp
theorem acp {w:World}{g:Nat}{x0 x1:Value}{T:TypeId}(h:w.heap[g]? =some (.cells #[x0,x1] T (0,0))):w.cell? ⟨g,0,none⟩=some x0∧w.cell? ⟨g,1,none⟩=some x1∧w.frozen? ⟨g,0,none⟩=false∧w.frozen? ⟨g,1,none⟩=false:=
 ⟨by rw [au h];rfl,by rw [au h];rfl,aj h 0,aj h 1⟩
theorem Zu {w:World}{base:Nat}{e:TypeId}{size n:Nat}{v:Value}{xs:List Value}(h:w.ownsRow base e size v n xs) {k:Nat}(hv:v.ownBlock≠some k) (o:Nat) (u:Value):(w.setCell ⟨k,o,none⟩ u).ownsRow base e size v n xs:=by
 obtain ⟨h1,h2⟩:=h;refine ⟨h1, ?_⟩;rcases h2 with h2|⟨g,c,cur,e1,e2,e3,e4⟩
 · exact .inl h2
 · subst e1;exact .inr ⟨g,c,cur,rfl,e2,bN e3 _ _ (fun e=>hv (congrArg some (show g=k from e))),e4⟩
theorem RE.aiN {K:PK}{w W:World}{σ:Ps}{bx br:Nat}{x:Sx}{tc c s wv pv:Value}(h:RE K w W σ bx br x tc c s wv pv) {k:Nat}(hk:w.heap.size≤k) (h1:bx≠k) (h2:br≠k) (o:Nat) (u:Value):RE K w (W.setCell ⟨k,o,none⟩ u) σ bx br x tc c s wv pv:=
 ⟨h.did.own hk o u,bN h.hx _ _ h1,bN h.hr _ _ h2,h.lx,h.lr,h.ne⟩
theorem RE.bad {K:PK}{w W:World}{σ:Ps}{bx br:Nat}{x:Sx}{tc c s wv pv:Value}(h:RE K w W σ bx br x tc c s wv pv):W.cell? ⟨K.b,3,none⟩=some (.int .i64 σ.fT):=by
 obtain ⟨_,_,_,_,_,c3,_⟩:=h.did.1.cells;exact c3
theorem Rn {K:PK}{w:World}{σ:Ps}(h:RQ K w σ):
 Calls prog 133 #[.pointer (some ⟨K.b,0,none⟩), .agg (aG Sx.zero ak ak ak ak ak)] w (Ir K w (K.X.Aj σ).1 (K.X.Aj σ).2):=by
 have hle:=h.le;have HT:=Lib.hid K.hT;obtain ⟨⟨x,σ1⟩,h1⟩:∃r,K.X.name σ=r:=⟨_,rfl⟩;obtain ⟨σ2,h2⟩:∃r,K.X.bC σ1 (⟨#[40]⟩:ah)=r:=⟨_,rfl⟩;obtain ⟨⟨lf,Cf,nN⟩,h3⟩:∃r,K.X.kQ (K.X.T.length+1) σ2 [] []=r:=⟨_,rfl⟩;obtain ⟨Yw,h4⟩:∃r,K.X.must nN [(⟨#[107,101,121]⟩:ah),(⟨#[40]⟩:ah)]=r:=⟨_,rfl⟩;obtain ⟨⟨pk,Wq⟩,h5⟩:∃r,K.X.name Yw=r:=⟨_,rfl⟩;obtain ⟨ZY,h6⟩:∃r,(if !pW pk lf then Wq.wrong (K.X.here Yw)else Wq)=r:=⟨_,rfl⟩;obtain ⟨Z0,h7⟩:∃r,K.X.bC ZY (⟨#[44]⟩:ah)=r:=⟨_,rfl⟩;obtain ⟨⟨ck,QB⟩,h8⟩:∃r,K.X.name Z0=r:=⟨_,rfl⟩;obtain ⟨σg,h9⟩:∃r,(if !pW ck lf||jf ck pk then QB.wrong (K.X.here Z0)else QB)=r:=⟨_,rfl⟩;obtain ⟨σh,h10⟩:∃r,K.X.must σg [(⟨#[41]⟩:ah),(⟨#[41]⟩:ah)]=r:=⟨_,rfl⟩
 have HE:Hid (K.X.Aj σ=(Cf.foldl (fun x c=>Tx.place x pk ck c) {Sx.zero with kind:=1,name:=x,bG:=x},σh)):=by
  show _=_;have e2:K.X.must σ1 [(⟨#[40]⟩:ah)]=σ2:=h2;have e7:K.X.must ZY [(⟨#[44]⟩:ah)]=Z0:=h7;unfold Tx.Aj Tx.BK Tx.Ns Tx.one;simp only [h1,e2,h3,h4,h5,h6,e7,h8,h9,h10]
 have H1:=Lib.hid h1;have H2:=Lib.hid h2;have H3:=Lib.hid h3;have H4:=Lib.hid h4;have H5:=Lib.hid h5;have H6:=Lib.hid h6;have H7:=Lib.hid h7;have H8:=Lib.hid h8;have H9:=Lib.hid h9;have XM:=Lib.hid h10;clear h1 h2 h3 h4 h5 h6 h7 h8 h9 h10;go_enter func133,ntmps133;go_wp2_with fail;have hE:=RE.new h Sx.zero ak ak ak ak ak;generalize ((w.alloc (.cells (aG Sx.zero ak ak ak ak ak) 31)).alloc (.cells bf 31))=w0 at hE⊢;have hm:=fB hE.did.1;rw [H1.out]at hm;go_wp2_with fail;refine hm.mono ?_;rintro e w1 ⟨rfl,hd⟩;replace hE:=hE.call hd;clear hm hd;have Po:=aj hE.hx 0;have fz1:=aj hE.hx 1;have fz4:=aj hE.hx 4;have k0:=(aK hE.hx).1;have k1:=(aK hE.hx).2.1;have k4:=(aK hE.hx).2.2.2.2.1;have zb:=aD hE.hx;have hE2:=((hE.own 0 (.int .i64 1) (x' :={Sx.zero with kind:=1}) rfl).own 1 (.string x) (x' :={Sx.zero with kind:=1,name:=x}) rfl).own 4 (.string x) (x' :={Sx.zero with kind:=1,name:=x,bG:=x}) rfl;go_upto_region 3 with fail
 clear Po fz1 fz4 k0 k1 k4 zb hE;generalize ((w1.setCell ⟨w.heap.size,0,none⟩ (.int .i64 1)).setCell ⟨w.heap.size,1,none⟩ (.string x)).setCell ⟨w.heap.size,4,none⟩ (.string x)=w1s at *;have hE:=hE2;clear hE2;have hm:=bI hE.did.1 (⟨#[40]⟩:ah);rw [H2.out]at hm;go_wp2_with fail;refine hm.mono ?_;rintro e w2 ⟨rfl,hd⟩;replace hE:=hE.call hd;clear hm hd;go_upto_block 0 with fail
 go_cut [5,6]from 22 to 52 (fun names aI wx=>∃(a:Option Addr) (c:Nat) (a3:Option Addr) (c3:Nat),names= .slice a lf.length c∧aI= .slice a3 Cf.length c3∧RE K w wx nN w.heap.size (w.heap.size+1) {Sx.zero with kind:=1,name:=x,bG:=x} ak ak ak ak ak∧wx.ownsRow w.heap.size 23 2 (.slice a3 Cf.length c3) Cf.length (iO Cf)∧wx.ownsRow w.heap.size 9 1 (.slice a lf.length c) lf.length (lf.map Value.string)∧lf.length≤100001∧Cf.length≤100001)
 case first=>
  go_wp2_with fail
  go_loopw [5,6] (fun names aI wr=>∃(l:List ByteArray) (a:Option Addr) (c:Nat) (C:List Cl) (a3:Option Addr) (c3:Nat) (τ:Ps) (n:Nat),names= .slice a l.length c∧aI= .slice a3 C.length c3∧RE K w wr τ w.heap.size (w.heap.size+1) {Sx.zero with kind:=1,name:=x,bG:=x} ak ak ak ak ak∧wr.ownsRow w.heap.size 23 2 (.slice a3 C.length c3) C.length (iO C)∧wr.ownsRow w.heap.size 9 1 (.slice a l.length c) l.length (l.map Value.string)∧Hid (K.X.kQ n τ l C=(lf,Cf,nN))∧(τ.bad=none→K.X.T.length - τ.i<n)∧l.length+n≤K.X.T.length+1∧Hid (C.length=l.length)) (fun _ _ wr=>SF K wr)
  case atStart=>exact ⟨[],none,0, [],none,0,σ2,K.X.T.length+1,rfl,rfl,hE,World.ownsRow_nil _ _ _ _,World.ownsRow_nil _ _ _ _,H3.out,fun _=>by omega,by simp,rfl⟩
  case round=>
   clear hE;obtain ⟨l,a,c,C,a3,c3,τ,n,rfl,rfl,hE,hrs,hrn,HR,hn,hln,ME⟩:=hrel;have hT:=HT.out;have hsz:=hE.base;have c3b:=hE.bad;cases hbad:τ.bad with
   |some bd=>
    have HR2:(l,C,τ)=(lf,Cf,nN):=by
     have h:=HR.out;cases n with
     |zero=>exact h
     |succ n=>rw [Tx.kQ,hbad]at h;exact h
    have hbi:τ.fT=(bd:Int):=by unfold Ps.fT;rw [hbad]
    rw [hbi]at c3b;have q0:¬(bd:Int)<0:=by omega
    have hcl:C.length≤100001:=by rw [ME.out];omega
    have hll:l.length≤100001:=by omega
    clear hbi hbad hn HR;cases HR2;go_wp2_with fail;go_meet
    case rel=>exact ⟨_,_,_,_,rfl,rfl,hE,hrs,hrn,hll,hcl⟩
   |none=>
    have hnn:=hn hbad;clear hn;have hm0:=KC hE.did.1 hbad;have hbi:τ.fT= -1:=by unfold Ps.fT;rw [hbad]
    rw [hbi]at c3b;clear hbi;obtain ⟨n,rfl⟩:∃m,n=m+1:=⟨n - 1,by omega⟩;have hmay:=bB hE.did.1 (⟨#[112,114,105,109,97,114,121]⟩:ah);unfold Tx.may at hmay;cases hsp:K.X.sees τ (⟨#[112,114,105,109,97,114,121]⟩:ah)with
    |true=>
     have HR2:(l,C,τ.step)=(lf,Cf,nN):=by
      have h:=HR.out;rw [Tx.kQ,hbad,hsp]at h;exact h
     have hcl:C.length≤100001:=by rw [ME.out];omega
     have hll:l.length≤100001:=by omega
     rw [hsp,if_pos rfl]at hmay;clear HR hbad hm0 hnn;go_wp2_with fail;refine hmay.mono ?_;rintro e I6 ⟨rfl,hd⟩;replace hE:=hE.call hd;replace hrs:=hd.row hrs hle;replace hrn:=hd.row hrn hle;go_wp2_with fail;cases HR2;go_meet
     case rel=>exact ⟨_,_,_,_,rfl,rfl,hE,hrs,hrn,hll,hcl⟩
    |false=>
     obtain ⟨nm,hnm⟩:=CQ K.X τ l 10;have hon:=fun h=>Rm (X:=K.X) (σ:=τ) (l:=l) (most:=10) h
     obtain ⟨⟨l3,AP⟩,hc3⟩:∃r,K.X.dU τ l 10=r:=⟨_,rfl⟩;rw [hc3]at hnm hon;replace hnm:l3=l++ [nm]:=hnm;replace hon:AP.bad=none→τ.i<K.X.T.length∧τ.i+1≤AP.i:=hon;subst hnm;have hi3:=Yu K.X AP;have hk3:=fun h=>Ki (X:=K.X) (σ:=AP) h
     obtain ⟨⟨ty,FI⟩,hv4⟩:∃r,K.X.kind AP=r:=⟨_,rfl⟩;rw [hv4]at hi3 hk3;replace hi3:AP.i≤FI.i:=hi3;replace hk3:FI.bad=none→AP.bad=none:=hk3;have hi4:FI.i≤(K.X.bC FI (⟨#[44]⟩:ah)).i:=Ck K.X FI (⟨#[44]⟩:ah);have hk4:(K.X.bC FI (⟨#[44]⟩:ah)).bad=none→FI.bad=none:=fun h=>Aw (X:=K.X) (σ:=FI) (s:=(⟨#[44]⟩:ah)) h
     obtain ⟨OH,h5⟩:∃r,K.X.bC FI (⟨#[44]⟩:ah)=r:=⟨_,rfl⟩;rw [h5]at hi4 hk4;have HG:Hid (OH.bad=none→τ.i<K.X.T.length∧τ.i+1≤OH.i):=fun hb5=>⟨(hon (hk3 (hk4 hb5))).1,Nat.le_trans (hon (hk3 (hk4 hb5))).2 (Nat.le_trans hi3 hi4)⟩
     clear hon hk3 hk4 hi3 hi4
     have HR2:Hid (K.X.kQ n OH (l++ [nm]) (C++ [⟨nm,ty⟩])=(lf,Cf,nN)):=by
      have h:=HR.out;have h5' :K.X.must FI [(⟨#[44]⟩:ah)]=OH:=h5;rw [Tx.kQ,hbad,hsp]at h;simp only [hc3,hv4,h5',Cm]at h;exact Lib.hid h
     have HK4:=Lib.hid hv4;have HQ5:=Lib.hid h5;have HC3:=Lib.hid hc3;clear hv4 h5 hc3 HR hbad;rw [hsp,if_neg (by decide)]at hmay;go_wp2_with fail;refine hmay.mono ?_;rintro e I6 ⟨rfl,hd⟩;replace hE:=hE.call hd;replace hrs:=hd.row hrs hle;replace hrn:=hd.row hrn hle;clear hmay hd c3b;have Cn:=tq hE.did w.heap.size (Nat.le_refl _) hE.base (.slice a l.length c) l 10 hrn (by omega) (by omega);rw [HC3.out]at Cn;go_wp2_with fail;refine Cn.mono ?_;rintro e DL ⟨a2,c2,rfl,mX,G9,hel⟩;have OI:=hel.row (dH hrn hrs (by decide)) hrs hle;replace hE:=hE.col mX hel hrn (by decide);clear hrs hrn Cn hel mX;have hrs:=OI;have hrn:=G9;clear OI G9;obtain ⟨_,_,hsl,hgn⟩:=aY hrn;cases hsl;obtain ⟨gn,rfl,_,adn,_⟩:=hgn (by omega);clear hgn;have k21:=aS hrn l.length (.string nm) (by simp);have p0' :IntKind.i64.wrap (((l.length:Int)+1) - 1)=(l.length:Int):=by rw [IntWalk.i64_in _ (by omega)];omega
     have p3:IntKind.i64.wrap (l.length:Int)=(l.length:Int):=IntWalk.i64_in _ (by omega);have p1:(0:Int)≤(l.length:Int):=by omega
     have p2' :(l.length:Int)<(l.length:Int)+1:=by omega
     have hZb:C.length≤100001:=by have:=ME.out;omega
     have hcv:=aA DL (.cells #[.string nm, .int .i64 2] 23);have hE2:=hE.alloc (.cells #[.string nm, .int .i64 2] 23);have agq:=hrs.alloc (.cells #[.string nm, .int .i64 2] 23);have agr:=hrn.alloc (.cells #[.string nm, .int .i64 2] 23);have acr:w.heap.size≤DL.heap.size:=hE.base;have ags:w.heap.size≠DL.heap.size:=Nat.ne_of_lt (aD hE.hx);have agt:w.heap.size+1≠DL.heap.size:=Nat.ne_of_lt (aD hE.hr);have aiO:(Value.slice a3 C.length c3).ownBlock≠some DL.heap.size:=fun e=>Nat.lt_irrefl _ (hrs.lt _ e).2
     go_upto_region 9 with fail
     clear hE hrs hrn k21;generalize DL.alloc (.cells #[.string nm, .int .i64 2] 23)=UN at *;have hmy:=bB hE2.did.1 (⟨#[116,101,120,116]⟩:ah);have HKb:Hid ((if K.X.sees AP (⟨#[116,101,120,116]⟩:ah)=true then ((1:Int),AP.step)else (2,K.X.must AP [(⟨#[105,110,116]⟩:ah)]))=(ty,FI)):=HK4.out;clear HK4;unfold Tx.may at hmy;go_upto_if 43 with (go_at_call 52;refine hmy.mono ?_;rintro e Ws ⟨rfl,hd⟩)
     go_cut []from 22 to 52 (fun wx=>RE K w wx FI w.heap.size (w.heap.size+1) {Sx.zero with kind:=1,name:=x,bG:=x} ak ak ak ak ak∧wx.ownsRow w.heap.size 23 2 (.slice a3 C.length c3) C.length (iO C)∧wx.ownsRow w.heap.size 9 1 (.slice (some ⟨gn,0,none⟩) (l.length+1) c2) (l.length+1) ((l++ [nm]).map Value.string)∧wx.heap[DL.heap.size]? =some (.cells #[.string nm, .int .i64 ty] 23 (0,0)))
     case first=>
      have hLk:K.L≤DL.heap.size:=Nat.le_trans hle acr;have abP:=hd.blk hcv hLk;have agu:=hd.row agq hle;have agv:=hd.row agr hle;cases hst:K.X.sees AP (⟨#[116,101,120,116]⟩:ah)with
      |true=>
       have HKc:=HKb.out;rw [hst,if_pos rfl]at HKc;rw [hst,if_pos rfl]at hd;cases HKc;have mE:=hE2.call hd;obtain ⟨_,k23,_,alD⟩:=acp abP;go_wp2_with fail;go_meet
       case rel=>exact ⟨mE.aiN acr ags agt 1 _,Zu agu aiO 1 _,aL agv abP (by decide) 1 _,by rw [dB abP 1 _];rfl⟩
      |false=>
       have HKc:=HKb.out;rw [hst,if_neg (by decide)]at HKc;rw [hst,if_neg (by decide)]at hd;obtain ⟨rfl,h9⟩:=Prod.mk.inj HKc;have Wt:Hid (K.X.bC AP (⟨#[105,110,116]⟩:ah)=FI):=h9;clear HKc h9;have mE:=hE2.call hd;have hmi:=bI mE.did.1 (⟨#[105,110,116]⟩:ah);rw [Wt.out]at hmi;go_wp2_with fail;refine hmi.mono ?_;rintro e w24 ⟨rfl,hd4⟩;go_wp2_with fail;go_meet
       case rel=>exact ⟨mE.call hd4,hd4.row agu hle,hd4.row agv hle,hd4.blk abP hLk⟩
     clear hE2 agq agr hcv hd HKb hmy;obtain ⟨hE,hrs,hrn,hcv⟩:=hcut
     rename World=>YP
     obtain ⟨k25,k26,_,_⟩:=acp hcv;have alE:=hE.base;have alF:=aD hcv;go_wp2_with (at_builtin;refine app1 Tryz.UU rfl _ _ rfl w.heap.size _ _ _ rfl (hrs.alloc _) _ _ [.string nm, .int .i64 ty] rfl rfl (bg _ _ _) (by intro u hu;simp at hu;rcases hu with rfl|rfl<;>rfl) (by omega) (by simp;omega) ?_;intro a5 c5 w26 h26 agw alI);have V3:=(hE.alloc (.cells #[.string nm, .int .i64 ty] 23)).grown (hrs.alloc _) (by decide) agw;have aiR:=(dH (hrs.alloc (.cells #[.string nm, .int .i64 ty] 23)) (hrn.alloc _) (by decide)).keep (hrn.alloc _) agw;have sO:=bI V3.did.1 (⟨#[44]⟩:ah);rw [HQ5.out]at sO;go_wp2_with fail;refine sO.mono ?_;rintro e w27 ⟨rfl,hd⟩;have WB:=V3.call hd;have aiS:=hd.row h26 hle;have aiT:=hd.row aiR hle
     have hmm:SF K w27<SF K wr:=by
      rw [hm0];by_cases hb5:OH.bad=none
      · rw [KC WB.did.1 hb5];exact ab8 (HG.out hb5).1 (HG.out hb5).2
      · rw [VZ WB.did.1 hb5];exact Nat.succ_pos _
     go_wp2_with fail;go_roundw
     case rel=>
      refine ⟨l++ [nm],some ⟨gn,0,none⟩,c2,C++ [⟨nm,ty⟩],a5,c5,OH,n,by rw [List.length_append];rfl,by rw [List.length_append];rfl,WB, ?_, ?_,HR2,(fun hb5=>ab9 hnn (HG.out hb5).1 (HG.out hb5).2),by rw [List.length_append];show l.length+1+n≤_;omega,by show _=_;rw [List.length_append,List.length_append,ME.out];rfl⟩
      · rw [List.length_append,rM];exact aiS
      · rw [List.length_append];exact aiT
     case measure=>exact hmm
 clear hE;obtain ⟨an,cn,a3,c3,rfl,rfl,hE,hrs,hrn,hll,hCl⟩:=hcut
 rename World=>EU
 have hm:=Mf hE.did.1 (⟨#[107,101,121]⟩:ah) (⟨#[40]⟩:ah);rw [H4.out]at hm;go_wp2_with fail;refine hm.mono ?_;rintro e w31 ⟨rfl,hd⟩;replace hE:=hE.call hd;replace hrs:=hd.row hrs hle;replace hrn:=hd.row hrn hle;clear hm hd;have hat:=iR hE.did.1;obtain ⟨at1,tT⟩:∃x,K.X.here Yw=x:=⟨_,rfl⟩;rw [tT]at hat;have HA1:=Lib.hid tT;clear tT;go_wp2_with fail;refine hat.mono ?_;rintro e alJ ⟨rfl,m,rfl⟩;replace hE:=hE.drewN m;replace hrs:=dL hrs m;replace hrn:=dL hrn m;clear hat;generalize w31.drewN m=w32 at *;have hm:=fB hE.did.1;rw [H5.out]at hm;go_wp2_with fail;refine hm.mono ?_;rintro e w33 ⟨rfl,hd⟩;replace hE:=hE.call hd;replace hrs:=hd.row hrs hle;replace hrn:=hd.row hrn hle;clear hm hd;have hh:=Ip pk (Rd.own hrn) (by omega);obtain ⟨b1,hb1⟩:∃b,pW pk lf=b:=⟨_,rfl⟩;rw [hb1]at hh;have HB1:=Lib.hid hb1;clear hb1;go_upto_if 63 with (go_at_call 161;refine hh.mono ?_;rintro e alK ⟨rfl,rfl⟩)
 go_cut []from 53 to 87 (fun wx=>RE K w wx ZY w.heap.size (w.heap.size+1) {Sx.zero with kind:=1,name:=x,bG:=x} ak ak ak ak ak∧wx.ownsRow w.heap.size 23 2 (.slice a3 Cf.length c3) Cf.length (iO Cf)∧wx.ownsRow w.heap.size 9 1 (.slice an lf.length cn) lf.length (lf.map Value.string))
 case first=>
  have H6b:=H6.out;rw [HB1.out]at H6b;cases b1 with
  |true=>
   have e6:Wq=ZY:=H6b;subst e6;go_wp2_with fail;go_meet
   case rel=>exact ⟨hE,hrs,hrn⟩
  |false=>
   have H6c:Hid (Wq.wrong at1=ZY):=by rw [←HA1.out];exact H6b
   have hw:=fU hE.did.1 at1;clear H6b;rw [H6c.out]at hw;go_wp2_with fail;refine hw.mono ?_;rintro e w34 ⟨rfl,hd⟩;go_wp2_with fail;go_meet
   case rel=>exact ⟨hE.call hd,hd.row hrs hle,hd.row hrn hle⟩
 clear hE hrs hrn hh;obtain ⟨hE,hrs,hrn⟩:=hcut
 rename World=>w35
 have hm:=bI hE.did.1 (⟨#[44]⟩:ah);rw [H7.out]at hm;go_wp2_with fail;refine hm.mono ?_;rintro e w36 ⟨rfl,hd⟩;replace hE:=hE.call hd;replace hrs:=hd.row hrs hle;replace hrn:=hd.row hrn hle;clear hm hd;have hat:=iR hE.did.1;obtain ⟨at2,tT⟩:∃x,K.X.here Z0=x:=⟨_,rfl⟩;rw [tT]at hat;have HA2:=Lib.hid tT;clear tT;go_wp2_with fail;refine hat.mono ?_;rintro e alM ⟨rfl,m,rfl⟩;replace hE:=hE.drewN m;replace hrs:=dL hrs m;replace hrn:=dL hrn m;clear hat;generalize w36.drewN m=w37 at *;have hm:=fB hE.did.1;rw [H8.out]at hm;go_wp2_with fail;refine hm.mono ?_;rintro e w38 ⟨rfl,hd⟩;replace hE:=hE.call hd;replace hrs:=hd.row hrs hle;replace hrn:=hd.row hrn hle;clear hm hd;have hh:=Ip ck (Rd.own hrn) (by omega);obtain ⟨b2,hb2⟩:∃b,pW ck lf=b:=⟨_,rfl⟩;rw [hb2]at hh;have HB2:=Lib.hid hb2;clear hb2;have e1:=dR pk ck;obtain ⟨b3,hb3⟩:∃b,jf ck pk=b:=⟨_,rfl⟩;rw [OC pk ck,hb3]at e1;have HB3:=Lib.hid hb3;clear hb3;go_upto_region 22 with fail
 go_cut [81]from 53 to 87 (fun s81 wx=>s81= .bool (!b2||b3)∧wx=w38)
 case first=>
  cases b2<;>cases b3
  all_goals
   go_wp2_with fail;refine hh.mono ?_;rintro e w39 ⟨rfl,rfl⟩;go_wp2_with fail;go_meet
   case rel=>exact ⟨rfl,rfl⟩
 clear hh e1;obtain ⟨rfl,rfl⟩:=hcut;obtain ⟨b4,hb4⟩:∃b,(!b2||b3)=b:=⟨_,rfl⟩;rw [hb4];have Wt:Hid ((if b4=true then QB.wrong at2 else QB)=σg):=by have h:=H9.out;rw [HB2.out,HB3.out,hb4,HA2.out]at h;exact h
 clear hb4;go_upto_if 81 with fail
 go_cut []from 53 to 87 (fun wx=>RE K w wx σg w.heap.size (w.heap.size+1) {Sx.zero with kind:=1,name:=x,bG:=x} ak ak ak ak ak∧wx.ownsRow w.heap.size 23 2 (.slice a3 Cf.length c3) Cf.length (iO Cf)∧wx.ownsRow w.heap.size 9 1 (.slice an lf.length cn) lf.length (lf.map Value.string))
 case first=>
  cases b4 with
  |false=>
   have e6:QB=σg:=Wt.out;subst e6;go_wp2_with fail;go_meet
   case rel=>exact ⟨hE,hrs,hrn⟩
  |true=>
   have H6c:Hid (QB.wrong at2=σg):=Wt.out;have hw:=fU hE.did.1 at2;rw [H6c.out]at hw;go_wp2_with fail;refine hw.mono ?_;rintro e Cj ⟨rfl,hd⟩;go_wp2_with fail;go_meet
   case rel=>exact ⟨hE.call hd,hd.row hrs hle,hd.row hrn hle⟩
 clear hE hrs hrn;obtain ⟨hE,hrs,hrn⟩:=hcut
 rename World=>w41
 have hm:=Mf hE.did.1 (⟨#[41]⟩:ah) (⟨#[41]⟩:ah);rw [XM.out]at hm;go_wp2_with fail;refine hm.mono ?_;rintro e w42 ⟨rfl,hd⟩;replace hE:=hE.call hd;replace hrs:=hd.row hrs hle;replace hrn:=hd.row hrn hle;clear hm hd;go_wp2_with fail
 go_loopw [11] (fun i wr=>∃(j:Nat) (Y:Sx) (a4:Option Addr) (c4:Nat),i= .int .i64 j∧j≤Cf.length∧RE K w wr σh w.heap.size (w.heap.size+1) Y (.slice a4 Y.aB.length c4) ak ak ak ak∧wr.ownsRow w.heap.size 23 2 (.slice a4 Y.aB.length c4) Y.aB.length (iO Y.aB)∧wr.ownsRow w.heap.size 23 2 (.slice a3 Cf.length c3) Cf.length (iO Cf)∧Apart (.slice a4 Y.aB.length c4) (.slice a3 Cf.length c3)∧Hid (Y=(Cf.take j).foldl (fun x c=>Tx.place x pk ck c) {Sx.zero with kind:=1,name:=x,bG:=x})∧Y.aI= []∧Y.sets= []∧Y.aH= []∧Y.aB.length≤j) (fun i _=>Cf.length - (intOf i).toNat)
 case atStart=>exact ⟨0,{Sx.zero with kind:=1,name:=x,bG:=x},none,0,rfl,by omega,hE,World.ownsRow_nil _ _ _ _,hrs,yZ,rfl,rfl,rfl,rfl,Nat.le_refl _⟩
 case round=>
  clear hE hrs hrn;obtain ⟨j,Y,a4,c4,rfl,hj,hE,hS,hrs,hap,HX,hx1,hx2,hx3,hxl⟩:=hrel;have hsz:=hE.base;by_cases hjl:j<Cf.length
  · have p0:(j:Int)<(Cf.length:Int):=by omega
    have HJ:=Lib.hid (show j+1≤Cf.length from hjl);have p1:(0:Int)≤(j:Int):=by omega
    obtain ⟨_,_,hsl,hgx⟩:=aY hrs;cases hsl;obtain ⟨gc,rfl,_,_,_⟩:=hgx (by omega);clear hgx;have k0:=aS hrs (j*2) (.string Cf[j].name) (by have:=oZ Cf j 0 hjl (by omega);rw [Nat.add_zero]at this;rw [this];rfl);have k1:=aS hrs (j*2+1) (.int .i64 Cf[j].ty) (by rw [oZ Cf j 1 hjl (by omega)];rfl);obtain ⟨q,hq⟩:∃q,Cf[j]=q:=⟨_,rfl⟩;have Kj:=Lib.hid (yw pk ck Cf {Sx.zero with kind:=1,name:=x,bG:=x} j hjl hq);rw [hq]at k0 k1;clear hq;obtain ⟨nm,ty⟩:=q;have e1:=dR nm pk;have e2:=dR nm ck;have z0:=aD hE.hx;have z1:=dZ k0;cases q1:jf nm pk with
    |true=>
     rw [q1]at e1;have y6:=(aK hE.hx).2.2.2.2.2.2.1;have y7:=(aK hE.hx).2.2.2.2.2.2.2.1;have fz6:=aj hE.hx 6;have fz7:=aj hE.hx 7;have V3:=hE.own 6 (.string nm) (x' :={Y with part:=⟨nm,Y.part.ty⟩}) rfl;have WB:=V3.own 7 (.int .i64 ty) (x' :={Y with part:=⟨nm,ty⟩}) rfl;go_wp2_with fail;go_roundw
     case rel=>exact ⟨j+1,{Y with part:=⟨nm,ty⟩},a4,c4,by go_num,HJ.out,WB,aL (aL hS hE.hx (by decide) 6 _) V3.hx (by decide) 7 _,aL (aL hrs hE.hx (by decide) 6 _) V3.hx (by decide) 7 _,hap,(by show _=_;rw [Kj.out,←HX.out];unfold Tx.place;rw [if_pos q1]),hx1,hx2,hx3,by show Y.aB.length≤_;omega⟩
     case measure=>have hjj:=HJ.out;simp [intOf];omega
    |false=>
     rw [q1]at e1;cases q2:jf nm ck with
     |true=>
      rw [q2]at e2;have y8:=(aK hE.hx).2.2.2.2.2.2.2.2.1;have y9:=(aK hE.hx).2.2.2.2.2.2.2.2.2.1;have fz8:=aj hE.hx 8;have fz9:=aj hE.hx 9;have V3:=hE.own 8 (.string nm) (x' :={Y with aX:=⟨nm,Y.aX.ty⟩}) rfl;have WB:=V3.own 9 (.int .i64 ty) (x' :={Y with aX:=⟨nm,ty⟩}) rfl;go_wp2_with fail;go_roundw
      case rel=>exact ⟨j+1,{Y with aX:=⟨nm,ty⟩},a4,c4,by go_num,HJ.out,WB,aL (aL hS hE.hx (by decide) 8 _) V3.hx (by decide) 9 _,aL (aL hrs hE.hx (by decide) 8 _) V3.hx (by decide) 9 _,hap,(by show _=_;rw [Kj.out,←HX.out];unfold Tx.place;rw [if_neg (by rw [q1];decide),if_pos q2]),hx1,hx2,hx3,by show Y.aB.length≤_;omega⟩
      case measure=>have hjj:=HJ.out;simp [intOf];omega
     |false=>
      rw [q2]at e2;have y10:=(aK hE.hx).2.2.2.2.2.2.2.2.2.2.1;have alQ:=aj hE.hx 10;go_wp2_with fail
      go_region_law (refine fM Tryz.UU rfl _ _ rfl w.heap.size _ _ _ rfl (hS.alloc _) _ _ [.string nm, .int .i64 ty] rfl rfl (fun j u hj=>by rw [iG,Nat.zero_add];exact bg _ _ _ j u hj) (by intro u hu;simp at hu;rcases hu with rfl|rfl<;>rfl) (by have:=HJ.out;omega) (by simp;omega) ?_;intro g3 jm w3 h3 hg3 wU hl3;have hg4:(wr.alloc (.cells #[.string nm, .int .i64 ty] 23)).grownBy w3 (Value.slice a4 Y.aB.length c4).ownBlock:=⟨hg3.os,hg3.tape,hg3.output,hg3.size,hg3.block⟩;have mE:=(hE.alloc (.cells #[.string nm, .int .i64 ty] 23)).grown (hS.alloc _) (by decide) hg4;have y3:=(aK mE.hx).2.2.2.2.2.2.2.2.2.2.1;have fz3:=aj mE.hx 10)
      all_goals
       have YI:Apart (.slice (some ⟨g3,0,none⟩) (Y.aB.length+1) jm) (.slice (some ⟨gc,0,none⟩) Cf.length c3):=by
        intro g h1 h2;cases h1;have hlt:g3<wr.heap.size:=(hrs.lt _ h2).2;rcases wU with h|h
        · exact hap _ h h2
        · change g3=(wr.alloc _).heap.size at h;rw [av]at h;exact absurd hlt (by omega)
       have hC6:=hap.keep (hrs.alloc (.cells #[.string nm, .int .i64 ty] 23)) hg4;go_wp2_with fail;go_roundw
       case rel=>
        refine ⟨j+1,{Y with aB:=Y.aB++ [⟨nm,ty⟩]},some ⟨g3,0,none⟩,jm,by go_num,HJ.out,by rw [List.length_append];exact mE.own 10 _ rfl, ?_,aL hC6 mE.hx (by decide) 10 _,by rw [List.length_append];exact YI,(by show _=_;rw [Kj.out,←HX.out];unfold Tx.place;rw [if_neg (by rw [q1];decide),if_neg (by rw [q2];decide)]),hx1,hx2,hx3,by rw [List.length_append];show Y.aB.length+1≤_;omega⟩;rw [List.length_append,rM];exact aL h3 mE.hx (by decide) 10 _
       case measure=>have hjj:=HJ.out;simp [intOf];omega
  · have mF:j=Cf.length:=by omega
    subst mF;rw [List.take_length]at HX;have qQ:=hE.hx;have lF:=hE.hr;go_wp2_with (first|refine aT rfl _ rfl rfl rfl qQ ?_|(refine bH rfl _ _ rfl rfl rfl lF rfl rfl rfl ?_;intro W6 iD));refine bodyPost_ret (bQ rfl rfl (jO iD.blk rfl)) rfl ?_;rw [HE.out,←HX.out];refine ⟨_,ak,ak,ak,rfl,hE.fin iD,bV hS hE.hr iD (by decide), ?_, ?_, ?_⟩
    · rw [hx1];exact World.ownsRow_nil _ _ _ _
    · rw [hx2];exact World.ownsRow_nil _ _ _ _
    · rw [hx3];exact World.ownsRow_nil _ _ _ _
end Go.Proofs.YtcgadodckoalnaaGreatDoor
