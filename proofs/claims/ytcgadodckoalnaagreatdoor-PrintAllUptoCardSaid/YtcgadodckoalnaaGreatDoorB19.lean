/- Parts of a proof. -/
import Derived.Deep.MidRow
import Derived.Test.YtcgadodckoalnaaGreatDoorB18
set_option maxHeartbeats 8000000
set_option maxRecDepth 100000
namespace Go.Proofs.YtcgadodckoalnaaGreatDoor
open Go.Proofs.Tryz
open Go.RowKit
open aN
theorem YR (w:World):(Instr.build 100 #[]).run prog w= .ok (.agg bf) w:=by kernel_rfl
theorem iH.from {K:PK}{w0 w w' :World}{T:TypeId}{x:Sx}{σ σ' :Ps}{e:Ending}(hD:Did K w0 σ w) (h:iH K w T x σ' e w'):iH K w0 T x σ' e w' :=by
 obtain ⟨tc,c,s,wv,he,hd,hr⟩:=h;exact ⟨tc,c,s,wv,he,hD.trans hd,hr.mono hD.size⟩
theorem wh {K:PK}{w:World}{T:TypeId}{x:Sx}{σ:Ps}{e:Ending}{w' :World}(h:iH K w T x σ e w'):∃v,e= .returned v∧iH K w T x σ (.returned v) w' :=by
 obtain ⟨tc,c,s,wv,rfl,hd,hr⟩:=h;exact ⟨_,rfl,tc,c,s,wv,rfl,hd,hr⟩
theorem Oe {K:PK}{w0 w w' :World}{l:List Sx}{σ σ' :Ps}{e:Ending}(hD:Did K w0 σ w) (h:rO K w (.batch l) σ' e w'):rO K w0 (.batch l) σ' e w' :=by
 obtain ⟨L,a,cap,hL,he,hd,hr,hp⟩:=h;exact ⟨L,a,cap,hL,he,hD.trans hd,aR hr hD.size,fun p hp' =>(hp p hp').mono hD.size⟩
theorem U1 {K:PK}{w:World}{l:List Sx}{σ:Ps}{e:Ending}{w' :World}(h:rO K w (.batch l) σ e w'):∃v,e= .returned v∧rO K w (.batch l) σ (.returned v) w' :=by
 obtain ⟨L,a,cap,hL,rfl,hd,hr,hp⟩:=h;exact ⟨_,rfl,L,a,cap,hL,rfl,hd,hr,hp⟩
theorem mG {K:PK}:∀(n:Nat) {w:World}{σ:Ps},PQ K w σ→K.X.T.length - σ.i<n→
 Calls prog 21 #[.pointer (some ⟨K.b,0,none⟩)] w (rO K w (K.X.jh n σ).1 (K.X.jh n σ).2):=by
 intro n
 induction n with
 |zero=>intro w σ _ hlt;exact absurd hlt (by omega)
 |succ n ih=>
 intro w σ h hlt;have hle:=h.le;have hD0:=Did.refl h;cases eZ:K.X.sees σ (⟨#[105,110,115,101,114,116]⟩:ah)with
 |true=>
  have HE:Hid (K.X.jh (n+1) σ=(.change (K.X.insert σ.step).1,(K.X.insert σ.step).2)):=by show _=_;rw [Tx.jh];simp only [eZ,if_true]
  clear ih;go_enter func21,ntmps21;have hm1:=aV hD0.1 (⟨#[105,110,115,101,114,116]⟩:ah);unfold Tx.may at hm1;rw [eZ,if_pos rfl]at hm1;go_wp2_with fail;refine hm1.mono ?_;rintro e w1 ⟨rfl,hd1⟩;have hD1:=hD0.trans hd1;have hc:=Qx hD1.1;go_wp2_with fail;refine hc.mono ?_;intro e wz hz;replace hz:=iH.from hD1 hz;obtain ⟨v,rfl,hz⟩:=wh hz;go_wp2_with fail;go_ret;rw [HE.out];exact hz
 |false=>
  cases fI:K.X.sees σ (⟨#[117,112,100,97,116,101]⟩:ah)with
  |true=>
   have HE:Hid (K.X.jh (n+1) σ=(.change (K.X.update σ.step).1,(K.X.update σ.step).2)):=by show _=_;rw [Tx.jh];simp only [eZ,fI,if_true,Bool.false_eq_true,if_false]
   clear ih;go_enter func21,ntmps21;have hm1:=aV hD0.1 (⟨#[105,110,115,101,114,116]⟩:ah);unfold Tx.may at hm1;rw [eZ,if_neg (by decide)]at hm1;go_wp2_with fail;refine hm1.mono ?_;rintro e w1 ⟨rfl,hd1⟩;have hD1:=hD0.trans hd1;have hm2:=aV hD1.1 (⟨#[117,112,100,97,116,101]⟩:ah);unfold Tx.may at hm2;rw [fI,if_pos rfl]at hm2;go_wp2_with fail;refine hm2.mono ?_;rintro e w2 ⟨rfl,hd2⟩;have hD2:=hD1.trans hd2;have hc:=Qz hD2.1;go_wp2_with fail;refine hc.mono ?_;intro e wz hz;replace hz:=iH.from hD2 hz;obtain ⟨v,rfl,hz⟩:=wh hz;go_wp2_with fail;go_ret;rw [HE.out];exact hz
  |false=>
   cases gW:K.X.sees σ (⟨#[100,101,108,101,116,101]⟩:ah)with
   |true=>
    have HE:Hid (K.X.jh (n+1) σ=(.change (K.X.remove σ.step).1,(K.X.remove σ.step).2)):=by show _=_;rw [Tx.jh];simp only [eZ,fI,gW,if_true,Bool.false_eq_true,if_false]
    clear ih;go_enter func21,ntmps21;have hm1:=aV hD0.1 (⟨#[105,110,115,101,114,116]⟩:ah);unfold Tx.may at hm1;rw [eZ,if_neg (by decide)]at hm1;go_wp2_with fail;refine hm1.mono ?_;rintro e w1 ⟨rfl,hd1⟩;have hD1:=hD0.trans hd1;have hm2:=aV hD1.1 (⟨#[117,112,100,97,116,101]⟩:ah);unfold Tx.may at hm2;rw [fI,if_neg (by decide)]at hm2;go_wp2_with fail;refine hm2.mono ?_;rintro e w2 ⟨rfl,hd2⟩;have hD2:=hD1.trans hd2;have oL:=aV hD2.1 (⟨#[100,101,108,101,116,101]⟩:ah);unfold Tx.may at oL;rw [gW,if_pos rfl]at oL;go_wp2_with fail;refine oL.mono ?_;rintro e w3 ⟨rfl,hd3⟩;have hD3:=hD2.trans hd3;have hc:=Qw hD3.1;go_wp2_with fail;refine hc.mono ?_;intro e wz hz;replace hz:=iH.from hD3 hz;obtain ⟨v,rfl,hz⟩:=wh hz;go_wp2_with fail;go_ret;rw [HE.out];exact hz
   |false=>
    cases iP:K.X.sees σ (⟨#[115,101,108,101,99,116]⟩:ah)with
    |true=>
     have HE:Hid (K.X.jh (n+1) σ=(.plain (K.X.ask σ.step).1,(K.X.ask σ.step).2)):=by show _=_;rw [Tx.jh];simp only [eZ,fI,gW,iP,if_true,Bool.false_eq_true,if_false]
     clear ih;go_enter func21,ntmps21;have hm1:=aV hD0.1 (⟨#[105,110,115,101,114,116]⟩:ah);unfold Tx.may at hm1;rw [eZ,if_neg (by decide)]at hm1;go_wp2_with fail;refine hm1.mono ?_;rintro e w1 ⟨rfl,hd1⟩;have hD1:=hD0.trans hd1;have hm2:=aV hD1.1 (⟨#[117,112,100,97,116,101]⟩:ah);unfold Tx.may at hm2;rw [fI,if_neg (by decide)]at hm2;go_wp2_with fail;refine hm2.mono ?_;rintro e w2 ⟨rfl,hd2⟩;have hD2:=hD1.trans hd2;have oL:=aV hD2.1 (⟨#[100,101,108,101,116,101]⟩:ah);unfold Tx.may at oL;rw [gW,if_neg (by decide)]at oL;go_wp2_with fail;refine oL.mono ?_;rintro e w3 ⟨rfl,hd3⟩;have hD3:=hD2.trans hd3;have om:=aV hD3.1 (⟨#[115,101,108,101,99,116]⟩:ah);unfold Tx.may at om;rw [iP,if_pos rfl]at om;go_wp2_with fail;refine om.mono ?_;rintro e w4 ⟨rfl,hd4⟩;have hD4:=hD3.trans hd4;have hc:=aa7 hD4.1;go_wp2_with fail;refine hc.mono ?_;intro e wz hz;replace hz:=iH.from hD4 hz;obtain ⟨v,rfl,hz⟩:=wh hz;go_wp2_with fail;go_ret;rw [HE.out];exact hz
    |false=>
     cases kr:K.X.sees σ (⟨#[98,101,103,105,110]⟩:ah)with
     |true=>
      have HE:Hid (K.X.jh (n+1) σ=(.batch (K.X.many (K.X.jh n) σ.step).1,(K.X.many (K.X.jh n) σ.step).2)):=by show _=_;rw [Tx.jh];simp only [eZ,fI,gW,iP,kr,if_true,Bool.false_eq_true,if_false]
      have hbl:=(oJ kr).1;have hln:K.X.T.length - σ.step.i<n:=by show K.X.T.length - (σ.i+1)<n;omega
      go_enter func21,ntmps21;have hm1:=aV hD0.1 (⟨#[105,110,115,101,114,116]⟩:ah);unfold Tx.may at hm1;rw [eZ,if_neg (by decide)]at hm1;go_wp2_with fail;refine hm1.mono ?_;rintro e w1 ⟨rfl,hd1⟩;have hD1:=hD0.trans hd1;have hm2:=aV hD1.1 (⟨#[117,112,100,97,116,101]⟩:ah);unfold Tx.may at hm2;rw [fI,if_neg (by decide)]at hm2;go_wp2_with fail;refine hm2.mono ?_;rintro e w2 ⟨rfl,hd2⟩;have hD2:=hD1.trans hd2;have oL:=aV hD2.1 (⟨#[100,101,108,101,116,101]⟩:ah);unfold Tx.may at oL;rw [gW,if_neg (by decide)]at oL;go_wp2_with fail;refine oL.mono ?_;rintro e w3 ⟨rfl,hd3⟩;have hD3:=hD2.trans hd3;have om:=aV hD3.1 (⟨#[115,101,108,101,99,116]⟩:ah);unfold Tx.may at om;rw [iP,if_neg (by decide)]at om;go_wp2_with fail;refine om.mono ?_;rintro e w4 ⟨rfl,hd4⟩;have hD4:=hD3.trans hd4;have rF:=aV hD4.1 (⟨#[98,101,103,105,110]⟩:ah);unfold Tx.may at rF;rw [kr,if_pos rfl]at rF;go_wp2_with fail;refine rF.mono ?_;rintro e w5 ⟨rfl,hd5⟩;have hD5:=hD4.trans hd5;have hc:=YN (fun hw hl=>ih hw hl) hD5.1 hln;go_wp2_with fail;refine hc.mono ?_;intro e wz hz;replace hz:=Oe hD5 hz;obtain ⟨v,rfl,hz⟩:=U1 hz;go_wp2_with fail;go_ret;rw [HE.out];exact hz
     |false=>
      cases oM:K.X.sees σ (⟨#[100,114,111,112]⟩:ah)with
      |true=>
       obtain ⟨⟨x,σx⟩,hx⟩:∃r,K.X.name σ.step=r:=⟨_,rfl⟩;have HE:Hid (K.X.jh (n+1) σ=(.plain {Sx.zero with kind:=4,name:=x},σx)):=by show _=_;rw [Tx.jh];simp only [eZ,fI,gW,iP,kr,oM,if_true,Bool.false_eq_true,if_false,hx]
       clear ih;go_enter func21,ntmps21;have hm1:=aV hD0.1 (⟨#[105,110,115,101,114,116]⟩:ah);unfold Tx.may at hm1;rw [eZ,if_neg (by decide)]at hm1;go_wp2_with fail;refine hm1.mono ?_;rintro e w1 ⟨rfl,hd1⟩;have hD1:=hD0.trans hd1;have hm2:=aV hD1.1 (⟨#[117,112,100,97,116,101]⟩:ah);unfold Tx.may at hm2;rw [fI,if_neg (by decide)]at hm2;go_wp2_with fail;refine hm2.mono ?_;rintro e w2 ⟨rfl,hd2⟩;have hD2:=hD1.trans hd2;have oL:=aV hD2.1 (⟨#[100,101,108,101,116,101]⟩:ah);unfold Tx.may at oL;rw [gW,if_neg (by decide)]at oL;go_wp2_with fail;refine oL.mono ?_;rintro e w3 ⟨rfl,hd3⟩;have hD3:=hD2.trans hd3;have om:=aV hD3.1 (⟨#[115,101,108,101,99,116]⟩:ah);unfold Tx.may at om;rw [iP,if_neg (by decide)]at om;go_wp2_with fail;refine om.mono ?_;rintro e w4 ⟨rfl,hd4⟩;have hD4:=hD3.trans hd4;have rF:=aV hD4.1 (⟨#[98,101,103,105,110]⟩:ah);unfold Tx.may at rF;rw [kr,if_neg (by decide)]at rF;go_wp2_with fail;refine rF.mono ?_;rintro e w5 ⟨rfl,hd5⟩;have hD5:=hD4.trans hd5;have sO:=aV hD5.1 (⟨#[100,114,111,112]⟩:ah);unfold Tx.may at sO;rw [oM,if_pos rfl]at sO;go_wp2_with fail;refine sO.mono ?_;rintro e w6 ⟨rfl,hd6⟩;have hD6:=hD5.trans hd6;have hc:=gu hD6.1;rw [hx]at hc;go_wp2_with fail;refine hc.mono ?_;rintro e wz ⟨rfl,hz⟩;have hDz:=hD6.trans hz;have hB0:=Ca 4 x;have hBx:=rG;have Qt:=yj;go_wp2_with fail;go_ret;rw [HE.out];exact ⟨ak,ak,ak,ak,rfl,hDz,ko _ _ _ rfl rfl rfl rfl⟩
      |false=>
       cases mV:K.X.sees σ (⟨#[99,114,101,97,116,101]⟩:ah)with
       |true=>
        cases uQ:K.X.sees σ.step (⟨#[116,97,98,108,101]⟩:ah)with
        |true=>
         have HE:Hid (K.X.jh (n+1) σ=(.plain (K.X.table σ.step.step).1,(K.X.table σ.step.step).2)):=by show _=_;rw [Tx.jh];simp only [eZ,fI,gW,iP,kr,oM,mV,uQ,if_true,Bool.false_eq_true,if_false]
         clear ih;go_enter func21,ntmps21;have hm1:=aV hD0.1 (⟨#[105,110,115,101,114,116]⟩:ah);unfold Tx.may at hm1;rw [eZ,if_neg (by decide)]at hm1;go_wp2_with fail;refine hm1.mono ?_;rintro e w1 ⟨rfl,hd1⟩;have hD1:=hD0.trans hd1;have hm2:=aV hD1.1 (⟨#[117,112,100,97,116,101]⟩:ah);unfold Tx.may at hm2;rw [fI,if_neg (by decide)]at hm2;go_wp2_with fail;refine hm2.mono ?_;rintro e w2 ⟨rfl,hd2⟩;have hD2:=hD1.trans hd2;have oL:=aV hD2.1 (⟨#[100,101,108,101,116,101]⟩:ah);unfold Tx.may at oL;rw [gW,if_neg (by decide)]at oL;go_wp2_with fail;refine oL.mono ?_;rintro e w3 ⟨rfl,hd3⟩;have hD3:=hD2.trans hd3;have om:=aV hD3.1 (⟨#[115,101,108,101,99,116]⟩:ah);unfold Tx.may at om;rw [iP,if_neg (by decide)]at om;go_wp2_with fail;refine om.mono ?_;rintro e w4 ⟨rfl,hd4⟩;have hD4:=hD3.trans hd4;have rF:=aV hD4.1 (⟨#[98,101,103,105,110]⟩:ah);unfold Tx.may at rF;rw [kr,if_neg (by decide)]at rF;go_wp2_with fail;refine rF.mono ?_;rintro e w5 ⟨rfl,hd5⟩;have hD5:=hD4.trans hd5;have sO:=aV hD5.1 (⟨#[100,114,111,112]⟩:ah);unfold Tx.may at sO;rw [oM,if_neg (by decide)]at sO;go_wp2_with fail;refine sO.mono ?_;rintro e w6 ⟨rfl,hd6⟩;have hD6:=hD5.trans hd6;have AZ:=aV hD6.1 (⟨#[99,114,101,97,116,101]⟩:ah);unfold Tx.may at AZ;rw [mV,if_pos rfl]at AZ;go_wp2_with fail;refine AZ.mono ?_;rintro e w7 ⟨rfl,hd7⟩;have hD7:=hD6.trans hd7;have zI:=aV hD7.1 (⟨#[116,97,98,108,101]⟩:ah);unfold Tx.may at zI;rw [uQ,if_pos rfl]at zI;go_wp2_with fail;refine zI.mono ?_;rintro e w8 ⟨rfl,EF⟩;have Cb:=hD7.trans EF;have hc:=UY Cb.1;go_wp2_with fail;refine hc.mono ?_;intro e wz hz;replace hz:=iH.from Cb hz;obtain ⟨v,rfl,hz⟩:=wh hz;go_wp2_with fail;go_ret;rw [HE.out];exact hz
        |false=>
         cases mK:K.X.sees σ.step (⟨#[109,97,116,101,114,105,97,108,105,122,101,100]⟩:ah)with
         |true=>
          have HE:Hid (K.X.jh (n+1) σ=(.plain (K.X.view σ.step.step).1,(K.X.view σ.step.step).2)):=by show _=_;rw [Tx.jh];simp only [eZ,fI,gW,iP,kr,oM,mV,uQ,mK,if_true,Bool.false_eq_true,if_false]
          clear ih;go_enter func21,ntmps21;have hm1:=aV hD0.1 (⟨#[105,110,115,101,114,116]⟩:ah);unfold Tx.may at hm1;rw [eZ,if_neg (by decide)]at hm1;go_wp2_with fail;refine hm1.mono ?_;rintro e w1 ⟨rfl,hd1⟩;have hD1:=hD0.trans hd1;have hm2:=aV hD1.1 (⟨#[117,112,100,97,116,101]⟩:ah);unfold Tx.may at hm2;rw [fI,if_neg (by decide)]at hm2;go_wp2_with fail;refine hm2.mono ?_;rintro e w2 ⟨rfl,hd2⟩;have hD2:=hD1.trans hd2;have oL:=aV hD2.1 (⟨#[100,101,108,101,116,101]⟩:ah);unfold Tx.may at oL;rw [gW,if_neg (by decide)]at oL;go_wp2_with fail;refine oL.mono ?_;rintro e w3 ⟨rfl,hd3⟩;have hD3:=hD2.trans hd3;have om:=aV hD3.1 (⟨#[115,101,108,101,99,116]⟩:ah);unfold Tx.may at om;rw [iP,if_neg (by decide)]at om;go_wp2_with fail;refine om.mono ?_;rintro e w4 ⟨rfl,hd4⟩;have hD4:=hD3.trans hd4;have rF:=aV hD4.1 (⟨#[98,101,103,105,110]⟩:ah);unfold Tx.may at rF;rw [kr,if_neg (by decide)]at rF;go_wp2_with fail;refine rF.mono ?_;rintro e w5 ⟨rfl,hd5⟩;have hD5:=hD4.trans hd5;have sO:=aV hD5.1 (⟨#[100,114,111,112]⟩:ah);unfold Tx.may at sO;rw [oM,if_neg (by decide)]at sO;go_wp2_with fail;refine sO.mono ?_;rintro e w6 ⟨rfl,hd6⟩;have hD6:=hD5.trans hd6;have AZ:=aV hD6.1 (⟨#[99,114,101,97,116,101]⟩:ah);unfold Tx.may at AZ;rw [mV,if_pos rfl]at AZ;go_wp2_with fail;refine AZ.mono ?_;rintro e w7 ⟨rfl,hd7⟩;have hD7:=hD6.trans hd7;have zI:=aV hD7.1 (⟨#[116,97,98,108,101]⟩:ah);unfold Tx.may at zI;rw [uQ,if_neg (by decide)]at zI;go_wp2_with fail;refine zI.mono ?_;rintro e w8 ⟨rfl,EF⟩;have Cb:=hD7.trans EF;have Qu:=aV Cb.1 (⟨#[109,97,116,101,114,105,97,108,105,122,101,100]⟩:ah);unfold Tx.may at Qu;rw [mK,if_pos rfl]at Qu;go_wp2_with fail;refine Qu.mono ?_;rintro e w9 ⟨rfl,Pk⟩;have zJ:=Cb.trans Pk;have hc:=Yr zJ.1;go_wp2_with fail;refine hc.mono ?_;intro e wz hz;replace hz:=iH.from zJ hz;obtain ⟨v,rfl,hz⟩:=wh hz;go_wp2_with fail;go_ret;rw [HE.out];exact hz
         |false=>
          have HE:Hid (K.X.jh (n+1) σ=(.plain (K.X.index σ.step).1,(K.X.index σ.step).2)):=by show _=_;rw [Tx.jh];simp only [eZ,fI,gW,iP,kr,oM,mV,uQ,mK,if_true,Bool.false_eq_true,if_false]
          clear ih;go_enter func21,ntmps21;have hm1:=aV hD0.1 (⟨#[105,110,115,101,114,116]⟩:ah);unfold Tx.may at hm1;rw [eZ,if_neg (by decide)]at hm1;go_wp2_with fail;refine hm1.mono ?_;rintro e w1 ⟨rfl,hd1⟩;have hD1:=hD0.trans hd1;have hm2:=aV hD1.1 (⟨#[117,112,100,97,116,101]⟩:ah);unfold Tx.may at hm2;rw [fI,if_neg (by decide)]at hm2;go_wp2_with fail;refine hm2.mono ?_;rintro e w2 ⟨rfl,hd2⟩;have hD2:=hD1.trans hd2;have oL:=aV hD2.1 (⟨#[100,101,108,101,116,101]⟩:ah);unfold Tx.may at oL;rw [gW,if_neg (by decide)]at oL;go_wp2_with fail;refine oL.mono ?_;rintro e w3 ⟨rfl,hd3⟩;have hD3:=hD2.trans hd3;have om:=aV hD3.1 (⟨#[115,101,108,101,99,116]⟩:ah);unfold Tx.may at om;rw [iP,if_neg (by decide)]at om;go_wp2_with fail;refine om.mono ?_;rintro e w4 ⟨rfl,hd4⟩;have hD4:=hD3.trans hd4;have rF:=aV hD4.1 (⟨#[98,101,103,105,110]⟩:ah);unfold Tx.may at rF;rw [kr,if_neg (by decide)]at rF;go_wp2_with fail;refine rF.mono ?_;rintro e w5 ⟨rfl,hd5⟩;have hD5:=hD4.trans hd5;have sO:=aV hD5.1 (⟨#[100,114,111,112]⟩:ah);unfold Tx.may at sO;rw [oM,if_neg (by decide)]at sO;go_wp2_with fail;refine sO.mono ?_;rintro e w6 ⟨rfl,hd6⟩;have hD6:=hD5.trans hd6;have AZ:=aV hD6.1 (⟨#[99,114,101,97,116,101]⟩:ah);unfold Tx.may at AZ;rw [mV,if_pos rfl]at AZ;go_wp2_with fail;refine AZ.mono ?_;rintro e w7 ⟨rfl,hd7⟩;have hD7:=hD6.trans hd7;have zI:=aV hD7.1 (⟨#[116,97,98,108,101]⟩:ah);unfold Tx.may at zI;rw [uQ,if_neg (by decide)]at zI;go_wp2_with fail;refine zI.mono ?_;rintro e w8 ⟨rfl,EF⟩;have Cb:=hD7.trans EF;have Qu:=aV Cb.1 (⟨#[109,97,116,101,114,105,97,108,105,122,101,100]⟩:ah);unfold Tx.may at Qu;rw [mK,if_neg (by decide)]at Qu;go_wp2_with fail;refine Qu.mono ?_;rintro e w9 ⟨rfl,Pk⟩;have zJ:=Cb.trans Pk;have hc:=UL zJ.1;go_wp2_with fail;refine hc.mono ?_;intro e wz hz;replace hz:=iH.from zJ hz;obtain ⟨v,rfl,hz⟩:=wh hz;go_wp2_with fail;go_ret;rw [HE.out];exact hz
       |false=>
        have HE:Hid (K.X.jh (n+1) σ=(.plain Sx.zero,K.X.fail σ)):=by show _=_;rw [Tx.jh];simp only [eZ,fI,gW,iP,kr,oM,mV,Bool.false_eq_true,if_false]
        clear ih;go_enter func21,ntmps21;have hm1:=aV hD0.1 (⟨#[105,110,115,101,114,116]⟩:ah);unfold Tx.may at hm1;rw [eZ,if_neg (by decide)]at hm1;go_wp2_with fail;refine hm1.mono ?_;rintro e w1 ⟨rfl,hd1⟩;have hD1:=hD0.trans hd1;have hm2:=aV hD1.1 (⟨#[117,112,100,97,116,101]⟩:ah);unfold Tx.may at hm2;rw [fI,if_neg (by decide)]at hm2;go_wp2_with fail;refine hm2.mono ?_;rintro e w2 ⟨rfl,hd2⟩;have hD2:=hD1.trans hd2;have oL:=aV hD2.1 (⟨#[100,101,108,101,116,101]⟩:ah);unfold Tx.may at oL;rw [gW,if_neg (by decide)]at oL;go_wp2_with fail;refine oL.mono ?_;rintro e w3 ⟨rfl,hd3⟩;have hD3:=hD2.trans hd3;have om:=aV hD3.1 (⟨#[115,101,108,101,99,116]⟩:ah);unfold Tx.may at om;rw [iP,if_neg (by decide)]at om;go_wp2_with fail;refine om.mono ?_;rintro e w4 ⟨rfl,hd4⟩;have hD4:=hD3.trans hd4;have rF:=aV hD4.1 (⟨#[98,101,103,105,110]⟩:ah);unfold Tx.may at rF;rw [kr,if_neg (by decide)]at rF;go_wp2_with fail;refine rF.mono ?_;rintro e w5 ⟨rfl,hd5⟩;have hD5:=hD4.trans hd5;have sO:=aV hD5.1 (⟨#[100,114,111,112]⟩:ah);unfold Tx.may at sO;rw [oM,if_neg (by decide)]at sO;go_wp2_with fail;refine sO.mono ?_;rintro e w6 ⟨rfl,hd6⟩;have hD6:=hD5.trans hd6;have AZ:=aV hD6.1 (⟨#[99,114,101,97,116,101]⟩:ah);unfold Tx.may at AZ;rw [mV,if_neg (by decide)]at AZ;go_wp2_with fail;refine AZ.mono ?_;rintro e w7 ⟨rfl,hd7⟩;have hD7:=hD6.trans hd7;have hat:=jH hD7.1;go_wp2_with fail;refine hat.mono ?_;rintro e wy ⟨rfl,my,rfl⟩;have hDy:=hD7.drewN my;have hwr:=iN hDy.1 (K.X.here σ);go_wp2_with fail;refine hwr.mono ?_;rintro e wz ⟨rfl,hz⟩;have hDz:=hDy.trans hz;have hBx:=YR;have Qt:=yj;go_wp2_with fail;go_ret;rw [HE.out];exact ⟨ak,ak,ak,ak,rfl,hDz,ko _ _ _ rfl rfl rfl rfl⟩
theorem bQ {P:Program}{fn:Func}{a:Tmp}{t:TypeId}(h:fn.results= #[.cell a t]) {tm:Array Value}{ad:Addr}{v:Value}{W:World}(ht:tm.getD a undef= .pointer (some ad)) (hl:(loadVar t ad).run P W= .ok v W):
 (results fn tm).run P W= .ok v W:=by
 unfold results;rw [h];rw [Array.getD_eq_getD_getElem?]at ht;simp [ht,asAddr,hl]
theorem jO {w:World}{b:Nat}{V:Array Value}{T:TypeId}(h:w.heap[b]? =some (.cells V T (0,0))) (hV:V.size=18):(loadVar 31 ⟨b,0,none⟩).run prog w= .ok (.agg V) w:=by
 have hc:w.rangeAt b 0 V.toList:=fun j v hv=>by
  rw [Nat.zero_add,au h];simpa using hv
 obtain ⟨d,hu,hd⟩:=Tryz.Kh;have:=run_loadVar_mid w b 0 31 V.toList d hc hu hd (by rw [show V.toList.length=18 by simpa using hV];exact Tryz.vW);simpa using this
theorem fA {ops:Array Oper}{rest:List Oper}{op:Oper}{a:Act}{w:World}{b:Nat}{Q:Exit→Act→World→Prop}{V:Array Value}(hgd:op.guard=none) (x y:Operand) (ho:op.op= .store 31 x y)
 (hb:b=w.heap.size) (hx:a.eval x= .pointer (some ⟨b,0,none⟩)) (hy:a.eval y= .agg V) (hV:V.size=18) (h1' :V.toList.all (·.oneCell')=true) (h:wpList prog ops Q rest (a.put op.dst undef) (w.alloc (.cells V 31))):
 wpList prog ops Q (op::rest) a (w.alloc (.cells bf 31)):=
 lT hgd x y ho (by rw [hx,hb]) hy hV h1' h
theorem abf {w:World}(x:Sx) (tc c s wv:Value) (hone:(aG x tc c s wv ak).toList.all (·.oneCell')=true):
 Calls prog 205 #[.agg (aG x tc c s wv ak)] w fun e w' =>e= .returned (.agg (aG x tc c s wv ak))∧Below w.heap.size w w' :=by
 have hsz:=av w (.cells (aG x tc c s wv ak) 100);have hb1:(w.alloc (.cells (aG x tc c s wv ak) 100)).heap[w.heap.size]? =some (.cells (aG x tc c s wv ak) 100 (0,0)):=aA w _;have hb2:((w.alloc (.cells (aG x tc c s wv ak) 100)).alloc (.cells bf 31)).heap[w.heap.size]? =some (.cells (aG x tc c s wv ak) 100 (0,0)):=aC hb1 _;have hB:Below w.heap.size w ((w.alloc (.cells (aG x tc c s wv ak) 100)).alloc (.cells (aG x tc c s wv ak) 31)):=((Below.refl _ w).alloc (Nat.le_refl _) _).alloc (by rw [hsz];omega) _
 have hb3:((w.alloc (.cells (aG x tc c s wv ak) 100)).alloc (.cells (aG x tc c s wv ak) 31)).heap[w.heap.size+1]? =some (.cells (aG x tc c s wv ak) 31 (0,0)):=by
  have:=aA (w.alloc (.cells (aG x tc c s wv ak) 100)) (.cells (aG x tc c s wv ak) 31);rw [hsz]at this;exact this
 go_enter func205,ntmps205;go_wp2_with (first|refine aT rfl _ rfl rfl rfl hb2 ?_|refine fA rfl _ _ rfl hsz.symm rfl rfl rfl hone ?_);refine bodyPost_ret (bQ rfl rfl (jO hb3 rfl)) rfl ?_;exact ⟨rfl,hB⟩
theorem wm {b:Nat}{T:TypeId}{fr:Nat×Nat}:∀(vs:List Value) (o:Nat) (w:World) (C:Array Value),w.heap[b]? =some (.cells C T fr)→
 ∃C',(w.setCells b o vs).heap[b]? =some (.cells C' T fr)∧C'.size=C.size
 | [],_,w,C,h=>⟨C,h,rfl⟩
 |v::vs,o,w,C,h=>by
  obtain ⟨C',h1,h2⟩:=wm vs (o+1) _ _ (dB h o v);exact ⟨C',h1,by rw [h2];simp⟩
theorem tV {b:Nat}:∀(vs:List Value) (o:Nat) (w:World),(∀k,k≠b→(w.setCells b o vs).heap[k]? =w.heap[k]?)∧(w.setCells b o vs).heap.size=w.heap.size∧∀B w0,Below B w0 w→B≤b→Below B w0 (w.setCells b o vs)
 | [],_,w=>⟨fun _ _=>rfl,rfl,fun _ _ h _=>h⟩
 |v::vs,o,w=>by
  obtain ⟨h1,h2,h3⟩:=tV (b:=b) vs (o+1) (w.setCell ⟨b,o,none⟩ v);refine ⟨fun k hk=>(h1 k hk).trans (Below.heap_setCell _ _ _ _ hk),h2.trans (bO _ _ _),fun B w0 h hB=>h3 B w0 (h.setCell hB v) hB⟩
structure Wrote (w:World) (b:Nat) (V:Array Value) (T:TypeId) (w' :World):Prop where
 blk:w'.heap[b]? =some (.cells V T (0,0))
 rest:∀k,k≠b→w'.heap[k]? =w.heap[k]?
 size:w'.heap.size=w.heap.size
 below:∀B w0,Below B w0 w→B≤b→Below B w0 w'
theorem Og {w:World}{b:Nat}{C V:Array Value}{T:TypeId}(h:w.heap[b]? =some (.cells C T (0,0))) (hC:C.size=18) (hV:V.size=18) (h1:V.toList.all (·.oneCell')=true):
 ∃w',(Instr.storeAt 31 (.pointer (some ⟨b,0,none⟩)) (.agg V)).run prog w= .ok () w' ∧Wrote w b V T w' :=by
 have ht:w.there b 0 V.size:=by
  intro j hj;refine ⟨?_,aj h _⟩;rw [au h,Nat.zero_add,Array.getElem?_eq_getElem (by omega)];rfl
 refine ⟨w.setCells b 0 V.toList,run_storeAt_mid w b 0 _ V ht (by rw [hV];exact Tryz.vW) (by rw [←Array.all_toList];exact h1), ?_⟩;obtain ⟨C',e1,e2⟩:=wm V.toList 0 w C h;obtain ⟨r1,r2,r3⟩:=tV (b:=b) V.toList 0 w;have hs:=World.rangeAt_setCells_same w b 0 V.toList (by simpa using ht)
 have:C' =V:=by
  apply Array.ext_getElem?;intro j;by_cases hj:j<V.size
  · have:=hs j V[j] (by simp [Array.getElem?_eq_getElem hj]);rw [au e1,Nat.zero_add]at this;rw [this,Array.getElem?_eq_getElem hj]
  · rw [Array.getElem?_eq_none (by omega),Array.getElem?_eq_none (by omega)]
 subst this;exact ⟨e1,r1,r2,r3⟩
theorem bH {ops:Array Oper}{rest:List Oper}{op:Oper}{a:Act}{w:World}{Q:Exit→Act→World→Prop}{b:Nat}{C V:Array Value}{T:TypeId}(hgd:op.guard=none) (x y:Operand) (ho:op.op= .store 31 x y)
 (hx:a.eval x= .pointer (some ⟨b,0,none⟩)) (hy:a.eval y= .agg V) (hw:w.heap[b]? =some (.cells C T (0,0))) (hC:C.size=18) (hV:V.size=18) (h1:V.toList.all (·.oneCell')=true)
 (h:∀w',Wrote w b V T w' →wpList prog ops Q rest (a.put op.dst undef) w'):wpList prog ops Q (op::rest) a w:=by
 obtain ⟨w',h2,h3⟩:=Og hw hC hV h1;refine wpList_plain hgd fun K hK=> ?_
 unfold Oper.wp execOp;simp only [ho,hx,hy,Sem.run_bind,h2,Result.andThen_ok,Sem.run_pure];exact hK _ _ (h w' h3)
theorem eX.one {w:World}{base:Nat}{x:Sx}{tc c s wv:Value}(h:eX w base x tc c s wv):(aG x tc c s wv ak).toList.all (·.oneCell')=true:=by
 obtain ⟨_,_,htc,_⟩:=aY h.1;obtain ⟨_,_,hc',_⟩:=aY h.2.1;obtain ⟨_,_,hs',_⟩:=aY h.2.2.1;obtain ⟨_,_,hw',_⟩:=aY h.2.2.2;rw [htc,hc',hs',hw'];rfl
theorem abg {w:World}(x:Sx) (tc c s wv:Value) (hone:(aG x tc c s wv ak).toList.all (·.oneCell')=true):
 Calls prog 206 #[.agg (aG x tc c s wv ak)] w fun e w' =>e= .returned (.agg (aG x tc c s wv ak))∧Below w.heap.size w w' :=by
 have hsz:=av w (.cells (aG x tc c s wv ak) 133);have hb1:(w.alloc (.cells (aG x tc c s wv ak) 133)).heap[w.heap.size]? =some (.cells (aG x tc c s wv ak) 133 (0,0)):=aA w _;have hb2:((w.alloc (.cells (aG x tc c s wv ak) 133)).alloc (.cells bf 31)).heap[w.heap.size]? =some (.cells (aG x tc c s wv ak) 133 (0,0)):=aC hb1 _;have hB:Below w.heap.size w ((w.alloc (.cells (aG x tc c s wv ak) 133)).alloc (.cells (aG x tc c s wv ak) 31)):=((Below.refl _ w).alloc (Nat.le_refl _) _).alloc (by rw [hsz];omega) _
 have hb3:((w.alloc (.cells (aG x tc c s wv ak) 133)).alloc (.cells (aG x tc c s wv ak) 31)).heap[w.heap.size+1]? =some (.cells (aG x tc c s wv ak) 31 (0,0)):=by
  have:=aA (w.alloc (.cells (aG x tc c s wv ak) 133)) (.cells (aG x tc c s wv ak) 31);rw [hsz]at this;exact this
 go_enter func206,ntmps206;go_wp2_with (first|refine aT rfl _ rfl rfl rfl hb2 ?_|refine fA rfl _ _ rfl hsz.symm rfl rfl rfl hone ?_);refine bodyPost_ret (bQ rfl rfl (jO hb3 rfl)) rfl ?_;exact ⟨rfl,hB⟩
theorem Tryz.afS:X0 prog 29 31 (.agg bf) 18 272:=DC underlying29 (by kernel_rfl) rfl (by decide)
theorem afT (V:Array Value) (w:World):(Instr.typeAssert (.iface 133 (.agg V)) 47 133 false).run prog w= .ok (.agg V) w:=by kernel_rfl
def nH (L:List Pv):List Value:=L.flatMap fun p=>p.arr.toList
theorem adN (v0 v1 v2 v3 v4 v5 v6 v7 v8 v9 v10 v11 v12 v13 v14 v15 v16 v17:Value) (w:World):(Instr.field 133 (.agg #[v0,v1,v2,v3,v4,v5,v6,v7,v8,v9,v10,v11,v12,v13,v14,v15,v16,v17]) 0).run prog w= .ok (.agg #[v0,v1,v2,v3,v4,v5,v6,v7,v8,v9,v10,v11,v12,v13,v14,v15,v16,v17]) w:=by kernel_rfl
theorem fC {w w' :World}{base:Nat}{e:TypeId}{size n:Nat}{u:Value}{xs:List Value}(h:w.ownsRow base e size u n xs) (hb:Below w.heap.size w w'):w'.ownsRow base e size u n xs:=by
 obtain ⟨h1,h2⟩:=h;refine ⟨h1, ?_⟩;rcases h2 with h2|⟨g,cap,cur,a,b,c,d⟩
 · exact .inl h2
 · refine .inr ⟨g,cap,cur,a,b, ?_,d⟩;rw [hb.block g (aD c)];exact c
theorem YS {w:World}{base bx:Nat}{e:TypeId}{size n:Nat}{u:Value}{xs:List Value}(h:w.ownsRow base e size u n xs) (hx:bx<base) (o:Nat) (v:Value):(w.setCell ⟨bx,o,none⟩ v).ownsRow base e size u n xs:=by
 obtain ⟨h1,h2⟩:=h;refine ⟨h1, ?_⟩;rcases h2 with h2|⟨g,cap,cur,a,b,c,d⟩
 · exact .inl h2
 · exact .inr ⟨g,cap,cur,a,b,bN c _ _ (by show g≠bx;omega),d⟩
theorem QH {L:List Pv}{j:Nat}(h:j<L.length):nH (L.take (j+1))=nH (L.take j)++(L[j]).arr.toList:=by
 unfold nH;rw [List.take_succ_eq_append_getElem h,List.flatMap_append];simp
theorem Oh {L:List Pv}{j:Nat}{q:Pv}(h:L[j]? =some q):nH (L.take (j+1))=nH (L.take j)++q.arr.toList:=by
 obtain ⟨hj,rfl⟩:=List.getElem?_eq_some_iff.1 h;exact QH hj
theorem fO.one {w:World}{base:Nat}{L:List Pv}(h:fO w base L) {p:Pv}(hp:p∈L):p.arr.toList.all (·.oneCell')=true:=(h p hp).one
theorem abh {w:World}{base:Nat}{L:List Pv}{a:Option Addr}{cap:Nat}(hL:L.length≤1000) (hr:w.ownsRow base 47 1 (.slice a L.length cap) L.length (L.map Pv.val)) (hp:fO w base L):
 Calls prog 207 #[.agg #[.slice a L.length cap]] w fun e w' =>∃(a3:Option Addr) (c3:Nat),e= .returned (.agg (aG {Sx.zero with kind:=9} ak ak ak ak (.slice a3 L.length c3)))∧Below w.heap.size w w' ∧w'.ownsRow w.heap.size 31 18 (.slice a3 L.length c3) L.length (nH L):=by
 have hs1:=av w (.cells #[.slice a L.length cap] 138);have hs2:=av (w.alloc (.cells #[.slice a L.length cap] 138)) (.cells bf 31);rw [hs1]at hs2;have hB:=Lv 9;have g0:(w.alloc (.cells #[.slice a L.length cap] 138)).heap[w.heap.size]? =some (.cells #[.slice a L.length cap] 138 (0,0)):=aA w _;have g1:=aA (w.alloc (.cells #[.slice a L.length cap] 138)) (.cells bf 31);rw [hs1]at g1;have g2:=aA ((w.alloc (.cells #[.slice a L.length cap] 138)).alloc (.cells bf 31)) (.cells (aG {Sx.zero with kind:=9} ak ak ak ak ak) 31);rw [hs2]at g2;have g1' :=aC g1 (.cells (aG {Sx.zero with kind:=9} ak ak ak ak ak) 31);have g0' :=aC (aC g0 (.cells bf 31)) (.cells (aG {Sx.zero with kind:=9} ak ak ak ak ak) 31);have c0:(((w.alloc (.cells #[.slice a L.length cap] 138)).alloc (.cells bf 31)).alloc (.cells (aG {Sx.zero with kind:=9} ak ak ak ak ak) 31)).cell? ⟨w.heap.size,0,none⟩=some (.slice a L.length cap):=by rw [au g0'];rfl
 have hBw:Below w.heap.size w (((w.alloc (.cells #[.slice a L.length cap] 138)).alloc (.cells bf 31)).alloc (.cells (aG {Sx.zero with kind:=9} ak ak ak ak ak) 31)):=(((Below.refl _ w).alloc (Nat.le_refl _) _).alloc (by rw [hs1];omega) _).alloc (by rw [hs2];omega) _;have afU:w.heap.size+3≤(((w.alloc (.cells #[.slice a L.length cap] 138)).alloc (.cells bf 31)).alloc (.cells (aG {Sx.zero with kind:=9} ak ak ak ak ak) 31)).heap.size:=by rw [av,hs2];omega
 go_enter func207,ntmps207;go_wp2_with (refine fA rfl _ _ rfl hs2.symm rfl rfl rfl rfl ?_)
 go_loopw [5,10] (fun _ i wr=>∃(j:Nat) (a3:Option Addr) (c3:Nat),i= .int .i64 j∧j≤L.length∧Below w.heap.size w wr∧w.heap.size+3≤wr.heap.size∧wr.heap[w.heap.size+2]? =some (.cells (aG {Sx.zero with kind:=9} ak ak ak ak (.slice a3 j c3)) 31 (0,0))∧wr.heap[w.heap.size+1]? =some (.cells bf 31 (0,0))∧wr.ownsRow (w.heap.size+3) 31 18 (.slice a3 j c3) j (nH (L.take j))) (fun _ i _=>L.length - (intOf i).toNat)
 case atStart=>exact ⟨0,none,0,rfl,Nat.zero_le _,hBw,afU,g2,g1',World.ownsRow_nil _ _ _ _⟩
 case round=>
  clear hs1 hs2 hB g0 g1 g2 g1' g0' c0 hBw afU;obtain ⟨j,a3,c3,rfl,hj,hBr,hsz,hb2,hb1,hr3⟩:=hrel;by_cases hjl:j<L.length
  · have p0:(j:Int)<(L.length:Int):=by omega
    have p1:(0:Int)≤(j:Int):=by omega
    have HJ:=Lib.hid (show j+1≤L.length from hjl);obtain ⟨_,_,hsl,hgx⟩:=aY hr;cases hsl;obtain ⟨g,rfl,_,hgl,_⟩:=hgx (by omega);obtain ⟨q,hq⟩:∃q,L[j]? =some q:=⟨_,List.getElem?_eq_getElem hjl⟩;have k0:=aS (fC hr hBr) j q.val (by rw [List.getElem?_map,hq];rfl);have hone:=hp.one (List.mem_of_getElem? hq);have HF:=Lib.hid (Oh hq);clear hq;obtain ⟨x,tc,c,s,wv⟩:=q;replace k0:wr.cell? ⟨g,j,none⟩=some (.iface 133 (.agg (aG x tc c s wv ak))):=k0;have hTA:=afT;have hFC:=adN;have y17:=(aK hb2).2.2.2.2.2.2.2.2.2.2.2.2.2.2.2.2.2;have u17:=aj hb2 17;have z2:=aD hb2;have zk:=dZ k0;have HO:Hid (∀u∈([.int .i64 x.kind, .string x.name, .string x.bT, .string x.on, .string x.bG, .int .i64 x.tid, .string x.part.name, .int .i64 x.part.ty, .string x.aX.name, .int .i64 x.aX.ty,tc,c,s,wv, .int .i64 x.stamp, .int .i64 x.ttl, .int .i64 x.limit,ak]:List Value),u.oneCell' =true):=fun u hu=>(List.all_eq_true.1 hone) u hu
    clear hone;go_wp2_with fail
    go_region_law (first|(refine fM Tryz.afS rfl _ _ rfl (w.heap.size+3) _ _ _ rfl (hr3.alloc _) _ _ [.int .i64 x.kind, .string x.name, .string x.bT, .string x.on, .string x.bG, .int .i64 x.tid, .string x.part.name, .int .i64 x.part.ty, .string x.aX.name, .int .i64 x.aX.ty,tc,c,s,wv, .int .i64 x.stamp, .int .i64 x.ttl, .int .i64 x.limit,ak] rfl rfl (fun j u hj=>by rw [iG,Nat.zero_add];exact bg _ _ _ j u hj) HO.out (by have:=HJ.out;omega) (by simp;omega) ?_;intro g3 jm w3 h3 hg3 wU hl3;have hb3:w3.heap[w.heap.size+2]? =some (.cells (aG {Sx.zero with kind:=9} ak ak ak ak (.slice a3 j c3)) 31 (0,0)):=(hg3.block _ (aD (aC hb2 _)) (fun e=>by have:=(hr3.lt _ e.symm).1;omega)).trans (aC hb2 _);have y3:=(aK hb3).2.2.2.2.2.2.2.2.2.2.2.2.2.2.2.2.2;have u3:=aj hb3 17))
    all_goals
     have hg4:(wr.alloc (.cells #[.int .i64 x.kind, .string x.name, .string x.bT, .string x.on, .string x.bG, .int .i64 x.tid, .string x.part.name, .int .i64 x.part.ty, .string x.aX.name, .int .i64 x.aX.ty,tc,c,s,wv, .int .i64 x.stamp, .int .i64 x.ttl, .int .i64 x.limit,ak] 31)).grownBy w3 (Value.slice a3 j c3).ownBlock:=⟨hg3.os,hg3.tape,hg3.output,hg3.size,hg3.block⟩;have hbb:w3.heap[w.heap.size+1]? =some (.cells bf 31 (0,0)):=(hg4.block _ (aD (aC hb1 _)) (fun e=>by have:=(hr3.lt _ e.symm).1;omega)).trans (aC hb1 _);have hB3:Below w.heap.size w w3:=below_app (hBr.alloc (Nat.le_trans (Nat.le_add_right _ _) hsz) _) (by rw [av];omega) hg4 (fun g2 hg2=>by have:=(hr3.lt g2 hg2).1;omega);have hs3:w.heap.size+3≤w3.heap.size:=Nat.le_trans hsz (by have:=hg4.size;rw [av]at this;omega);have hb4:(w3.setCell ⟨w.heap.size+2,17,none⟩ (.slice (some ⟨g3,0,none⟩) (j+1) jm)).heap[w.heap.size+2]? =some (.cells (aG {Sx.zero with kind:=9} ak ak ak ak (.slice (some ⟨g3,0,none⟩) (j+1) jm)) 31 (0,0)):=by rw [dB hb3 17 _];rfl
     have hb5:=bN hbb ⟨w.heap.size+2,17,none⟩ (.slice (some ⟨g3,0,none⟩) (j+1) jm) (by show w.heap.size+1≠w.heap.size+2;omega);have h4:=YS h3 (by omega:w.heap.size+2<w.heap.size+3) 17 (.slice (some ⟨g3,0,none⟩) (j+1) jm);have hB4:=hB3.setCell (p:=⟨w.heap.size+2,17,none⟩) (by show w.heap.size≤w.heap.size+2;omega) (.slice (some ⟨g3,0,none⟩) (j+1) jm);go_wp2_with fail;go_roundw
     case rel=>exact ⟨j+1,some ⟨g3,0,none⟩,jm,by go_num,HJ.out,hB4,by rw [bO];exact hs3,hb4,hb5,by rw [HF.out];exact h4⟩
     case measure=>have hjj:=HJ.out;simp [intOf];omega
  · have mF:j=L.length:=by omega
    subst mF;rw [List.take_length]at hr3;have hs0:(Value.slice a3 L.length c3).oneCell' =true:=rfl;go_wp2_with (first|refine aT rfl _ rfl rfl rfl hb2 ?_|(refine bH rfl _ _ rfl rfl rfl hb1 rfl rfl rfl ?_;intro w9 Oi));refine bodyPost_ret (bQ rfl rfl (jO Oi.blk rfl)) rfl ?_;refine ⟨a3,c3,rfl,Oi.below _ _ hBr (by omega), ?_⟩;obtain ⟨q1,q2⟩:=aR hr3 (by omega:w.heap.size≤w.heap.size+3);refine ⟨q1, ?_⟩;have hlt:=hr3.lt;rcases q2 with q2|⟨g,cap',cur,e1,e2,e3,e4⟩
    · exact .inl q2
    · refine .inr ⟨g,cap',cur,e1,e2, ?_,e4⟩;rw [Oi.rest g (by have:=(hlt g (by rw [e1];rfl)).1;omega)];exact e3
end Go.Proofs.YtcgadodckoalnaaGreatDoor
