/- Parts of the proof, joined: PrsP PrsQ PrsR PrsT PlainQ PlainR PlainPB. -/
import Derived.Deep.MidRow
import Derived.Test.YtfbgdjcnlnfoaaaGreatDoorB01
import Derived.Test.YtfbgdjcnlnfoaaaGreatDoorB02
import Derived.Test.YtfbgdjcnlnfoaaaGreatDoorB03
import Derived.Test.YtfbgdjcnlnfoaaaGreatDoorB05
set_option maxHeartbeats 8000000
set_option maxRecDepth 100000
namespace Go.Proofs.YtfbgdjcnlnfoaaaGreatDoor
open Go.RowKit
open aH
theorem QD (w:World):(Instr.build 124 #[]).run Tryz.prog w= .ok (.agg #[.int .i64 0, .string ⟨#[]⟩, .string ⟨#[]⟩, .string ⟨#[]⟩, .string ⟨#[]⟩, .int .i64 0, .string ⟨#[]⟩, .int .i64 0, .string ⟨#[]⟩, .int .i64 0, .slice none 0 0, .slice none 0 0, .slice none 0 0, .slice none 0 0, .int .i64 0, .int .i64 0, .int .i64 0, .slice none 0 0]) w:=by kernel_rfl
theorem fK.from {K:PK}{w0 w w' :World}{T:TypeId}{x:Sx}{σ σ' :Ps}{e:Ending}(hD:Did K w0 σ w) (h:fK K w T x σ' e w'):fK K w0 T x σ' e w' :=by
 obtain ⟨tc,c,s,wv,he,hd,hr⟩:=h
 exact ⟨tc,c,s,wv,he,hD.trans hd,hr.mono hD.size⟩
theorem pQ {K:PK}{w:World}{T:TypeId}{x:Sx}{σ:Ps}{e:Ending}{w' :World}(h:fK K w T x σ e w'):∃v,e= .returned v∧fK K w T x σ (.returned v) w' :=by
 obtain ⟨tc,c,s,wv,rfl,hd,hr⟩:=h
 exact ⟨_,rfl,tc,c,s,wv,rfl,hd,hr⟩
theorem Gu {K:PK}{w0 w w' :World}{l:List Sx}{σ σ' :Ps}{e:Ending}(hD:Did K w0 σ w) (h:mE K w (.batch l) σ' e w'):mE K w0 (.batch l) σ' e w' :=by
 obtain ⟨L,a,cap,hL,he,hd,hr,hp⟩:=h
 exact ⟨L,a,cap,hL,he,hD.trans hd,bF hr hD.size,fun p hp' =>(hp p hp').mono hD.size⟩
theorem MZ {K:PK}{w:World}{l:List Sx}{σ:Ps}{e:Ending}{w' :World}(h:mE K w (.batch l) σ e w'):∃v,e= .returned v∧mE K w (.batch l) σ (.returned v) w' :=by
 obtain ⟨L,a,cap,hL,rfl,hd,hr,hp⟩:=h
 exact ⟨_,rfl,L,a,cap,hL,rfl,hd,hr,hp⟩
theorem jC {K:PK}:∀(n:Nat) {w:World}{σ:Ps},PQ K w σ→K.X.T.length - σ.i<n→
 Calls Tryz.prog 37 #[.pointer (some ⟨K.b,0,none⟩)] w (mE K w (K.X.iq n σ).1 (K.X.iq n σ).2):=by
 intro n
 induction n with
 |zero=>intro w σ _ hlt;exact absurd hlt (by omega)
 |succ n ih=>
 intro w σ h hlt
 have hle:=h.le
 have hD0:=Did.refl h
 cases dN:K.X.sees σ (⟨#[105,110,115,101,114,116]⟩:ByteArray)with
 |true=>
  have HE:Hid (K.X.iq (n+1) σ=(.change (K.X.insert σ.step).1,(K.X.insert σ.step).2)):=by show _=_;rw [Tx.iq];simp only [dN,if_true]
  clear ih
  go_enter Tryz.func37,Tryz.ntmps37
  have hm1:=aS hD0.1 (⟨#[105,110,115,101,114,116]⟩:ByteArray)
  unfold Tx.may at hm1
  rw [dN,if_pos rfl]at hm1
  go_wp2_with fail
  refine hm1.mono ?_;rintro e w1 ⟨rfl,hd1⟩
  have hD1:=hD0.trans hd1
  have hc:=Jy hD1.1
  go_wp2_with fail
  refine hc.mono ?_;intro e wz hz
  replace hz:=fK.from hD1 hz
  obtain ⟨v,rfl,hz⟩:=pQ hz
  go_wp2_with fail
  go_ret
  rw [HE.out]
  exact hz
 |false=>
  cases eB:K.X.sees σ (⟨#[117,112,100,97,116,101]⟩:ByteArray)with
  |true=>
   have HE:Hid (K.X.iq (n+1) σ=(.change (K.X.update σ.step).1,(K.X.update σ.step).2)):=by show _=_;rw [Tx.iq];simp only [dN,eB,if_true,Bool.false_eq_true,if_false]
   clear ih
   go_enter Tryz.func37,Tryz.ntmps37
   have hm1:=aS hD0.1 (⟨#[105,110,115,101,114,116]⟩:ByteArray)
   unfold Tx.may at hm1
   rw [dN,if_neg (by decide)]at hm1
   go_wp2_with fail
   refine hm1.mono ?_;rintro e w1 ⟨rfl,hd1⟩
   have hD1:=hD0.trans hd1
   have hm2:=aS hD1.1 (⟨#[117,112,100,97,116,101]⟩:ByteArray)
   unfold Tx.may at hm2
   rw [eB,if_pos rfl]at hm2
   go_wp2_with fail
   refine hm2.mono ?_;rintro e w2 ⟨rfl,hd2⟩
   have hD2:=hD1.trans hd2
   have hc:=Jz hD2.1
   go_wp2_with fail
   refine hc.mono ?_;intro e wz hz
   replace hz:=fK.from hD2 hz
   obtain ⟨v,rfl,hz⟩:=pQ hz
   go_wp2_with fail
   go_ret
   rw [HE.out]
   exact hz
  |false=>
   cases fA:K.X.sees σ (⟨#[100,101,108,101,116,101]⟩:ByteArray)with
   |true=>
    have HE:Hid (K.X.iq (n+1) σ=(.change (K.X.remove σ.step).1,(K.X.remove σ.step).2)):=by show _=_;rw [Tx.iq];simp only [dN,eB,fA,if_true,Bool.false_eq_true,if_false]
    clear ih
    go_enter Tryz.func37,Tryz.ntmps37
    have hm1:=aS hD0.1 (⟨#[105,110,115,101,114,116]⟩:ByteArray)
    unfold Tx.may at hm1
    rw [dN,if_neg (by decide)]at hm1
    go_wp2_with fail
    refine hm1.mono ?_;rintro e w1 ⟨rfl,hd1⟩
    have hD1:=hD0.trans hd1
    have hm2:=aS hD1.1 (⟨#[117,112,100,97,116,101]⟩:ByteArray)
    unfold Tx.may at hm2
    rw [eB,if_neg (by decide)]at hm2
    go_wp2_with fail
    refine hm2.mono ?_;rintro e w2 ⟨rfl,hd2⟩
    have hD2:=hD1.trans hd2
    have jS:=aS hD2.1 (⟨#[100,101,108,101,116,101]⟩:ByteArray)
    unfold Tx.may at jS
    rw [fA,if_pos rfl]at jS
    go_wp2_with fail
    refine jS.mono ?_;rintro e w3 ⟨rfl,hd3⟩
    have hD3:=hD2.trans hd3
    have hc:=Jv hD3.1
    go_wp2_with fail
    refine hc.mono ?_;intro e wz hz
    replace hz:=fK.from hD3 hz
    obtain ⟨v,rfl,hz⟩:=pQ hz
    go_wp2_with fail
    go_ret
    rw [HE.out]
    exact hz
   |false=>
    cases gD:K.X.sees σ (⟨#[115,101,108,101,99,116]⟩:ByteArray)with
    |true=>
     have HE:Hid (K.X.iq (n+1) σ=(.plain (K.X.ask σ.step).1,(K.X.ask σ.step).2)):=by show _=_;rw [Tx.iq];simp only [dN,eB,fA,gD,if_true,Bool.false_eq_true,if_false]
     clear ih
     go_enter Tryz.func37,Tryz.ntmps37
     have hm1:=aS hD0.1 (⟨#[105,110,115,101,114,116]⟩:ByteArray)
     unfold Tx.may at hm1
     rw [dN,if_neg (by decide)]at hm1
     go_wp2_with fail
     refine hm1.mono ?_;rintro e w1 ⟨rfl,hd1⟩
     have hD1:=hD0.trans hd1
     have hm2:=aS hD1.1 (⟨#[117,112,100,97,116,101]⟩:ByteArray)
     unfold Tx.may at hm2
     rw [eB,if_neg (by decide)]at hm2
     go_wp2_with fail
     refine hm2.mono ?_;rintro e w2 ⟨rfl,hd2⟩
     have hD2:=hD1.trans hd2
     have jS:=aS hD2.1 (⟨#[100,101,108,101,116,101]⟩:ByteArray)
     unfold Tx.may at jS
     rw [fA,if_neg (by decide)]at jS
     go_wp2_with fail
     refine jS.mono ?_;rintro e w3 ⟨rfl,hd3⟩
     have hD3:=hD2.trans hd3
     have kI:=aS hD3.1 (⟨#[115,101,108,101,99,116]⟩:ByteArray)
     unfold Tx.may at kI
     rw [gD,if_pos rfl]at kI
     go_wp2_with fail
     refine kI.mono ?_;rintro e w4 ⟨rfl,hd4⟩
     have hD4:=hD3.trans hd4
     have hc:=TN hD4.1
     go_wp2_with fail
     refine hc.mono ?_;intro e wz hz
     replace hz:=fK.from hD4 hz
     obtain ⟨v,rfl,hz⟩:=pQ hz
     go_wp2_with fail
     go_ret
     rw [HE.out]
     exact hz
    |false=>
     cases iP:K.X.sees σ (⟨#[98,101,103,105,110]⟩:ByteArray)with
     |true=>
      have HE:Hid (K.X.iq (n+1) σ=(.batch (K.X.many (K.X.iq n) σ.step).1,(K.X.many (K.X.iq n) σ.step).2)):=by show _=_;rw [Tx.iq];simp only [dN,eB,fA,gD,iP,if_true,Bool.false_eq_true,if_false]
      have hbl:=(vD iP).1
      have hln:K.X.T.length - σ.step.i<n:=by show K.X.T.length - (σ.i+1)<n;omega
      go_enter Tryz.func37,Tryz.ntmps37
      have hm1:=aS hD0.1 (⟨#[105,110,115,101,114,116]⟩:ByteArray)
      unfold Tx.may at hm1
      rw [dN,if_neg (by decide)]at hm1
      go_wp2_with fail
      refine hm1.mono ?_;rintro e w1 ⟨rfl,hd1⟩
      have hD1:=hD0.trans hd1
      have hm2:=aS hD1.1 (⟨#[117,112,100,97,116,101]⟩:ByteArray)
      unfold Tx.may at hm2
      rw [eB,if_neg (by decide)]at hm2
      go_wp2_with fail
      refine hm2.mono ?_;rintro e w2 ⟨rfl,hd2⟩
      have hD2:=hD1.trans hd2
      have jS:=aS hD2.1 (⟨#[100,101,108,101,116,101]⟩:ByteArray)
      unfold Tx.may at jS
      rw [fA,if_neg (by decide)]at jS
      go_wp2_with fail
      refine jS.mono ?_;rintro e w3 ⟨rfl,hd3⟩
      have hD3:=hD2.trans hd3
      have kI:=aS hD3.1 (⟨#[115,101,108,101,99,116]⟩:ByteArray)
      unfold Tx.may at kI
      rw [gD,if_neg (by decide)]at kI
      go_wp2_with fail
      refine kI.mono ?_;rintro e w4 ⟨rfl,hd4⟩
      have hD4:=hD3.trans hd4
      have l9:=aS hD4.1 (⟨#[98,101,103,105,110]⟩:ByteArray)
      unfold Tx.may at l9
      rw [iP,if_pos rfl]at l9
      go_wp2_with fail
      refine l9.mono ?_;rintro e w5 ⟨rfl,hd5⟩
      have hD5:=hD4.trans hd5
      have hc:=QA (fun hw hl=>ih hw hl) hD5.1 hln
      go_wp2_with fail
      refine hc.mono ?_;intro e wz hz
      replace hz:=Gu hD5 hz
      obtain ⟨v,rfl,hz⟩:=MZ hz
      go_wp2_with fail
      go_ret
      rw [HE.out]
      exact hz
     |false=>
      cases kX:K.X.sees σ (⟨#[100,114,111,112]⟩:ByteArray)with
      |true=>
       obtain ⟨⟨x,σx⟩,hx⟩:∃r,K.X.name σ.step=r:=⟨_,rfl⟩
       have HE:Hid (K.X.iq (n+1) σ=(.plain {Sx.zero with kind:=4,name:=x},σx)):=by show _=_;rw [Tx.iq];simp only [dN,eB,fA,gD,iP,kX,if_true,Bool.false_eq_true,if_false,hx]
       clear ih
       go_enter Tryz.func37,Tryz.ntmps37
       have hm1:=aS hD0.1 (⟨#[105,110,115,101,114,116]⟩:ByteArray)
       unfold Tx.may at hm1
       rw [dN,if_neg (by decide)]at hm1
       go_wp2_with fail
       refine hm1.mono ?_;rintro e w1 ⟨rfl,hd1⟩
       have hD1:=hD0.trans hd1
       have hm2:=aS hD1.1 (⟨#[117,112,100,97,116,101]⟩:ByteArray)
       unfold Tx.may at hm2
       rw [eB,if_neg (by decide)]at hm2
       go_wp2_with fail
       refine hm2.mono ?_;rintro e w2 ⟨rfl,hd2⟩
       have hD2:=hD1.trans hd2
       have jS:=aS hD2.1 (⟨#[100,101,108,101,116,101]⟩:ByteArray)
       unfold Tx.may at jS
       rw [fA,if_neg (by decide)]at jS
       go_wp2_with fail
       refine jS.mono ?_;rintro e w3 ⟨rfl,hd3⟩
       have hD3:=hD2.trans hd3
       have kI:=aS hD3.1 (⟨#[115,101,108,101,99,116]⟩:ByteArray)
       unfold Tx.may at kI
       rw [gD,if_neg (by decide)]at kI
       go_wp2_with fail
       refine kI.mono ?_;rintro e w4 ⟨rfl,hd4⟩
       have hD4:=hD3.trans hd4
       have l9:=aS hD4.1 (⟨#[98,101,103,105,110]⟩:ByteArray)
       unfold Tx.may at l9
       rw [iP,if_neg (by decide)]at l9
       go_wp2_with fail
       refine l9.mono ?_;rintro e w5 ⟨rfl,hd5⟩
       have hD5:=hD4.trans hd5
       have om:=aS hD5.1 (⟨#[100,114,111,112]⟩:ByteArray)
       unfold Tx.may at om
       rw [kX,if_pos rfl]at om
       go_wp2_with fail
       refine om.mono ?_;rintro e w6 ⟨rfl,hd6⟩
       have hD6:=hD5.trans hd6
       have hc:=eT hD6.1
       rw [hx]at hc
       go_wp2_with fail
       refine hc.mono ?_;rintro e wz ⟨rfl,hz⟩
       have hDz:=hD6.trans hz
       have hB0:=vK 4 x
       have hBx:=mg
       have Jo:=qV
       go_wp2_with fail
       go_ret
       rw [HE.out]
       exact ⟨ak,ak,ak,ak,rfl,hDz,lX _ _ _ rfl rfl rfl rfl⟩
      |false=>
       cases jP:K.X.sees σ (⟨#[99,114,101,97,116,101]⟩:ByteArray)with
       |true=>
        cases ow:K.X.sees σ.step (⟨#[116,97,98,108,101]⟩:ByteArray)with
        |true=>
         have HE:Hid (K.X.iq (n+1) σ=(.plain (K.X.table σ.step.step).1,(K.X.table σ.step.step).2)):=by show _=_;rw [Tx.iq];simp only [dN,eB,fA,gD,iP,kX,jP,ow,if_true,Bool.false_eq_true,if_false]
         clear ih
         go_enter Tryz.func37,Tryz.ntmps37
         have hm1:=aS hD0.1 (⟨#[105,110,115,101,114,116]⟩:ByteArray)
         unfold Tx.may at hm1
         rw [dN,if_neg (by decide)]at hm1
         go_wp2_with fail
         refine hm1.mono ?_;rintro e w1 ⟨rfl,hd1⟩
         have hD1:=hD0.trans hd1
         have hm2:=aS hD1.1 (⟨#[117,112,100,97,116,101]⟩:ByteArray)
         unfold Tx.may at hm2
         rw [eB,if_neg (by decide)]at hm2
         go_wp2_with fail
         refine hm2.mono ?_;rintro e w2 ⟨rfl,hd2⟩
         have hD2:=hD1.trans hd2
         have jS:=aS hD2.1 (⟨#[100,101,108,101,116,101]⟩:ByteArray)
         unfold Tx.may at jS
         rw [fA,if_neg (by decide)]at jS
         go_wp2_with fail
         refine jS.mono ?_;rintro e w3 ⟨rfl,hd3⟩
         have hD3:=hD2.trans hd3
         have kI:=aS hD3.1 (⟨#[115,101,108,101,99,116]⟩:ByteArray)
         unfold Tx.may at kI
         rw [gD,if_neg (by decide)]at kI
         go_wp2_with fail
         refine kI.mono ?_;rintro e w4 ⟨rfl,hd4⟩
         have hD4:=hD3.trans hd4
         have l9:=aS hD4.1 (⟨#[98,101,103,105,110]⟩:ByteArray)
         unfold Tx.may at l9
         rw [iP,if_neg (by decide)]at l9
         go_wp2_with fail
         refine l9.mono ?_;rintro e w5 ⟨rfl,hd5⟩
         have hD5:=hD4.trans hd5
         have om:=aS hD5.1 (⟨#[100,114,111,112]⟩:ByteArray)
         unfold Tx.may at om
         rw [kX,if_neg (by decide)]at om
         go_wp2_with fail
         refine om.mono ?_;rintro e w6 ⟨rfl,hd6⟩
         have hD6:=hD5.trans hd6
         have uR:=aS hD6.1 (⟨#[99,114,101,97,116,101]⟩:ByteArray)
         unfold Tx.may at uR
         rw [jP,if_pos rfl]at uR
         go_wp2_with fail
         refine uR.mono ?_;rintro e w7 ⟨rfl,hd7⟩
         have hD7:=hD6.trans hd7
         have tJ:=aS hD7.1 (⟨#[116,97,98,108,101]⟩:ByteArray)
         unfold Tx.may at tJ
         rw [ow,if_pos rfl]at tJ
         go_wp2_with fail
         refine tJ.mono ?_;rintro e w8 ⟨rfl,yK⟩
         have yL:=hD7.trans yK
         have hc:=MR yL.1
         go_wp2_with fail
         refine hc.mono ?_;intro e wz hz
         replace hz:=fK.from yL hz
         obtain ⟨v,rfl,hz⟩:=pQ hz
         go_wp2_with fail
         go_ret
         rw [HE.out]
         exact hz
        |false=>
         cases jJ:K.X.sees σ.step (⟨#[109,97,116,101,114,105,97,108,105,122,101,100]⟩:ByteArray)with
         |true=>
          have HE:Hid (K.X.iq (n+1) σ=(.plain (K.X.view σ.step.step).1,(K.X.view σ.step.step).2)):=by show _=_;rw [Tx.iq];simp only [dN,eB,fA,gD,iP,kX,jP,ow,jJ,if_true,Bool.false_eq_true,if_false]
          clear ih
          go_enter Tryz.func37,Tryz.ntmps37
          have hm1:=aS hD0.1 (⟨#[105,110,115,101,114,116]⟩:ByteArray)
          unfold Tx.may at hm1
          rw [dN,if_neg (by decide)]at hm1
          go_wp2_with fail
          refine hm1.mono ?_;rintro e w1 ⟨rfl,hd1⟩
          have hD1:=hD0.trans hd1
          have hm2:=aS hD1.1 (⟨#[117,112,100,97,116,101]⟩:ByteArray)
          unfold Tx.may at hm2
          rw [eB,if_neg (by decide)]at hm2
          go_wp2_with fail
          refine hm2.mono ?_;rintro e w2 ⟨rfl,hd2⟩
          have hD2:=hD1.trans hd2
          have jS:=aS hD2.1 (⟨#[100,101,108,101,116,101]⟩:ByteArray)
          unfold Tx.may at jS
          rw [fA,if_neg (by decide)]at jS
          go_wp2_with fail
          refine jS.mono ?_;rintro e w3 ⟨rfl,hd3⟩
          have hD3:=hD2.trans hd3
          have kI:=aS hD3.1 (⟨#[115,101,108,101,99,116]⟩:ByteArray)
          unfold Tx.may at kI
          rw [gD,if_neg (by decide)]at kI
          go_wp2_with fail
          refine kI.mono ?_;rintro e w4 ⟨rfl,hd4⟩
          have hD4:=hD3.trans hd4
          have l9:=aS hD4.1 (⟨#[98,101,103,105,110]⟩:ByteArray)
          unfold Tx.may at l9
          rw [iP,if_neg (by decide)]at l9
          go_wp2_with fail
          refine l9.mono ?_;rintro e w5 ⟨rfl,hd5⟩
          have hD5:=hD4.trans hd5
          have om:=aS hD5.1 (⟨#[100,114,111,112]⟩:ByteArray)
          unfold Tx.may at om
          rw [kX,if_neg (by decide)]at om
          go_wp2_with fail
          refine om.mono ?_;rintro e w6 ⟨rfl,hd6⟩
          have hD6:=hD5.trans hd6
          have uR:=aS hD6.1 (⟨#[99,114,101,97,116,101]⟩:ByteArray)
          unfold Tx.may at uR
          rw [jP,if_pos rfl]at uR
          go_wp2_with fail
          refine uR.mono ?_;rintro e w7 ⟨rfl,hd7⟩
          have hD7:=hD6.trans hd7
          have tJ:=aS hD7.1 (⟨#[116,97,98,108,101]⟩:ByteArray)
          unfold Tx.may at tJ
          rw [ow,if_neg (by decide)]at tJ
          go_wp2_with fail
          refine tJ.mono ?_;rintro e w8 ⟨rfl,yK⟩
          have yL:=hD7.trans yK
          have Jq:=aS yL.1 (⟨#[109,97,116,101,114,105,97,108,105,122,101,100]⟩:ByteArray)
          unfold Tx.may at Jq
          rw [jJ,if_pos rfl]at Jq
          go_wp2_with fail
          refine Jq.mono ?_;rintro e w9 ⟨rfl,K4⟩
          have tK:=yL.trans K4
          have hc:=Qf tK.1
          go_wp2_with fail
          refine hc.mono ?_;intro e wz hz
          replace hz:=fK.from tK hz
          obtain ⟨v,rfl,hz⟩:=pQ hz
          go_wp2_with fail
          go_ret
          rw [HE.out]
          exact hz
         |false=>
          have HE:Hid (K.X.iq (n+1) σ=(.plain (K.X.index σ.step).1,(K.X.index σ.step).2)):=by show _=_;rw [Tx.iq];simp only [dN,eB,fA,gD,iP,kX,jP,ow,jJ,if_true,Bool.false_eq_true,if_false]
          clear ih
          go_enter Tryz.func37,Tryz.ntmps37
          have hm1:=aS hD0.1 (⟨#[105,110,115,101,114,116]⟩:ByteArray)
          unfold Tx.may at hm1
          rw [dN,if_neg (by decide)]at hm1
          go_wp2_with fail
          refine hm1.mono ?_;rintro e w1 ⟨rfl,hd1⟩
          have hD1:=hD0.trans hd1
          have hm2:=aS hD1.1 (⟨#[117,112,100,97,116,101]⟩:ByteArray)
          unfold Tx.may at hm2
          rw [eB,if_neg (by decide)]at hm2
          go_wp2_with fail
          refine hm2.mono ?_;rintro e w2 ⟨rfl,hd2⟩
          have hD2:=hD1.trans hd2
          have jS:=aS hD2.1 (⟨#[100,101,108,101,116,101]⟩:ByteArray)
          unfold Tx.may at jS
          rw [fA,if_neg (by decide)]at jS
          go_wp2_with fail
          refine jS.mono ?_;rintro e w3 ⟨rfl,hd3⟩
          have hD3:=hD2.trans hd3
          have kI:=aS hD3.1 (⟨#[115,101,108,101,99,116]⟩:ByteArray)
          unfold Tx.may at kI
          rw [gD,if_neg (by decide)]at kI
          go_wp2_with fail
          refine kI.mono ?_;rintro e w4 ⟨rfl,hd4⟩
          have hD4:=hD3.trans hd4
          have l9:=aS hD4.1 (⟨#[98,101,103,105,110]⟩:ByteArray)
          unfold Tx.may at l9
          rw [iP,if_neg (by decide)]at l9
          go_wp2_with fail
          refine l9.mono ?_;rintro e w5 ⟨rfl,hd5⟩
          have hD5:=hD4.trans hd5
          have om:=aS hD5.1 (⟨#[100,114,111,112]⟩:ByteArray)
          unfold Tx.may at om
          rw [kX,if_neg (by decide)]at om
          go_wp2_with fail
          refine om.mono ?_;rintro e w6 ⟨rfl,hd6⟩
          have hD6:=hD5.trans hd6
          have uR:=aS hD6.1 (⟨#[99,114,101,97,116,101]⟩:ByteArray)
          unfold Tx.may at uR
          rw [jP,if_pos rfl]at uR
          go_wp2_with fail
          refine uR.mono ?_;rintro e w7 ⟨rfl,hd7⟩
          have hD7:=hD6.trans hd7
          have tJ:=aS hD7.1 (⟨#[116,97,98,108,101]⟩:ByteArray)
          unfold Tx.may at tJ
          rw [ow,if_neg (by decide)]at tJ
          go_wp2_with fail
          refine tJ.mono ?_;rintro e w8 ⟨rfl,yK⟩
          have yL:=hD7.trans yK
          have Jq:=aS yL.1 (⟨#[109,97,116,101,114,105,97,108,105,122,101,100]⟩:ByteArray)
          unfold Tx.may at Jq
          rw [jJ,if_neg (by decide)]at Jq
          go_wp2_with fail
          refine Jq.mono ?_;rintro e w9 ⟨rfl,K4⟩
          have tK:=yL.trans K4
          have hc:=ML tK.1
          go_wp2_with fail
          refine hc.mono ?_;intro e wz hz
          replace hz:=fK.from tK hz
          obtain ⟨v,rfl,hz⟩:=pQ hz
          go_wp2_with fail
          go_ret
          rw [HE.out]
          exact hz
       |false=>
        have HE:Hid (K.X.iq (n+1) σ=(.plain Sx.zero,K.X.fail σ)):=by show _=_;rw [Tx.iq];simp only [dN,eB,fA,gD,iP,kX,jP,Bool.false_eq_true,if_false]
        clear ih
        go_enter Tryz.func37,Tryz.ntmps37
        have hm1:=aS hD0.1 (⟨#[105,110,115,101,114,116]⟩:ByteArray)
        unfold Tx.may at hm1
        rw [dN,if_neg (by decide)]at hm1
        go_wp2_with fail
        refine hm1.mono ?_;rintro e w1 ⟨rfl,hd1⟩
        have hD1:=hD0.trans hd1
        have hm2:=aS hD1.1 (⟨#[117,112,100,97,116,101]⟩:ByteArray)
        unfold Tx.may at hm2
        rw [eB,if_neg (by decide)]at hm2
        go_wp2_with fail
        refine hm2.mono ?_;rintro e w2 ⟨rfl,hd2⟩
        have hD2:=hD1.trans hd2
        have jS:=aS hD2.1 (⟨#[100,101,108,101,116,101]⟩:ByteArray)
        unfold Tx.may at jS
        rw [fA,if_neg (by decide)]at jS
        go_wp2_with fail
        refine jS.mono ?_;rintro e w3 ⟨rfl,hd3⟩
        have hD3:=hD2.trans hd3
        have kI:=aS hD3.1 (⟨#[115,101,108,101,99,116]⟩:ByteArray)
        unfold Tx.may at kI
        rw [gD,if_neg (by decide)]at kI
        go_wp2_with fail
        refine kI.mono ?_;rintro e w4 ⟨rfl,hd4⟩
        have hD4:=hD3.trans hd4
        have l9:=aS hD4.1 (⟨#[98,101,103,105,110]⟩:ByteArray)
        unfold Tx.may at l9
        rw [iP,if_neg (by decide)]at l9
        go_wp2_with fail
        refine l9.mono ?_;rintro e w5 ⟨rfl,hd5⟩
        have hD5:=hD4.trans hd5
        have om:=aS hD5.1 (⟨#[100,114,111,112]⟩:ByteArray)
        unfold Tx.may at om
        rw [kX,if_neg (by decide)]at om
        go_wp2_with fail
        refine om.mono ?_;rintro e w6 ⟨rfl,hd6⟩
        have hD6:=hD5.trans hd6
        have uR:=aS hD6.1 (⟨#[99,114,101,97,116,101]⟩:ByteArray)
        unfold Tx.may at uR
        rw [jP,if_neg (by decide)]at uR
        go_wp2_with fail
        refine uR.mono ?_;rintro e w7 ⟨rfl,hd7⟩
        have hD7:=hD6.trans hd7
        have hat:=iB hD7.1
        go_wp2_with fail
        refine hat.mono ?_;rintro e wy ⟨rfl,my,rfl⟩
        have hDy:=hD7.drewN my
        have hwr:=gB hDy.1 (K.X.here σ)
        go_wp2_with fail
        refine hwr.mono ?_;rintro e wz ⟨rfl,hz⟩
        have hDz:=hDy.trans hz
        have hBx:=QD
        have Jo:=qV
        go_wp2_with fail
        go_ret
        rw [HE.out]
        exact ⟨ak,ak,ak,ak,rfl,hDz,lX _ _ _ rfl rfl rfl rfl⟩
theorem dR {P:Program}{fn:Func}{a:Tmp}{t:TypeId}(h:fn.results= #[.cell a t]) {tm:Array Value}{ad:Addr}{v:Value}{W:World}(ht:tm.getD a undef= .pointer (some ad)) (hl:(loadVar t ad).run P W= .ok v W):
 (results fn tm).run P W= .ok v W:=by
 unfold results
 rw [h]
 rw [Array.getD_eq_getD_getElem?]at ht
 simp [ht,asAddr,hl]
theorem mV {w:World}{b:Nat}{V:Array Value}{T:TypeId}(h:w.heap[b]? =some (.cells V T (0,0))) (hV:V.size=18):(loadVar 31 ⟨b,0,none⟩).run Tryz.prog w= .ok (.agg V) w:=by
 have hc:w.rangeAt b 0 V.toList:=fun j v hv=>by
  rw [Nat.zero_add,aj h];simpa using hv
 obtain ⟨d,hu,hd⟩:=Tryz.F9
 have:=run_loadVar_mid w b 0 31 V.toList d hc hu hd (by rw [show V.toList.length=18 by simpa using hV];exact Tryz.qU)
 simpa using this
theorem fZ {ops:Array Oper}{rest:List Oper}{op:Oper}{a:Act}{w:World}{b:Nat}{Q:Exit→Act→World→Prop}{V:Array Value}(hgd:op.guard=none) (x y:Operand) (ho:op.op= .store 31 x y)
 (hb:b=w.heap.size) (hx:a.eval x= .pointer (some ⟨b,0,none⟩)) (hy:a.eval y= .agg V) (hV:V.size=18) (h1' :V.toList.all (·.oneCell')=true) (h:wpList Tryz.prog ops Q rest (a.put op.dst undef) (w.alloc (.cells V 31))):
 wpList Tryz.prog ops Q (op::rest) a (w.alloc (.cells #[.int .i64 0, .string ⟨#[]⟩, .string ⟨#[]⟩, .string ⟨#[]⟩, .string ⟨#[]⟩, .int .i64 0, .string ⟨#[]⟩, .int .i64 0, .string ⟨#[]⟩, .int .i64 0, .slice none 0 0, .slice none 0 0, .slice none 0 0, .slice none 0 0, .int .i64 0, .int .i64 0, .int .i64 0, .slice none 0 0] 31)):=
 kV hgd x y ho (by rw [hx,hb]) hy hV h1' h
theorem Uc {w:World}(x:Sx) (tc c s wv:Value) (hone:(aF x tc c s wv ak).toList.all (·.oneCell')=true):
 Calls Tryz.prog 224 #[.agg (aF x tc c s wv ak)] w fun e w' =>e= .returned (.agg (aF x tc c s wv ak))∧Below w.heap.size w w' :=by
 have hsz:=aA w (.cells (aF x tc c s wv ak) 124)
 have hb1:(w.alloc (.cells (aF x tc c s wv ak) 124)).heap[w.heap.size]? =some (.cells (aF x tc c s wv ak) 124 (0,0)):=aB w _
 have hb2:((w.alloc (.cells (aF x tc c s wv ak) 124)).alloc (.cells #[.int .i64 0, .string ⟨#[]⟩, .string ⟨#[]⟩, .string ⟨#[]⟩, .string ⟨#[]⟩, .int .i64 0, .string ⟨#[]⟩, .int .i64 0, .string ⟨#[]⟩, .int .i64 0, .slice none 0 0, .slice none 0 0, .slice none 0 0, .slice none 0 0, .int .i64 0, .int .i64 0, .int .i64 0, .slice none 0 0] 31)).heap[w.heap.size]? =some (.cells (aF x tc c s wv ak) 124 (0,0)):=au hb1 _
 have hB:Below w.heap.size w ((w.alloc (.cells (aF x tc c s wv ak) 124)).alloc (.cells (aF x tc c s wv ak) 31)):=((Below.refl _ w).alloc (Nat.le_refl _) _).alloc (by rw [hsz];omega) _
 have hb3:((w.alloc (.cells (aF x tc c s wv ak) 124)).alloc (.cells (aF x tc c s wv ak) 31)).heap[w.heap.size+1]? =some (.cells (aF x tc c s wv ak) 31 (0,0)):=by
  have:=aB (w.alloc (.cells (aF x tc c s wv ak) 124)) (.cells (aF x tc c s wv ak) 31)
  rw [hsz]at this;exact this
 go_enter Tryz.func224,Tryz.ntmps224
 go_wp2_with (first|refine bA rfl _ rfl rfl rfl hb2 ?_|refine fZ rfl _ _ rfl hsz.symm rfl rfl rfl hone ?_)
 refine bodyPost_ret (dR rfl rfl (mV hb3 rfl)) rfl ?_
 exact ⟨rfl,hB⟩
theorem pR {b:Nat}{T:TypeId}{fr:Nat×Nat}:∀(vs:List Value) (o:Nat) (w:World) (C:Array Value),w.heap[b]? =some (.cells C T fr)→
 ∃C',(w.setCells b o vs).heap[b]? =some (.cells C' T fr)∧C'.size=C.size
 | [],_,w,C,h=>⟨C,h,rfl⟩
 |v::vs,o,w,C,h=>by
  obtain ⟨C',h1,h2⟩:=pR vs (o+1) _ _ (bU h o v)
  exact ⟨C',h1,by rw [h2];simp⟩
theorem nM {b:Nat}:∀(vs:List Value) (o:Nat) (w:World),(∀k,k≠b→(w.setCells b o vs).heap[k]? =w.heap[k]?)∧(w.setCells b o vs).heap.size=w.heap.size∧∀B w0,Below B w0 w→B≤b→Below B w0 (w.setCells b o vs)
 | [],_,w=>⟨fun _ _=>rfl,rfl,fun _ _ h _=>h⟩
 |v::vs,o,w=>by
  obtain ⟨h1,h2,h3⟩:=nM (b:=b) vs (o+1) (w.setCell ⟨b,o,none⟩ v)
  refine ⟨fun k hk=>(h1 k hk).trans (Below.heap_setCell _ _ _ _ hk),h2.trans (dJ _ _ _),fun B w0 h hB=>h3 B w0 (h.setCell hB v) hB⟩
structure Wrote (w:World) (b:Nat) (V:Array Value) (T:TypeId) (w' :World):Prop where
 blk:w'.heap[b]? =some (.cells V T (0,0))
 rest:∀k,k≠b→w'.heap[k]? =w.heap[k]?
 size:w'.heap.size=w.heap.size
 below:∀B w0,Below B w0 w→B≤b→Below B w0 w'
theorem Gv {w:World}{b:Nat}{C V:Array Value}{T:TypeId}(h:w.heap[b]? =some (.cells C T (0,0))) (hC:C.size=18) (hV:V.size=18) (h1:V.toList.all (·.oneCell')=true):
 ∃w',(Instr.storeAt 31 (.pointer (some ⟨b,0,none⟩)) (.agg V)).run Tryz.prog w= .ok () w' ∧Wrote w b V T w' :=by
 have ht:w.there b 0 V.size:=by
  intro j hj
  refine ⟨?_,ah h _⟩
  rw [aj h,Nat.zero_add,Array.getElem?_eq_getElem (by omega)];rfl
 refine ⟨w.setCells b 0 V.toList,run_storeAt_mid w b 0 _ V ht (by rw [hV];exact Tryz.qU) (by rw [←Array.all_toList];exact h1), ?_⟩
 obtain ⟨C',e1,e2⟩:=pR V.toList 0 w C h
 obtain ⟨r1,r2,r3⟩:=nM (b:=b) V.toList 0 w
 have hs:=World.rangeAt_setCells_same w b 0 V.toList (by simpa using ht)
 have:C' =V:=by
  apply Array.ext_getElem?
  intro j
  by_cases hj:j<V.size
  · have:=hs j V[j] (by simp [Array.getElem?_eq_getElem hj])
    rw [aj e1,Nat.zero_add]at this
    rw [this,Array.getElem?_eq_getElem hj]
  · rw [Array.getElem?_eq_none (by omega),Array.getElem?_eq_none (by omega)]
 subst this
 exact ⟨e1,r1,r2,r3⟩
theorem eD {ops:Array Oper}{rest:List Oper}{op:Oper}{a:Act}{w:World}{Q:Exit→Act→World→Prop}{b:Nat}{C V:Array Value}{T:TypeId}(hgd:op.guard=none) (x y:Operand) (ho:op.op= .store 31 x y)
 (hx:a.eval x= .pointer (some ⟨b,0,none⟩)) (hy:a.eval y= .agg V) (hw:w.heap[b]? =some (.cells C T (0,0))) (hC:C.size=18) (hV:V.size=18) (h1:V.toList.all (·.oneCell')=true)
 (h:∀w',Wrote w b V T w' →wpList Tryz.prog ops Q rest (a.put op.dst undef) w'):wpList Tryz.prog ops Q (op::rest) a w:=by
 obtain ⟨w',h2,h3⟩:=Gv hw hC hV h1
 refine wpList_plain hgd fun K hK=> ?_
 unfold Oper.wp execOp
 simp only [ho,hx,hy,Sem.run_bind,h2,Result.andThen_ok,Sem.run_pure]
 exact hK _ _ (h w' h3)
theorem gN.one {w:World}{base:Nat}{x:Sx}{tc c s wv:Value}(h:gN w base x tc c s wv):(aF x tc c s wv ak).toList.all (·.oneCell')=true:=by
 obtain ⟨_,_,htc,_⟩:=aY h.1
 obtain ⟨_,_,hc',_⟩:=aY h.2.1
 obtain ⟨_,_,hs',_⟩:=aY h.2.2.1
 obtain ⟨_,_,hw',_⟩:=aY h.2.2.2
 rw [htc,hc',hs',hw'];rfl
theorem Ud {w:World}(x:Sx) (tc c s wv:Value) (hone:(aF x tc c s wv ak).toList.all (·.oneCell')=true):
 Calls Tryz.prog 225 #[.agg (aF x tc c s wv ak)] w fun e w' =>e= .returned (.agg (aF x tc c s wv ak))∧Below w.heap.size w w' :=by
 have hsz:=aA w (.cells (aF x tc c s wv ak) 156)
 have hb1:(w.alloc (.cells (aF x tc c s wv ak) 156)).heap[w.heap.size]? =some (.cells (aF x tc c s wv ak) 156 (0,0)):=aB w _
 have hb2:((w.alloc (.cells (aF x tc c s wv ak) 156)).alloc (.cells #[.int .i64 0, .string ⟨#[]⟩, .string ⟨#[]⟩, .string ⟨#[]⟩, .string ⟨#[]⟩, .int .i64 0, .string ⟨#[]⟩, .int .i64 0, .string ⟨#[]⟩, .int .i64 0, .slice none 0 0, .slice none 0 0, .slice none 0 0, .slice none 0 0, .int .i64 0, .int .i64 0, .int .i64 0, .slice none 0 0] 31)).heap[w.heap.size]? =some (.cells (aF x tc c s wv ak) 156 (0,0)):=au hb1 _
 have hB:Below w.heap.size w ((w.alloc (.cells (aF x tc c s wv ak) 156)).alloc (.cells (aF x tc c s wv ak) 31)):=((Below.refl _ w).alloc (Nat.le_refl _) _).alloc (by rw [hsz];omega) _
 have hb3:((w.alloc (.cells (aF x tc c s wv ak) 156)).alloc (.cells (aF x tc c s wv ak) 31)).heap[w.heap.size+1]? =some (.cells (aF x tc c s wv ak) 31 (0,0)):=by
  have:=aB (w.alloc (.cells (aF x tc c s wv ak) 156)) (.cells (aF x tc c s wv ak) 31)
  rw [hsz]at this;exact this
 go_enter Tryz.func225,Tryz.ntmps225
 go_wp2_with (first|refine bA rfl _ rfl rfl rfl hb2 ?_|refine fZ rfl _ _ rfl hsz.symm rfl rfl rfl hone ?_)
 refine bodyPost_ret (dR rfl rfl (mV hb3 rfl)) rfl ?_
 exact ⟨rfl,hB⟩
theorem Tryz.Zq:O5 Tryz.prog 29 31 (.agg #[.int .i64 0, .string ⟨#[]⟩, .string ⟨#[]⟩, .string ⟨#[]⟩, .string ⟨#[]⟩, .int .i64 0, .string ⟨#[]⟩, .int .i64 0, .string ⟨#[]⟩, .int .i64 0, .slice none 0 0, .slice none 0 0, .slice none 0 0, .slice none 0 0, .int .i64 0, .int .i64 0, .int .i64 0, .slice none 0 0]) 18 272:=xA Tryz.underlying29 (by kernel_rfl) rfl (by decide)
theorem Zr (V:Array Value) (w:World):(Instr.typeAssert (.iface 156 (.agg V)) 71 156 false).run Tryz.prog w= .ok (.agg V) w:=by kernel_rfl
def mG (L:List Pv):List Value:=L.flatMap fun p=>p.arr.toList
theorem Xn (v0 v1 v2 v3 v4 v5 v6 v7 v8 v9 v10 v11 v12 v13 v14 v15 v16 v17:Value) (w:World):(Instr.field 156 (.agg #[v0,v1,v2,v3,v4,v5,v6,v7,v8,v9,v10,v11,v12,v13,v14,v15,v16,v17]) 0).run Tryz.prog w= .ok (.agg #[v0,v1,v2,v3,v4,v5,v6,v7,v8,v9,v10,v11,v12,v13,v14,v15,v16,v17]) w:=by kernel_rfl
theorem fB {w w' :World}{base:Nat}{e:TypeId}{size n:Nat}{u:Value}{xs:List Value}(h:w.ownsRow base e size u n xs) (hb:Below w.heap.size w w'):w'.ownsRow base e size u n xs:=by
 obtain ⟨h1,h2⟩:=h
 refine ⟨h1, ?_⟩
 rcases h2 with h2|⟨g,cap,cur,a,b,c,d⟩
 · exact .inl h2
 · refine .inr ⟨g,cap,cur,a,b, ?_,d⟩
   rw [hb.block g (aC c)];exact c
theorem JG {w:World}{base bx:Nat}{e:TypeId}{size n:Nat}{u:Value}{xs:List Value}(h:w.ownsRow base e size u n xs) (hx:bx<base) (o:Nat) (v:Value):(w.setCell ⟨bx,o,none⟩ v).ownsRow base e size u n xs:=by
 obtain ⟨h1,h2⟩:=h
 refine ⟨h1, ?_⟩
 rcases h2 with h2|⟨g,cap,cur,a,b,c,d⟩
 · exact .inl h2
 · exact .inr ⟨g,cap,cur,a,b,bN c _ _ (by show g≠bx;omega),d⟩
theorem JH {L:List Pv}{j:Nat}(h:j<L.length):mG (L.take (j+1))=mG (L.take j)++(L[j]).arr.toList:=by
 unfold mG
 rw [List.take_succ_eq_append_getElem h,List.flatMap_append];simp
theorem Gw {L:List Pv}{j:Nat}{q:Pv}(h:L[j]? =some q):mG (L.take (j+1))=mG (L.take j)++q.arr.toList:=by
 obtain ⟨hj,rfl⟩:=List.getElem?_eq_some_iff.1 h
 exact JH hj
theorem gH.one {w:World}{base:Nat}{L:List Pv}(h:gH w base L) {p:Pv}(hp:p∈L):p.arr.toList.all (·.oneCell')=true:=(h p hp).one
theorem Ue {w:World}{base:Nat}{L:List Pv}{a:Option Addr}{cap:Nat}(hL:L.length≤1000) (hr:w.ownsRow base 71 1 (.slice a L.length cap) L.length (L.map Pv.val)) (hp:gH w base L):
 Calls Tryz.prog 226 #[.agg #[.slice a L.length cap]] w fun e w' =>∃(a3:Option Addr) (c3:Nat),e= .returned (.agg (aF {Sx.zero with kind:=9} ak ak ak ak (.slice a3 L.length c3)))∧Below w.heap.size w w' ∧w'.ownsRow w.heap.size 31 18 (.slice a3 L.length c3) L.length (mG L):=by
 have hs1:=aA w (.cells #[.slice a L.length cap] 161)
 have hs2:=aA (w.alloc (.cells #[.slice a L.length cap] 161)) (.cells #[.int .i64 0, .string ⟨#[]⟩, .string ⟨#[]⟩, .string ⟨#[]⟩, .string ⟨#[]⟩, .int .i64 0, .string ⟨#[]⟩, .int .i64 0, .string ⟨#[]⟩, .int .i64 0, .slice none 0 0, .slice none 0 0, .slice none 0 0, .slice none 0 0, .int .i64 0, .int .i64 0, .int .i64 0, .slice none 0 0] 31)
 rw [hs1]at hs2
 have hB:=zL 9
 have g0:(w.alloc (.cells #[.slice a L.length cap] 161)).heap[w.heap.size]? =some (.cells #[.slice a L.length cap] 161 (0,0)):=aB w _
 have g1:=aB (w.alloc (.cells #[.slice a L.length cap] 161)) (.cells #[.int .i64 0, .string ⟨#[]⟩, .string ⟨#[]⟩, .string ⟨#[]⟩, .string ⟨#[]⟩, .int .i64 0, .string ⟨#[]⟩, .int .i64 0, .string ⟨#[]⟩, .int .i64 0, .slice none 0 0, .slice none 0 0, .slice none 0 0, .slice none 0 0, .int .i64 0, .int .i64 0, .int .i64 0, .slice none 0 0] 31)
 rw [hs1]at g1
 have g2:=aB ((w.alloc (.cells #[.slice a L.length cap] 161)).alloc (.cells #[.int .i64 0, .string ⟨#[]⟩, .string ⟨#[]⟩, .string ⟨#[]⟩, .string ⟨#[]⟩, .int .i64 0, .string ⟨#[]⟩, .int .i64 0, .string ⟨#[]⟩, .int .i64 0, .slice none 0 0, .slice none 0 0, .slice none 0 0, .slice none 0 0, .int .i64 0, .int .i64 0, .int .i64 0, .slice none 0 0] 31)) (.cells (aF {Sx.zero with kind:=9} ak ak ak ak ak) 31)
 rw [hs2]at g2
 have g1' :=au g1 (.cells (aF {Sx.zero with kind:=9} ak ak ak ak ak) 31)
 have g0' :=au (au g0 (.cells #[.int .i64 0, .string ⟨#[]⟩, .string ⟨#[]⟩, .string ⟨#[]⟩, .string ⟨#[]⟩, .int .i64 0, .string ⟨#[]⟩, .int .i64 0, .string ⟨#[]⟩, .int .i64 0, .slice none 0 0, .slice none 0 0, .slice none 0 0, .slice none 0 0, .int .i64 0, .int .i64 0, .int .i64 0, .slice none 0 0] 31)) (.cells (aF {Sx.zero with kind:=9} ak ak ak ak ak) 31)
 have c0:(((w.alloc (.cells #[.slice a L.length cap] 161)).alloc (.cells #[.int .i64 0, .string ⟨#[]⟩, .string ⟨#[]⟩, .string ⟨#[]⟩, .string ⟨#[]⟩, .int .i64 0, .string ⟨#[]⟩, .int .i64 0, .string ⟨#[]⟩, .int .i64 0, .slice none 0 0, .slice none 0 0, .slice none 0 0, .slice none 0 0, .int .i64 0, .int .i64 0, .int .i64 0, .slice none 0 0] 31)).alloc (.cells (aF {Sx.zero with kind:=9} ak ak ak ak ak) 31)).cell? ⟨w.heap.size,0,none⟩=some (.slice a L.length cap):=by rw [aj g0'];rfl
 have hBw:Below w.heap.size w (((w.alloc (.cells #[.slice a L.length cap] 161)).alloc (.cells #[.int .i64 0, .string ⟨#[]⟩, .string ⟨#[]⟩, .string ⟨#[]⟩, .string ⟨#[]⟩, .int .i64 0, .string ⟨#[]⟩, .int .i64 0, .string ⟨#[]⟩, .int .i64 0, .slice none 0 0, .slice none 0 0, .slice none 0 0, .slice none 0 0, .int .i64 0, .int .i64 0, .int .i64 0, .slice none 0 0] 31)).alloc (.cells (aF {Sx.zero with kind:=9} ak ak ak ak ak) 31)):=(((Below.refl _ w).alloc (Nat.le_refl _) _).alloc (by rw [hs1];omega) _).alloc (by rw [hs2];omega) _
 have Zt:w.heap.size+3≤(((w.alloc (.cells #[.slice a L.length cap] 161)).alloc (.cells #[.int .i64 0, .string ⟨#[]⟩, .string ⟨#[]⟩, .string ⟨#[]⟩, .string ⟨#[]⟩, .int .i64 0, .string ⟨#[]⟩, .int .i64 0, .string ⟨#[]⟩, .int .i64 0, .slice none 0 0, .slice none 0 0, .slice none 0 0, .slice none 0 0, .int .i64 0, .int .i64 0, .int .i64 0, .slice none 0 0] 31)).alloc (.cells (aF {Sx.zero with kind:=9} ak ak ak ak ak) 31)).heap.size:=by rw [aA,hs2];omega
 go_enter Tryz.func226,Tryz.ntmps226
 go_wp2_with (refine fZ rfl _ _ rfl hs2.symm rfl rfl rfl rfl ?_)
 go_loopw [5,10] (fun _ i wr=>∃(j:Nat) (a3:Option Addr) (c3:Nat),i= .int .i64 j∧j≤L.length∧Below w.heap.size w wr∧w.heap.size+3≤wr.heap.size∧wr.heap[w.heap.size+2]? =some (.cells (aF {Sx.zero with kind:=9} ak ak ak ak (.slice a3 j c3)) 31 (0,0))∧wr.heap[w.heap.size+1]? =some (.cells #[.int .i64 0, .string ⟨#[]⟩, .string ⟨#[]⟩, .string ⟨#[]⟩, .string ⟨#[]⟩, .int .i64 0, .string ⟨#[]⟩, .int .i64 0, .string ⟨#[]⟩, .int .i64 0, .slice none 0 0, .slice none 0 0, .slice none 0 0, .slice none 0 0, .int .i64 0, .int .i64 0, .int .i64 0, .slice none 0 0] 31 (0,0))∧wr.ownsRow (w.heap.size+3) 31 18 (.slice a3 j c3) j (mG (L.take j))) (fun _ i _=>L.length - (intOf i).toNat)
 case atStart=>exact ⟨0,none,0,rfl,Nat.zero_le _,hBw,Zt,g2,g1',World.ownsRow_nil _ _ _ _⟩
 case round=>
  clear hs1 hs2 hB g0 g1 g2 g1' g0' c0 hBw Zt
  obtain ⟨j,a3,c3,rfl,hj,hBr,hsz,hb2,hb1,hr3⟩:=hrel
  by_cases hjl:j<L.length
  · have p0:(j:Int)<(L.length:Int):=by omega
    have p1:(0:Int)≤(j:Int):=by omega
    have HJ:=Lib.hid (show j+1≤L.length from hjl)
    obtain ⟨_,_,hsl,hgx⟩:=aY hr
    cases hsl
    obtain ⟨g,rfl,_,hgl,_⟩:=hgx (by omega)
    obtain ⟨q,hq⟩:∃q,L[j]? =some q:=⟨_,List.getElem?_eq_getElem hjl⟩
    have k0:=aV (fB hr hBr) j q.val (by rw [List.getElem?_map,hq];rfl)
    have hone:=hp.one (List.mem_of_getElem? hq)
    have HF:=Lib.hid (Gw hq)
    clear hq
    obtain ⟨x,tc,c,s,wv⟩:=q
    replace k0:wr.cell? ⟨g,j,none⟩=some (.iface 156 (.agg (aF x tc c s wv ak))):=k0
    have hTA:=Zr
    have hFC:=Xn
    have y17:=(aM hb2).2.2.2.2.2.2.2.2.2.2.2.2.2.2.2.2.2
    have Uf:=ah hb2 17
    have z2:=aC hb2
    have zk:=eY k0
    have HO:Hid (∀u∈([.int .i64 x.kind, .string x.name, .string x.bM, .string x.on, .string x.aW, .int .i64 x.tid, .string x.part.name, .int .i64 x.part.ty, .string x.aI.name, .int .i64 x.aI.ty,tc,c,s,wv, .int .i64 x.stamp, .int .i64 x.ttl, .int .i64 x.limit,ak]:List Value),u.oneCell' =true):=fun u hu=>(List.all_eq_true.1 hone) u hu
    clear hone
    go_wp2_with fail
    go_region_law (first|(refine iY Tryz.Zq rfl _ _ rfl (w.heap.size+3) _ _ _ rfl (hr3.alloc _) _ _ [.int .i64 x.kind, .string x.name, .string x.bM, .string x.on, .string x.aW, .int .i64 x.tid, .string x.part.name, .int .i64 x.part.ty, .string x.aI.name, .int .i64 x.aI.ty,tc,c,s,wv, .int .i64 x.stamp, .int .i64 x.ttl, .int .i64 x.limit,ak] rfl rfl (fun j u hj=>by rw [jy,Nat.zero_add];exact bn _ _ _ j u hj) HO.out (by have:=HJ.out;omega) (by simp;omega) ?_;intro g3 iH w3 h3 hg3 O6 hl3;have hb3:w3.heap[w.heap.size+2]? =some (.cells (aF {Sx.zero with kind:=9} ak ak ak ak (.slice a3 j c3)) 31 (0,0)):=(hg3.block _ (aC (au hb2 _)) (fun e=>by have:=(hr3.lt _ e.symm).1;omega)).trans (au hb2 _);have y3:=(aM hb3).2.2.2.2.2.2.2.2.2.2.2.2.2.2.2.2.2;have u3:=ah hb3 17))
    all_goals
     have hg4:(wr.alloc (.cells #[.int .i64 x.kind, .string x.name, .string x.bM, .string x.on, .string x.aW, .int .i64 x.tid, .string x.part.name, .int .i64 x.part.ty, .string x.aI.name, .int .i64 x.aI.ty,tc,c,s,wv, .int .i64 x.stamp, .int .i64 x.ttl, .int .i64 x.limit,ak] 31)).grownBy w3 (Value.slice a3 j c3).ownBlock:=⟨hg3.os,hg3.tape,hg3.output,hg3.size,hg3.block⟩
     have hbb:w3.heap[w.heap.size+1]? =some (.cells #[.int .i64 0, .string ⟨#[]⟩, .string ⟨#[]⟩, .string ⟨#[]⟩, .string ⟨#[]⟩, .int .i64 0, .string ⟨#[]⟩, .int .i64 0, .string ⟨#[]⟩, .int .i64 0, .slice none 0 0, .slice none 0 0, .slice none 0 0, .slice none 0 0, .int .i64 0, .int .i64 0, .int .i64 0, .slice none 0 0] 31 (0,0)):=(hg4.block _ (aC (au hb1 _)) (fun e=>by have:=(hr3.lt _ e.symm).1;omega)).trans (au hb1 _)
     have hB3:Below w.heap.size w w3:=below_app (hBr.alloc (Nat.le_trans (Nat.le_add_right _ _) hsz) _) (by rw [aA];omega) hg4 (fun g2 hg2=>by have:=(hr3.lt g2 hg2).1;omega)
     have hs3:w.heap.size+3≤w3.heap.size:=Nat.le_trans hsz (by have:=hg4.size;rw [aA]at this;omega)
     have hb4:(w3.setCell ⟨w.heap.size+2,17,none⟩ (.slice (some ⟨g3,0,none⟩) (j+1) iH)).heap[w.heap.size+2]? =some (.cells (aF {Sx.zero with kind:=9} ak ak ak ak (.slice (some ⟨g3,0,none⟩) (j+1) iH)) 31 (0,0)):=by rw [bU hb3 17 _];rfl
     have hb5:=bN hbb ⟨w.heap.size+2,17,none⟩ (.slice (some ⟨g3,0,none⟩) (j+1) iH) (by show w.heap.size+1≠w.heap.size+2;omega)
     have h4:=JG h3 (by omega:w.heap.size+2<w.heap.size+3) 17 (.slice (some ⟨g3,0,none⟩) (j+1) iH)
     have hB4:=hB3.setCell (p:=⟨w.heap.size+2,17,none⟩) (by show w.heap.size≤w.heap.size+2;omega) (.slice (some ⟨g3,0,none⟩) (j+1) iH)
     go_wp2_with fail
     go_roundw
     case rel=>exact ⟨j+1,some ⟨g3,0,none⟩,iH,by go_num,HJ.out,hB4,by rw [dJ];exact hs3,hb4,hb5,by rw [HF.out];exact h4⟩
     case measure=>have hjj:=HJ.out;simp [intOf];omega
  · have mo:j=L.length:=by omega
    subst mo
    rw [List.take_length]at hr3
    have hs0:(Value.slice a3 L.length c3).oneCell' =true:=rfl
    go_wp2_with (first|refine bA rfl _ rfl rfl rfl hb2 ?_|(refine eD rfl _ _ rfl rfl rfl hb1 rfl rfl rfl ?_;intro w9 JI))
    refine bodyPost_ret (dR rfl rfl (mV JI.blk rfl)) rfl ?_
    refine ⟨a3,c3,rfl,JI.below _ _ hBr (by omega), ?_⟩
    obtain ⟨q1,q2⟩:=bF hr3 (by omega:w.heap.size≤w.heap.size+3)
    refine ⟨q1, ?_⟩
    have hlt:=hr3.lt
    rcases q2 with q2|⟨g,cap',cur,e1,e2,e3,e4⟩
    · exact .inl q2
    · refine .inr ⟨g,cap',cur,e1,e2, ?_,e4⟩
      rw [JI.rest g (by have:=(hlt g (by rw [e1];rfl)).1;omega)];exact e3
namespace aH
structure Cut (s t:ByteArray) (A:List Pt) (d:Nat):Prop where
 bytes:s.data.toList.drop d=t.data.toList
 size:s.size=d+t.size
 pts:pts s=A++(pts t).map (Pt.shift d)
theorem Ug (m:Nat) (f g:Nat→Bool) (hfg:∀j,f (m+j)=g j):∀n k,vk f n (m+k)=m+vk g n k:=by
 intro n
 induction n with
 |zero=>intro k;rfl
 |succ n ih=>
  intro k
  rw [vk,vk,hfg k]
  split
  · exact ih (k+1)
  · rfl
section
variable {s t:ByteArray}{A:List Pt}{d:Nat}(h:Cut s t A d)
include h
theorem Cut.len:(aH.pts s).length=A.length+(aH.pts t).length:=by rw [h.pts];simp
theorem Cut.get (k:Nat):(aH.pts s)[A.length+k]? =((aH.pts t)[k]?).map (Pt.shift d):=by
 rw [h.pts,List.getElem?_append_right (by omega),List.getElem?_map]
 rw [show A.length+k - A.length=k by omega]
theorem Cut.gy (k:Nat) (r:Int):aH.gy (aH.pts s) (A.length+k) r=aH.gy (aH.pts t) k r:=by
 unfold aH.gy;rw [h.get k];cases (aH.pts t)[k]? <;>rfl
theorem Cut.dQ (k:Nat):aH.dQ (aH.pts s) (A.length+k)=aH.dQ (aH.pts t) k:=by
 unfold aH.dQ;rw [h.get k];cases (aH.pts t)[k]? <;>rfl
theorem Cut.dn (k:Nat):aH.dn (aH.pts s) (A.length+k)=aH.dn (aH.pts t) k:=by
 unfold aH.dn;rw [h.get k];cases (aH.pts t)[k]? <;>rfl
theorem Cut.mR (k:Nat):aH.mR (aH.pts s) (A.length+k)=aH.mR (aH.pts t) k:=by
 unfold aH.mR;rw [h.get k];cases (aH.pts t)[k]? <;>rfl
theorem Cut.aT (k:Nat):aH.aT s (aH.pts s) (A.length+k)=d+aH.aT t (aH.pts t) k:=by
 unfold aH.aT;rw [h.get k]
 cases (aH.pts t)[k]? with
 |none=>exact h.size
 |some p=>exact Nat.add_comm _ _
theorem Cut.dD (f g:Nat→Bool) (hfg:∀j,f (A.length+j)=g j) (k:Nat):aH.dD f (aH.pts s).length (A.length+k)=A.length+aH.dD g (aH.pts t).length k:=by
 unfold aH.dD
 rw [h.len,show A.length+(aH.pts t).length - (A.length+k)=(aH.pts t).length - k by omega]
 exact Ug A.length f g hfg _ _
theorem Cut.lineEnd (k:Nat):aH.lineEnd (aH.pts s) (A.length+k)=A.length+aH.lineEnd (aH.pts t) k:=
 h.dD _ _ (fun j=>by rw [h.gy]) k
theorem Cut.iL:∀n k,aH.iL (aH.pts s) n (A.length+k)=A.length+aH.iL (aH.pts t) n k:=by
 intro n
 induction n with
 |zero=>intro k;rfl
 |succ n ih=>
  intro k
  rw [aH.iL,aH.iL,h.len]
  unfold dO iO
  rw [h.gy,h.gy,h.gy,h.gy,h.gy,Nat.add_assoc,h.gy,h.lineEnd]
  by_cases h1:(aH.pts t).length≤k
  · rw [if_pos (by omega),if_pos h1]
  · rw [if_neg (by omega),if_neg h1]
    split
    · exact ih (k+1)
    · split
      · exact ih _
      · rfl
theorem Cut.skip (k:Nat):aH.skip (aH.pts s) (A.length+k)=A.length+aH.skip (aH.pts t) k:=by
 unfold aH.skip
 rw [h.len,show A.length+(aH.pts t).length - (A.length+k)=(aH.pts t).length - k by omega]
 exact h.iL _ _
theorem Cut.nU:∀n k v ok,aH.nU (aH.pts s) n (A.length+k) v ok=((aH.nU (aH.pts t) n k v ok).1,(aH.nU (aH.pts t) n k v ok).2.1,A.length+(aH.nU (aH.pts t) n k v ok).2.2):=by
 intro n
 induction n with
 |zero=>intro k v ok;rfl
 |succ n ih=>
  intro k v ok
  rw [aH.nU,aH.nU,h.dn,h.mR]
  split
  · exact ih (k+1) _ _
  · rfl
theorem Cut.num (k:Nat) (v:Int) (ok:Bool):aH.num (aH.pts s) (A.length+k) v ok=((aH.num (aH.pts t) k v ok).1,(aH.num (aH.pts t) k v ok).2.1,A.length+(aH.num (aH.pts t) k v ok).2.2):=by
 unfold aH.num
 rw [h.len,show A.length+(aH.pts t).length - (A.length+k)=(aH.pts t).length - k by omega]
 exact h.nU _ _ _ _
theorem Cut.extract (a b:Nat):s.extract (d+a) (d+b)=t.extract a b:=by
 apply ByteArray.ext
 apply Array.ext'
 simp only [ByteArray.data_extract,Array.toList_extract,List.extract_eq_take_drop]
 rw [←List.drop_drop,h.bytes,show d+b - (d+a)=b - a by omega]
theorem Cut.eZ (k:Nat):aH.eZ (aH.pts s) (A.length+k)=A.length+aH.eZ (aH.pts t) k:=
 h.dD _ _ (fun j=>by rw [h.dQ,h.dn]) k
theorem Cut.lq (k:Nat):aH.lq s (aH.pts s) (A.length+k)=aH.lq t (aH.pts t) k:=by
 unfold aH.lq
 rw [h.eZ,h.aT,h.aT,h.extract]
def Tk.on (m:Nat) (x:Tk):Tk:=⟨x.kind,x.s,x.n,x.at_+m⟩
theorem Cut.jL (k:Nat):aH.jL s (aH.pts s) (A.length+k)=((aH.jL t (aH.pts t) k).1.on A.length,(aH.jL t (aH.pts t) k).2.1,A.length+(aH.jL t (aH.pts t) k).2.2):=by
 unfold aH.jL
 rw [h.lq,h.eZ,Nat.add_comm A.length k];rfl
theorem Cut.bK (k:Nat):aH.bK (aH.pts s) (A.length+k)=A.length+aH.bK (aH.pts t) k:=by
 unfold aH.bK
 rw [h.gy];split<;>omega
theorem Cut.iA (k:Nat):aH.iA (aH.pts s) (A.length+k)=((aH.iA (aH.pts t) k).1,(aH.iA (aH.pts t) k).2.1,A.length+(aH.iA (aH.pts t) k).2.2):=by
 unfold aH.iA
 rw [h.bK,h.num,h.dn]
theorem Cut.dh (k:Nat):aH.dh (aH.pts s) (A.length+k)=((aH.dh (aH.pts t) k).1.on A.length,(aH.dh (aH.pts t) k).2.1,A.length+(aH.dh (aH.pts t) k).2.2):=by
 unfold aH.dh
 rw [h.iA,h.gy]
 simp only [h.dQ,Tk.on]
 rw [Nat.add_comm k]
theorem Cut.dz (a:Nat):aH.dz s ((d+a:Nat):Int)=(aH.dz t a).map fun x=>(x.1,x.2+(d:Int)):=by
 unfold aH.dz
 have hb:s.data.toList[d+a]? =t.data.toList[a]? :=by rw [←h.bytes,List.getElem?_drop]
 have hs:=h.size
 simp only [Int.toNat_natCast]
 rw [hb]
 by_cases hc:a<t.size∧t.data.toList[a]? =some 39
 · rw [if_pos ⟨by omega,by omega,hc.2⟩,if_pos ⟨by omega,by omega,hc.2⟩]
   rw [show s.data.toList.drop (d+a+1)=t.data.toList.drop (a+1)by rw [←h.bytes,List.drop_drop,Nat.add_assoc]]
   cases lQ (t.data.toList.drop (a+1))with
   |none=>rfl
   |some x=>simp only [Option.map_some,Option.some.injEq,Prod.mk.injEq,true_and];omega
 · rw [if_neg (fun h=>hc ⟨by omega,h.2.2⟩),if_neg (fun h=>hc ⟨by omega,h.2.2⟩)];rfl
theorem Cut.bZ (next:Int) (k:Nat):aH.bZ (aH.pts s) (next+d) (A.length+k)=A.length+aH.bZ (aH.pts t) next k:=by
 refine h.dD _ _ (fun j=> ?_) k
 rw [h.get j]
 cases (aH.pts t)[j]? with
 |none=>rfl
 |some p=>
  show decide (((p.at_+d:Nat):Int)<next+d)=decide ((p.at_:Int)<next)
  rw [decide_eq_decide];omega
theorem Cut.jf (k:Nat):aH.jf s (aH.pts s) (A.length+k)=((aH.jf t (aH.pts t) k).1.on A.length,(aH.jf t (aH.pts t) k).2.1,A.length+(aH.jf t (aH.pts t) k).2.2):=by
 unfold aH.jf
 rw [h.aT,h.dz]
 cases aH.dz t (aH.aT t (aH.pts t) k)with
 |none=>simp only [Option.map_none,Tk.on];rw [Nat.add_comm k]
 |some x=>simp only [Option.map_some,Tk.on];rw [h.bZ,Nat.add_comm k]
theorem Cut.dF (k:Nat) (hok:(aH.dF t (aH.pts t) k).2.1=true):aH.dF s (aH.pts s) (A.length+k)=((aH.dF t (aH.pts t) k).1.on A.length,true,A.length+(aH.dF t (aH.pts t) k).2.2):=by
 rw [←hok]
 unfold aH.dF at hok⊢
 rw [h.dQ,h.dn,h.gy,h.gy,h.mR]
 split
 · exact h.jL k
 · rename_i h1
   rw [if_neg h1]at hok
   split
   · exact h.dh k
   · rename_i h2
     rw [if_neg h2]at hok
     split
     · exact h.jf k
     · rename_i h3
       rw [if_neg h3]at hok
       split
       · simp only [Tk.on];rw [Nat.add_comm k];rfl
       · rename_i h4
         rw [if_neg h4]at hok;cases hok
theorem Cut.Zu (k:Nat):(aH.dF s (aH.pts s) (A.length+k)).2.1=(aH.dF t (aH.pts t) k).2.1:=by
 unfold aH.dF
 rw [h.dQ,h.dn,h.gy,h.gy,h.mR]
 split
 · rw [h.jL k]
 · split
   · rw [h.dh k]
   · split
     · rw [h.jf k]
     · split<;>rfl
def VX (m:Nat):Except Nat (List Tk)→Except Nat (List Tk)
 | .ok l=> .ok (l.map (Tk.on m))
 | .error a=> .error (m+a)
theorem Cut.dS:∀n k,aH.dS s (aH.pts s) n (A.length+k)=VX A.length (aH.dS t (aH.pts t) n k):=by
 intro n
 induction n with
 |zero=>intro k;rfl
 |succ n ih=>
  intro k
  rw [aH.dS,aH.dS,h.skip,h.len,h.Zu]
  by_cases h1:(aH.pts t).length≤aH.skip (aH.pts t) k
  · rw [if_pos (by omega),if_pos h1];rfl
  · rw [if_neg (by omega),if_neg h1]
    by_cases h2:(aH.dF t (aH.pts t) (aH.skip (aH.pts t) k)).2.1=true
    · rw [if_pos h2,if_pos h2,h.dF _ h2]
      simp only []
      rw [ih]
      cases aH.dS t (aH.pts t) n (aH.dF t (aH.pts t) (aH.skip (aH.pts t) k)).2.2<;>rfl
    · rw [if_neg h2,if_neg h2];rfl
end
theorem Cut.rE (s t:ByteArray) (hs:valid s=true):Cut (s++t) t (aH.pts s) s.size where
 bytes:=by rw [ByteArray.data_append,Array.toList_append,List.drop_append_of_le_length (by show s.size≤s.data.toList.length;exact Nat.le_refl _),List.drop_eq_nil_of_le (by show s.data.toList.length≤s.size;exact Nat.le_refl _),List.nil_append]
 size:=by rw [ByteArray.size_append]
 pts:=zD s t hs
theorem xE (s:ByteArray) (P:List Pt):∀n m i,P.length<n+i→P.length<m+i→dS s P n i=dS s P m i:=by
 intro n
 induction n with
 |zero=>
  intro m i h1 h2
  cases m with
  |zero=>rfl
  |succ m=>rw [vB (by have:=jF P i;omega)];rfl
 |succ n ih=>
  intro m i h1 h2
  have hs:=jF P i
  cases m with
  |zero=>rw [vB (by omega)];rfl
  |succ m=>
   rw [dS,dS]
   by_cases h3:P.length≤skip P i
   · rw [if_pos h3,if_pos h3]
   · rw [if_neg h3,if_neg h3]
     by_cases h4:(dF s P (skip P i)).2.1=true
     · rw [if_pos h4,if_pos h4]
       have hg:=zK (s:=s) (P:=P) (i:=skip P i) (by omega) h4
       rw [ih m _ (by omega) (by omega)]
     · rw [if_neg h4,if_neg h4]
def Lx (t:ByteArray) (l:List Tk):Prop:=dS t (pts t) ((pts t).length+1) 0= .ok l
theorem Lx.aX {t:ByteArray}{l:List Tk}(h:Lx t l) (hs:t.size≤1000):aX t=(l,0,0):=by
 unfold Lx at h
 unfold aH.aX
 rw [if_neg (by omega),h]
theorem Lx.nil:Lx ⟨#[]⟩ []:=rfl
theorem lZ (a b c:ByteArray):(a++b)++c=a++(b++c):=by
 apply ByteArray.ext;simp
theorem EH (a:ByteArray):a++(⟨#[]⟩:ByteArray)=a:=by
 apply ByteArray.ext;simp
theorem vV (c:UInt8) (hc:c.toNat<128):pts ⟨#[c]⟩= [⟨c.toNat,0,1⟩]:=by
 have h:(0:Nat)<(⟨#[c]⟩:ByteArray).size:=Nat.zero_lt_one
 have hd:=CX ⟨#[c]⟩ 0 h (by rw [←kY ⟨#[c]⟩ 0 h];exact hc)
 have e:bY ⟨#[c]⟩ 0=c.toNat:=by rw [←kY ⟨#[c]⟩ 0 h];rfl
 rw [iF,bD _ 0 h,hd,bI _ _ (by show¬(0+1<1);omega),e]
theorem kL (c:UInt8) (hc:c.toNat<128):valid ⟨#[c]⟩=true:=by
 unfold valid
 rw [vV c hc]
 simp [Pt.ok];omega
theorem pU (c:UInt8) (hc:c.toNat<128) (r:ByteArray):Cut (⟨#[c]⟩++r) r [⟨c.toNat,0,1⟩] 1:=by
 have:=Cut.rE ⟨#[c]⟩ r (kL c hc)
 rw [vV c hc]at this
 exact this
theorem pV (c:UInt8) (hc:c.toNat<128) (r:ByteArray):(pts (⟨#[c]⟩++r))[0]? =some ⟨c.toNat,0,1⟩:=by
 rw [(pU c hc r).pts];rfl
theorem gW (c:UInt8) (hc:c.toNat<128) (r:ByteArray) (x:Int):gy (pts (⟨#[c]⟩++r)) 0 x=((c.toNat:Int)==x):=by
 unfold gy;rw [pV c hc r]
theorem Lx.cons {s t:ByteArray}{A:List Pt}{d:Nat}(hc:Cut s t A d) {l:List Tk}(h:Lx t l) (n:Nat) (hn:(pts t).length<n):dS s (pts s) n A.length= .ok (l.map (Tk.on A.length)):=by
 have:=hc.dS n 0
 rw [Nat.add_zero]at this
 rw [this,xE t (pts t) n ((pts t).length+1) 0 (by omega) (by omega),h]
 rfl
theorem Lx.blank (c:UInt8) (hc:c=32∨c=9∨c=10∨c=13) {t:ByteArray}{l:List Tk}(h:Lx t l):Lx (⟨#[c]⟩++t) (l.map (Tk.on 1)):=by
 have hlt:c.toNat<128:=by rcases hc with rfl|rfl|rfl|rfl<;>decide
 have hcut:=pU c hlt t
 have hlen:=hcut.len
 have hb:dO (pts (⟨#[c]⟩++t)) 0=true:=by
  unfold dO
  rw [gW c hlt,gW c hlt,gW c hlt,gW c hlt]
  rcases hc with rfl|rfl|rfl|rfl<;>rfl
 have hsk:skip (pts (⟨#[c]⟩++t)) 0=skip (pts (⟨#[c]⟩++t)) 1:=gG (by rw [hlen];show 0<1+_;omega) hb
 have hx:=h.cons hcut ((pts (⟨#[c]⟩++t)).length+1) (by rw [hlen];omega)
 refine Eq.trans ?_ hx
 show _=dS _ _ _ 1
 rw [dS,dS,hsk]
theorem Lx.tok {p t:ByteArray}{l:List Tk}{x:Tk}(hp:valid p=true) (hne:pts p≠ []) (hsk:skip (pts (p++t)) 0=0) (htk:dF (p++t) (pts (p++t)) 0=(x,true,(pts p).length)) (h:Lx t l):
 Lx (p++t) (x::l.map (Tk.on (pts p).length)):=by
 have hcut:=Cut.rE p t hp
 have hlen:=hcut.len
 have hpl:0<(pts p).length:=List.length_pos_iff.2 hne
 have hx:=h.cons hcut (pts (p++t)).length (by rw [hlen];omega)
 unfold Lx
 rw [En (by rw [hsk,hlen];omega) (by rw [hsk,htk]),hsk,htk]
 simp only []
 rw [hx];rfl
def Stop (t:ByteArray):Prop:=dQ (pts t) 0=false∧dn (pts t) 0=false
theorem QE:Stop ⟨#[]⟩:=⟨rfl,rfl⟩
theorem rF (c:UInt8) (hc:c.toNat<48∨(58≤c.toNat∧c.toNat<65)) (t:ByteArray):Stop (⟨#[c]⟩++t):=by
 have hlt:c.toNat<128:=by omega
 unfold Stop dQ dn
 rw [pV c hlt t]
 simp only [kT,kE]
 constructor
 · rw [Bool.and_eq_false_iff];right
   simp only [Bool.or_eq_false_iff,Bool.and_eq_false_iff,beq_eq_false_iff_ne,decide_eq_false_iff_not]
   omega
 · simp only [Bool.and_eq_false_iff,decide_eq_false_iff_not];omega
theorem Db {f:Nat→Bool}{len m:Nat}(hm:m≤len) (hall:∀j,j<m→f j=true) (hst:f m=false):dD f len 0=m:=by
 have h:∀k,k≤m→dD f len 0=dD f len k:=by
  intro k
  induction k with
  |zero=>intro _;rfl
  |succ k ih=>
   intro hk
   rw [ih (by omega),gU (by omega) (hall k (by omega))]
 rw [h m (Nat.le_refl _)]
 exact fJ hst
theorem ni (s:ByteArray):aT s (pts s) 0=0:=jh s 0 (Nat.zero_le _)
def jQ (w:ByteArray):Bool:=dQ (pts w) 0&&((List.range (pts w).length).all fun k=>dQ (pts w) k||dn (pts w) k)&&valid w
theorem zO (p t:ByteArray) (hp:valid p=true) (k:Nat) (hk:k<(pts p).length):(pts (p++t))[k]? =(pts p)[k]? :=by
 rw [zD p t hp,List.getElem?_append_left hk]
theorem Gx (p t:ByteArray):(p++t).extract 0 p.size=p:=by
 apply ByteArray.ext
 apply Array.ext'
 simp only [ByteArray.data_extract,ByteArray.data_append,Array.toList_extract,Array.toList_append,List.extract_eq_take_drop,List.drop_zero,Nat.sub_zero]
 rw [List.take_append_of_le_length (by show p.size≤p.data.toList.length;exact Nat.le_refl _)]
 exact List.take_of_length_le (by show p.data.toList.length≤p.size;exact Nat.le_refl _)
theorem QF {w t:ByteArray}(hw:jQ w=true) (ht:Stop t) (hs:w.size≤100):dF (w++t) (pts (w++t)) 0=(⟨1,fold w,0,0⟩,true,(pts w).length)∧skip (pts (w++t)) 0=0∧pts w≠ []∧valid w=true:=by
 unfold jQ at hw
 simp only [Bool.and_eq_true]at hw
 obtain ⟨⟨h0,hall⟩,hv⟩:=hw
 have hlt:=zG h0
 have hne:pts w≠ []:=by intro e;rw [e]at hlt;exact absurd hlt (by simp)
 have hcut:=Cut.rE w t hv
 have hlen:=hcut.len
 have hL:∀k,k<(pts w).length→dQ (pts (w++t)) k=dQ (pts w) k:=fun k hk=>by unfold dQ;rw [zO w t hv k hk]
 have hD:∀k,k<(pts w).length→dn (pts (w++t)) k=dn (pts w) k:=fun k hk=>by unfold dn;rw [zO w t hv k hk]
 have hB:∀c,gy (pts (w++t)) 0 c=gy (pts w) 0 c:=fun c=>by unfold gy;rw [zO w t hv 0 hlt]
 have hend:eZ (pts (w++t)) 0=(pts w).length:=by
  refine Db (by rw [hlen];omega) (fun j hj=> ?_) ?_
  · rw [hL j hj,hD j hj]
    exact List.all_eq_true.1 hall j (List.mem_range.2 hj)
  · have h1:=hcut.dQ 0
    have h2:=hcut.dn 0
    rw [Nat.add_zero]at h1 h2
    rw [h1,h2,ht.1,ht.2];rfl
 have hbe:aT (w++t) (pts (w++t)) (pts w).length=w.size:=by
  have:=hcut.aT 0
  rw [Nat.add_zero,ni t]at this
  exact this
 have hwt:lq (w++t) (pts (w++t)) 0=w:=by
  unfold lq
  rw [hend,ni,hbe,Gx]
 have hno:∀c:Int,(c=32∨c=9∨c=10∨c=13∨c=45)→gy (pts w) 0 c=false:=by
  intro c hc
  unfold dQ at h0
  unfold gy
  rw [List.getElem?_eq_getElem hlt]at h0⊢
  simp only [kT,Bool.and_eq_true,Bool.or_eq_true,beq_iff_eq,decide_eq_true_eq]at h0
  rw [beq_eq_false_iff_ne]
  omega
 refine ⟨?_, ?_,hne,hv⟩
 · unfold dF
   rw [hL 0 hlt,if_pos h0]
   unfold jL
   rw [hwt,hend,decide_eq_true hs]
 · refine ig ?_ ?_
   · unfold dO
     rw [hB,hB,hB,hB,hno 32 (by omega),hno 9 (by omega),hno 10 (by omega),hno 13 (by omega)];rfl
   · unfold iO
     rw [hB,hno 45 (by omega),Bool.false_and]
theorem Lx.word {w t:ByteArray}{l:List Tk}(hw:jQ w=true) (ht:Stop t) (hs:w.size≤100) (h:Lx t l):Lx (w++t) (⟨1,fold w,0,0⟩::l.map (Tk.on (pts w).length)):=by
 obtain ⟨h1,h2,h3,h4⟩:=QF hw ht hs
 exact Lx.tok h4 h3 h2 h1 h
theorem QG (c:UInt8) (hc:c=40∨c=41∨c=44∨c=59∨c=61∨c=42) (t:ByteArray):dF (⟨#[c]⟩++t) (pts (⟨#[c]⟩++t)) 0=(⟨4,⟨#[c]⟩,0,0⟩,true,1)∧skip (pts (⟨#[c]⟩++t)) 0=0:=by
 have hlt:c.toNat<128:=by rcases hc with rfl|rfl|rfl|rfl|rfl|rfl<;>decide
 have hst:Stop (⟨#[c]⟩++t):=rF c (by rcases hc with rfl|rfl|rfl|rfl|rfl|rfl<;>decide) t
 have hr:mR (pts (⟨#[c]⟩++t)) 0=(c.toNat:Int):=by unfold mR;rw [pV c hlt]
 constructor
 · unfold dF
   rw [hst.1,hst.2,gW c hlt,gW c hlt,hr]
   rcases hc with rfl|rfl|rfl|rfl|rfl|rfl<;>rfl
 · refine ig ?_ ?_
   · unfold dO
     rw [gW c hlt,gW c hlt,gW c hlt,gW c hlt]
     rcases hc with rfl|rfl|rfl|rfl|rfl|rfl<;>rfl
   · unfold iO
     rw [gW c hlt]
     rcases hc with rfl|rfl|rfl|rfl|rfl|rfl<;>rfl
theorem Lx.sign (c:UInt8) (hc:c=40∨c=41∨c=44∨c=59∨c=61∨c=42) {t:ByteArray}{l:List Tk}(h:Lx t l):Lx (⟨#[c]⟩++t) (⟨4,⟨#[c]⟩,0,0⟩::l.map (Tk.on 1)):=by
 have hlt:c.toNat<128:=by rcases hc with rfl|rfl|rfl|rfl|rfl|rfl<;>decide
 obtain ⟨h1,h2⟩:=QG c hc t
 have e:(pts ⟨#[c]⟩).length=1:=by rw [vV c hlt];rfl
 have:=Lx.tok (p:=⟨#[c]⟩) (kL c hlt) (by rw [vV c hlt];simp) h2 (by rw [h1,e]) h
 rw [e]at this
 exact this
abbrev To:=Int×ByteArray×Int
def Tk.fo (t:Tk):To:=(t.kind,t.s,t.n)
def Tx.F (X:Tx):List To:=X.T.map Tk.fo
def vW:List ByteArray:= [(⟨#[40]⟩:ByteArray),(⟨#[41]⟩:ByteArray),(⟨#[44]⟩:ByteArray),(⟨#[59]⟩:ByteArray),(⟨#[61]⟩:ByteArray),(⟨#[42]⟩:ByteArray)]
def aR (s:ByteArray):To:=(if qI s vW then 4 else 1,s,0)
def dW (s:ByteArray):To:=(1,s,0)
def oz (t:Tm):To:=if t.ty=1 then (3,t.s,0)else (2,⟨#[]⟩,t.n)
def JJ (t:To):Prop:=(t.1=1∧jQ t.2.1=true∧fold t.2.1=t.2.1∧t.2.1.size≤100∧t.2.2=0)∨(t.1=2∧t.2.1=⟨#[]⟩∧ -1099511627776≤t.2.2∧t.2.2≤1099511627776)∨(t.1=3∧valid t.2.1=true∧t.2.1.size≤100∧t.2.2=0)∨(t.1=4∧qI t.2.1 vW=true∧t.2.2=0)
def Tx.Ok (X:Tx):Prop:=∀t∈X.F,JJ t
def bH (s:ByteArray):Prop:=jQ s=true∧fold s=s∧s.size≤100∧Eo s=false
def nN (t:Tm):Prop:=(t.ty=1∧valid t.s=true∧t.s.size≤100∧t.n=0)∨(t.ty=2∧t.s=⟨#[]⟩∧ -1099511627776≤t.n∧t.n≤1099511627776)
def jK (n:Int):Prop:=1≤n∧n≤1099511627776
def nk:List ByteArray→List ByteArray→Prop
 |_, []=>True
 |l,a::r=>qI a l=false∧nk (l++ [a]) r
theorem dY {a b:ByteArray}:iW a b=true ↔ a=b:=by unfold iW;exact decide_eq_true_iff
theorem jI {x:ByteArray}{l:List ByteArray}:qI x l=true ↔ x∈l:=by
 unfold qI
 rw [List.any_eq_true]
 constructor
 · rintro ⟨y,hy,h⟩;rw [dY.1 h];exact hy
 · intro h;exact ⟨x,h,dY.2 rfl⟩
theorem uD {s:ByteArray}(h:jQ s=true):qI s vW=false:=by
 cases hs:qI s vW with
 |false=>rfl
 |true=>
  exfalso
  have:=jI.1 hs
  unfold vW at this
  simp only [List.mem_cons,List.not_mem_nil,or_false]at this
  rcases this with rfl|rfl|rfl|rfl|rfl|rfl<;>exact absurd h (by decide+kernel)
section
variable {X:Tx}
theorem xG {i:Nat}{t:Tk}(h:X.T[i]? =some t):X.F.drop i=t.fo::X.F.drop (i+1):=by
 obtain ⟨hi,rfl⟩:=List.getElem?_eq_some_iff.1 h
 unfold Tx.F
 rw [List.drop_eq_getElem_cons (by simpa using hi)];simp
theorem Dc {i:Nat}(h:X.T[i]? =none):X.F.drop i= []:=by
 unfold Tx.F
 exact List.drop_eq_nil_of_le (by simpa using List.getElem?_eq_none_iff.1 h)
def jD (L:List To) (s:ByteArray):Bool:=match L with| []=>false|t::_=>(t.1==1||t.1==4)&&iW t.2.1 s
theorem QH {σ:Ps}(h:σ.bad=none) (s:ByteArray):X.sees σ s=jD (X.F.drop σ.i) s:=by
 unfold Tx.sees Tx.next
 rw [h]
 cases hx:X.T[σ.i]? with
 |none=>rw [Dc hx];rfl
 |some t=>
  rw [xG hx]
  obtain ⟨k,x,n,a⟩:=t
  simp only [jD,Tk.fo]
  by_cases h1:k=1
  · subst h1;simp
  · by_cases h4:k=4
    · subst h4;simp
    · simp [h1,h4]
theorem QI {σ:Ps}{a:Nat}(h:σ.bad=some a) (s:ByteArray):X.sees σ s=false:=by unfold Tx.sees Tx.next;rw [h];rfl
theorem kM {σ:Ps}{s:ByteArray}(h:X.sees σ s=true):σ.bad=none:=by
 cases hb:σ.bad with
 |none=>rfl
 |some a=>rw [QI hb]at h;exact absurd h (by decide)
theorem K6 {i:Nat}{t:To}{L:List To}(h:X.F.drop i=t::L):t∈X.F:=List.mem_of_mem_drop (by rw [h];exact List.mem_cons_self ..)
theorem Df {i:Nat}{t:To}{L:List To}(h:X.F.drop i=t::L):X.F.drop (i+1)=L:=by
 rw [←List.drop_drop,h];rfl
theorem Gy (hX:X.Ok) {σ:Ps}{s:ByteArray}(h:X.sees σ s=true):X.F.drop σ.i=aR s::X.F.drop (σ.i+1):=by
 rw [QH (kM h)]at h
 cases hd:X.F.drop σ.i with
 |nil=>rw [hd]at h;exact absurd h (by simp [jD])
 |cons t L=>
  rw [hd]at h
  rw [Df hd]
  have ht:=hX t (K6 hd)
  obtain ⟨k,x,n⟩:=t
  simp only [jD,Bool.and_eq_true,Bool.or_eq_true,beq_iff_eq]at h
  obtain ⟨hk,hs⟩:=h
  have hs:=dY.1 hs
  subst hs
  unfold JJ at ht
  simp only at ht
  congr 1
  unfold aR
  rcases ht with ⟨h1,h2,_,_,h5⟩|⟨h1,_⟩|⟨h1,_⟩|⟨h1,h2,h3⟩
  · rw [uD h2,h1,h5];rfl
  · rcases hk with hk|hk<;>rw [h1]at hk<;>exact absurd hk (by decide)
  · rcases hk with hk|hk<;>rw [h1]at hk<;>exact absurd hk (by decide)
  · rw [h2,h1,h3];rfl
def mH (X:Tx) (σ:Ps) (L:List To) (σ' :Ps):Prop:=σ.bad=none∧X.F.drop σ.i=L++X.F.drop σ'.i
theorem mH.trans {σ σ1 σ2:Ps}{L M:List To}(h:mH X σ L σ1) (h' :mH X σ1 M σ2):mH X σ (L++M) σ2:=⟨h.1,by rw [h.2,h'.2,List.append_assoc]⟩
theorem mH.refl {σ:Ps}(h:σ.bad=none):mH X σ [] σ:=⟨h,rfl⟩
theorem jR {σ:Ps}{a:Nat}:(σ.wrong a).bad≠none:=by
 unfold Ps.wrong
 cases hb:σ.bad with
 |none=>simp
 |some b=>rw [hb];simp
theorem oC {c:Prop} [Decidable c] {σ:Ps}{a:Nat}(h:(if c then σ.wrong a else σ).bad=none):¬c∧(if c then σ.wrong a else σ)=σ:=by
 by_cases hc:c
 · rw [if_pos hc]at h;exact absurd h jR
 · exact ⟨hc,if_neg hc⟩
theorem dZ (hX:X.Ok) {σ:Ps}{s:ByteArray}(h:X.sees σ s=true):mH X σ [aR s] σ.step:=⟨kM h,Gy hX h⟩
theorem M0 (hX:X.Ok) {σ:Ps}{s:ByteArray}(h:(X.bV σ s).bad=none):mH X σ [aR s] (X.bV σ s):=by
 unfold Tx.bV at h⊢
 split at h
 · rename_i hs;rw [if_pos hs];exact dZ hX hs
 · exact absurd h jR
theorem bG (hX:X.Ok):∀(l:List ByteArray) {σ:Ps}(_:(X.must σ l).bad=none),mH X σ (l.map aR) (X.must σ l)
 | [],σ,h=>mH.refl h
 |s::l,σ,h=>by
  have h2:=bG hX l (σ:=X.bV σ s) h
  exact (M0 hX h2.1).trans h2
theorem AO {σ:Ps}{k:Int}{t:Tk}(h:X.next σ k=some t):σ.bad=none∧t.kind=k∧X.F.drop σ.i=t.fo::X.F.drop (σ.i+1):=by
 unfold Tx.next at h
 cases hb:σ.bad with
 |some a=>rw [hb]at h;exact absurd h (by simp)
 |none=>
  rw [hb]at h
  cases hx:X.T[σ.i]? with
  |none=>rw [hx]at h;exact absurd h (by simp)
  |some u=>
   rw [hx]at h
   simp only at h
   split at h
   · rename_i hk;cases h;exact ⟨rfl,hk,xG hx⟩
   · exact absurd h (by simp)
theorem gq (hX:X.Ok) {σ:Ps}(h:(X.name σ).2.bad=none):mH X σ [dW (X.name σ).1] (X.name σ).2∧bH (X.name σ).1:=by
 unfold Tx.name at h⊢
 cases hx:X.next σ 1 with
 |none=>rw [hx]at h;exact absurd h jR
 |some t=>
  rw [hx]at h
  simp only at h⊢
  split at h
  · exact absurd h jR
  · rename_i hr
    rw [if_neg hr]
    obtain ⟨h1,h2,h3⟩:=AO hx
    have ho:=hX _ (K6 h3)
    have hr:Eo t.s=false:=by cases hb:Eo t.s with|false=>rfl|true=>exact absurd hb hr
    unfold JJ Tk.fo at ho
    simp only [h2]at ho
    rcases ho with ⟨_,a,b,c,d⟩|⟨e,_⟩|⟨e,_⟩|⟨e,_⟩
    · refine ⟨⟨h1, ?_⟩,a,b,c,hr⟩
      show X.F.drop σ.i=dW t.s::X.F.drop (σ.i+1)
      rw [h3];unfold Tk.fo dW;rw [h2,d]
    · exact absurd e (by decide)
    · exact absurd e (by decide)
    · exact absurd e (by decide)
theorem l5 (hX:X.Ok) {σ:Ps}(h:(X.value σ).2.bad=none):mH X σ [oz (X.value σ).1] (X.value σ).2∧nN (X.value σ).1:=by
 unfold Tx.value at h⊢
 cases hx:X.next σ 3 with
 |some t=>
  simp only
  obtain ⟨h1,h2,h3⟩:=AO hx
  have ho:=hX _ (K6 h3)
  unfold JJ Tk.fo at ho
  simp only [h2]at ho
  rcases ho with ⟨e,_⟩|⟨e,_⟩|⟨_,a,b,c⟩|⟨e,_⟩
  · exact absurd e (by decide)
  · exact absurd e (by decide)
  · refine ⟨⟨h1, ?_⟩, .inl ⟨rfl,a,b,rfl⟩⟩
    show X.F.drop σ.i=oz ⟨1,t.s,0⟩::X.F.drop (σ.i+1)
    rw [h3];unfold Tk.fo oz;rw [h2,c,if_pos rfl]
  · exact absurd e (by decide)
 |none=>
  rw [hx]at h
  simp only at h⊢
  cases hy:X.next σ 2 with
  |none=>rw [hy]at h;exact absurd h jR
  |some t=>
   simp only
   obtain ⟨h1,h2,h3⟩:=AO hy
   have ho:=hX _ (K6 h3)
   unfold JJ Tk.fo at ho
   simp only [h2]at ho
   rcases ho with ⟨e,_⟩|⟨_,a,b,c⟩|⟨e,_⟩|⟨e,_⟩
   · exact absurd e (by decide)
   · refine ⟨⟨h1, ?_⟩, .inr ⟨rfl,rfl,b,c⟩⟩
     show X.F.drop σ.i=oz ⟨2,⟨#[]⟩,t.n⟩::X.F.drop (σ.i+1)
     rw [h3];unfold Tk.fo oz;rw [h2,a,if_neg (show¬((2:Int)=1)by decide)]
   · exact absurd e (by decide)
   · exact absurd e (by decide)
def xH (n:Int):To:=(2,⟨#[]⟩,n)
theorem oD (hX:X.Ok) {σ:Ps}(h:(X.count σ).2.bad=none):mH X σ [xH (X.count σ).1] (X.count σ).2∧jK (X.count σ).1:=by
 unfold Tx.count at h⊢
 simp only at h⊢
 obtain ⟨h1,h2⟩:=oC h
 rw [h2]at h⊢
 obtain ⟨h3,_⟩:=l5 hX h
 simp only [not_or,Decidable.not_not,Int.not_lt]at h1
 refine ⟨?_,h1.2.1,h1.2.2⟩
 unfold oz at h3
 rw [if_neg (by rw [h1.1];decide)]at h3
 exact h3
theorem kN (hX:X.Ok) {σ:Ps}{l:List ByteArray}{most:Nat}(h:(X.column σ l most).2.bad=none):
 ∃s,(X.column σ l most).1=l++ [s]∧mH X σ [dW s] (X.column σ l most).2∧bH s∧qI s l=false∧l.length<most:=by
 unfold Tx.column at h⊢
 simp only at h⊢
 obtain ⟨h1,h2⟩:=oC h
 rw [h2]at h⊢
 obtain ⟨h3,h4⟩:=gq hX h
 obtain ⟨h5,h6⟩:=oC h3.1
 rw [h6]at h3 h4 h1⊢
 exact ⟨_,rfl,h3,h4,by simpa using h1,by omega⟩
def mI (l:List ByteArray):List To:=l.flatMap fun b=> [aR (⟨#[44]⟩:ByteArray),dW b]
def oF:List ByteArray→List To
 | []=> []
 |a::l=>dW a::mI l
theorem vX (hX:X.Ok) (most:Nat):∀n σ l,l.length≤most→(X.dA most n σ l).2.bad=none→
 ∃r,(X.dA most n σ l).1=l++r∧mH X σ (mI r) (X.dA most n σ l).2∧(∀s∈r,bH s)∧nk l r∧(l++r).length≤most
 |0,σ,l,hl,h=>⟨[],by simp [Tx.dA],mH.refl h,by simp,trivial,by simpa using hl⟩
 |n+1,σ,l,hl,h=>by
  rw [Tx.dA]at h⊢
  split at h
  · rename_i hs
    rw [if_pos hs]
    simp only at h⊢
    obtain ⟨⟨l1,σ1⟩,hc⟩:∃r,X.column σ.step l most=r:=⟨_,rfl⟩
    rw [hc]at h⊢
    simp only at h⊢
    by_cases hl1:l1.length≤most
    · obtain ⟨r,h1,h2,h3,h4,h5⟩:=vX hX most n σ1 l1 hl1 h
      have hcb:(X.column σ.step l most).2.bad=none:=by rw [hc];exact h2.1
      obtain ⟨s,g1,g2,g3,g4,g5⟩:=kN hX hcb
      rw [hc]at g1 g2
      simp only at g1 g2
      subst g1
      refine ⟨s::r,by rw [h1];simp, ?_, ?_,⟨g4,h4⟩,by simpa using h5⟩
      · have:=((dZ hX hs).trans g2).trans h2
        exact this
      · intro x hx
        rcases List.mem_cons.1 hx with rfl|hx
        · exact g3
        · exact h3 x hx
    · exfalso
      have hcon:∀m σ' l',most<l'.length→(X.dA most m σ' l').2.bad=none→σ'.bad=none:=by
       intro m
       induction m with
       |zero=>intro σ' l' _ hh;exact hh
       |succ m ih=>
        intro σ' l' hl' hh
        rw [Tx.dA]at hh
        split at hh
        · rename_i hss;exact kM hss
        · exact hh
      have hb:=hcon n σ1 l1 (by omega) h
      have hcb:(X.column σ.step l most).2.bad=none:=by rw [hc];exact hb
      obtain ⟨s,g1,_,_,_,g5⟩:=kN hX hcb
      rw [hc]at g1
      simp only at g1
      subst g1
      simp at hl1
      omega
  · rename_i hs
    rw [if_neg hs]
    exact ⟨[],by simp,mH.refl h,by simp,trivial,by simpa using hl⟩
def mJ (most:Nat) (l:List ByteArray):Prop:=(∀s∈l,bH s)∧nk [] l∧l.length≤most
theorem rG (hX:X.Ok) {σ:Ps}{most:Nat}(h:(X.columns σ most).2.bad=none):
 (X.columns σ most).1≠ []∧mH X σ (oF (X.columns σ most).1) (X.columns σ most).2∧mJ most (X.columns σ most).1:=by
 unfold Tx.columns at h⊢
 simp only at h⊢
 obtain ⟨⟨l1,σ1⟩,hc⟩:∃r,X.column σ [] most=r:=⟨_,rfl⟩
 rw [hc]at h⊢
 simp only at h⊢
 have hcon:∀m σ' l',(X.dA most m σ' l').2.bad=none→σ'.bad=none:=by
  intro m
  induction m with
  |zero=>intro σ' l' hh;exact hh
  |succ m ih=>
   intro σ' l' hh
   rw [Tx.dA]at hh
   split at hh
   · rename_i hss;exact kM hss
   · exact hh
 have hcb:(X.column σ [] most).2.bad=none:=by rw [hc];exact hcon _ _ _ h
 obtain ⟨s,g1,g2,g3,g4,g5⟩:=kN hX hcb
 rw [hc]at g1 g2
 simp only at g1 g2
 subst g1
 obtain ⟨r,h1,h2,h3,h4,h5⟩:=vX hX most _ σ1 _ (by simp at g5⊢;omega) h
 rw [h1]
 refine ⟨by simp,g2.trans h2, ?_,⟨rfl,h4⟩,by simpa using h5⟩
 intro x hx
 simp only [List.nil_append,List.cons_append,List.mem_cons]at hx
 rcases hx with rfl|hx
 · exact g3
 · exact h3 x hx
def qz (l:List ByteArray):List To:=if l= []then [aR (⟨#[42]⟩:ByteArray)]else oF l
theorem Gz (hX:X.Ok) {σ:Ps}(h:(X.some_ σ).2.bad=none):mH X σ (qz (X.some_ σ).1) (X.some_ σ).2∧mJ 8 (X.some_ σ).1:=by
 unfold Tx.some_ at h⊢
 split at h
 · rename_i hs
   rw [if_pos hs]
   exact ⟨dZ hX hs,by simp,trivial,by simp⟩
 · rename_i hs
   rw [if_neg hs]
   obtain ⟨h1,h2,h3⟩:=rG hX h
   unfold qz
   rw [if_neg h1]
   exact ⟨h2,h3⟩
def pairT (p:Pr):List To:= [dW p.name,aR (⟨#[61]⟩:ByteArray),oz p.t]
def j3 (p:Pr):Prop:=bH p.name∧nN p.t
theorem oG (hX:X.Ok) {σ:Ps}(h:(X.equal σ).2.bad=none):mH X σ (pairT (X.equal σ).1) (X.equal σ).2∧j3 (X.equal σ).1:=by
 unfold Tx.equal at h⊢
 simp only at h⊢
 obtain ⟨h1,h2⟩:=l5 hX h
 have h3:=bG hX _ h1.1
 obtain ⟨h4,h5⟩:=gq hX h3.1
 exact ⟨(h4.trans h3).trans h1,h5,h2⟩
def iI (l:List Pr):List To:=aR (⟨#[119,104,101,114,101]⟩:ByteArray)::match l with| []=> []|p::l=>pairT p++l.flatMap fun q=>aR (⟨#[97,110,100]⟩:ByteArray)::pairT q
def sI (both:Bool) (l:List Pr):Prop:=(∀p∈l,j3 p)∧(l.length=2∨(both=false∧l.length=1))
theorem xI (hX:X.Ok) {σ:Ps}{both:Bool}(h:(X.aP σ both).2.bad=none):mH X σ (iI (X.aP σ both).1) (X.aP σ both).2∧sI both (X.aP σ both).1:=by
 unfold Tx.aP at h⊢
 simp only at h⊢
 split at h
 · rename_i hb
   rw [if_pos hb]
   simp only at h⊢
   obtain ⟨h1,h2⟩:=oG hX h
   have h3:=bG hX _ h1.1
   obtain ⟨h4,h5⟩:=oG hX h3.1
   have h6:=bG hX _ h4.1
   refine ⟨?_, ?_, .inl rfl⟩
   · have:=((h6.trans h4).trans h3).trans h1
     simpa [iI]using this
   · intro p hp
     simp only [List.mem_cons,List.not_mem_nil,or_false]at hp
     rcases hp with rfl|rfl
     · exact h5
     · exact h2
 · rename_i hb
   rw [if_neg hb]
   have hb:both=false:=by cases both with|false=>rfl|true=>exact absurd rfl hb
   split at h
   · rename_i hs
     rw [if_pos hs]
     simp only at h⊢
     obtain ⟨h1,h2⟩:=oG hX h
     have h3:=dZ hX hs
     obtain ⟨h4,h5⟩:=oG hX h3.1
     have h6:=bG hX _ h4.1
     refine ⟨?_, ?_, .inl rfl⟩
     · have:=((h6.trans h4).trans h3).trans h1
       simpa [iI]using this
     · intro p hp
       simp only [List.mem_cons,List.not_mem_nil,or_false]at hp
       rcases hp with rfl|rfl
       · exact h5
       · exact h2
   · rename_i hs
     rw [if_neg hs]
     simp only at h⊢
     obtain ⟨h4,h5⟩:=oG hX h
     have h6:=bG hX _ h4.1
     refine ⟨?_, ?_, .inr ⟨hb,rfl⟩⟩
     · have:=h6.trans h4
       simpa [iI]using this
     · intro p hp
       simp only [List.mem_cons,List.not_mem_nil,or_false]at hp
       subst hp
       exact h5
def jA (stamp ttl:Int):List To:=
 if stamp=0 then (if ttl=0 then []else [aR (⟨#[117,115,105,110,103]⟩:ByteArray),aR (⟨#[116,116,108]⟩:ByteArray),xH ttl])
 else if ttl=0 then [aR (⟨#[117,115,105,110,103]⟩:ByteArray),aR (⟨#[116,105,109,101,115,116,97,109,112]⟩:ByteArray),xH stamp]
 else [aR (⟨#[117,115,105,110,103]⟩:ByteArray),aR (⟨#[116,105,109,101,115,116,97,109,112]⟩:ByteArray),xH stamp,aR (⟨#[97,110,100]⟩:ByteArray),aR (⟨#[116,116,108]⟩:ByteArray),xH ttl]
def nu (b:Bool) (stamp ttl:Int):Prop:=(stamp=0∨jK stamp)∧(ttl=0∨(b=true∧jK ttl))
theorem mK {n:Int}(h:jK n):n≠0:=by have:=h.1;omega
theorem xJ (hX:X.Ok) {σ:Ps}{b:Bool}{x:Sx}(hx:x.stamp=0∧x.ttl=0) (h:(X.using_ σ b x).2.bad=none):
 ∃stamp ttl,(X.using_ σ b x).1={x with stamp:=stamp,ttl:=ttl}∧mH X σ (jA stamp ttl) (X.using_ σ b x).2∧nu b stamp ttl:=by
 unfold Tx.using_ at h⊢
 simp only at h⊢
 split at h
 · rename_i hu
   rw [if_pos hu]
   split at h
   · rename_i ht
     rw [if_pos ht]
     simp only [Bool.and_eq_true]at ht
     simp only at h⊢
     obtain ⟨h1,h2⟩:=oD hX h
     refine ⟨0,_,by rw [←hx.1], ?_, .inl rfl, .inr ⟨ht.1,h2⟩⟩
     unfold jA
     rw [if_pos rfl,if_neg (mK h2)]
     exact ((dZ hX hu).trans (dZ hX ht.2)).trans h1
   · rename_i ht
     rw [if_neg ht]
     split at h
     · rename_i ha
       rw [if_pos ha]
       simp only [Bool.and_eq_true]at ha
       simp only at h⊢
       obtain ⟨h1,h2⟩:=oD hX h
       have h3:=bG hX _ h1.1
       have h4:=dZ hX ha.2
       obtain ⟨h5,h6⟩:=oD hX h4.1
       have h7:=bG hX _ h5.1
       refine ⟨_,_,rfl, ?_, .inr h6, .inr ⟨ha.1,h2⟩⟩
       unfold jA
       rw [if_neg (mK h6),if_neg (mK h2)]
       exact (((((dZ hX hu).trans h7).trans h5).trans h4).trans h3).trans h1
     · rename_i ha
       rw [if_neg ha]
       simp only at h⊢
       obtain ⟨h5,h6⟩:=oD hX h
       have h7:=bG hX _ h5.1
       refine ⟨_,0,by rw [←hx.2], ?_, .inr h6, .inl rfl⟩
       unfold jA
       rw [if_neg (mK h6),if_pos rfl]
       exact ((dZ hX hu).trans h7).trans h5
 · rename_i hu
   rw [if_neg hu]
   refine ⟨0,0, ?_,mH.refl h, .inl rfl, .inl rfl⟩
   have h1:=hx.1
   have h2:=hx.2
   cases x
   simp only at h1 h2
   subst h1 h2
   rfl
theorem EI (hX:X.Ok) {σ:Ps}{l:List ByteArray}{but:ByteArray}(h:(X.one σ l but).2.bad=none):
 mH X σ [dW (X.one σ l but).1] (X.one σ l but).2∧bH (X.one σ l but).1∧(X.one σ l but).1∈l∧(X.one σ l but).1≠but:=by
 unfold Tx.one at h⊢
 simp only at h⊢
 obtain ⟨h1,h2⟩:=oC h
 rw [h2]at h⊢
 obtain ⟨h3,h4⟩:=gq hX h
 simp only [Bool.or_eq_true,Bool.not_eq_true',not_or,Bool.not_eq_false]at h1
 exact ⟨h3,h4,jI.1 h1.1,fun e=>h1.2 (dY.2 e)⟩
def yS (ty:Int):To:=if ty=1 then aR (⟨#[116,101,120,116]⟩:ByteArray)else aR (⟨#[105,110,116]⟩:ByteArray)
theorem QJ (hX:X.Ok) {σ:Ps}(h:(X.kind σ).2.bad=none):mH X σ [yS (X.kind σ).1] (X.kind σ).2∧((X.kind σ).1=1∨(X.kind σ).1=2):=by
 unfold Tx.kind at h⊢
 split at h
 · rename_i hs;rw [if_pos hs];exact ⟨dZ hX hs, .inl rfl⟩
 · rename_i hs
   rw [if_neg hs]
   exact ⟨bG hX [(⟨#[105,110,116]⟩:ByteArray)] h, .inr rfl⟩
end
end aH
end Go.Proofs.YtfbgdjcnlnfoaaaGreatDoor
