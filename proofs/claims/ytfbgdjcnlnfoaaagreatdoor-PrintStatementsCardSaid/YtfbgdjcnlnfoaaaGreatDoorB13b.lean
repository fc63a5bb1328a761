/- Parts of the proof, joined: PrsW3 PrsW4. -/
import Derived.Test.YtfbgdjcnlnfoaaaGreatDoorB12j
set_option maxHeartbeats 3000000
set_option maxRecDepth 100000
namespace Go.Proofs.YtfbgdjcnlnfoaaaGreatDoor
open Go.RowKit
open aH
theorem OG {s:ByteArray}{w:World}(hG:Gp w) (he:(aX s).2.2=0) (hC:¬(Tx.may (⟨(aX s).1,(pts s).length⟩:Tx) (Tx.iq (⟨(aX s).1,(pts s).length⟩:Tx) ((aX s).1.length+2) ⟨0,none⟩).2 (⟨#[59]⟩:ByteArray)).i<(aX s).1.length∧(Tx.may (⟨(aX s).1,(pts s).length⟩:Tx) (Tx.iq (⟨(aX s).1,(pts s).length⟩:Tx) ((aX s).1.length+2) ⟨0,none⟩).2 (⟨#[59]⟩:ByteArray)).bad=none∧∃x,(Tx.iq (⟨(aX s).1,(pts s).length⟩:Tx) ((aX s).1.length+2) ⟨0,none⟩).1= .plain x):Calls Tryz.prog 18 #[.string s] w (uf w s):=by
 have hB1:=(Below.refl w.heap.size w).alloc (Nat.le_refl _) (.cells #[.int .i64 0, .string ⟨#[]⟩, .string ⟨#[]⟩, .string ⟨#[]⟩, .string ⟨#[]⟩, .int .i64 0, .string ⟨#[]⟩, .int .i64 0, .string ⟨#[]⟩, .int .i64 0, .slice none 0 0, .slice none 0 0, .slice none 0 0, .slice none 0 0, .int .i64 0, .int .i64 0, .int .i64 0, .slice none 0 0] 31)
 have hb0:(w.alloc (.cells #[.int .i64 0, .string ⟨#[]⟩, .string ⟨#[]⟩, .string ⟨#[]⟩, .string ⟨#[]⟩, .int .i64 0, .string ⟨#[]⟩, .int .i64 0, .string ⟨#[]⟩, .int .i64 0, .slice none 0 0, .slice none 0 0, .slice none 0 0, .slice none 0 0, .int .i64 0, .int .i64 0, .int .i64 0, .slice none 0 0] 31)).heap[w.heap.size]? =some (.cells #[.int .i64 0, .string ⟨#[]⟩, .string ⟨#[]⟩, .string ⟨#[]⟩, .string ⟨#[]⟩, .int .i64 0, .string ⟨#[]⟩, .int .i64 0, .string ⟨#[]⟩, .int .i64 0, .slice none 0 0, .slice none 0 0, .slice none 0 0, .slice none 0 0, .int .i64 0, .int .i64 0, .int .i64 0, .slice none 0 0] 31 (0,0)):=aB w _
 have hlex:=kF s _ (hG.below hB1).1
 obtain ⟨dH,hsz⟩:=sK he
 have q1:((aX s).2.2 !=0)=false:=by rw [he];rfl
 have hX:=Lx.ok dH (pts s).length
 obtain ⟨⟨nd,τ⟩,hpt⟩:∃r,iX ⟨(aX s).1,(pts s).length⟩=r:=⟨_,rfl⟩
 have HE:Hid (bB s=match τ.bad with|some a=>(jT.zero,(a:Int),3)|none=>if 1000<(fq (jE nd)).size then (jT.zero,0,2)else (jE nd,0,0)):=by
  show _=_;unfold bB;simp only;rw [if_neg (by rw [he];simp),hpt];rfl
 have HST:Hid (τ.bad=none→iR (jE nd).x∧(∀y∈(jE nd).parts,iR y)∧(jE nd).parts.length≤8):=fun hb=>by
  obtain ⟨L,R,LX,_,_⟩:=kQ hX (by rw [hpt];exact hb)
  rw [hpt]at LX
  exact LX.st
 unfold iX at hpt
 simp only at hpt
 obtain ⟨⟨nd',σ1⟩,h1⟩:∃r,Tx.iq ⟨(aX s).1,(pts s).length⟩ ((aX s).1.length+2) ⟨0,none⟩=r:=⟨_,rfl⟩
 rw [h1]at hpt
 obtain ⟨σ2,h2⟩:∃r,Tx.may ⟨(aX s).1,(pts s).length⟩ σ1 (⟨#[59]⟩:ByteArray)=r:=⟨_,rfl⟩
 rw [h2]at hpt
 injection hpt with hnd HV
 rw [h1]at hC
 simp only [h2]at hC
 have HC:=Lib.hid hC
 clear hC
 subst hnd
 have hbz:=sQ
 have HG:=Lib.hid hG
 have LY:=Lib.hid hsz
 clear he hG hsz dH hX
 go_enter Tryz.func18,Tryz.ntmps18
 go_wp2_with fail
 refine hlex.mono ?_;rintro e w2 ⟨⟨v,rfl,hrow⟩,hb2⟩
 have hB2:=hB1.trans (hb2.mono hB1.size)
 have tq:=bf hb0 hb2 (aC hb0)
 obtain ⟨ta,lV,rfl,_⟩:=aY hrow
 have hct:=nR s w2 (by have:=LY.out;omega)
 go_wp2_with fail
 refine hct.mono ?_;rintro e w3 ⟨rfl,hb3⟩
 have hB3:=hB2.trans (hb3.mono hB2.size)
 have kD:=bf tq hb3 (aC tq)
 obtain ⟨K,hKb,zS,sS,hKw,hPQ⟩:=BU (HG.out.below hB3) LY.out hrow hb3
 have hD4:=Did.refl hPQ
 have hb4:=au kD (.cells #[.slice ta (aX s).1.length lV, .int .i64 0, .int .i64 (pts s).length, .int .i64 (-1)] 69)
 have hst:=jC (K:=K) ((aX s).1.length+2) hPQ (by rw [sS];show (aX s).1.length - 0<_;omega)
 rw [sS,h1,hKb]at hst
 go_wp2_with fail
 refine hst.mono ?_;intro e w5 hz
 obtain ⟨v9,rfl,hd5,Cq⟩:=oU hz
 have hD5:=hD4.trans hd5
 have hmay:=aS hd5.1 (⟨#[59]⟩:ByteArray)
 rw [sS,h2,hKb]at hmay
 go_wp2_with fail
 refine hmay.mono ?_;rintro e w6 ⟨rfl,hd6⟩
 have hD6:=hD5.trans hd6
 have MO:=Cq.did hd6 (by rw [zS,aA];exact Nat.le_refl _)
 have YL:K.L≤(w3.alloc (.cells #[.slice ta (aX s).1.length lV, .int .i64 0, .int .i64 (pts s).length, .int .i64 (-1)] 69)).heap.size:=by rw [zS,aA];exact Nat.le_refl _
 obtain ⟨ta2,LZ,c0,c1,c2,c3,_,f3,_⟩:=hD6.1.cells
 rw [hKb]at c0 c1 c2 c3 f3
 rw [sS]at c0 c2
 have HX:=Lib.hid sS
 have BX:=Lib.hid hKb
 have HKL:=Lib.hid zS
 have FC:=Lib.hid HV
 clear sS hKb zS HV h1 h2 hst hmay hct hlex
 have hB4:=hB3.alloc hB3.size (.cells #[.slice ta (aX s).1.length lV, .int .i64 0, .int .i64 (pts s).length, .int .i64 (-1)] 69)
 have OD:Hid (K.b≠w.heap.size):=by show _≠_;rw [BX.out];have:=aC kD;omega
 by_cases hlt:σ2.i<(aX s).1.length
 · exact absurd hlt HC.out.1
 · have p0:¬(σ2.i:Int)<((aX s).1.length:Int):=by omega
   have HT3:Hid (τ=σ2):=by show _=_;rw [←FC.out,if_neg hlt]
   cases hbad:σ2.bad with
   |some bd=>exact absurd hbad (by rw [HC.out.2.1];simp)
   |none=>
    go_wp2_with fail
    go_quiet (fail)
    go_wp2_with fail
    have tK:=hD6.drewN nq
    have Z6:=MO.below (aH.below_drewN (Below.refl w6.heap.size w6) nq)
    generalize w6.drewN nq=w9 at *
    have hok:=qy tK.1 (v:=true) (by rw [hbad];rfl)
    rw [BX.out]at hok
    have hst:=HST.out (by rw [HT3.out];exact hbad)
    have HP:Hid (bB s=if 1000<(fq (jE nd')).size then (jT.zero,0,2)else (jE nd',0,0)):=by
     show _=_
     rw [HE.out,HT3.out,hbad]
    clear hbad
    go_wp2_with fail
    refine hok.mono ?_;rintro e wy ⟨rfl,my,rfl⟩
    have jY:=tK.drewN my
    have Sc:=Z6.below (aH.below_drewN (Below.refl w9.heap.size w9) my)
    generalize w9.drewN my=wx at *
    have hbx:=wU jY hb4 OD.out
    have hBx:=hB4.grown jY.2.1 hB4.size (fun k hk=>by cases hk;rw [BX.out];exact hB3.size)
    cases nd' with
    |plain x=>
     obtain ⟨tc,c,s',wv,rfl,hrw⟩:=Sc
     have IG:=hrw.one
     have hmt:=ZY
     have hsm:=Uc (w:=wx) x tc c s' wv IG
     go_wp2_with fail
     refine hsm.mono ?_;rintro e wA ⟨rfl,hbs⟩
     have hrw1:=hrw.mono (show w.heap.size+1≤_ by rw [aA];have:=hB3.size;omega)
     have hrw2:=hrw1.map fun _ _ _ _ _ _ hr=>fB hr hbs
     have O1:=bf hbx hbs (aC hbx)
     have V8:=hBx.trans (hbs.mono hBx.size)
     have hone:(aF x tc c s' wv ak).toList.all (·.oneCell')=true:=IG
     have hW:=aB wA (.cells (aF x tc c s' wv ak) 31)
     have BZ:=V8.alloc V8.size (.cells (aF x tc c s' wv ak) 31)
     have hT:Calls Tryz.prog 30 #[.agg (aF x tc c s' wv ak)] (wA.alloc (.cells (aF x tc c s' wv ak) 31)) fun e w' =>e= .returned (.string (fq (jE (.plain x))))∧Below (wA.alloc (.cells (aF x tc c s' wv ak) 31)).heap.size (wA.alloc (.cells (aF x tc c s' wv ak) 31)) w' :=sO (p:=⟨x,tc,c,s',wv,ak⟩) (L:= []) (HG.out.below BZ) ⟨hst.1,(hrw2.map fun _ _ _ _ _ _ hr=>hr.alloc _).rd,rfl⟩ (fun _=>⟨Nat.zero_le _,Kt _,fun _ h=>nomatch h⟩)
     obtain ⟨tx,htx⟩:∃r,fq (jE (.plain x))=r:=⟨_,rfl⟩
     rw [htx]at hT HP
     have Sd:=Lib.hid HP.out
     clear HP htx
     go_wp2_with (first|refine fZ rfl _ _ rfl rfl rfl rfl rfl hone ?_|refine bA rfl _ rfl rfl rfl hW ?_)
     refine hT.mono ?_;rintro e wB ⟨rfl,I5⟩
     have Z7:=bf hW I5 (aC hW)
     have II:=bf (au O1 _) I5 (aC (au O1 _))
     have V9:=BZ.trans (I5.mono BZ.size)
     have hHB:=(show nQ wA (w.heap.size+1) ⟨x,tc,c,s',wv,ak⟩ [] (jE (.plain x))from ⟨rfl,rfl,hrw2,World.ownsRow_nil _ _ _ _,fun _ h=>nomatch h⟩).below ((Below.refl wA.heap.size wA).alloc (Nat.le_refl _) (.cells (aF x tc c s' wv ak) 31)|>.trans (I5.mono (by rw [aA];omega)))
     by_cases hbig:1000<tx.size
     · have p9:(1000:Int)<(tx.size:Int):=by omega
       have HQ:Hid (bB s=(jT.zero,0,2)):=by show _=_;rw [Sd.out,if_pos hbig]
       clear hbig
       go_wp2_with (refine eD rfl _ _ rfl rfl rfl II rfl rfl rfl ?_;intro wz hwz)
       refine bodyPost_ret (fT rfl rfl (mV hwz.blk rfl)) rfl ?_
       exact lH (p:=pz) HQ.out (hwz.below _ _ V9 (Nat.le_refl _)) (xZ _ _)
     · have p9:¬(1000:Int)<(tx.size:Int):=by omega
       have HQ:Hid (bB s=(jE (.plain x),0,0)):=by show _=_;rw [Sd.out,if_neg hbig]
       clear hbig
       go_wp2_with (first|refine bA rfl _ rfl rfl rfl Z7 ?_|(refine eD rfl _ _ rfl rfl rfl II rfl rfl hone ?_;intro wz hwz))
       refine bodyPost_ret (fT rfl rfl (mV hwz.blk rfl)) rfl ?_
       exact lH (p:=⟨x,tc,c,s',wv,ak⟩) HQ.out (hwz.below _ _ V9 (Nat.le_refl _)) ((hwz.has hHB (Nat.lt_succ_self _)).mono (Nat.le_succ _))
    |change x=>obtain ⟨_,h⟩:=HC.out.2.2;exact absurd h (by simp)
    |batch l=>obtain ⟨_,h⟩:=HC.out.2.2;exact absurd h (by simp)
theorem OH {s:ByteArray}{w:World}(hG:Gp w) (he:(aX s).2.2=0) (hC:¬(Tx.may (⟨(aX s).1,(pts s).length⟩:Tx) (Tx.iq (⟨(aX s).1,(pts s).length⟩:Tx) ((aX s).1.length+2) ⟨0,none⟩).2 (⟨#[59]⟩:ByteArray)).i<(aX s).1.length∧(Tx.may (⟨(aX s).1,(pts s).length⟩:Tx) (Tx.iq (⟨(aX s).1,(pts s).length⟩:Tx) ((aX s).1.length+2) ⟨0,none⟩).2 (⟨#[59]⟩:ByteArray)).bad=none∧∃x,(Tx.iq (⟨(aX s).1,(pts s).length⟩:Tx) ((aX s).1.length+2) ⟨0,none⟩).1= .change x):Calls Tryz.prog 18 #[.string s] w (uf w s):=by
 have hB1:=(Below.refl w.heap.size w).alloc (Nat.le_refl _) (.cells #[.int .i64 0, .string ⟨#[]⟩, .string ⟨#[]⟩, .string ⟨#[]⟩, .string ⟨#[]⟩, .int .i64 0, .string ⟨#[]⟩, .int .i64 0, .string ⟨#[]⟩, .int .i64 0, .slice none 0 0, .slice none 0 0, .slice none 0 0, .slice none 0 0, .int .i64 0, .int .i64 0, .int .i64 0, .slice none 0 0] 31)
 have hb0:(w.alloc (.cells #[.int .i64 0, .string ⟨#[]⟩, .string ⟨#[]⟩, .string ⟨#[]⟩, .string ⟨#[]⟩, .int .i64 0, .string ⟨#[]⟩, .int .i64 0, .string ⟨#[]⟩, .int .i64 0, .slice none 0 0, .slice none 0 0, .slice none 0 0, .slice none 0 0, .int .i64 0, .int .i64 0, .int .i64 0, .slice none 0 0] 31)).heap[w.heap.size]? =some (.cells #[.int .i64 0, .string ⟨#[]⟩, .string ⟨#[]⟩, .string ⟨#[]⟩, .string ⟨#[]⟩, .int .i64 0, .string ⟨#[]⟩, .int .i64 0, .string ⟨#[]⟩, .int .i64 0, .slice none 0 0, .slice none 0 0, .slice none 0 0, .slice none 0 0, .int .i64 0, .int .i64 0, .int .i64 0, .slice none 0 0] 31 (0,0)):=aB w _
 have hlex:=kF s _ (hG.below hB1).1
 obtain ⟨dH,hsz⟩:=sK he
 have q1:((aX s).2.2 !=0)=false:=by rw [he];rfl
 have hX:=Lx.ok dH (pts s).length
 obtain ⟨⟨nd,τ⟩,hpt⟩:∃r,iX ⟨(aX s).1,(pts s).length⟩=r:=⟨_,rfl⟩
 have HE:Hid (bB s=match τ.bad with|some a=>(jT.zero,(a:Int),3)|none=>if 1000<(fq (jE nd)).size then (jT.zero,0,2)else (jE nd,0,0)):=by
  show _=_;unfold bB;simp only;rw [if_neg (by rw [he];simp),hpt];rfl
 have HST:Hid (τ.bad=none→iR (jE nd).x∧(∀y∈(jE nd).parts,iR y)∧(jE nd).parts.length≤8):=fun hb=>by
  obtain ⟨L,R,LX,_,_⟩:=kQ hX (by rw [hpt];exact hb)
  rw [hpt]at LX
  exact LX.st
 unfold iX at hpt
 simp only at hpt
 obtain ⟨⟨nd',σ1⟩,h1⟩:∃r,Tx.iq ⟨(aX s).1,(pts s).length⟩ ((aX s).1.length+2) ⟨0,none⟩=r:=⟨_,rfl⟩
 rw [h1]at hpt
 obtain ⟨σ2,h2⟩:∃r,Tx.may ⟨(aX s).1,(pts s).length⟩ σ1 (⟨#[59]⟩:ByteArray)=r:=⟨_,rfl⟩
 rw [h2]at hpt
 injection hpt with hnd HV
 rw [h1]at hC
 simp only [h2]at hC
 have HC:=Lib.hid hC
 clear hC
 subst hnd
 have hbz:=sQ
 have HG:=Lib.hid hG
 have LY:=Lib.hid hsz
 clear he hG hsz dH hX
 go_enter Tryz.func18,Tryz.ntmps18
 go_wp2_with fail
 refine hlex.mono ?_;rintro e w2 ⟨⟨v,rfl,hrow⟩,hb2⟩
 have hB2:=hB1.trans (hb2.mono hB1.size)
 have tq:=bf hb0 hb2 (aC hb0)
 obtain ⟨ta,lV,rfl,_⟩:=aY hrow
 have hct:=nR s w2 (by have:=LY.out;omega)
 go_wp2_with fail
 refine hct.mono ?_;rintro e w3 ⟨rfl,hb3⟩
 have hB3:=hB2.trans (hb3.mono hB2.size)
 have kD:=bf tq hb3 (aC tq)
 obtain ⟨K,hKb,zS,sS,hKw,hPQ⟩:=BU (HG.out.below hB3) LY.out hrow hb3
 have hD4:=Did.refl hPQ
 have hb4:=au kD (.cells #[.slice ta (aX s).1.length lV, .int .i64 0, .int .i64 (pts s).length, .int .i64 (-1)] 69)
 have hst:=jC (K:=K) ((aX s).1.length+2) hPQ (by rw [sS];show (aX s).1.length - 0<_;omega)
 rw [sS,h1,hKb]at hst
 go_wp2_with fail
 refine hst.mono ?_;intro e w5 hz
 obtain ⟨v9,rfl,hd5,Cq⟩:=oU hz
 have hD5:=hD4.trans hd5
 have hmay:=aS hd5.1 (⟨#[59]⟩:ByteArray)
 rw [sS,h2,hKb]at hmay
 go_wp2_with fail
 refine hmay.mono ?_;rintro e w6 ⟨rfl,hd6⟩
 have hD6:=hD5.trans hd6
 have MO:=Cq.did hd6 (by rw [zS,aA];exact Nat.le_refl _)
 have YL:K.L≤(w3.alloc (.cells #[.slice ta (aX s).1.length lV, .int .i64 0, .int .i64 (pts s).length, .int .i64 (-1)] 69)).heap.size:=by rw [zS,aA];exact Nat.le_refl _
 obtain ⟨ta2,LZ,c0,c1,c2,c3,_,f3,_⟩:=hD6.1.cells
 rw [hKb]at c0 c1 c2 c3 f3
 rw [sS]at c0 c2
 have HX:=Lib.hid sS
 have BX:=Lib.hid hKb
 have HKL:=Lib.hid zS
 have FC:=Lib.hid HV
 clear sS hKb zS HV h1 h2 hst hmay hct hlex
 have hB4:=hB3.alloc hB3.size (.cells #[.slice ta (aX s).1.length lV, .int .i64 0, .int .i64 (pts s).length, .int .i64 (-1)] 69)
 have OD:Hid (K.b≠w.heap.size):=by show _≠_;rw [BX.out];have:=aC kD;omega
 by_cases hlt:σ2.i<(aX s).1.length
 · exact absurd hlt HC.out.1
 · have p0:¬(σ2.i:Int)<((aX s).1.length:Int):=by omega
   have HT3:Hid (τ=σ2):=by show _=_;rw [←FC.out,if_neg hlt]
   cases hbad:σ2.bad with
   |some bd=>exact absurd hbad (by rw [HC.out.2.1];simp)
   |none=>
    go_wp2_with fail
    go_quiet (fail)
    go_wp2_with fail
    have tK:=hD6.drewN nq
    have Z6:=MO.below (aH.below_drewN (Below.refl w6.heap.size w6) nq)
    generalize w6.drewN nq=w9 at *
    have hok:=qy tK.1 (v:=true) (by rw [hbad];rfl)
    rw [BX.out]at hok
    have hst:=HST.out (by rw [HT3.out];exact hbad)
    have HP:Hid (bB s=if 1000<(fq (jE nd')).size then (jT.zero,0,2)else (jE nd',0,0)):=by
     show _=_
     rw [HE.out,HT3.out,hbad]
    clear hbad
    go_wp2_with fail
    refine hok.mono ?_;rintro e wy ⟨rfl,my,rfl⟩
    have jY:=tK.drewN my
    have Sc:=Z6.below (aH.below_drewN (Below.refl w9.heap.size w9) my)
    generalize w9.drewN my=wx at *
    have hbx:=wU jY hb4 OD.out
    have hBx:=hB4.grown jY.2.1 hB4.size (fun k hk=>by cases hk;rw [BX.out];exact hB3.size)
    cases nd' with
    |plain x=>obtain ⟨_,h⟩:=HC.out.2.2;exact absurd h (by simp)
    |change x=>
     obtain ⟨tc,c,s',wv,rfl,hrw⟩:=Sc
     have IG:=hrw.one
     have hmt:=Z0
     have hsm:=Ud (w:=wx) x tc c s' wv IG
     go_wp2_with fail
     refine hsm.mono ?_;rintro e wA ⟨rfl,hbs⟩
     have hrw1:=hrw.mono (show w.heap.size+1≤_ by rw [aA];have:=hB3.size;omega)
     have hrw2:=hrw1.map fun _ _ _ _ _ _ hr=>fB hr hbs
     have O1:=bf hbx hbs (aC hbx)
     have V8:=hBx.trans (hbs.mono hBx.size)
     have hone:(aF x tc c s' wv ak).toList.all (·.oneCell')=true:=IG
     have hW:=aB wA (.cells (aF x tc c s' wv ak) 31)
     have BZ:=V8.alloc V8.size (.cells (aF x tc c s' wv ak) 31)
     have hT:Calls Tryz.prog 30 #[.agg (aF x tc c s' wv ak)] (wA.alloc (.cells (aF x tc c s' wv ak) 31)) fun e w' =>e= .returned (.string (fq (jE (.change x))))∧Below (wA.alloc (.cells (aF x tc c s' wv ak) 31)).heap.size (wA.alloc (.cells (aF x tc c s' wv ak) 31)) w' :=sO (p:=⟨x,tc,c,s',wv,ak⟩) (L:= []) (HG.out.below BZ) ⟨hst.1,(hrw2.map fun _ _ _ _ _ _ hr=>hr.alloc _).rd,rfl⟩ (fun _=>⟨Nat.zero_le _,Kt _,fun _ h=>nomatch h⟩)
     obtain ⟨tx,htx⟩:∃r,fq (jE (.change x))=r:=⟨_,rfl⟩
     rw [htx]at hT HP
     have Sd:=Lib.hid HP.out
     clear HP htx
     go_wp2_with (first|refine fZ rfl _ _ rfl rfl rfl rfl rfl hone ?_|refine bA rfl _ rfl rfl rfl hW ?_)
     refine hT.mono ?_;rintro e wB ⟨rfl,I5⟩
     have Z7:=bf hW I5 (aC hW)
     have II:=bf (au O1 _) I5 (aC (au O1 _))
     have V9:=BZ.trans (I5.mono BZ.size)
     have hHB:=(show nQ wA (w.heap.size+1) ⟨x,tc,c,s',wv,ak⟩ [] (jE (.change x))from ⟨rfl,rfl,hrw2,World.ownsRow_nil _ _ _ _,fun _ h=>nomatch h⟩).below ((Below.refl wA.heap.size wA).alloc (Nat.le_refl _) (.cells (aF x tc c s' wv ak) 31)|>.trans (I5.mono (by rw [aA];omega)))
     by_cases hbig:1000<tx.size
     · have p9:(1000:Int)<(tx.size:Int):=by omega
       have HQ:Hid (bB s=(jT.zero,0,2)):=by show _=_;rw [Sd.out,if_pos hbig]
       clear hbig
       go_wp2_with (refine eD rfl _ _ rfl rfl rfl II rfl rfl rfl ?_;intro wz hwz)
       refine bodyPost_ret (fT rfl rfl (mV hwz.blk rfl)) rfl ?_
       exact lH (p:=pz) HQ.out (hwz.below _ _ V9 (Nat.le_refl _)) (xZ _ _)
     · have p9:¬(1000:Int)<(tx.size:Int):=by omega
       have HQ:Hid (bB s=(jE (.change x),0,0)):=by show _=_;rw [Sd.out,if_neg hbig]
       clear hbig
       go_wp2_with (first|refine bA rfl _ rfl rfl rfl Z7 ?_|(refine eD rfl _ _ rfl rfl rfl II rfl rfl hone ?_;intro wz hwz))
       refine bodyPost_ret (fT rfl rfl (mV hwz.blk rfl)) rfl ?_
       exact lH (p:=⟨x,tc,c,s',wv,ak⟩) HQ.out (hwz.below _ _ V9 (Nat.le_refl _)) ((hwz.has hHB (Nat.lt_succ_self _)).mono (Nat.le_succ _))
    |batch l=>obtain ⟨_,h⟩:=HC.out.2.2;exact absurd h (by simp)
end Go.Proofs.YtfbgdjcnlnfoaaaGreatDoor
