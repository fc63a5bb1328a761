/- Parts of the proof, joined: PrsW1 PrsW2. -/
import Derived.Test.YtfbgdjcnlnfoaaaGreatDoorB12j
set_option maxHeartbeats 3000000
set_option maxRecDepth 100000
namespace Go.Proofs.YtfbgdjcnlnfoaaaGreatDoor
open Go.RowKit
open aH
theorem OC {s:ByteArray}{w:World}(hG:Gp w) (he:(aX s).2.2=0) (hC:(Tx.may (⟨(aX s).1,(pts s).length⟩:Tx) (Tx.iq (⟨(aX s).1,(pts s).length⟩:Tx) ((aX s).1.length+2) ⟨0,none⟩).2 (⟨#[59]⟩:ByteArray)).i<(aX s).1.length):Calls Tryz.prog 18 #[.string s] w (uf w s):=by
 have hB1:=(Below.refl w.heap.size w).alloc (Nat.le_refl _) (.cells #[.int .i64 0, .string ⟨#[]⟩, .string ⟨#[]⟩, .string ⟨#[]⟩, .string ⟨#[]⟩, .int .i64 0, .string ⟨#[]⟩, .int .i64 0, .string ⟨#[]⟩, .int .i64 0, .slice none 0 0, .slice none 0 0, .slice none 0 0, .slice none 0 0, .int .i64 0, .int .i64 0, .int .i64 0, .slice none 0 0] 31)
 have hb0:(w.alloc (.cells #[.int .i64 0, .string ⟨#[]⟩, .string ⟨#[]⟩, .string ⟨#[]⟩, .string ⟨#[]⟩, .int .i64 0, .string ⟨#[]⟩, .int .i64 0, .string ⟨#[]⟩, .int .i64 0, .slice none 0 0, .slice none 0 0, .slice none 0 0, .slice none 0 0, .int .i64 0, .int .i64 0, .int .i64 0, .slice none 0 0] 31)).heap[w.heap.size]? =some (.cells #[.int .i64 0, .string ⟨#[]⟩, .string ⟨#[]⟩, .string ⟨#[]⟩, .string ⟨#[]⟩, .int .i64 0, .string ⟨#[]⟩, .int .i64 0, .string ⟨#[]⟩, .int .i64 0, .slice none 0 0, .slice none 0 0, .slice none 0 0, .slice none 0 0, .int .i64 0, .int .i64 0, .int .i64 0, .slice none 0 0] 31 (0,0)):=aB w _
 have hlex:=kF s _ (hG.below hB1).1
 obtain ⟨dH,hsz⟩:=sK he
 have q1:((aX s).2.2 !=0)=false:=by rw [he];rfl
 have hX:=Lx.ok dH (pts s).length
 obtain ⟨⟨nd,τ⟩,hpt⟩:∃r,iX ⟨(aX s).1,(pts s).length⟩=r:=⟨_,rfl⟩
 have HE:Hid (bB s=match τ.bad with|some a=>(jT.zero,(a:Int),3)|none=>if 1000<(fq (jE nd)).size then (jT.zero,0,2)else (jE nd,0,0)):=by
  show _=_;unfold bB;simp only;rw [if_neg (by rw [he];simp),hpt];rfl
 have HST:Hid (τ.bad=none→iR (jE nd).x∧(∀y∈(jE nd).parts,iR y)∧(jE nd).parts.length≤8):=fun hb=>by
  obtain ⟨L,R,LX,_,_⟩:=kQ hX (by rw [hpt];exact hb)
  rw [hpt]at LX
  exact LX.st
 unfold iX at hpt
 simp only at hpt
 obtain ⟨⟨nd',σ1⟩,h1⟩:∃r,Tx.iq ⟨(aX s).1,(pts s).length⟩ ((aX s).1.length+2) ⟨0,none⟩=r:=⟨_,rfl⟩
 rw [h1]at hpt
 obtain ⟨σ2,h2⟩:∃r,Tx.may ⟨(aX s).1,(pts s).length⟩ σ1 (⟨#[59]⟩:ByteArray)=r:=⟨_,rfl⟩
 rw [h2]at hpt
 injection hpt with hnd HV
 rw [h1]at hC
 simp only [h2]at hC
 have HC:=Lib.hid hC
 clear hC
 subst hnd
 have hbz:=sQ
 have HG:=Lib.hid hG
 have LY:=Lib.hid hsz
 clear he hG hsz dH hX
 go_enter Tryz.func18,Tryz.ntmps18
 go_wp2_with fail
 refine hlex.mono ?_;rintro e w2 ⟨⟨v,rfl,hrow⟩,hb2⟩
 have hB2:=hB1.trans (hb2.mono hB1.size)
 have tq:=bf hb0 hb2 (aC hb0)
 obtain ⟨ta,lV,rfl,_⟩:=aY hrow
 have hct:=nR s w2 (by have:=LY.out;omega)
 go_wp2_with fail
 refine hct.mono ?_;rintro e w3 ⟨rfl,hb3⟩
 have hB3:=hB2.trans (hb3.mono hB2.size)
 have kD:=bf tq hb3 (aC tq)
 obtain ⟨K,hKb,zS,sS,hKw,hPQ⟩:=BU (HG.out.below hB3) LY.out hrow hb3
 have hD4:=Did.refl hPQ
 have hb4:=au kD (.cells #[.slice ta (aX s).1.length lV, .int .i64 0, .int .i64 (pts s).length, .int .i64 (-1)] 69)
 have hst:=jC (K:=K) ((aX s).1.length+2) hPQ (by rw [sS];show (aX s).1.length - 0<_;omega)
 rw [sS,h1,hKb]at hst
 go_wp2_with fail
 refine hst.mono ?_;intro e w5 hz
 obtain ⟨v9,rfl,hd5,Cq⟩:=oU hz
 have hD5:=hD4.trans hd5
 have hmay:=aS hd5.1 (⟨#[59]⟩:ByteArray)
 rw [sS,h2,hKb]at hmay
 go_wp2_with fail
 refine hmay.mono ?_;rintro e w6 ⟨rfl,hd6⟩
 have hD6:=hD5.trans hd6
 have MO:=Cq.did hd6 (by rw [zS,aA];exact Nat.le_refl _)
 have YL:K.L≤(w3.alloc (.cells #[.slice ta (aX s).1.length lV, .int .i64 0, .int .i64 (pts s).length, .int .i64 (-1)] 69)).heap.size:=by rw [zS,aA];exact Nat.le_refl _
 obtain ⟨ta2,LZ,c0,c1,c2,c3,_,f3,_⟩:=hD6.1.cells
 rw [hKb]at c0 c1 c2 c3 f3
 rw [sS]at c0 c2
 have HX:=Lib.hid sS
 have BX:=Lib.hid hKb
 have HKL:=Lib.hid zS
 have FC:=Lib.hid HV
 clear sS hKb zS HV h1 h2 hst hmay hct hlex
 have hB4:=hB3.alloc hB3.size (.cells #[.slice ta (aX s).1.length lV, .int .i64 0, .int .i64 (pts s).length, .int .i64 (-1)] 69)
 have OD:Hid (K.b≠w.heap.size):=by show _≠_;rw [BX.out];have:=aC kD;omega
 by_cases hlt:σ2.i<(aX s).1.length
 · have p0:(σ2.i:Int)<((aX s).1.length:Int):=by omega
   have hf:=Tx.fail ⟨(aX s).1,(pts s).length⟩ σ2
   obtain ⟨σ3,h3⟩:∃r,Tx.fail ⟨(aX s).1,(pts s).length⟩ σ2=r:=⟨_,rfl⟩
   have HT3:Hid (τ=σ3):=by show _=_;rw [←FC.out,if_pos hlt,h3]
   have H3:=Lib.hid h3
   obtain ⟨bd,hbad⟩:∃bd,σ3.bad=some bd:=by
    cases hb:σ3.bad with
    |some a=>exact ⟨a,rfl⟩
    |none=>rw [←h3]at hb;exact absurd hb sF
   clear h3 hf
   go_wp2_with fail
   go_quiet (fail)
   go_wp2_with fail
   have hD7:=hD6.drewN nq
   generalize w6.drewN nq=w7 at *
   have hat:=iB hD7.1
   rw [HX.out,BX.out]at hat
   refine hat.mono ?_;rintro e w8 ⟨rfl,m8,rfl⟩
   have yL:=hD7.drewN m8
   generalize w7.drewN m8=w8 at *
   have hwr:=gB yL.1 (Tx.here ⟨(aX s).1,(pts s).length⟩ σ2)
   rw [BX.out]at hwr
   go_wp2_with fail
   refine hwr.mono ?_;rintro e w9 ⟨rfl,K4⟩
   have tK:=yL.trans K4
   replace tK:Did K (w3.alloc (.cells #[.slice ta (aX s).1.length lV, .int .i64 0, .int .i64 (pts s).length, .int .i64 (-1)] 69)) σ3 w9:=by have h:=tK;rw [show σ2.wrong (Tx.here ⟨(aX s).1,(pts s).length⟩ σ2)=σ3 from H3.out]at h;exact h
   have hok:=qy tK.1 (v:=false) (by rw [hbad];rfl)
   rw [BX.out]at hok
   go_wp2_with fail
   refine hok.mono ?_;rintro e wy ⟨rfl,my,rfl⟩
   have jY:=tK.drewN my
   generalize w9.drewN my=wx at *
   obtain ⟨_,_,_,_,_,e3,_,g3,_⟩:=jY.1.cells
   rw [BX.out]at e3 g3
   have Z5:σ3.nY=(bd:Int):=by unfold Ps.nY;rw [hbad]
   rw [Z5]at e3
   have hbx:=wU jY hb4 OD.out
   have hBx:=hB4.grown jY.2.1 hB4.size (fun k hk=>by cases hk;rw [BX.out];exact hB3.size)
   have HP:Hid (bB s=(jT.zero,(bd:Int),3)):=by
    show _=_
    rw [HE.out,HT3.out,hbad]
   clear hbad Z5
   go_wp2_with fail
   obtain ⟨zc0,zc1,zc2,zc3,zc4,zc5,zc6,zc7,zc8,zc9,abT,abU,abV,abW,abX,abY,abZ,ab0⟩:=DK hbx
   obtain ⟨zf0,zf1,zf2,zf3,zf4,zf5,zf6,zf7,zf8,zf9,ab1,ab2,ab3,ab4,ab5,ab6,ab7,ab8⟩:=IE hbx
   have hwz:=zh (w:=wx) (V:= #[.int .i64 0, .string ⟨#[]⟩, .string ⟨#[]⟩, .string ⟨#[]⟩, .string ⟨#[]⟩, .int .i64 0, .string ⟨#[]⟩, .int .i64 0, .string ⟨#[]⟩, .int .i64 0, .slice none 0 0, .slice none 0 0, .slice none 0 0, .slice none 0 0, .int .i64 0, .int .i64 0, .int .i64 0, .slice none 0 0]) hbx rfl rfl
   obtain ⟨wz,FD⟩:∃wz,wz=wx.setCells w.heap.size 0 [.int .i64 0, .string ⟨#[]⟩, .string ⟨#[]⟩, .string ⟨#[]⟩, .string ⟨#[]⟩, .int .i64 0, .string ⟨#[]⟩, .int .i64 0, .string ⟨#[]⟩, .int .i64 0, .slice none 0 0, .slice none 0 0, .slice none 0 0, .slice none 0 0, .int .i64 0, .int .i64 0, .int .i64 0, .slice none 0 0]:=⟨_,rfl⟩
   replace hwz:Wrote wx w.heap.size #[.int .i64 0, .string ⟨#[]⟩, .string ⟨#[]⟩, .string ⟨#[]⟩, .string ⟨#[]⟩, .int .i64 0, .string ⟨#[]⟩, .int .i64 0, .string ⟨#[]⟩, .int .i64 0, .slice none 0 0, .slice none 0 0, .slice none 0 0, .slice none 0 0, .int .i64 0, .int .i64 0, .int .i64 0, .slice none 0 0] 31 (wx.setCells w.heap.size 0 [.int .i64 0, .string ⟨#[]⟩, .string ⟨#[]⟩, .string ⟨#[]⟩, .string ⟨#[]⟩, .int .i64 0, .string ⟨#[]⟩, .int .i64 0, .string ⟨#[]⟩, .int .i64 0, .slice none 0 0, .slice none 0 0, .slice none 0 0, .slice none 0 0, .int .i64 0, .int .i64 0, .int .i64 0, .slice none 0 0]):=hwz
   rw [←FD]at hwz
   simp only [World.setCells,Nat.zero_add,Nat.reduceAdd]at FD
   have HWZ:=Lib.hid FD
   clear FD
   have hne1:¬w3.heap.size=w.heap.size:=by have:=aC kD;omega
   have hne2:¬w.heap.size=w3.heap.size:=by have:=aC kD;omega
   go_region
   all_goals
    go_wp2_with fail
    rw [←HWZ.out]
    refine bodyPost_ret (fT rfl rfl (mV (w:=wz.drew) hwz.blk rfl)) rfl ?_
    exact lH (p:=pz) HP.out (hwz.below _ _ hBx (Nat.le_refl _)).drew (xZ _ _)
 · exact absurd HC.out hlt
theorem OE {s:ByteArray}{w:World}(hG:Gp w) (he:(aX s).2.2=0) (hC:¬(Tx.may (⟨(aX s).1,(pts s).length⟩:Tx) (Tx.iq (⟨(aX s).1,(pts s).length⟩:Tx) ((aX s).1.length+2) ⟨0,none⟩).2 (⟨#[59]⟩:ByteArray)).i<(aX s).1.length∧(Tx.may (⟨(aX s).1,(pts s).length⟩:Tx) (Tx.iq (⟨(aX s).1,(pts s).length⟩:Tx) ((aX s).1.length+2) ⟨0,none⟩).2 (⟨#[59]⟩:ByteArray)).bad≠none):Calls Tryz.prog 18 #[.string s] w (uf w s):=by
 have hB1:=(Below.refl w.heap.size w).alloc (Nat.le_refl _) (.cells #[.int .i64 0, .string ⟨#[]⟩, .string ⟨#[]⟩, .string ⟨#[]⟩, .string ⟨#[]⟩, .int .i64 0, .string ⟨#[]⟩, .int .i64 0, .string ⟨#[]⟩, .int .i64 0, .slice none 0 0, .slice none 0 0, .slice none 0 0, .slice none 0 0, .int .i64 0, .int .i64 0, .int .i64 0, .slice none 0 0] 31)
 have hb0:(w.alloc (.cells #[.int .i64 0, .string ⟨#[]⟩, .string ⟨#[]⟩, .string ⟨#[]⟩, .string ⟨#[]⟩, .int .i64 0, .string ⟨#[]⟩, .int .i64 0, .string ⟨#[]⟩, .int .i64 0, .slice none 0 0, .slice none 0 0, .slice none 0 0, .slice none 0 0, .int .i64 0, .int .i64 0, .int .i64 0, .slice none 0 0] 31)).heap[w.heap.size]? =some (.cells #[.int .i64 0, .string ⟨#[]⟩, .string ⟨#[]⟩, .string ⟨#[]⟩, .string ⟨#[]⟩, .int .i64 0, .string ⟨#[]⟩, .int .i64 0, .string ⟨#[]⟩, .int .i64 0, .slice none 0 0, .slice none 0 0, .slice none 0 0, .slice none 0 0, .int .i64 0, .int .i64 0, .int .i64 0, .slice none 0 0] 31 (0,0)):=aB w _
 have hlex:=kF s _ (hG.below hB1).1
 obtain ⟨dH,hsz⟩:=sK he
 have q1:((aX s).2.2 !=0)=false:=by rw [he];rfl
 have hX:=Lx.ok dH (pts s).length
 obtain ⟨⟨nd,τ⟩,hpt⟩:∃r,iX ⟨(aX s).1,(pts s).length⟩=r:=⟨_,rfl⟩
 have HE:Hid (bB s=match τ.bad with|some a=>(jT.zero,(a:Int),3)|none=>if 1000<(fq (jE nd)).size then (jT.zero,0,2)else (jE nd,0,0)):=by
  show _=_;unfold bB;simp only;rw [if_neg (by rw [he];simp),hpt];rfl
 have HST:Hid (τ.bad=none→iR (jE nd).x∧(∀y∈(jE nd).parts,iR y)∧(jE nd).parts.length≤8):=fun hb=>by
  obtain ⟨L,R,LX,_,_⟩:=kQ hX (by rw [hpt];exact hb)
  rw [hpt]at LX
  exact LX.st
 unfold iX at hpt
 simp only at hpt
 obtain ⟨⟨nd',σ1⟩,h1⟩:∃r,Tx.iq ⟨(aX s).1,(pts s).length⟩ ((aX s).1.length+2) ⟨0,none⟩=r:=⟨_,rfl⟩
 rw [h1]at hpt
 obtain ⟨σ2,h2⟩:∃r,Tx.may ⟨(aX s).1,(pts s).length⟩ σ1 (⟨#[59]⟩:ByteArray)=r:=⟨_,rfl⟩
 rw [h2]at hpt
 injection hpt with hnd HV
 rw [h1]at hC
 simp only [h2]at hC
 have HC:=Lib.hid hC
 clear hC
 subst hnd
 have hbz:=sQ
 have HG:=Lib.hid hG
 have LY:=Lib.hid hsz
 clear he hG hsz dH hX
 go_enter Tryz.func18,Tryz.ntmps18
 go_wp2_with fail
 refine hlex.mono ?_;rintro e w2 ⟨⟨v,rfl,hrow⟩,hb2⟩
 have hB2:=hB1.trans (hb2.mono hB1.size)
 have tq:=bf hb0 hb2 (aC hb0)
 obtain ⟨ta,lV,rfl,_⟩:=aY hrow
 have hct:=nR s w2 (by have:=LY.out;omega)
 go_wp2_with fail
 refine hct.mono ?_;rintro e w3 ⟨rfl,hb3⟩
 have hB3:=hB2.trans (hb3.mono hB2.size)
 have kD:=bf tq hb3 (aC tq)
 obtain ⟨K,hKb,zS,sS,hKw,hPQ⟩:=BU (HG.out.below hB3) LY.out hrow hb3
 have hD4:=Did.refl hPQ
 have hb4:=au kD (.cells #[.slice ta (aX s).1.length lV, .int .i64 0, .int .i64 (pts s).length, .int .i64 (-1)] 69)
 have hst:=jC (K:=K) ((aX s).1.length+2) hPQ (by rw [sS];show (aX s).1.length - 0<_;omega)
 rw [sS,h1,hKb]at hst
 go_wp2_with fail
 refine hst.mono ?_;intro e w5 hz
 obtain ⟨v9,rfl,hd5,Cq⟩:=oU hz
 have hD5:=hD4.trans hd5
 have hmay:=aS hd5.1 (⟨#[59]⟩:ByteArray)
 rw [sS,h2,hKb]at hmay
 go_wp2_with fail
 refine hmay.mono ?_;rintro e w6 ⟨rfl,hd6⟩
 have hD6:=hD5.trans hd6
 have MO:=Cq.did hd6 (by rw [zS,aA];exact Nat.le_refl _)
 have YL:K.L≤(w3.alloc (.cells #[.slice ta (aX s).1.length lV, .int .i64 0, .int .i64 (pts s).length, .int .i64 (-1)] 69)).heap.size:=by rw [zS,aA];exact Nat.le_refl _
 obtain ⟨ta2,LZ,c0,c1,c2,c3,_,f3,_⟩:=hD6.1.cells
 rw [hKb]at c0 c1 c2 c3 f3
 rw [sS]at c0 c2
 have HX:=Lib.hid sS
 have BX:=Lib.hid hKb
 have HKL:=Lib.hid zS
 have FC:=Lib.hid HV
 clear sS hKb zS HV h1 h2 hst hmay hct hlex
 have hB4:=hB3.alloc hB3.size (.cells #[.slice ta (aX s).1.length lV, .int .i64 0, .int .i64 (pts s).length, .int .i64 (-1)] 69)
 have OD:Hid (K.b≠w.heap.size):=by show _≠_;rw [BX.out];have:=aC kD;omega
 by_cases hlt:σ2.i<(aX s).1.length
 · exact absurd hlt HC.out.1
 · have p0:¬(σ2.i:Int)<((aX s).1.length:Int):=by omega
   have HT3:Hid (τ=σ2):=by show _=_;rw [←FC.out,if_neg hlt]
   cases hbad:σ2.bad with
   |some bd=>
    go_wp2_with fail
    go_quiet (fail)
    go_wp2_with fail
    have tK:=hD6.drewN nq
    generalize w6.drewN nq=w9 at *
    have hok:=qy tK.1 (v:=false) (by rw [hbad];rfl)
    rw [BX.out]at hok
    go_wp2_with fail
    refine hok.mono ?_;rintro e wy ⟨rfl,my,rfl⟩
    have jY:=tK.drewN my
    generalize w9.drewN my=wx at *
    obtain ⟨_,_,_,_,_,e3,_,g3,_⟩:=jY.1.cells
    rw [BX.out]at e3 g3
    have Z5:σ2.nY=(bd:Int):=by unfold Ps.nY;rw [hbad]
    rw [Z5]at e3
    have hbx:=wU jY hb4 OD.out
    have hBx:=hB4.grown jY.2.1 hB4.size (fun k hk=>by cases hk;rw [BX.out];exact hB3.size)
    have HP:Hid (bB s=(jT.zero,(bd:Int),3)):=by
     show _=_
     rw [HE.out,HT3.out,hbad]
    clear hbad Z5
    go_wp2_with fail
    obtain ⟨zc0,zc1,zc2,zc3,zc4,zc5,zc6,zc7,zc8,zc9,abT,abU,abV,abW,abX,abY,abZ,ab0⟩:=DK hbx
    obtain ⟨zf0,zf1,zf2,zf3,zf4,zf5,zf6,zf7,zf8,zf9,ab1,ab2,ab3,ab4,ab5,ab6,ab7,ab8⟩:=IE hbx
    have hwz:=zh (w:=wx) (V:= #[.int .i64 0, .string ⟨#[]⟩, .string ⟨#[]⟩, .string ⟨#[]⟩, .string ⟨#[]⟩, .int .i64 0, .string ⟨#[]⟩, .int .i64 0, .string ⟨#[]⟩, .int .i64 0, .slice none 0 0, .slice none 0 0, .slice none 0 0, .slice none 0 0, .int .i64 0, .int .i64 0, .int .i64 0, .slice none 0 0]) hbx rfl rfl
    obtain ⟨wz,FD⟩:∃wz,wz=wx.setCells w.heap.size 0 [.int .i64 0, .string ⟨#[]⟩, .string ⟨#[]⟩, .string ⟨#[]⟩, .string ⟨#[]⟩, .int .i64 0, .string ⟨#[]⟩, .int .i64 0, .string ⟨#[]⟩, .int .i64 0, .slice none 0 0, .slice none 0 0, .slice none 0 0, .slice none 0 0, .int .i64 0, .int .i64 0, .int .i64 0, .slice none 0 0]:=⟨_,rfl⟩
    replace hwz:Wrote wx w.heap.size #[.int .i64 0, .string ⟨#[]⟩, .string ⟨#[]⟩, .string ⟨#[]⟩, .string ⟨#[]⟩, .int .i64 0, .string ⟨#[]⟩, .int .i64 0, .string ⟨#[]⟩, .int .i64 0, .slice none 0 0, .slice none 0 0, .slice none 0 0, .slice none 0 0, .int .i64 0, .int .i64 0, .int .i64 0, .slice none 0 0] 31 (wx.setCells w.heap.size 0 [.int .i64 0, .string ⟨#[]⟩, .string ⟨#[]⟩, .string ⟨#[]⟩, .string ⟨#[]⟩, .int .i64 0, .string ⟨#[]⟩, .int .i64 0, .string ⟨#[]⟩, .int .i64 0, .slice none 0 0, .slice none 0 0, .slice none 0 0, .slice none 0 0, .int .i64 0, .int .i64 0, .int .i64 0, .slice none 0 0]):=hwz
    rw [←FD]at hwz
    simp only [World.setCells,Nat.zero_add,Nat.reduceAdd]at FD
    have HWZ:=Lib.hid FD
    clear FD
    have hne1:¬w3.heap.size=w.heap.size:=by have:=aC kD;omega
    have hne2:¬w.heap.size=w3.heap.size:=by have:=aC kD;omega
    go_region
    all_goals
     go_wp2_with fail
     rw [←HWZ.out]
     refine bodyPost_ret (fT rfl rfl (mV (w:=wz.drew) hwz.blk rfl)) rfl ?_
     exact lH (p:=pz) HP.out (hwz.below _ _ hBx (Nat.le_refl _)).drew (xZ _ _)
   |none=>exact absurd hbad HC.out.2
end Go.Proofs.YtfbgdjcnlnfoaaaGreatDoor
