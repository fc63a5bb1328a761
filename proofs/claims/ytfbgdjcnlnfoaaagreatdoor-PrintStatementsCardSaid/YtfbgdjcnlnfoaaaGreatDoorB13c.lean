/- Parts of the proof, joined: PrsW5. -/
import Derived.Test.YtfbgdjcnlnfoaaaGreatDoorB12j
set_option maxHeartbeats 3000000
set_option maxRecDepth 100000
namespace Go.Proofs.YtfbgdjcnlnfoaaaGreatDoor
open Go.RowKit
open aH
theorem OI {s:ByteArray}{w:World}(hG:Gp w) (he:(aX s).2.2=0) (hC:¬(Tx.may (⟨(aX s).1,(pts s).length⟩:Tx) (Tx.iq (⟨(aX s).1,(pts s).length⟩:Tx) ((aX s).1.length+2) ⟨0,none⟩).2 (⟨#[59]⟩:ByteArray)).i<(aX s).1.length∧(Tx.may (⟨(aX s).1,(pts s).length⟩:Tx) (Tx.iq (⟨(aX s).1,(pts s).length⟩:Tx) ((aX s).1.length+2) ⟨0,none⟩).2 (⟨#[59]⟩:ByteArray)).bad=none∧∃x,(Tx.iq (⟨(aX s).1,(pts s).length⟩:Tx) ((aX s).1.length+2) ⟨0,none⟩).1= .batch x):Calls Tryz.prog 18 #[.string s] w (uf w s):=by
 have hB1:=(Below.refl w.heap.size w).alloc (Nat.le_refl _) (.cells #[.int .i64 0, .string ⟨#[]⟩, .string ⟨#[]⟩, .string ⟨#[]⟩, .string ⟨#[]⟩, .int .i64 0, .string ⟨#[]⟩, .int .i64 0, .string ⟨#[]⟩, .int .i64 0, .slice none 0 0, .slice none 0 0, .slice none 0 0, .slice none 0 0, .int .i64 0, .int .i64 0, .int .i64 0, .slice none 0 0] 31)
 have hb0:(w.alloc (.cells #[.int .i64 0, .string ⟨#[]⟩, .string ⟨#[]⟩, .string ⟨#[]⟩, .string ⟨#[]⟩, .int .i64 0, .string ⟨#[]⟩, .int .i64 0, .string ⟨#[]⟩, .int .i64 0, .slice none 0 0, .slice none 0 0, .slice none 0 0, .slice none 0 0, .int .i64 0, .int .i64 0, .int .i64 0, .slice none 0 0] 31)).heap[w.heap.size]? =some (.cells #[.int .i64 0, .string ⟨#[]⟩, .string ⟨#[]⟩, .string ⟨#[]⟩, .string ⟨#[]⟩, .int .i64 0, .string ⟨#[]⟩, .int .i64 0, .string ⟨#[]⟩, .int .i64 0, .slice none 0 0, .slice none 0 0, .slice none 0 0, .slice none 0 0, .int .i64 0, .int .i64 0, .int .i64 0, .slice none 0 0] 31 (0,0)):=aB w _
 have hlex:=kF s _ (hG.below hB1).1
 obtain ⟨dH,hsz⟩:=sK he
 have q1:((aX s).2.2 !=0)=false:=by rw [he];rfl
 have hX:=Lx.ok dH (pts s).length
 obtain ⟨⟨nd,τ⟩,hpt⟩:∃r,iX ⟨(aX s).1,(pts s).length⟩=r:=⟨_,rfl⟩
 have HE:Hid (bB s=match τ.bad with|some a=>(jT.zero,(a:Int),3)|none=>if 1000<(fq (jE nd)).size then (jT.zero,0,2)else (jE nd,0,0)):=by
  show _=_;unfold bB;simp only;rw [if_neg (by rw [he];simp),hpt];rfl
 have HST:Hid (τ.bad=none→iR (jE nd).x∧(∀y∈(jE nd).parts,iR y)∧(jE nd).parts.length≤8):=fun hb=>by
  obtain ⟨L,R,LX,_,_⟩:=kQ hX (by rw [hpt];exact hb)
  rw [hpt]at LX
  exact LX.st
 unfold iX at hpt
 simp only at hpt
 obtain ⟨⟨nd',σ1⟩,h1⟩:∃r,Tx.iq ⟨(aX s).1,(pts s).length⟩ ((aX s).1.length+2) ⟨0,none⟩=r:=⟨_,rfl⟩
 rw [h1]at hpt
 obtain ⟨σ2,h2⟩:∃r,Tx.may ⟨(aX s).1,(pts s).length⟩ σ1 (⟨#[59]⟩:ByteArray)=r:=⟨_,rfl⟩
 rw [h2]at hpt
 injection hpt with hnd HV
 rw [h1]at hC
 simp only [h2]at hC
 have HC:=Lib.hid hC
 clear hC
 subst hnd
 have hbz:=sQ
 have HG:=Lib.hid hG
 have LY:=Lib.hid hsz
 clear he hG hsz dH hX
 go_enter Tryz.func18,Tryz.ntmps18
 go_wp2_with fail
 refine hlex.mono ?_;rintro e w2 ⟨⟨v,rfl,hrow⟩,hb2⟩
 have hB2:=hB1.trans (hb2.mono hB1.size)
 have tq:=bf hb0 hb2 (aC hb0)
 obtain ⟨ta,lV,rfl,_⟩:=aY hrow
 have hct:=nR s w2 (by have:=LY.out;omega)
 go_wp2_with fail
 refine hct.mono ?_;rintro e w3 ⟨rfl,hb3⟩
 have hB3:=hB2.trans (hb3.mono hB2.size)
 have kD:=bf tq hb3 (aC tq)
 obtain ⟨K,hKb,zS,sS,hKw,hPQ⟩:=BU (HG.out.below hB3) LY.out hrow hb3
 have hD4:=Did.refl hPQ
 have hb4:=au kD (.cells #[.slice ta (aX s).1.length lV, .int .i64 0, .int .i64 (pts s).length, .int .i64 (-1)] 69)
 have hst:=jC (K:=K) ((aX s).1.length+2) hPQ (by rw [sS];show (aX s).1.length - 0<_;omega)
 rw [sS,h1,hKb]at hst
 go_wp2_with fail
 refine hst.mono ?_;intro e w5 hz
 obtain ⟨v9,rfl,hd5,Cq⟩:=oU hz
 have hD5:=hD4.trans hd5
 have hmay:=aS hd5.1 (⟨#[59]⟩:ByteArray)
 rw [sS,h2,hKb]at hmay
 go_wp2_with fail
 refine hmay.mono ?_;rintro e w6 ⟨rfl,hd6⟩
 have hD6:=hD5.trans hd6
 have MO:=Cq.did hd6 (by rw [zS,aA];exact Nat.le_refl _)
 have YL:K.L≤(w3.alloc (.cells #[.slice ta (aX s).1.length lV, .int .i64 0, .int .i64 (pts s).length, .int .i64 (-1)] 69)).heap.size:=by rw [zS,aA];exact Nat.le_refl _
 obtain ⟨ta2,LZ,c0,c1,c2,c3,_,f3,_⟩:=hD6.1.cells
 rw [hKb]at c0 c1 c2 c3 f3
 rw [sS]at c0 c2
 have HX:=Lib.hid sS
 have BX:=Lib.hid hKb
 have HKL:=Lib.hid zS
 have FC:=Lib.hid HV
 clear sS hKb zS HV h1 h2 hst hmay hct hlex
 have hB4:=hB3.alloc hB3.size (.cells #[.slice ta (aX s).1.length lV, .int .i64 0, .int .i64 (pts s).length, .int .i64 (-1)] 69)
 have OD:Hid (K.b≠w.heap.size):=by show _≠_;rw [BX.out];have:=aC kD;omega
 by_cases hlt:σ2.i<(aX s).1.length
 · exact absurd hlt HC.out.1
 · have p0:¬(σ2.i:Int)<((aX s).1.length:Int):=by omega
   have HT3:Hid (τ=σ2):=by show _=_;rw [←FC.out,if_neg hlt]
   cases hbad:σ2.bad with
   |some bd=>exact absurd hbad (by rw [HC.out.2.1];simp)
   |none=>
    go_wp2_with fail
    go_quiet (fail)
    go_wp2_with fail
    have tK:=hD6.drewN nq
    have Z6:=MO.below (aH.below_drewN (Below.refl w6.heap.size w6) nq)
    generalize w6.drewN nq=w9 at *
    have hok:=qy tK.1 (v:=true) (by rw [hbad];rfl)
    rw [BX.out]at hok
    have hst:=HST.out (by rw [HT3.out];exact hbad)
    have HP:Hid (bB s=if 1000<(fq (jE nd')).size then (jT.zero,0,2)else (jE nd',0,0)):=by
     show _=_
     rw [HE.out,HT3.out,hbad]
    clear hbad
    go_wp2_with fail
    refine hok.mono ?_;rintro e wy ⟨rfl,my,rfl⟩
    have jY:=tK.drewN my
    have Sc:=Z6.below (aH.below_drewN (Below.refl w9.heap.size w9) my)
    generalize w9.drewN my=wx at *
    have hbx:=wU jY hb4 OD.out
    have hBx:=hB4.grown jY.2.1 hB4.size (fun k hk=>by cases hk;rw [BX.out];exact hB3.size)
    cases nd' with
    |plain x=>obtain ⟨_,h⟩:=HC.out.2.2;exact absurd h (by simp)
    |change x=>obtain ⟨_,h⟩:=HC.out.2.2;exact absurd h (by simp)
    |batch l=>
     obtain ⟨L,a,cap,dH,rfl,hrow2,hpv⟩:=Sc
     have hmt:=Z4
     have YC:L.length≤8:=by have h:=hst.2.2;rw [show (jE (.batch l)).parts=l from rfl,←dH,List.length_map]at h;exact h
     have hsm:=Ue (w:=wx) (L:=L) (by omega) hrow2 hpv
     go_wp2_with fail
     refine hsm.mono ?_;rintro e wA ⟨a3,c3,rfl,hbs,acd⟩
     have ae4:=hBx.size
     have Z8:=jY.size
     have hpv1:gH wx (w.heap.size+1) L:=fun q hq=>(hpv q hq).mono (by rw [aA];have:=hB3.size;omega)
     have hpq:gH wA (w.heap.size+1) L:=hpv1.map fun _ _ _ _ _ _ hr=>fB hr hbs
     have ace:=bF acd (show w.heap.size+1≤wx.heap.size by rw [aA]at Z8;have:=hB3.size;omega)
     have hrq:wA.ownsRow (w.heap.size+1) 31 18 (.slice a3 L.length c3) L.length (jw (L.map fun q=>⟨q.x,q.tc,q.c,q.s,q.wv,ak⟩)):=by
      have e:jw (L.map fun q:Pv=>(⟨q.x,q.tc,q.c,q.s,q.wv,ak⟩:Pw))=mG L:=by unfold jw mG;rw [List.flatMap_map];rfl
      rw [e];exact ace
     have O1:=bf hbx hbs (aC hbx)
     have V8:=hBx.trans (hbs.mono hBx.size)
     have hone:(aF {Sx.zero with kind:=9} ak ak ak ak (.slice a3 L.length c3)).toList.all (·.oneCell')=true:=rfl
     have hW:=aB wA (.cells (aF {Sx.zero with kind:=9} ak ak ak ak (.slice a3 L.length c3)) 31)
     have BZ:=V8.alloc V8.size (.cells (aF {Sx.zero with kind:=9} ak ak ak ak (.slice a3 L.length c3)) 31)
     have hT:Calls Tryz.prog 30 #[.agg (aF {Sx.zero with kind:=9} ak ak ak ak (.slice a3 L.length c3))] (wA.alloc (.cells (aF {Sx.zero with kind:=9} ak ak ak ak (.slice a3 L.length c3)) 31)) fun e w' =>e= .returned (.string (fq (jE (.batch l))))∧Below (wA.alloc (.cells (aF {Sx.zero with kind:=9} ak ak ak ak (.slice a3 L.length c3)) 31)).heap.size (wA.alloc (.cells (aF {Sx.zero with kind:=9} ak ak ak ak (.slice a3 L.length c3)) 31)) w' :=by
      have e:(L.map fun q:Pv=>(⟨q.x,q.tc,q.c,q.s,q.wv,ak⟩:Pw)).map Pw.x=l:=by rw [←dH,List.map_map];rfl
      have h:=sO (p:=⟨{Sx.zero with kind:=9},ak,ak,ak,ak, .slice a3 L.length c3⟩) (L:=L.map fun q=>⟨q.x,q.tc,q.c,q.s,q.wv,ak⟩) (HG.out.below BZ) ⟨LP 9,(lX _ 0 _ rfl rfl rfl rfl).rd,rfl⟩ (fun _=>⟨by rw [List.length_map];omega,by rw [List.length_map];exact Rd.own (hrq.alloc _),fun q hq=>by
       obtain ⟨q0,hq0,rfl⟩:=List.mem_map.1 hq
       exact ⟨⟨hst.2.1 q0.x (by show q0.x∈l;rw [←dH];exact List.mem_map_of_mem hq0),((hpq q0 hq0).map fun _ _ _ _ _ _ hr=>hr.alloc _).rd,rfl⟩,Kt _⟩⟩)
      rw [e]at h
      exact h
     obtain ⟨tx,htx⟩:∃r,fq (jE (.batch l))=r:=⟨_,rfl⟩
     rw [htx]at hT HP
     have Sd:=Lib.hid HP.out
     clear HP htx
     go_wp2_with (first|refine fZ rfl _ _ rfl rfl rfl rfl rfl hone ?_|refine bA rfl _ rfl rfl rfl hW ?_)
     refine hT.mono ?_;rintro e wB ⟨rfl,I5⟩
     have Z7:=bf hW I5 (aC hW)
     have II:=bf (au O1 _) I5 (aC (au O1 _))
     have V9:=BZ.trans (I5.mono BZ.size)
     have hHB:=(show nQ wA (w.heap.size+1) ⟨{Sx.zero with kind:=9},ak,ak,ak,ak, .slice a3 L.length c3⟩ (L.map fun q=>⟨q.x,q.tc,q.c,q.s,q.wv,ak⟩) (jE (.batch l))from ⟨rfl,by rw [←dH,List.map_map];rfl,lX _ _ _ rfl rfl rfl rfl,by rw [List.length_map];exact hrq,fun q hq=>by
      obtain ⟨q0,hq0,rfl⟩:=List.mem_map.1 hq
      exact ⟨hpq q0 hq0,rfl⟩⟩).below ((Below.refl wA.heap.size wA).alloc (Nat.le_refl _) (.cells (aF {Sx.zero with kind:=9} ak ak ak ak (.slice a3 L.length c3)) 31)|>.trans (I5.mono (by rw [aA];omega)))
     by_cases hbig:1000<tx.size
     · have p9:(1000:Int)<(tx.size:Int):=by omega
       have HQ:Hid (bB s=(jT.zero,0,2)):=by show _=_;rw [Sd.out,if_pos hbig]
       clear hbig
       go_wp2_with (refine eD rfl _ _ rfl rfl rfl II rfl rfl rfl ?_;intro wz hwz)
       refine bodyPost_ret (fT rfl rfl (mV hwz.blk rfl)) rfl ?_
       exact lH (p:=pz) HQ.out (hwz.below _ _ V9 (Nat.le_refl _)) (xZ _ _)
     · have p9:¬(1000:Int)<(tx.size:Int):=by omega
       have HQ:Hid (bB s=(jE (.batch l),0,0)):=by show _=_;rw [Sd.out,if_neg hbig]
       clear hbig
       go_wp2_with (first|refine bA rfl _ rfl rfl rfl Z7 ?_|(refine eD rfl _ _ rfl rfl rfl II rfl rfl hone ?_;intro wz hwz))
       refine bodyPost_ret (fT rfl rfl (mV hwz.blk rfl)) rfl ?_
       exact lH (p:=⟨{Sx.zero with kind:=9},ak,ak,ak,ak, .slice a3 L.length c3⟩) HQ.out (hwz.below _ _ V9 (Nat.le_refl _)) ((hwz.has hHB (Nat.lt_succ_self _)).mono (Nat.le_succ _))
end Go.Proofs.YtfbgdjcnlnfoaaaGreatDoor
