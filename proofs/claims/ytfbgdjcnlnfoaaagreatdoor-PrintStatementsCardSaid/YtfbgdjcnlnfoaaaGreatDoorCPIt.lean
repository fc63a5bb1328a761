/- Parts of the proof, joined: LawPI. -/
import Derived.Test.YtfbgdjcnlnfoaaaGreatDoorB13e
import Derived.Test.YtfbgdjcnlnfoaaaGreatDoorCPIf
import Derived.Test.YtfbgdjcnlnfoaaaGreatDoorCPIg
import Derived.Test.YtfbgdjcnlnfoaaaGreatDoorCPIs
import Derived.Test.YtfbgdjcnlnfoaaaGreatDoorRows
set_option maxHeartbeats 8000000
set_option maxRecDepth 100000
namespace Go.Proofs.YtfbgdjcnlnfoaaaGreatDoor
open Go.RowKit
open aH
theorem I4:(bB ⟨#[]⟩).2.2=3:=by decide+kernel
theorem SK {z:jT}(h:May z):fq z≠⟨#[]⟩:=fun he=>by
 have h1:=sM h
 rw [he]at h1
 have h2:=I4
 rw [h1]at h2
 exact absurd h2 (show¬((0:Int)=3)by decide)
theorem OZ {w:World}{p:Pw}{L:List Pw}(hG:Gp w) (h:Ct w p L) (hm:May ⟨p.x,L.map Pw.x⟩):
 Calls Tryz.prog 16 #[.agg p.arr] w fun e w' =>e= .returned (.bool true)∧Below w.heap.size w w' :=
 (yc hG h (FB hm)).mono fun e w' ⟨b,h1,h2,h3⟩=>⟨by rw [h1,h2.2 hm],h3⟩
theorem tF (V:Value) (zs:List Int) (w:World) (hG:Gp w) (hV:qo w V zs):
 Calls Tryz.prog 11 #[V] w fun e w' =>e= .returned (.bool true)∧Sp w w' :=by
 have U2:=hV
 obtain ⟨a,cap,rfl,h1,h2,_,_⟩:=hV
 have hzl:zs.length≤9223372036854775807:=Nat.le_trans h1 h2
 by_cases h80:80<zs.length
 · have q1:(80:Int)<(zs.length:Int):=by omega
   have haw:=zi hG
   clear h80 U2
   go_enter Tryz.func11,Tryz.ntmps11
   go_wp2_with fail
   refine haw.mono ?_;rintro e w7 ⟨rfl,h7⟩
   go_wp2_with fail
   go_ret
   exact ⟨rfl,h7⟩
 · have q1:¬(80:Int)<(zs.length:Int):=by omega
   have hQ0:LQ ⟨w,w.heap.size+1,w.heap.size,hG,Nat.le_refl _,Nat.lt_succ_self _⟩ (w.alloc (.cells #[.slice a zs.length cap] 55)):=
    ⟨by rw [aA];exact Nat.le_refl _,(Below.refl _ _).alloc (Nat.le_refl _) _,_,_,aB w _,U2⟩
   obtain ⟨K,hK⟩:∃K:LK,K=⟨w,w.heap.size+1,w.heap.size,hG,Nat.le_refl _,Nat.lt_succ_self _⟩:=⟨_,rfl⟩
   rw [←hK]at hQ0
   have hKb:K.b=w.heap.size:=by rw [hK]
   have HKw:Hid (K.ws=w):=by rw [hK];rfl
   clear hK U2 h80 h1 h2 hG
   go_enter Tryz.func11,Tryz.ntmps11
   go_wp2_with fail
   go_loopw [4] (fun i wr=>∃j:Nat,i= .int .i64 j∧j≤4∧LQ K wr) (fun i _=>4 - (intOf i).toNat)
   case atStart=>exact ⟨0,rfl,by omega,hQ0⟩
   case round=>
    clear hQ0
    obtain ⟨j,rfl,hj,hQ⟩:=hrel
    by_cases Yl:j<4
    · have p0:(j:Int)<4:=by omega
      have hst:=OY hQ
      rw [hKb]at hst
      clear hQ
      go_wp2_with fail
      refine hst.mono ?_;rintro en w1 ⟨⟨x,tc,c,sv,wv,pv⟩,L,rfl,hS1,hm,hd1⟩
      have HQ1:=Lib.hid hd1.1
      have hq1:=hS1.wd.one
      have HM:=Lib.hid hm
      have HPP:=Lib.hid (sM hm)
      have OD:=SK hm
      obtain ⟨z,hz⟩:∃z:jT,z=⟨x,L.map Pw.x⟩:=⟨_,rfl⟩
      have HZ:Hid ((⟨x,L.map Pw.x⟩:jT)=z):=Lib.hid hz.symm
      obtain ⟨t,SA⟩:∃t,fq ⟨x,L.map Pw.x⟩=t:=⟨_,rfl⟩
      rw [show fq ⟨Pw.x ⟨x,tc,c,sv,wv,pv⟩,L.map Pw.x⟩=t from SA]at HPP OD
      have afq:t.toList.isEmpty=false:=aag OD
      have HTT:=Lib.hid SA
      have HB0:Hid (Below w1.heap.size w1 (w1.alloc (.cells (aF x tc c sv wv pv) 31))):=(Below.refl w1.heap.size w1).alloc (Nat.le_refl _) _
      have HQ2:=Lib.hid (HQ1.out.below HB0.out)
      have aaq:=Lib.hid (hS1.wd.below HB0.out)
      have hbx:=aB w1 (.cells (aF x tc c sv wv pv) 31)
      have ht:=DT (p:=⟨x,tc,c,sv,wv,pv⟩) HQ2.out.glob aaq.out (FB HM.out) HM.out
      rw [show fq ⟨Pw.x ⟨x,tc,c,sv,wv,pv⟩,L.map Pw.x⟩=t from SA]at ht
      have HBX:=Lib.hid hbx
      clear hS1 hd1 hm hz SA OD hst
      go_wp2_with (first|refine fZ rfl _ _ rfl rfl rfl rfl rfl hq1 ?_|refine ko (by go_simp) _ rfl rfl rfl hbx ?_)
      refine ht.mono ?_;rintro e w2 ⟨rfl,hb2⟩
      have HQ3:=Lib.hid (HQ2.out.below hb2)
      have acG:=Lib.hid (aD hb2 HBX.out)
      have acH:=Lib.hid (aaq.out.below hb2)
      have hp2:=wV HQ3.out.glob (s:=t) rfl (show (bB t).2.1=0 by rw [HPP.out]) (show (bB t).2.2=0 by rw [HPP.out])
      rw [HPP.out]at hp2
      clear hb2 ht hbx hq1
      go_wp2_with fail
      refine hp2.mono ?_;rintro en w3 ⟨y,OP,c2,sv2,wv2,O8,M,rfl,hb3,Ej⟩
      have hq3:=Ej.wd.one
      have HZ3:Hid ((⟨y,M.map Pw.x⟩:jT)=⟨x,L.map Pw.x⟩):=Ej.z
      have hB0:Below w3.heap.size w3 (w3.alloc (.cells (aF y OP c2 sv2 wv2 O8) 31)):=(Below.refl w3.heap.size w3).alloc (Nat.le_refl _) _
      have hB3:Below w2.heap.size w2 (w3.alloc (.cells (aF y OP c2 sv2 wv2 O8) 31)):=hb3.alloc hb3.size _
      have HWX:=Lib.hid (acH.out.below hB3)
      have HWY:=Lib.hid (Ej.wd.below hB0)
      have Yo:=aD hB3 acG.out
      have aar:=aB w3 (.cells (aF y OP c2 sv2 wv2 O8) 31)
      have HQ5:=Lib.hid (HQ3.out.below hB3)
      have hsame:=OU (p:=⟨x,tc,c,sv,wv,pv⟩) (q:=⟨y,OP,c2,sv2,wv2,O8⟩) HWX.out HWY.out (R7 HM.out) (by have:=HZ3.out.symm;injection this) (by have:=HZ3.out.symm;injection this)
      have acI:=Lib.hid Yo
      clear Ej hb3 hp2 hB0 hB3
      go_wp2_with (first|refine fZ rfl _ _ rfl rfl rfl rfl rfl hq3 ?_|refine ko (by go_simp) _ rfl rfl rfl Yo ?_|refine ko (by go_simp) _ rfl rfl rfl aar ?_)
      refine hsame.mono ?_;rintro e w6 ⟨rfl,hb6⟩
      have aas:=aD hb6 acI.out
      have HQ6:=Lib.hid (HQ5.out.below hb6)
      have hck:=OZ (p:=⟨x,tc,c,sv,wv,pv⟩) HQ6.out.glob (HWX.out.below hb6) HM.out
      clear hb6 hsame Yo aar hq3
      go_wp2_with (first|refine ko (by go_simp) _ rfl rfl rfl aas ?_)
      refine hck.mono ?_;rintro e w8 ⟨rfl,hb8⟩
      have hQ8:=HQ6.out.below hb8
      clear hb8 hck aas
      go_wp2_with fail
      go_roundw
      case rel=>exact ⟨j+1,by go_num,by omega,hQ8⟩
      case measure=>simp [intOf];omega
    · have p0:¬(j:Int)<4:=by omega
      have haw:=zi hQ.glob
      have HS:Hid (Sp w wr):=by
       have hb:=hQ.2.1
       rw [HKw.out]at hb
       exact Lib.hid ⟨hb,hQ.glob⟩
      clear hQ
      go_wp2_with fail
      refine haw.mono ?_;rintro e w9 ⟨rfl,h9⟩
      go_wp2_with fail
      go_ret
      exact ⟨rfl,HS.out.trans h9⟩
end Go.Proofs.YtfbgdjcnlnfoaaaGreatDoor
