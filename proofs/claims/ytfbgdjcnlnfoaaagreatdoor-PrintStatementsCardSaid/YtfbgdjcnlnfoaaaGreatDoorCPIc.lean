/- Parts of the proof, joined: AwkA. -/
import Derived.Test.YtfbgdjcnlnfoaaaGreatDoorB13e
import Derived.Test.YtfbgdjcnlnfoaaaGreatDoorCPIb
import Derived.Test.YtfbgdjcnlnfoaaaGreatDoorRows
set_option maxHeartbeats 8000000
set_option maxRecDepth 100000
namespace Go.Proofs.YtfbgdjcnlnfoaaaGreatDoor
open Go.RowKit
open aH
theorem Vs:(bB (⟨#[100,114,111,112,32,32,32,86,32,59]⟩:ByteArray)).2.1=0∧(bB (⟨#[100,114,111,112,32,32,32,86,32,59]⟩:ByteArray)).2.2=0∧fq (bB (⟨#[100,114,111,112,32,32,32,86,32,59]⟩:ByteArray)).1=(⟨#[68,82,79,80,32,118]⟩:ByteArray):=by decide+kernel
theorem zi {w:World}(hG:Gp w):Calls Tryz.prog 25 #[] w fun e w' =>e= .returned (.bool true)∧Sp w w' :=by
 obtain ⟨r1,r2,r3⟩:=Vs
 have hm:=Lib.hid (Sj r2)
 obtain ⟨z,hz⟩:∃z,(bB (⟨#[100,114,111,112,32,32,32,86,32,59]⟩:ByteArray)).1=z:=⟨_,rfl⟩
 have hp1:=wV hG hz r1 r2
 rw [hz]at r3 hm
 have R3:=Lib.hid r3
 have HG:=Lib.hid hG
 clear r1 r2 r3 hz hG
 go_enter Tryz.func25,Tryz.ntmps25
 go_wp2_with fail
 refine hp1.mono ?_;rintro en w1 ⟨x,tc,c,s,wv,pv,L,rfl,hb1,hS1⟩
 have hS:Sp w w1:=(Sp.refl HG.out).step hb1
 have hq1:=hS1.wd.one
 have hS2:=hS.alloc (.cells (aF x tc c s wv pv) 31)
 have hM:May ⟨x,L.map Pw.x⟩:=by rw [show (⟨x,L.map Pw.x⟩:jT)=z from hS1.z];exact hm.out
 have ht:=DT (w:=w1.alloc (.cells (aF x tc c s wv pv) 31)) (p:=⟨x,tc,c,s,wv,pv⟩) (L:=L) hS2.2 (hS1.wd.below ((Below.refl _ _).alloc (Nat.le_refl _) _)) (FB hM) hM
 rw [show (⟨x,L.map Pw.x⟩:jT)=z from hS1.z,R3.out]at ht
 have hbl:=aB w1 (.cells (aF x tc c s wv pv) 31)
 clear hS1 hM hb1 hp1
 go_wp2_with (first|refine fZ rfl _ _ rfl rfl rfl rfl rfl hq1 ?_|refine ko (by go_simp) _ rfl rfl rfl hbl ?_)
 refine ht.mono ?_;rintro en w5 ⟨rfl,hb5⟩
 go_wp2_with fail
 go_ret
 exact ⟨rfl,hS2.step hb5⟩
end Go.Proofs.YtfbgdjcnlnfoaaaGreatDoor
