/- Parts of the proof, joined: PrsX ChkA. -/
import Derived.Test.YtfbgdjcnlnfoaaaGreatDoorB12i
import Derived.Test.YtfbgdjcnlnfoaaaGreatDoorB13a
import Derived.Test.YtfbgdjcnlnfoaaaGreatDoorB13b
import Derived.Test.YtfbgdjcnlnfoaaaGreatDoorB13c
set_option maxHeartbeats 8000000
set_option maxRecDepth 100000
namespace Go.Proofs.YtfbgdjcnlnfoaaaGreatDoor
open Go.RowKit
open aH
theorem DL (s:ByteArray) (w:World) (hG:Gp w):Calls Tryz.prog 18 #[.string s] w (uf w s):=by
 by_cases he:(aX s).2.2=0
 · by_cases h1:(Tx.may (⟨(aX s).1,(pts s).length⟩:Tx) (Tx.iq (⟨(aX s).1,(pts s).length⟩:Tx) ((aX s).1.length+2) ⟨0,none⟩).2 (⟨#[59]⟩:ByteArray)).i<(aX s).1.length
   · exact OC hG he h1
   · by_cases h2:(Tx.may (⟨(aX s).1,(pts s).length⟩:Tx) (Tx.iq (⟨(aX s).1,(pts s).length⟩:Tx) ((aX s).1.length+2) ⟨0,none⟩).2 (⟨#[59]⟩:ByteArray)).bad=none
     · cases h3:(Tx.iq (⟨(aX s).1,(pts s).length⟩:Tx) ((aX s).1.length+2) ⟨0,none⟩).1 with
       |plain x=>exact OG hG he ⟨h1,h2,x,h3⟩
       |change x=>exact OH hG he ⟨h1,h2,x,h3⟩
       |batch l=>exact OI hG he ⟨h1,h2,l,h3⟩
     · exact OE hG he ⟨h1,h2⟩
 · exact OB hG he
theorem IJ {w:World}{p:Pw}{L:List Pw}(h:Ct w p L) (hl:mP ⟨p.x,L.map Pw.x⟩=false):
 Calls Tryz.prog 16 #[.agg p.arr] w fun e w' =>e= .returned (.bool false)∧Below w.heap.size w w' :=by
 have hB1:=(Below.refl w.heap.size w).alloc (Nat.le_refl _) (.cells p.arr 31)
 have hbl:(w.alloc (.cells p.arr 31)).heap[w.heap.size]? =some (.cells p.arr 31 (0,0)):=aB w _
 have hc:=BR (h.below hB1)
 rw [hl]at hc
 clear h hl
 obtain ⟨x,tc,c,s,wv,pv⟩:=p
 go_enter Tryz.func16,Tryz.ntmps16
 go_wp2_with (refine bA rfl _ rfl rfl rfl hbl ?_)
 refine hc.mono ?_;rintro e w2 ⟨rfl,hb2⟩
 go_wp2_with fail
 go_ret
 exact ⟨rfl,hB1.trans (hb2.mono hB1.size)⟩
theorem IK {w:World}{p:Pw}{L:List Pw}(hG:Gp w) (h:Ct w p L) (hs:Yx p L) (hl:mP ⟨p.x,L.map Pw.x⟩=true):
 Calls Tryz.prog 16 #[.agg p.arr] w fun e w' =>∃b:Bool,e= .returned (.bool b)∧(b=true ↔ May ⟨p.x,L.map Pw.x⟩)∧Below w.heap.size w w' :=by
 have hB1:=(Below.refl w.heap.size w).alloc (Nat.le_refl _) (.cells p.arr 31)
 have hbl:(w.alloc (.cells p.arr 31)).heap[w.heap.size]? =some (.cells p.arr 31 (0,0)):=aB w _
 have hc:=BR (h.below hB1)
 rw [hl]at hc
 have hLg:=sj hl
 have YC:L.length≤100:=by have:=hLg.2.1;simp at this;omega
 have HT:Hid (∀w',Below w.heap.size w w' →Calls Tryz.prog 30 #[.agg p.arr] w' fun e w'' =>e= .returned (.string (fq ⟨p.x,L.map Pw.x⟩))∧Below w'.heap.size w' w''):=fun w' hb=>DI (hG.below hb) (h.below hb) hs YC
 have HP:Hid (∀w',Below w.heap.size w w' →Calls Tryz.prog 18 #[.string (fq ⟨p.x,L.map Pw.x⟩)] w' (uf w' (fq ⟨p.x,L.map Pw.x⟩))):=fun w' hb=>DL _ w' (hG.below hb)
 have HM:=Lib.hid (U8 (z:=⟨p.x,L.map Pw.x⟩))
 have HS:Hid (∀w',Below w.heap.size w w' →Ct w' p L):=fun w' hb=>h.below hb
 obtain ⟨t,ht⟩:∃t,fq ⟨p.x,L.map Pw.x⟩=t:=⟨_,rfl⟩
 rw [ht]at HT HP HM
 clear h hl hs ht hG YC
 have HG2:=Lib.hid hLg
 clear hLg
 unfold uf at HP
 obtain ⟨⟨pz,pa,pe⟩,hp⟩:∃r,bB t=r:=⟨_,rfl⟩
 rw [hp]at HP HM
 have HZ:Hid (pe=0→May pz):=fun he=>by
  have he' :pe=0:=he
  subst he'
  exact uM hp
 clear hp
 obtain ⟨x,tc,c,s,wv,pv⟩:=p
 go_enter Tryz.func16,Tryz.ntmps16
 go_wp2_with (refine bA rfl _ rfl rfl rfl hbl ?_)
 refine hc.mono ?_;rintro e w2 ⟨rfl,hb2⟩
 have hB2:=hB1.trans (hb2.mono hB1.size)
 have Oy:=aD hb2 hbl
 have h2:=HT.out w2 hB2
 go_wp2_with (refine bA rfl _ rfl rfl rfl Oy ?_)
 refine h2.mono ?_;rintro e w3 ⟨rfl,hb3⟩
 have hB3:=hB2.trans (hb3.mono hB2.size)
 have acg:=aD hb3 Oy
 have h3:=HP.out w3 hB3
 go_wp2_with fail
 refine h3.mono ?_;rintro e w4 ⟨⟨qx,Z9,qc,qs,TG,qpv⟩,M,rfl,hb4,hS⟩
 have hB4:=hB3.trans (hb4.mono hB3.size)
 have ach:=aD hb4 acg
 have hq1:=hS.wd.one
 have yZ:=hB4.alloc hB4.size (.cells (aF qx Z9 qc qs TG qpv) 31)
 have TJ:=sP ach (.cells (aF qx Z9 qc qs TG qpv) 31)
 have hbq:(w4.alloc (.cells (aF qx Z9 qc qs TG qpv) 31)).heap[w4.heap.size]? =some (.cells (aF qx Z9 qc qs TG qpv) 31 (0,0)):=aB w4 _
 have HSz:=Lib.hid hS.z
 cases hz:(pe==0)with
 |false=>
  have HE:Hid (¬pe=0):=by
   intro h
   have h' :pe=0:=h
   rw [h']at hz
   exact absurd hz (by decide)
  clear hS hc h2 h3
  go_wp2_with (refine fZ rfl _ _ rfl rfl rfl rfl rfl hq1 ?_)
  go_ret
  exact ⟨false,rfl,⟨fun h=>absurd h (by decide),fun h=>absurd (HM.out.1 h).1 HE.out⟩,yZ⟩
 |true=>
  have HE:Hid (pe=0):=eq_of_beq hz
  have h5:=Kv (w:=w4.alloc (.cells (aF qx Z9 qc qs TG qpv) 31)) (HS.out _ yZ) (hS.wd.below ((Below.refl w4.heap.size w4).alloc (Nat.le_refl _) _)) (IC HG2.out) (by rw [hS.z];exact R7 (HZ.out HE.out))
  clear hS hc h2 h3
  go_wp2_with (first|refine fZ rfl _ _ rfl rfl rfl rfl rfl hq1 ?_|refine ko (by go_simp) _ rfl rfl rfl TJ ?_|refine ko (by go_simp) _ rfl rfl rfl hbq ?_)
  refine h5.mono ?_;rintro e w6 ⟨b,rfl,hb,hb6⟩
  go_wp2_with fail
  go_ret
  refine ⟨b,rfl, ?_,yZ.trans (hb6.mono yZ.size)⟩
  rw [hb,HSz.out]
  exact ⟨fun h=>HM.out.2 ⟨HE.out,h⟩,fun h=>(HM.out.1 h).2⟩
theorem yc {w:World}{p:Pw}{L:List Pw}(hG:Gp w) (h:Ct w p L) (hs:Yx p L):
 Calls Tryz.prog 16 #[.agg p.arr] w fun e w' =>∃b:Bool,e= .returned (.bool b)∧(b=true ↔ May ⟨p.x,L.map Pw.x⟩)∧Below w.heap.size w w' :=by
 cases hl:mP ⟨p.x,L.map Pw.x⟩with
 |true=>exact IK hG h hs hl
 |false=>
  refine (IJ h hl).mono ?_
  rintro e w' ⟨rfl,hb⟩
  refine ⟨false,rfl,⟨fun h=>absurd h (by decide),fun h=> ?_⟩,hb⟩
  have:=uP h
  rw [hl]at this
  exact absurd this (by decide)
end Go.Proofs.YtfbgdjcnlnfoaaaGreatDoor
