/- Parts of the proof, joined: ChkA. -/
import Derived.Test.YtfbgdjcnlnfoaaaGreatDoorB13d
import Derived.Test.YtfbgdjcnlnfoaaaGreatDoorCPIa
import Derived.Test.YtfbgdjcnlnfoaaaGreatDoorRows
set_option maxHeartbeats 4000000
set_option maxRecDepth 100000
namespace Go.Proofs.YtfbgdjcnlnfoaaaGreatDoor
open Go.RowKit
open aH
theorem DT {w:World}{p:Pw}{L:List Pw}(hG:Gp w) (h:Ct w p L) (hs:Yx p L) (hm:May ⟨p.x,L.map Pw.x⟩):
 Calls Tryz.prog 26 #[.agg p.arr] w fun e w' =>e= .returned (.string (fq ⟨p.x,L.map Pw.x⟩))∧Below w.heap.size w w' :=by
 have hB1:=(Below.refl w.heap.size w).alloc (Nat.le_refl _) (.cells p.arr 31)
 have hbl:(w.alloc (.cells p.arr 31)).heap[w.heap.size]? =some (.cells p.arr 31 (0,0)):=aB w _
 have hc:=yc (hG.below hB1) (h.below hB1) hs
 have YC:L.length≤100:=by have:=(sj (uP hm)).2.1;simp at this;omega
 have HT:Hid (∀w',Below w.heap.size w w' →Calls Tryz.prog 30 #[.agg p.arr] w' fun e w'' =>e= .returned (.string (fq ⟨p.x,L.map Pw.x⟩))∧Below w'.heap.size w' w''):=fun w' hb=>DI (hG.below hb) (h.below hb) hs YC
 have HM:=Lib.hid hm
 clear hm h hs YC
 obtain ⟨x,tc,c,s,wv,pv⟩:=p
 go_enter Tryz.func26,Tryz.ntmps26
 go_wp2_with (refine bA rfl _ rfl rfl rfl hbl ?_)
 refine hc.mono ?_;rintro e w2 ⟨b,rfl,hb,hb2⟩
 have hbt:=hb.2 HM.out
 subst hbt
 have hB2:=hB1.trans (hb2.mono hB1.size)
 have Oy:=aD hb2 hbl
 have h2:=HT.out w2 hB2
 clear hb hc
 go_wp2_with (refine bA rfl _ rfl rfl rfl Oy ?_)
 refine h2.mono ?_;rintro e w3 ⟨rfl,hb3⟩
 go_wp2_with fail
 go_ret
 exact ⟨rfl,hB2.trans (hb3.mono hB2.size)⟩
end Go.Proofs.YtfbgdjcnlnfoaaaGreatDoor
