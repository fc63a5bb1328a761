/- Parts of the proof, joined: SamC0. -/
import Derived.Deep.DeepCutAuto
import Derived.Deep.CutRange
import Derived.Test.YtfbgdjcnlnfoaaaGreatDoorB11
set_option maxHeartbeats 4000000
set_option maxRecDepth 100000
namespace Go.Proofs.YtfbgdjcnlnfoaaaGreatDoor
open Go.RowKit
open aH
theorem t7 {w:World}{b:Nat}{T:TypeId}{a0 a1 a2 a3 a4 a5 a6:Value}(h:w.heap[b]? =some (.cells #[a0,a1,a2,a3,a4,a5,a6] T (0,0))):
 w.cell? ⟨b,0,none⟩=some a0∧w.cell? ⟨b,1,none⟩=some a1∧w.cell? ⟨b,2,none⟩=some a2∧w.cell? ⟨b,3,none⟩=some a3∧w.cell? ⟨b,4,none⟩=some a4∧w.cell? ⟨b,5,none⟩=some a5∧w.cell? ⟨b,6,none⟩=some a6:=
 ⟨aj h 0,aj h 1,aj h 2,aj h 3,aj h 4,aj h 5,aj h 6⟩
theorem eu (w:World) (A B:Array Value) (S T:TypeId):Below w.heap.size w ((w.alloc (.cells A S)).alloc (.cells B T))∧((w.alloc (.cells A S)).alloc (.cells B T)).heap[w.heap.size]? =some (.cells A S (0,0))∧((w.alloc (.cells A S)).alloc (.cells B T)).heap[w.heap.size+1]? =some (.cells B T (0,0)):=
 ⟨((Below.refl w.heap.size w).alloc (Nat.le_refl _) _).alloc (by rw [aA];omega) _,sP (aB w _) _,by rw [←aA w (.cells A S)];exact aB _ _⟩
theorem ay (w:World) (A B:Array Value) (S T:TypeId):Below w.heap.size w ((w.alloc (.cells A S)).alloc (.cells B T)).drew∧((w.alloc (.cells A S)).alloc (.cells B T)).drew.heap[w.heap.size]? =some (.cells A S (0,0))∧((w.alloc (.cells A S)).alloc (.cells B T)).drew.heap[w.heap.size+1]? =some (.cells B T (0,0)):=
 ⟨(eu w A B S T).1.trans ⟨rfl,rfl,rfl,Nat.le_refl _,fun _ _=>rfl⟩,(eu w A B S T).2.1,(eu w A B S T).2.2⟩
theorem X5 {w:World}{x y:Sx}{a0 b0:Option Addr}{n0 k0 m0 l0:Nat}{c s wv pv c' s' wv' pv' :Value}(e0:(x.kind==y.kind)=false):
 Calls Tryz.prog 31 #[.agg (aF x (.slice a0 n0 k0) c s wv pv), .agg (aF y (.slice b0 m0 l0) c' s' wv' pv')] w fun e w' =>e= .returned (.bool false)∧Below w.heap.size w w' :=by
 obtain ⟨W,hW⟩:∃W,(w.alloc (.cells (aF x (.slice a0 n0 k0) c s wv pv) 31)).alloc (.cells (aF y (.slice b0 m0 l0) c' s' wv' pv') 31)=W:=⟨_,rfl⟩
 obtain ⟨hB,hBx,bg⟩:=eu w (aF x (.slice a0 n0 k0) c s wv pv) (aF y (.slice b0 m0 l0) c' s' wv' pv') 31 31
 rw [hW]at hB hBx bg
 have HX:=Lib.hid hBx
 have HY:=Lib.hid bg
 have hlx:=aC hBx
 have qG:=aC bg
 obtain ⟨c0,c1,c2,c3,c4,c5,c6,c7,c8,c9,c10,c11,c12,c13,c14,c15,c16,c17⟩:=aM hBx
 obtain ⟨d0,d1,d2,d3,d4,d5,d6,d7,d8,d9,fF,gJ,gI,fO,fU,fV,gQ,gP⟩:=aM bg
 have HB:=Lib.hid hB
 clear hB hBx bg c0 c1 c2 c3 c11 c12 c13 c14 c15 c16 c17 d0 d1 d2 d3 gJ gI fO fU fV gQ gP
 go_enter Tryz.func31,Tryz.ntmps31
 go_upto_region 1 with (fail)
 go_cut [5,6]from 7 to 10 (fun s5 s6 wx=>∃b5 b6:Nat,s5= .pointer (some ⟨b5,0,none⟩)∧s6= .pointer (some ⟨b6,0,none⟩)∧Below W.heap.size W wx∧wx.heap[b5]? =some (.cells #[.string x.aW, .int .i64 x.tid, .string x.part.name, .int .i64 x.part.ty, .string x.aI.name, .int .i64 x.aI.ty, .slice a0 n0 k0] 26 (0,0))∧wx.heap[b6]? =some (.cells #[.string y.aW, .int .i64 y.tid, .string y.part.name, .int .i64 y.part.ty, .string y.aI.name, .int .i64 y.aI.ty, .slice b0 m0 l0] 26 (0,0)))
 case first=>
  go_region
  all_goals go_wp2_with fail
  all_goals go_meet
  all_goals first|exact ⟨W.heap.size,W.heap.size+1,rfl,rfl,(ay W _ _ _ _).1,(ay W _ _ _ _).2.1,(ay W _ _ _ _).2.2⟩|exact ⟨W.heap.size+1,W.heap.size,rfl,rfl,(ay W _ _ _ _).1,(ay W _ _ _ _).2.2,(ay W _ _ _ _).2.1⟩
 case rest=>
  obtain ⟨b5,b6,rfl,rfl,hbc,hb5,hb6⟩:=hcut
  clear c4 c5 c6 c7 c8 c9 c10 d4 d5 d6 d7 d8 d9 fF
  have hBx:=aD hbc HX.out
  have bg:=aD hbc HY.out
  have HB1:=Lib.hid (HB.out.trans (hbc.mono HB.out.size))
  obtain ⟨c0,c1,c2,c3,c4,c5,c6,c7,c8,c9,c10,c11,c12,c13,c14,c15,c16,c17⟩:=aM hBx
  obtain ⟨d0,d1,d2,d3,d4,d5,d6,d7,d8,d9,fF,gJ,gI,fO,fU,fV,gQ,gP⟩:=aM bg
  obtain ⟨f0,f1,f2,f3,f4,f5,f6⟩:=t7 hb5
  obtain ⟨g0,g1,g2,g3,g4,g5,g6⟩:=t7 hb6
  have uT:=Lib.hid hBx
  have uU:=Lib.hid bg
  clear hBx bg hb5 hb6 hbc HX HY HB hW hlx qG c4 c5 c6 c7 c8 c9 c10 d4 d5 d6 d7 d8 d9 fF
  go_wp2_with fail
  go_ret
  exact ⟨rfl,HB1.out⟩
end Go.Proofs.YtfbgdjcnlnfoaaaGreatDoor
