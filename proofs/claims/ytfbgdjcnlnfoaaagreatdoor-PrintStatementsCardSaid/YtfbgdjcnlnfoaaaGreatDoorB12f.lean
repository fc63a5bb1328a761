/- Parts of the proof, joined: SamC5. -/
import Derived.Test.YtfbgdjcnlnfoaaaGreatDoorB12a
set_option maxHeartbeats 4000000
set_option maxRecDepth 100000
namespace Go.Proofs.YtfbgdjcnlnfoaaaGreatDoor
open Go.RowKit
open aH
theorem Vj {w:World}{x y:Sx}{a0 b0:Option Addr}{n0 k0 m0 l0:Nat}{c s wv pv c' s' wv' pv' :Value}(e0:(x.kind==y.kind)=true) (e1:(x.name.toList==y.name.toList)=true) (e2:(x.bM.toList==y.bM.toList)=true) (e3:(x.on.toList==y.on.toList)=true) (e4:(x.stamp==y.stamp)=true) (e5:(x.ttl==y.ttl)=true) (e6:(x.limit==y.limit)=true) (e7:(x.aW.toList==y.aW.toList)=true) (e8:(x.tid==y.tid)=true) (Ve:(x.part.name.toList==y.part.name.toList)=true) (V6:(x.part.ty==y.part.ty)=true) (Ku:(x.aI.name.toList==y.aI.name.toList)=true) (Oz:(x.aI.ty==y.aI.ty)=true) (h11:∀w',Below w.heap.size w w' →Calls Tryz.prog 62 #[(.slice a0 n0 k0),(.slice b0 m0 l0)] w' fun e w'' =>e= .returned (.bool true)∧Below w'.heap.size w' w'') (h12:∀w',Below w.heap.size w w' →Calls Tryz.prog 63 #[c,c'] w' fun e w'' =>e= .returned (.bool true)∧Below w'.heap.size w' w'') (zm:∀w',Below w.heap.size w w' →Calls Tryz.prog 64 #[s,s'] w' fun e w'' =>e= .returned (.bool false)∧Below w'.heap.size w' w''):
 Calls Tryz.prog 31 #[.agg (aF x (.slice a0 n0 k0) c s wv pv), .agg (aF y (.slice b0 m0 l0) c' s' wv' pv')] w fun e w' =>e= .returned (.bool false)∧Below w.heap.size w w' :=by
 obtain ⟨W,hW⟩:∃W,(w.alloc (.cells (aF x (.slice a0 n0 k0) c s wv pv) 31)).alloc (.cells (aF y (.slice b0 m0 l0) c' s' wv' pv') 31)=W:=⟨_,rfl⟩
 obtain ⟨hB,hBx,bg⟩:=eu w (aF x (.slice a0 n0 k0) c s wv pv) (aF y (.slice b0 m0 l0) c' s' wv' pv') 31 31
 rw [hW]at hB hBx bg
 have HX:=Lib.hid hBx
 have HY:=Lib.hid bg
 have hlx:=aC hBx
 have qG:=aC bg
 obtain ⟨c0,c1,c2,c3,c4,c5,c6,c7,c8,c9,c10,c11,c12,c13,c14,c15,c16,c17⟩:=aM hBx
 obtain ⟨d0,d1,d2,d3,d4,d5,d6,d7,d8,d9,fF,gJ,gI,fO,fU,fV,gQ,gP⟩:=aM bg
 have HB:=Lib.hid hB
 have Sb:=Lib.hid h11
 have Vi:=Lib.hid h12
 have Ye:=Lib.hid zm
 clear h11 h12 zm
 clear hB hBx bg c0 c1 c2 c3 c11 c12 c13 c14 c15 c16 c17 d0 d1 d2 d3 gJ gI fO fU fV gQ gP
 go_enter Tryz.func31,Tryz.ntmps31
 go_upto_region 1 with (fail)
 go_cut [5,6]from 7 to 10 (fun s5 s6 wx=>∃b5 b6:Nat,s5= .pointer (some ⟨b5,0,none⟩)∧s6= .pointer (some ⟨b6,0,none⟩)∧Below W.heap.size W wx∧wx.heap[b5]? =some (.cells #[.string x.aW, .int .i64 x.tid, .string x.part.name, .int .i64 x.part.ty, .string x.aI.name, .int .i64 x.aI.ty, .slice a0 n0 k0] 26 (0,0))∧wx.heap[b6]? =some (.cells #[.string y.aW, .int .i64 y.tid, .string y.part.name, .int .i64 y.part.ty, .string y.aI.name, .int .i64 y.aI.ty, .slice b0 m0 l0] 26 (0,0)))
 case first=>
  go_region
  all_goals go_wp2_with fail
  all_goals go_meet
  all_goals first|exact ⟨W.heap.size,W.heap.size+1,rfl,rfl,(ay W _ _ _ _).1,(ay W _ _ _ _).2.1,(ay W _ _ _ _).2.2⟩|exact ⟨W.heap.size+1,W.heap.size,rfl,rfl,(ay W _ _ _ _).1,(ay W _ _ _ _).2.2,(ay W _ _ _ _).2.1⟩
 case rest=>
  obtain ⟨b5,b6,rfl,rfl,hbc,hb5,hb6⟩:=hcut
  clear c4 c5 c6 c7 c8 c9 c10 d4 d5 d6 d7 d8 d9 fF
  have hBx:=aD hbc HX.out
  have bg:=aD hbc HY.out
  have HB1:=Lib.hid (HB.out.trans (hbc.mono HB.out.size))
  obtain ⟨c0,c1,c2,c3,c4,c5,c6,c7,c8,c9,c10,c11,c12,c13,c14,c15,c16,c17⟩:=aM hBx
  obtain ⟨d0,d1,d2,d3,d4,d5,d6,d7,d8,d9,fF,gJ,gI,fO,fU,fV,gQ,gP⟩:=aM bg
  obtain ⟨f0,f1,f2,f3,f4,f5,f6⟩:=t7 hb5
  obtain ⟨g0,g1,g2,g3,g4,g5,g6⟩:=t7 hb6
  have uT:=Lib.hid hBx
  have uU:=Lib.hid bg
  clear hBx bg hb5 hb6 hbc HX HY HB hW hlx qG c4 c5 c6 c7 c8 c9 c10 d4 d5 d6 d7 d8 d9 fF
  have hcall:=Sb.out wc HB1.out
  go_wp2_with fail
  refine hcall.mono ?_;rintro e Qg ⟨rfl,hbb⟩
  have HB2:=Lib.hid (HB1.out.trans (hbb.mono HB1.out.size))
  clear f0 f1 f2 f3 f4 f5 f6 g0 g1 g2 g3 g4 g5 g6
  clear hcall c0 c1 c2 c3 c11 c12 c13 c14 c15 c16 c17 d0 d1 d2 d3 gJ gI fO fU fV gQ gP
  have hBx:=aD hbb uT.out
  have bg:=aD hbb uU.out
  have Co:=Lib.hid hBx
  have LV:=Lib.hid bg
  obtain ⟨c0,c1,c2,c3,c4,c5,c6,c7,c8,c9,c10,c11,c12,c13,c14,c15,c16,c17⟩:=aM hBx
  obtain ⟨d0,d1,d2,d3,d4,d5,d6,d7,d8,d9,fF,gJ,gI,fO,fU,fV,gQ,gP⟩:=aM bg
  clear hBx bg hbb c4 c5 c6 c7 c8 c9 c10 d4 d5 d6 d7 d8 d9 fF
  have hcall:=Vi.out Qg HB2.out
  go_wp2_with fail
  refine hcall.mono ?_;rintro e V7 ⟨rfl,hbb⟩
  have HB3:=Lib.hid (HB2.out.trans (hbb.mono HB2.out.size))
  clear hcall c0 c1 c2 c3 c11 c12 c13 c14 c15 c16 c17 d0 d1 d2 d3 gJ gI fO fU fV gQ gP
  have hBx:=aD hbb Co.out
  have bg:=aD hbb LV.out
  have SV:=Lib.hid hBx
  have SX:=Lib.hid bg
  obtain ⟨c0,c1,c2,c3,c4,c5,c6,c7,c8,c9,c10,c11,c12,c13,c14,c15,c16,c17⟩:=aM hBx
  obtain ⟨d0,d1,d2,d3,d4,d5,d6,d7,d8,d9,fF,gJ,gI,fO,fU,fV,gQ,gP⟩:=aM bg
  clear hBx bg hbb c4 c5 c6 c7 c8 c9 c10 d4 d5 d6 d7 d8 d9 fF
  have hcall:=Ye.out V7 HB3.out
  go_wp2_with fail
  refine hcall.mono ?_;rintro e VQ ⟨rfl,hbb⟩
  have I6:=Lib.hid (HB3.out.trans (hbb.mono HB3.out.size))
  go_wp2_with fail
  go_ret
  exact ⟨rfl,I6.out⟩
theorem Vk {w:World}{x y:Sx}{a0 b0:Option Addr}{n0 k0 m0 l0:Nat}{c s wv pv c' s' wv' pv' :Value}(e0:(x.kind==y.kind)=true) (e1:(x.name.toList==y.name.toList)=true) (e2:(x.bM.toList==y.bM.toList)=true) (e3:(x.on.toList==y.on.toList)=true) (e4:(x.stamp==y.stamp)=true) (e5:(x.ttl==y.ttl)=true) (e6:(x.limit==y.limit)=true) (e7:(x.aW.toList==y.aW.toList)=true) (e8:(x.tid==y.tid)=true) (Ve:(x.part.name.toList==y.part.name.toList)=true) (V6:(x.part.ty==y.part.ty)=true) (Ku:(x.aI.name.toList==y.aI.name.toList)=true) (Oz:(x.aI.ty==y.aI.ty)=true) (h11:∀w',Below w.heap.size w w' →Calls Tryz.prog 62 #[(.slice a0 n0 k0),(.slice b0 m0 l0)] w' fun e w'' =>e= .returned (.bool true)∧Below w'.heap.size w' w'') (h12:∀w',Below w.heap.size w w' →Calls Tryz.prog 63 #[c,c'] w' fun e w'' =>e= .returned (.bool true)∧Below w'.heap.size w' w'') (zm:∀w',Below w.heap.size w w' →Calls Tryz.prog 64 #[s,s'] w' fun e w'' =>e= .returned (.bool true)∧Below w'.heap.size w' w'') (QO:∀w',Below w.heap.size w w' →Calls Tryz.prog 64 #[wv,wv'] w' fun e w'' =>e= .returned (.bool false)∧Below w'.heap.size w' w''):
 Calls Tryz.prog 31 #[.agg (aF x (.slice a0 n0 k0) c s wv pv), .agg (aF y (.slice b0 m0 l0) c' s' wv' pv')] w fun e w' =>e= .returned (.bool false)∧Below w.heap.size w w' :=by
 obtain ⟨W,hW⟩:∃W,(w.alloc (.cells (aF x (.slice a0 n0 k0) c s wv pv) 31)).alloc (.cells (aF y (.slice b0 m0 l0) c' s' wv' pv') 31)=W:=⟨_,rfl⟩
 obtain ⟨hB,hBx,bg⟩:=eu w (aF x (.slice a0 n0 k0) c s wv pv) (aF y (.slice b0 m0 l0) c' s' wv' pv') 31 31
 rw [hW]at hB hBx bg
 have HX:=Lib.hid hBx
 have HY:=Lib.hid bg
 have hlx:=aC hBx
 have qG:=aC bg
 obtain ⟨c0,c1,c2,c3,c4,c5,c6,c7,c8,c9,c10,c11,c12,c13,c14,c15,c16,c17⟩:=aM hBx
 obtain ⟨d0,d1,d2,d3,d4,d5,d6,d7,d8,d9,fF,gJ,gI,fO,fU,fV,gQ,gP⟩:=aM bg
 have HB:=Lib.hid hB
 have Sb:=Lib.hid h11
 have Vi:=Lib.hid h12
 have Ye:=Lib.hid zm
 have ZW:=Lib.hid QO
 clear h11 h12 zm QO
 clear hB hBx bg c0 c1 c2 c3 c11 c12 c13 c14 c15 c16 c17 d0 d1 d2 d3 gJ gI fO fU fV gQ gP
 go_enter Tryz.func31,Tryz.ntmps31
 go_upto_region 1 with (fail)
 go_cut [5,6]from 7 to 10 (fun s5 s6 wx=>∃b5 b6:Nat,s5= .pointer (some ⟨b5,0,none⟩)∧s6= .pointer (some ⟨b6,0,none⟩)∧Below W.heap.size W wx∧wx.heap[b5]? =some (.cells #[.string x.aW, .int .i64 x.tid, .string x.part.name, .int .i64 x.part.ty, .string x.aI.name, .int .i64 x.aI.ty, .slice a0 n0 k0] 26 (0,0))∧wx.heap[b6]? =some (.cells #[.string y.aW, .int .i64 y.tid, .string y.part.name, .int .i64 y.part.ty, .string y.aI.name, .int .i64 y.aI.ty, .slice b0 m0 l0] 26 (0,0)))
 case first=>
  go_region
  all_goals go_wp2_with fail
  all_goals go_meet
  all_goals first|exact ⟨W.heap.size,W.heap.size+1,rfl,rfl,(ay W _ _ _ _).1,(ay W _ _ _ _).2.1,(ay W _ _ _ _).2.2⟩|exact ⟨W.heap.size+1,W.heap.size,rfl,rfl,(ay W _ _ _ _).1,(ay W _ _ _ _).2.2,(ay W _ _ _ _).2.1⟩
 case rest=>
  obtain ⟨b5,b6,rfl,rfl,hbc,hb5,hb6⟩:=hcut
  clear c4 c5 c6 c7 c8 c9 c10 d4 d5 d6 d7 d8 d9 fF
  have hBx:=aD hbc HX.out
  have bg:=aD hbc HY.out
  have HB1:=Lib.hid (HB.out.trans (hbc.mono HB.out.size))
  obtain ⟨c0,c1,c2,c3,c4,c5,c6,c7,c8,c9,c10,c11,c12,c13,c14,c15,c16,c17⟩:=aM hBx
  obtain ⟨d0,d1,d2,d3,d4,d5,d6,d7,d8,d9,fF,gJ,gI,fO,fU,fV,gQ,gP⟩:=aM bg
  obtain ⟨f0,f1,f2,f3,f4,f5,f6⟩:=t7 hb5
  obtain ⟨g0,g1,g2,g3,g4,g5,g6⟩:=t7 hb6
  have uT:=Lib.hid hBx
  have uU:=Lib.hid bg
  clear hBx bg hb5 hb6 hbc HX HY HB hW hlx qG c4 c5 c6 c7 c8 c9 c10 d4 d5 d6 d7 d8 d9 fF
  have hcall:=Sb.out wc HB1.out
  go_wp2_with fail
  refine hcall.mono ?_;rintro e Qg ⟨rfl,hbb⟩
  have HB2:=Lib.hid (HB1.out.trans (hbb.mono HB1.out.size))
  clear f0 f1 f2 f3 f4 f5 f6 g0 g1 g2 g3 g4 g5 g6
  clear hcall c0 c1 c2 c3 c11 c12 c13 c14 c15 c16 c17 d0 d1 d2 d3 gJ gI fO fU fV gQ gP
  have hBx:=aD hbb uT.out
  have bg:=aD hbb uU.out
  have Co:=Lib.hid hBx
  have LV:=Lib.hid bg
  obtain ⟨c0,c1,c2,c3,c4,c5,c6,c7,c8,c9,c10,c11,c12,c13,c14,c15,c16,c17⟩:=aM hBx
  obtain ⟨d0,d1,d2,d3,d4,d5,d6,d7,d8,d9,fF,gJ,gI,fO,fU,fV,gQ,gP⟩:=aM bg
  clear hBx bg hbb c4 c5 c6 c7 c8 c9 c10 d4 d5 d6 d7 d8 d9 fF
  have hcall:=Vi.out Qg HB2.out
  go_wp2_with fail
  refine hcall.mono ?_;rintro e V7 ⟨rfl,hbb⟩
  have HB3:=Lib.hid (HB2.out.trans (hbb.mono HB2.out.size))
  clear hcall c0 c1 c2 c3 c11 c12 c13 c14 c15 c16 c17 d0 d1 d2 d3 gJ gI fO fU fV gQ gP
  have hBx:=aD hbb Co.out
  have bg:=aD hbb LV.out
  have SV:=Lib.hid hBx
  have SX:=Lib.hid bg
  obtain ⟨c0,c1,c2,c3,c4,c5,c6,c7,c8,c9,c10,c11,c12,c13,c14,c15,c16,c17⟩:=aM hBx
  obtain ⟨d0,d1,d2,d3,d4,d5,d6,d7,d8,d9,fF,gJ,gI,fO,fU,fV,gQ,gP⟩:=aM bg
  clear hBx bg hbb c4 c5 c6 c7 c8 c9 c10 d4 d5 d6 d7 d8 d9 fF
  have hcall:=Ye.out V7 HB3.out
  go_wp2_with fail
  refine hcall.mono ?_;rintro e VQ ⟨rfl,hbb⟩
  have I6:=Lib.hid (HB3.out.trans (hbb.mono HB3.out.size))
  clear hcall c0 c1 c2 c3 c11 c12 c13 c14 c15 c16 c17 d0 d1 d2 d3 gJ gI fO fU fV gQ gP
  have hBx:=aD hbb SV.out
  have bg:=aD hbb SX.out
  have Yz:=Lib.hid hBx
  have YA:=Lib.hid bg
  obtain ⟨c0,c1,c2,c3,c4,c5,c6,c7,c8,c9,c10,c11,c12,c13,c14,c15,c16,c17⟩:=aM hBx
  obtain ⟨d0,d1,d2,d3,d4,d5,d6,d7,d8,d9,fF,gJ,gI,fO,fU,fV,gQ,gP⟩:=aM bg
  clear hBx bg hbb c4 c5 c6 c7 c8 c9 c10 d4 d5 d6 d7 d8 d9 fF
  have hcall:=ZW.out VQ I6.out
  go_wp2_with fail
  refine hcall.mono ?_;rintro e Ze ⟨rfl,hbb⟩
  have Vl:=Lib.hid (I6.out.trans (hbb.mono I6.out.size))
  go_wp2_with fail
  go_ret
  exact ⟨rfl,Vl.out⟩
end Go.Proofs.YtfbgdjcnlnfoaaaGreatDoor
