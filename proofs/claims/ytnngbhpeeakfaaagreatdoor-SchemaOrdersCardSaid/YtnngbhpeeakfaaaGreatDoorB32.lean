/- Parts of a proof. -/
import Derived.Test.YtnngbhpeeakfaaaGreatDoorB29
set_option maxHeartbeats 16000000
set_option maxRecDepth 100000
namespace Go.Proofs.YtnngbhpeeakfaaaGreatDoor
open Go.Proofs.Tryz
open Go.RowKit
open aK
theorem abu {w:World}{x y:Sx}{a0 b0:Option Addr}{k0 l0:Nat}{c s wv pv c' s' wv' pv' :Value}{P:Prop}  (t0:x.kind=y.kind) (t1:x.name=y.name) (t2:x.dA=y.dA) (t3:x.on=y.on) (t4:x.stamp=y.stamp) (t5:x.ttl=y.ttl) (t6:x.limit=y.limit) (t7:x.bW=y.bW) (t8:x.tid=y.tid) (hne:¬(x.part.name=y.part.name∧x.part.ty=y.part.ty∧x.aY.name=y.aY.name∧x.aY.ty=y.aY.ty)):
 Calls prog 69 #[.agg (aP x (.slice a0 x.aF.length k0) c s wv pv), .agg (aP y (.slice b0 y.aF.length l0) c' s' wv' pv')] w fun e w' =>∃b:Bool,e= .returned (.bool b)∧(b=true ↔ x=y∧P)∧Below w.heap.size w w' :=by
 have LX:=Lib.hid hne;clear hne;obtain ⟨W,hW⟩:∃W,(w.alloc (.cells (aP x (.slice a0 x.aF.length k0) c s wv pv) 39)).alloc (.cells (aP y (.slice b0 y.aF.length l0) c' s' wv' pv') 39)=W:=⟨_,rfl⟩;obtain ⟨hB,hBx,mP⟩:=sZ w (aP x (.slice a0 x.aF.length k0) c s wv pv) (aP y (.slice b0 y.aF.length l0) c' s' wv' pv') 39 39;rw [hW]at hB hBx mP;have HX:=Lib.hid hBx;have HY:=Lib.hid mP;have hlx:=aG hBx;have hly:=aG mP;have T0:=Lib.hid t0;have s0:=l9 t0;clear t0;have T1:=Lib.hid t1;have s1:=l8 t1;clear t1;have T2:=Lib.hid t2;have s2:=l8 t2;clear t2;have T3:=Lib.hid t3;have s3:=l8 t3;clear t3;have T4:=Lib.hid t4;have s4:=l9 t4;clear t4;have T5:=Lib.hid t5;have s5:=l9 t5;clear t5;have T6:=Lib.hid t6;have s6:=l9 t6;clear t6;have T7:=Lib.hid t7;have s7:=l8 t7;clear t7;have T8:=Lib.hid t8;have s8:=l9 t8;clear t8;obtain ⟨c0,c1,c2,c3,c4,c5,c6,c7,c8,c9,c10,c11,c12,c13,c14,c15,c16,c17⟩:=bn hBx;obtain ⟨d0,d1,d2,d3,d4,d5,d6,d7,d8,d9,EG,zQ,zO,tO,wQ,wR,Gv,EY⟩:=bn mP;have HB:=Lib.hid hB;clear hB hBx mP c0 d0 c1 d1 c2 d2 c3 d3 c11 zQ c12 zO c13 tO c14 wQ c15 wR c16 Gv c17 EY;go_enter func69,ntmps69;go_upto_region 1 with (fail)
 go_cut [5,6]from 7 to 10 (fun s5 s6 wx=>∃b5 b6:Nat,s5= .pointer (some ⟨b5,0,none⟩)∧s6= .pointer (some ⟨b6,0,none⟩)∧Below W.heap.size W wx∧wx.heap[b5]? =some (.cells #[.string x.bW, .int .i64 x.tid, .string x.part.name, .int .i64 x.part.ty, .string x.aY.name, .int .i64 x.aY.ty, .slice a0 x.aF.length k0] 27 (0,0))∧wx.heap[b6]? =some (.cells #[.string y.bW, .int .i64 y.tid, .string y.part.name, .int .i64 y.part.ty, .string y.aY.name, .int .i64 y.aY.ty, .slice b0 y.aF.length l0] 27 (0,0)))
 case first=>
  go_region;all_goals go_wp2_with fail
  all_goals go_meet
  all_goals first|exact ⟨W.heap.size,W.heap.size+1,rfl,rfl,(dO W _ _ _ _).1,(dO W _ _ _ _).2.1,(dO W _ _ _ _).2.2⟩|exact ⟨W.heap.size+1,W.heap.size,rfl,rfl,(dO W _ _ _ _).1,(dO W _ _ _ _).2.2,(dO W _ _ _ _).2.1⟩
 obtain ⟨b5,b6,rfl,rfl,hbc,hb5,hb6⟩:=hcut;clear c4 c5 c6 c7 c8 c9 c10 d4 d5 d6 d7 d8 d9 EG;have hBx:=aH hbc HX.out;have mP:=aH hbc HY.out;have HB1:=Lib.hid (HB.out.trans (hbc.mono HB.out.size));have HX1:=Lib.hid hBx;have HY1:=Lib.hid mP;obtain ⟨f0,f1,f2,f3,f4,f5,f6⟩:=t7 hb5;obtain ⟨g0,g1,g2,g3,g4,g5,g6⟩:=t7 hb6;obtain ⟨c0,c1,c2,c3,c4,c5,c6,c7,c8,c9,c10,c11,c12,c13,c14,c15,c16,c17⟩:=bn hBx;obtain ⟨d0,d1,d2,d3,d4,d5,d6,d7,d8,d9,EG,zQ,zO,tO,wQ,wR,Gv,EY⟩:=bn mP;clear hBx mP hb5 hb6 hbc HX HY HB hW hlx hly c4 d4 c5 d5 c6 d6 c7 d7 c8 d8 c9 d9 c10 EG c11 zQ c12 zO c13 tO c17 EY;by_cases t9:x.part.name=y.part.name
 case neg=>
  have s9:=Gu t9;have HN:Hid (¬(x=y∧P)):=fun h=>t9 (by rw [h.1])
  clear t9;go_wp2_with fail;go_ret;exact ⟨false,rfl,⟨fun h=>absurd h (by decide),fun h=>absurd h HN.out⟩,HB1.out⟩
 have T9:=Lib.hid t9;have s9:=l8 t9;clear t9;by_cases t10:x.part.ty=y.part.ty
 case neg=>
  have s10:=EF t10;have HN:Hid (¬(x=y∧P)):=fun h=>t10 (by rw [h.1])
  clear t10;go_wp2_with fail;go_ret;exact ⟨false,rfl,⟨fun h=>absurd h (by decide),fun h=>absurd h HN.out⟩,HB1.out⟩
 have T10:=Lib.hid t10;have s10:=l9 t10;clear t10;by_cases t11:x.aY.name=y.aY.name
 case neg=>
  have s11:=Gu t11;have HN:Hid (¬(x=y∧P)):=fun h=>t11 (by rw [h.1])
  clear t11;go_wp2_with fail;go_ret;exact ⟨false,rfl,⟨fun h=>absurd h (by decide),fun h=>absurd h HN.out⟩,HB1.out⟩
 have T11:=Lib.hid t11;have s11:=l8 t11;clear t11;by_cases t12:x.aY.ty=y.aY.ty
 case neg=>
  have s12:=EF t12;have HN:Hid (¬(x=y∧P)):=fun h=>t12 (by rw [h.1])
  clear t12;go_wp2_with fail;go_ret;exact ⟨false,rfl,⟨fun h=>absurd h (by decide),fun h=>absurd h HN.out⟩,HB1.out⟩
 exact absurd ⟨T9.out,T10.out,T11.out,t12⟩ LX.out
end Go.Proofs.YtnngbhpeeakfaaaGreatDoor
