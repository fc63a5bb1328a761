/- Parts of a proof. -/
import Derived.Test.YtcgadodckoalnaaGreatDoorB29
set_option maxHeartbeats 16000000
set_option maxRecDepth 100000
namespace Go.Proofs.YtcgadodckoalnaaGreatDoor
open Go.Proofs.Tryz
open Go.RowKit
open aN
theorem ad4 {w:World}{x y:Sx}{a0 b0:Option Addr}{k0 l0:Nat}{c s wv pv c' s' wv' pv' :Value}{P:Prop}  (t0:x.kind=y.kind) (t1:x.name=y.name) (t2:x.bT=y.bT) (t3:x.on=y.on) (t4:x.stamp=y.stamp) (t5:x.ttl=y.ttl) (t6:x.limit=y.limit) (t7:x.bG=y.bG) (t8:x.tid=y.tid) (hne:¬(x.part.name=y.part.name∧x.part.ty=y.part.ty∧x.aX.name=y.aX.name∧x.aX.ty=y.aX.ty)):
 Calls prog 15 #[.agg (aG x (.slice a0 x.aB.length k0) c s wv pv), .agg (aG y (.slice b0 y.aB.length l0) c' s' wv' pv')] w fun e w' =>∃b:Bool,e= .returned (.bool b)∧(b=true ↔ x=y∧P)∧Below w.heap.size w w' :=by
 have I9:=Lib.hid hne;clear hne;obtain ⟨W,hW⟩:∃W,(w.alloc (.cells (aG x (.slice a0 x.aB.length k0) c s wv pv) 31)).alloc (.cells (aG y (.slice b0 y.aB.length l0) c' s' wv' pv') 31)=W:=⟨_,rfl⟩;obtain ⟨hB,hBx,kF⟩:=oN w (aG x (.slice a0 x.aB.length k0) c s wv pv) (aG y (.slice b0 y.aB.length l0) c' s' wv' pv') 31 31;rw [hW]at hB hBx kF;have HX:=Lib.hid hBx;have HY:=Lib.hid kF;have hlx:=aD hBx;have hly:=aD kF;have T0:=Lib.hid t0;have s0:=nL t0;clear t0;have T1:=Lib.hid t1;have s1:=jQ t1;clear t1;have T2:=Lib.hid t2;have s2:=jQ t2;clear t2;have T3:=Lib.hid t3;have s3:=jQ t3;clear t3;have T4:=Lib.hid t4;have s4:=nL t4;clear t4;have T5:=Lib.hid t5;have s5:=nL t5;clear t5;have T6:=Lib.hid t6;have s6:=nL t6;clear t6;have T7:=Lib.hid t7;have s7:=jQ t7;clear t7;have T8:=Lib.hid t8;have s8:=nL t8;clear t8;obtain ⟨c0,c1,c2,c3,c4,c5,c6,c7,c8,c9,c10,c11,c12,c13,c14,c15,c16,c17⟩:=aK hBx;obtain ⟨d0,d1,d2,d3,d4,d5,d6,d7,d8,d9,zm,uV,uU,qE,sS,sU,zR,yK⟩:=aK kF;have HB:=Lib.hid hB;clear hB hBx kF c0 d0 c1 d1 c2 d2 c3 d3 c11 uV c12 uU c13 qE c14 sS c15 sU c16 zR c17 yK;go_enter func15,ntmps15;go_upto_region 1 with (fail)
 go_cut [5,6]from 7 to 10 (fun s5 s6 wx=>∃b5 b6:Nat,s5= .pointer (some ⟨b5,0,none⟩)∧s6= .pointer (some ⟨b6,0,none⟩)∧Below W.heap.size W wx∧wx.heap[b5]? =some (.cells #[.string x.bG, .int .i64 x.tid, .string x.part.name, .int .i64 x.part.ty, .string x.aX.name, .int .i64 x.aX.ty, .slice a0 x.aB.length k0] 26 (0,0))∧wx.heap[b6]? =some (.cells #[.string y.bG, .int .i64 y.tid, .string y.part.name, .int .i64 y.part.ty, .string y.aX.name, .int .i64 y.aX.ty, .slice b0 y.aB.length l0] 26 (0,0)))
 case first=>
  go_region;all_goals go_wp2_with fail
  all_goals go_meet
  all_goals first|exact ⟨W.heap.size,W.heap.size+1,rfl,rfl,(eT W _ _ _ _).1,(eT W _ _ _ _).2.1,(eT W _ _ _ _).2.2⟩|exact ⟨W.heap.size+1,W.heap.size,rfl,rfl,(eT W _ _ _ _).1,(eT W _ _ _ _).2.2,(eT W _ _ _ _).2.1⟩
 obtain ⟨b5,b6,rfl,rfl,hbc,hb5,hb6⟩:=hcut;clear c4 c5 c6 c7 c8 c9 c10 d4 d5 d6 d7 d8 d9 zm;have hBx:=bL hbc HX.out;have kF:=bL hbc HY.out;have HB1:=Lib.hid (HB.out.trans (hbc.mono HB.out.size));have Wy:=Lib.hid hBx;have Wz:=Lib.hid kF;obtain ⟨f0,f1,f2,f3,f4,f5,f6⟩:=t7 hb5;obtain ⟨g0,g1,g2,g3,g4,g5,g6⟩:=t7 hb6;obtain ⟨c0,c1,c2,c3,c4,c5,c6,c7,c8,c9,c10,c11,c12,c13,c14,c15,c16,c17⟩:=aK hBx;obtain ⟨d0,d1,d2,d3,d4,d5,d6,d7,d8,d9,zm,uV,uU,qE,sS,sU,zR,yK⟩:=aK kF;clear hBx kF hb5 hb6 hbc HX HY HB hW hlx hly c4 d4 c5 d5 c6 d6 c7 d7 c8 d8 c9 d9 c10 zm c11 uV c12 uU c13 qE c17 yK;by_cases t9:x.part.name=y.part.name
 case neg=>
  have s9:=sW t9;have HN:Hid (¬(x=y∧P)):=fun h=>t9 (by rw [h.1])
  clear t9;go_wp2_with fail;go_ret;exact ⟨false,rfl,⟨fun h=>absurd h (by decide),fun h=>absurd h HN.out⟩,HB1.out⟩
 have T9:=Lib.hid t9;have s9:=jQ t9;clear t9;by_cases t10:x.part.ty=y.part.ty
 case neg=>
  have s10:=EL t10;have HN:Hid (¬(x=y∧P)):=fun h=>t10 (by rw [h.1])
  clear t10;go_wp2_with fail;go_ret;exact ⟨false,rfl,⟨fun h=>absurd h (by decide),fun h=>absurd h HN.out⟩,HB1.out⟩
 have T10:=Lib.hid t10;have s10:=nL t10;clear t10;by_cases t11:x.aX.name=y.aX.name
 case neg=>
  have s11:=sW t11;have HN:Hid (¬(x=y∧P)):=fun h=>t11 (by rw [h.1])
  clear t11;go_wp2_with fail;go_ret;exact ⟨false,rfl,⟨fun h=>absurd h (by decide),fun h=>absurd h HN.out⟩,HB1.out⟩
 have T11:=Lib.hid t11;have s11:=jQ t11;clear t11;by_cases t12:x.aX.ty=y.aX.ty
 case neg=>
  have s12:=EL t12;have HN:Hid (¬(x=y∧P)):=fun h=>t12 (by rw [h.1])
  clear t12;go_wp2_with fail;go_ret;exact ⟨false,rfl,⟨fun h=>absurd h (by decide),fun h=>absurd h HN.out⟩,HB1.out⟩
 exact absurd ⟨T9.out,T10.out,T11.out,t12⟩ I9.out
end Go.Proofs.YtcgadodckoalnaaGreatDoor
