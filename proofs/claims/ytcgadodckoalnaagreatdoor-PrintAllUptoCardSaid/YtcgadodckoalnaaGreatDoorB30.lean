/- Parts of a proof. -/
import Derived.Test.YtcgadodckoalnaaGreatDoorB29
set_option maxHeartbeats 16000000
set_option maxRecDepth 100000
namespace Go.Proofs.YtcgadodckoalnaaGreatDoor
open Go.Proofs.Tryz
open Go.RowKit
open aN
theorem ad1 {w:World}{x y:Sx}{a0 b0:Option Addr}{k0 l0:Nat}{c s wv pv c' s' wv' pv' :Value}{P:Prop}  (hne:¬(x.kind=y.kind∧x.name=y.name∧x.bT=y.bT∧x.on=y.on)):
 Calls prog 15 #[.agg (aG x (.slice a0 x.aB.length k0) c s wv pv), .agg (aG y (.slice b0 y.aB.length l0) c' s' wv' pv')] w fun e w' =>∃b:Bool,e= .returned (.bool b)∧(b=true ↔ x=y∧P)∧Below w.heap.size w w' :=by
 have I9:=Lib.hid hne;clear hne;obtain ⟨W,hW⟩:∃W,(w.alloc (.cells (aG x (.slice a0 x.aB.length k0) c s wv pv) 31)).alloc (.cells (aG y (.slice b0 y.aB.length l0) c' s' wv' pv') 31)=W:=⟨_,rfl⟩;obtain ⟨hB,hBx,kF⟩:=oN w (aG x (.slice a0 x.aB.length k0) c s wv pv) (aG y (.slice b0 y.aB.length l0) c' s' wv' pv') 31 31;rw [hW]at hB hBx kF;have HX:=Lib.hid hBx;have HY:=Lib.hid kF;have hlx:=aD hBx;have hly:=aD kF;obtain ⟨c0,c1,c2,c3,c4,c5,c6,c7,c8,c9,c10,c11,c12,c13,c14,c15,c16,c17⟩:=aK hBx;obtain ⟨d0,d1,d2,d3,d4,d5,d6,d7,d8,d9,zm,uV,uU,qE,sS,sU,zR,yK⟩:=aK kF;have HB:=Lib.hid hB;clear hB hBx kF c0 d0 c1 d1 c2 d2 c3 d3 c11 uV c12 uU c13 qE c14 sS c15 sU c16 zR c17 yK;go_enter func15,ntmps15;go_upto_region 1 with (fail)
 go_cut [5,6]from 7 to 10 (fun s5 s6 wx=>∃b5 b6:Nat,s5= .pointer (some ⟨b5,0,none⟩)∧s6= .pointer (some ⟨b6,0,none⟩)∧Below W.heap.size W wx∧wx.heap[b5]? =some (.cells #[.string x.bG, .int .i64 x.tid, .string x.part.name, .int .i64 x.part.ty, .string x.aX.name, .int .i64 x.aX.ty, .slice a0 x.aB.length k0] 26 (0,0))∧wx.heap[b6]? =some (.cells #[.string y.bG, .int .i64 y.tid, .string y.part.name, .int .i64 y.part.ty, .string y.aX.name, .int .i64 y.aX.ty, .slice b0 y.aB.length l0] 26 (0,0)))
 case first=>
  go_region;all_goals go_wp2_with fail
  all_goals go_meet
  all_goals first|exact ⟨W.heap.size,W.heap.size+1,rfl,rfl,(eT W _ _ _ _).1,(eT W _ _ _ _).2.1,(eT W _ _ _ _).2.2⟩|exact ⟨W.heap.size+1,W.heap.size,rfl,rfl,(eT W _ _ _ _).1,(eT W _ _ _ _).2.2,(eT W _ _ _ _).2.1⟩
 obtain ⟨b5,b6,rfl,rfl,hbc,hb5,hb6⟩:=hcut;clear c4 c5 c6 c7 c8 c9 c10 d4 d5 d6 d7 d8 d9 zm;have hBx:=bL hbc HX.out;have kF:=bL hbc HY.out;have HB1:=Lib.hid (HB.out.trans (hbc.mono HB.out.size));have Wy:=Lib.hid hBx;have Wz:=Lib.hid kF;obtain ⟨f0,f1,f2,f3,f4,f5,f6⟩:=t7 hb5;obtain ⟨g0,g1,g2,g3,g4,g5,g6⟩:=t7 hb6;obtain ⟨c0,c1,c2,c3,c4,c5,c6,c7,c8,c9,c10,c11,c12,c13,c14,c15,c16,c17⟩:=aK hBx;obtain ⟨d0,d1,d2,d3,d4,d5,d6,d7,d8,d9,zm,uV,uU,qE,sS,sU,zR,yK⟩:=aK kF;clear hBx kF hb5 hb6 hbc HX HY HB hW hlx hly c4 d4 c5 d5 c6 d6 c7 d7 c8 d8 c9 d9 c10 zm c11 uV c12 uU c13 qE c17 yK;by_cases t0:x.kind=y.kind
 case neg=>
  have s0:=EL t0;have HN:Hid (¬(x=y∧P)):=fun h=>t0 (by rw [h.1])
  clear t0;go_wp2_with fail;go_ret;exact ⟨false,rfl,⟨fun h=>absurd h (by decide),fun h=>absurd h HN.out⟩,HB1.out⟩
 have T0:=Lib.hid t0;have s0:=nL t0;clear t0;by_cases t1:x.name=y.name
 case neg=>
  have s1:=sW t1;have HN:Hid (¬(x=y∧P)):=fun h=>t1 (by rw [h.1])
  clear t1;go_wp2_with fail;go_ret;exact ⟨false,rfl,⟨fun h=>absurd h (by decide),fun h=>absurd h HN.out⟩,HB1.out⟩
 have T1:=Lib.hid t1;have s1:=jQ t1;clear t1;by_cases t2:x.bT=y.bT
 case neg=>
  have s2:=sW t2;have HN:Hid (¬(x=y∧P)):=fun h=>t2 (by rw [h.1])
  clear t2;go_wp2_with fail;go_ret;exact ⟨false,rfl,⟨fun h=>absurd h (by decide),fun h=>absurd h HN.out⟩,HB1.out⟩
 have T2:=Lib.hid t2;have s2:=jQ t2;clear t2;by_cases t3:x.on=y.on
 case neg=>
  have s3:=sW t3;have HN:Hid (¬(x=y∧P)):=fun h=>t3 (by rw [h.1])
  clear t3;go_wp2_with fail;go_ret;exact ⟨false,rfl,⟨fun h=>absurd h (by decide),fun h=>absurd h HN.out⟩,HB1.out⟩
 exact absurd ⟨T0.out,T1.out,T2.out,t3⟩ I9.out
end Go.Proofs.YtcgadodckoalnaaGreatDoor
