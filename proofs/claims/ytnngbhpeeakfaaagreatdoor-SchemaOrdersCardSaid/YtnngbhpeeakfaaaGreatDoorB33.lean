/- Parts of a proof. -/
import Derived.Test.YtnngbhpeeakfaaaGreatDoorB29
set_option maxHeartbeats 16000000
set_option maxRecDepth 100000
namespace Go.Proofs.YtnngbhpeeakfaaaGreatDoor
open Go.Proofs.Tryz
open Go.RowKit
open aK
theorem RS {x y:Sx}(t0:x.kind=y.kind) (t1:x.name=y.name) (t2:x.dA=y.dA) (t3:x.on=y.on) (t4:x.stamp=y.stamp) (t5:x.ttl=y.ttl) (t6:x.limit=y.limit) (t7:x.bW=y.bW) (t8:x.tid=y.tid) (t9:x.part.name=y.part.name) (t10:x.part.ty=y.part.ty) (t11:x.aY.name=y.aY.name) (t12:x.aY.ty=y.aY.ty) (t13:x.aF=y.aF) (t14:x.aD=y.aD) (t15:x.sets=y.sets) (t16:x.aO=y.aO):x=y:=by
 obtain ⟨x1,x2,x3,x4,x5,x6,⟨x7,x7'⟩,⟨x8,x8'⟩,x9,x10,x11,x12,x13,x14,x15⟩:=x;obtain ⟨y1,y2,y3,y4,y5,y6,⟨y7,y7'⟩,⟨y8,y8'⟩,y9,y10,y11,y12,y13,y14,y15⟩:=y;simp only at t0 t1 t2 t3 t4 t5 t6 t7 t8 t9 t10 t11 t12 t13 t14 t15 t16;subst t0 t1 t2 t3 t4 t5 t6 t7 t8 t9 t10 t11 t12 t13 t14 t15 t16;rfl
theorem abv {w:World}{x y:Sx}{a0 b0:Option Addr}{k0 l0:Nat}{c s wv pv c' s' wv' pv' :Value}{P:Prop}(hx:kL w x (.slice a0 x.aF.length k0) c s wv) (hy:kL w y (.slice b0 y.aF.length l0) c' s' wv') (sx:WK x) (sy:WK y) (hp:∀w',Below w.heap.size w w' →Calls prog 141 #[pv,pv', .func (.func 69) #[] #[]] w' fun e w'' =>∃b:Bool,e= .returned (.bool b)∧(b=true ↔ P)∧Below w'.heap.size w' w'') (t0:x.kind=y.kind) (t1:x.name=y.name) (t2:x.dA=y.dA) (t3:x.on=y.on) (t4:x.stamp=y.stamp) (t5:x.ttl=y.ttl) (t6:x.limit=y.limit) (t7:x.bW=y.bW) (t8:x.tid=y.tid) (t9:x.part.name=y.part.name) (t10:x.part.ty=y.part.ty) (t11:x.aY.name=y.aY.name) (t12:x.aY.ty=y.aY.ty):
 Calls prog 69 #[.agg (aP x (.slice a0 x.aF.length k0) c s wv pv), .agg (aP y (.slice b0 y.aF.length l0) c' s' wv' pv')] w fun e w' =>∃b:Bool,e= .returned (.bool b)∧(b=true ↔ x=y∧P)∧Below w.heap.size w w' :=by
 have H11:Hid _:=Lib.hid fun w' (hb:Below w.heap.size w w')=>YF (hx.tc.below hb) (hy.tc.below hb) sx.1 sy.1
 have H12:Hid _:=Lib.hid fun w' (hb:Below w.heap.size w w')=>YG (hx.c.below hb) (hy.c.below hb) sx.2.1 sy.2.1
 have H13:Hid _:=Lib.hid fun w' (hb:Below w.heap.size w w')=>Pg (hx.s.below hb) (hy.s.below hb) sx.2.2.1 sy.2.2.1
 have H14:Hid _:=Lib.hid fun w' (hb:Below w.heap.size w w')=>Pg (hx.wv.below hb) (hy.wv.below hb) sx.2.2.2 sy.2.2.2
 have H15:=Lib.hid hp;clear hp hx hy sx sy;obtain ⟨W,hW⟩:∃W,(w.alloc (.cells (aP x (.slice a0 x.aF.length k0) c s wv pv) 39)).alloc (.cells (aP y (.slice b0 y.aF.length l0) c' s' wv' pv') 39)=W:=⟨_,rfl⟩;obtain ⟨hB,hBx,mP⟩:=sZ w (aP x (.slice a0 x.aF.length k0) c s wv pv) (aP y (.slice b0 y.aF.length l0) c' s' wv' pv') 39 39;rw [hW]at hB hBx mP;have HX:=Lib.hid hBx;have HY:=Lib.hid mP;have hlx:=aG hBx;have hly:=aG mP;have T0:=Lib.hid t0;have s0:=l9 t0;clear t0;have T1:=Lib.hid t1;have s1:=l8 t1;clear t1;have T2:=Lib.hid t2;have s2:=l8 t2;clear t2;have T3:=Lib.hid t3;have s3:=l8 t3;clear t3;have T4:=Lib.hid t4;have s4:=l9 t4;clear t4;have T5:=Lib.hid t5;have s5:=l9 t5;clear t5;have T6:=Lib.hid t6;have s6:=l9 t6;clear t6;have T7:=Lib.hid t7;have s7:=l8 t7;clear t7;have T8:=Lib.hid t8;have s8:=l9 t8;clear t8;have T9:=Lib.hid t9;have s9:=l8 t9;clear t9;have T10:=Lib.hid t10;have s10:=l9 t10;clear t10;have T11:=Lib.hid t11;have s11:=l8 t11;clear t11;have T12:=Lib.hid t12;have s12:=l9 t12;clear t12;obtain ⟨c0,c1,c2,c3,c4,c5,c6,c7,c8,c9,c10,c11,c12,c13,c14,c15,c16,c17⟩:=bn hBx;obtain ⟨d0,d1,d2,d3,d4,d5,d6,d7,d8,d9,EG,zQ,zO,tO,wQ,wR,Gv,EY⟩:=bn mP;have HB:=Lib.hid hB;clear hB hBx mP c0 d0 c1 d1 c2 d2 c3 d3 c11 zQ c12 zO c13 tO c14 wQ c15 wR c16 Gv c17 EY;go_enter func69,ntmps69;go_upto_region 1 with (fail)
 go_cut [5,6]from 7 to 10 (fun s5 s6 wx=>∃b5 b6:Nat,s5= .pointer (some ⟨b5,0,none⟩)∧s6= .pointer (some ⟨b6,0,none⟩)∧Below W.heap.size W wx∧wx.heap[b5]? =some (.cells #[.string x.bW, .int .i64 x.tid, .string x.part.name, .int .i64 x.part.ty, .string x.aY.name, .int .i64 x.aY.ty, .slice a0 x.aF.length k0] 27 (0,0))∧wx.heap[b6]? =some (.cells #[.string y.bW, .int .i64 y.tid, .string y.part.name, .int .i64 y.part.ty, .string y.aY.name, .int .i64 y.aY.ty, .slice b0 y.aF.length l0] 27 (0,0)))
 case first=>
  go_region;all_goals go_wp2_with fail
  all_goals go_meet
  all_goals first|exact ⟨W.heap.size,W.heap.size+1,rfl,rfl,(dO W _ _ _ _).1,(dO W _ _ _ _).2.1,(dO W _ _ _ _).2.2⟩|exact ⟨W.heap.size+1,W.heap.size,rfl,rfl,(dO W _ _ _ _).1,(dO W _ _ _ _).2.2,(dO W _ _ _ _).2.1⟩
 obtain ⟨b5,b6,rfl,rfl,hbc,hb5,hb6⟩:=hcut;clear c4 c5 c6 c7 c8 c9 c10 d4 d5 d6 d7 d8 d9 EG;have hBx:=aH hbc HX.out;have mP:=aH hbc HY.out;have HB1:=Lib.hid (HB.out.trans (hbc.mono HB.out.size));have HX1:=Lib.hid hBx;have HY1:=Lib.hid mP;obtain ⟨f0,f1,f2,f3,f4,f5,f6⟩:=t7 hb5;obtain ⟨g0,g1,g2,g3,g4,g5,g6⟩:=t7 hb6;obtain ⟨c0,c1,c2,c3,c4,c5,c6,c7,c8,c9,c10,c11,c12,c13,c14,c15,c16,c17⟩:=bn hBx;obtain ⟨d0,d1,d2,d3,d4,d5,d6,d7,d8,d9,EG,zQ,zO,tO,wQ,wR,Gv,EY⟩:=bn mP;clear hBx mP hb5 hb6 hbc HX HY HB hW hlx hly c4 d4 c5 d5 c6 d6 c7 d7 c8 d8 c9 d9 c10 EG c11 zQ c12 zO c13 tO c17 EY;have hcall:=H11.out _ HB1.out;go_wp2_with fail;refine hcall.mono ?_;rintro e w11 ⟨b11,rfl,i11,hbb⟩;have I11:=Lib.hid i11;have HB2:=Lib.hid (HB1.out.trans (hbb.mono HB1.out.size));have hBx:=aH hbb HX1.out;have mP:=aH hbb HY1.out;have O9:=Lib.hid hBx;have HY2:=Lib.hid mP;clear f0 f1 f2 f3 f4 f5 f6 g0 g1 g2 g3 g4 g5 g6 c0 c1 c2 c3 c14 c15 c16 d0 d1 d2 d3 wQ wR Gv;clear hcall hbb i11 HX1 HY1;obtain ⟨c0,c1,c2,c3,c4,c5,c6,c7,c8,c9,c10,c11,c12,c13,c14,c15,c16,c17⟩:=bn hBx;obtain ⟨d0,d1,d2,d3,d4,d5,d6,d7,d8,d9,EG,zQ,zO,tO,wQ,wR,Gv,EY⟩:=bn mP;clear hBx mP c0 d0 c1 d1 c2 d2 c3 d3 c4 d4 c5 d5 c6 d6 c7 d7 c8 d8 c9 d9 c10 EG c12 zO c13 tO c14 wQ c15 wR c16 Gv c17 EY;cases b11 with
 |false=>
  have HN:Hid (¬(x=y∧P)):=fun h=>absurd (I11.out.2 (by rw [h.1])) (by decide)
  go_wp2_with fail;go_ret;exact ⟨false,rfl,⟨fun h=>absurd h (by decide),fun h=>absurd h HN.out⟩,HB2.out⟩
 |true=>
 have hcall:=H12.out _ HB2.out;go_wp2_with fail;refine hcall.mono ?_;rintro e w12 ⟨b12,rfl,i12,hbb⟩;have I12:=Lib.hid i12;have HB3:=Lib.hid (HB2.out.trans (hbb.mono HB2.out.size));have hBx:=aH hbb O9.out;have mP:=aH hbb HY2.out;have HX3:=Lib.hid hBx;have HY3:=Lib.hid mP;clear c11 zQ;clear hcall hbb i12 O9 HY2;obtain ⟨c0,c1,c2,c3,c4,c5,c6,c7,c8,c9,c10,c11,c12,c13,c14,c15,c16,c17⟩:=bn hBx;obtain ⟨d0,d1,d2,d3,d4,d5,d6,d7,d8,d9,EG,zQ,zO,tO,wQ,wR,Gv,EY⟩:=bn mP;clear hBx mP c0 d0 c1 d1 c2 d2 c3 d3 c4 d4 c5 d5 c6 d6 c7 d7 c8 d8 c9 d9 c10 EG c11 zQ c13 tO c14 wQ c15 wR c16 Gv c17 EY;cases b12 with
 |false=>
  have HN:Hid (¬(x=y∧P)):=fun h=>absurd (I12.out.2 (by rw [h.1])) (by decide)
  go_wp2_with fail;go_ret;exact ⟨false,rfl,⟨fun h=>absurd h (by decide),fun h=>absurd h HN.out⟩,HB3.out⟩
 |true=>
 have hcall:=H13.out _ HB3.out;go_wp2_with fail;refine hcall.mono ?_;rintro e w13 ⟨b13,rfl,i13,hbb⟩;have I13:=Lib.hid i13;have HB4:=Lib.hid (HB3.out.trans (hbb.mono HB3.out.size));have hBx:=aH hbb HX3.out;have mP:=aH hbb HY3.out;have HX4:=Lib.hid hBx;have HY4:=Lib.hid mP;clear c12 zO;clear hcall hbb i13 HX3 HY3;obtain ⟨c0,c1,c2,c3,c4,c5,c6,c7,c8,c9,c10,c11,c12,c13,c14,c15,c16,c17⟩:=bn hBx;obtain ⟨d0,d1,d2,d3,d4,d5,d6,d7,d8,d9,EG,zQ,zO,tO,wQ,wR,Gv,EY⟩:=bn mP;clear hBx mP c0 d0 c1 d1 c2 d2 c3 d3 c4 d4 c5 d5 c6 d6 c7 d7 c8 d8 c9 d9 c10 EG c11 zQ c12 zO c14 wQ c15 wR c16 Gv c17 EY;cases b13 with
 |false=>
  have HN:Hid (¬(x=y∧P)):=fun h=>absurd (I13.out.2 (by rw [h.1])) (by decide)
  go_wp2_with fail;go_ret;exact ⟨false,rfl,⟨fun h=>absurd h (by decide),fun h=>absurd h HN.out⟩,HB4.out⟩
 |true=>
 have hcall:=H14.out _ HB4.out;go_wp2_with fail;refine hcall.mono ?_;rintro e w14 ⟨b14,rfl,i14,hbb⟩;have I14:=Lib.hid i14;have HB5:=Lib.hid (HB4.out.trans (hbb.mono HB4.out.size));have hBx:=aH hbb HX4.out;have mP:=aH hbb HY4.out;have HX5:=Lib.hid hBx;have HY5:=Lib.hid mP;clear c13 tO;clear hcall hbb i14 HX4 HY4;obtain ⟨c0,c1,c2,c3,c4,c5,c6,c7,c8,c9,c10,c11,c12,c13,c14,c15,c16,c17⟩:=bn hBx;obtain ⟨d0,d1,d2,d3,d4,d5,d6,d7,d8,d9,EG,zQ,zO,tO,wQ,wR,Gv,EY⟩:=bn mP;clear hBx mP c0 d0 c1 d1 c2 d2 c3 d3 c4 d4 c5 d5 c6 d6 c7 d7 c8 d8 c9 d9 c10 EG c11 zQ c12 zO c13 tO c14 wQ c15 wR c16 Gv;cases b14 with
 |false=>
  have HN:Hid (¬(x=y∧P)):=fun h=>absurd (I14.out.2 (by rw [h.1])) (by decide)
  go_wp2_with fail;go_ret;exact ⟨false,rfl,⟨fun h=>absurd h (by decide),fun h=>absurd h HN.out⟩,HB5.out⟩
 |true=>
 have hcall:=H15.out _ HB5.out;go_wp2_with fail;refine hcall.mono ?_;rintro e w15 ⟨b15,rfl,i15,hbb⟩;have I15:=Lib.hid i15;have HB6:=Lib.hid (HB5.out.trans (hbb.mono HB5.out.size));clear hcall hbb i15;cases b15 with
 |false=>
  have HN:Hid (¬(x=y∧P)):=fun h=>absurd (I15.out.2 h.2) (by decide)
  go_wp2_with fail;go_ret;exact ⟨false,rfl,⟨fun h=>absurd h (by decide),fun h=>absurd h HN.out⟩,HB6.out⟩
 |true=>
  have HY:Hid (x=y∧P):=⟨RS T0.out T1.out T2.out T3.out T4.out T5.out T6.out T7.out T8.out T9.out T10.out T11.out T12.out (I11.out.1 (by first|exact rfl|exact trivial)) (I12.out.1 (by first|exact rfl|exact trivial)) (I13.out.1 (by first|exact rfl|exact trivial)) (I14.out.1 (by first|exact rfl|exact trivial)),I15.out.1 (by first|exact rfl|exact trivial)⟩;go_wp2_with fail;go_ret;exact ⟨true,rfl,⟨fun _=>HY.out,fun _=>rfl⟩,HB6.out⟩
end Go.Proofs.YtnngbhpeeakfaaaGreatDoor
