/- Parts of a proof. -/
import Derived.Test.YtcgadodckoalnaaGreatDoorB43
set_option maxHeartbeats 16000000
set_option maxRecDepth 100000
namespace Go.Proofs.YtcgadodckoalnaaGreatDoor
open Go.Proofs.Tryz
open Go.RowKit
open aN
theorem aeJ {x y:Sx}(h0:x.kind=y.kind) (h1:x.name=y.name) (h2:x.bT=y.bT) (h3:x.on=y.on) (ht:x.bG=y.bG∧x.tid=y.tid∧x.part=y.part∧x.aX=y.aX∧x.aB=y.aB) (h5:x.aI=y.aI) (h6:x.sets=y.sets) (h7:x.aH=y.aH) (h8:x.stamp=y.stamp) (h9:x.ttl=y.ttl) (h10:x.limit=y.limit):x=y:=by
 cases x;cases y;simp only at *;obtain ⟨t1,t2,t3,t4,t5⟩:=ht;subst h0 h1 h2 h3 h5 h6 h7 h8 h9 h10 t1 t2 t3 t4 t5;rfl
theorem OZ {w:World}{x y:Sx}{a0 b0 ap bp:Option Addr}{n m k0 m0 l l' kp mp:Nat}{c s wv c' s' wv' :Value}(hn:x.aB.length=n) (hm:y.aB.length=m) (hp:iJ w x (.slice a0 n k0) c s wv) (hq:iJ w y (.slice b0 m m0) c' s' wv') (sx:Pn x) (sy:Pn y) {L1 L2:List Pw}(hl1:L1.length=l) (hl2:L2.length=l') (hL:Rd w (.slice ap l kp) l (jP L1)) (hM:Rd w (.slice bp l' mp) l' (jP L2)) (hl:l≤100000) (hl' :l' ≤100000)
 (hf:∀(j:Nat) (q r:Pw),L1[j]? =some q→L2[j]? =some r→∀w',Below w.heap.size w w' →Calls prog 18 #[.agg q.arr, .agg r.arr] w' fun e w'' =>∃b:Bool,e= .returned (.bool b)∧(b=true ↔ q.x=r.x)∧Below w'.heap.size w' w''):
 Calls prog 18 #[.agg (aG x (.slice a0 n k0) c s wv (.slice ap l kp)), .agg (aG y (.slice b0 m m0) c' s' wv' (.slice bp l' mp))] w fun e w' =>∃r:Bool,e= .returned (.bool r)∧(r=true ↔ (x=y∧L1.map Pw.x=L2.map Pw.x))∧Below w.heap.size w w' :=by
 obtain ⟨hB,hBx,kF⟩:=oN w (aG x (.slice a0 n k0) c s wv (.slice ap l kp)) (aG y (.slice b0 m m0) c' s' wv' (.slice bp l' mp)) 31 31;obtain ⟨W,hW⟩:∃W,(w.alloc (.cells (aG x (.slice a0 n k0) c s wv (.slice ap l kp)) 31)).alloc (.cells (aG y (.slice b0 m m0) c' s' wv' (.slice bp l' mp)) 31)=W:=⟨_,rfl⟩;rw [hW]at hB hBx kF;have HX0:=Lib.hid hBx;have HY0:=Lib.hid kF;have HB0:=Lib.hid hB;have HP:=Lib.hid hp;have HQ:=Lib.hid hq;have HF:=Lib.hid hf;have HL:=Lib.hid hL;have HM:=Lib.hid hM;have HSX:=Lib.hid sx;have HSY:=Lib.hid sy;have HNX:=Lib.hid hn;have HNY:=Lib.hid hm;have HL1:=Lib.hid hl1;have HL2:=Lib.hid hl2;clear hB hBx kF hp hq hf hL hM sx sy hn hm hl1 hl2;obtain ⟨c0,c1,c2,c3,c4,c5,c6,c7,c8,c9,c10,c11,c12,c13,c14,c15,c16,c17⟩:=aK HX0.out;obtain ⟨d0,d1,d2,d3,d4,d5,d6,d7,d8,d9,zm,uV,uU,qE,sS,sU,zR,yK⟩:=aK HY0.out;clear c11 uV c12 uU c13 qE c14 sS c15 sU c16 zR c17 yK;by_cases e0:x.kind=y.kind
 case neg=>
  have s0:=IK e0;have su:Hid (¬(x=y∧L1.map Pw.x=L2.map Pw.x)):=fun h=>e0 (by rw [h.1])
  clear e0;go_enter func18,ntmps18;go_wp2_with fail;go_ret;exact ⟨false,rfl,⟨fun h=>absurd h (by decide),fun h=>absurd h su.out⟩,HB0.out⟩
 have s0:=IL e0;by_cases e1:x.name=y.name
 case neg=>
  have s1:=sW e1;have su:Hid (¬(x=y∧L1.map Pw.x=L2.map Pw.x)):=fun h=>e1 (by rw [h.1])
  clear e0 e1;go_enter func18,ntmps18;go_wp2_with fail;go_ret;exact ⟨false,rfl,⟨fun h=>absurd h (by decide),fun h=>absurd h su.out⟩,HB0.out⟩
 have s1:=jQ e1;by_cases e2:x.bT=y.bT
 case neg=>
  have s2:=sW e2;have su:Hid (¬(x=y∧L1.map Pw.x=L2.map Pw.x)):=fun h=>e2 (by rw [h.1])
  clear e0 e1 e2;go_enter func18,ntmps18;go_wp2_with fail;go_ret;exact ⟨false,rfl,⟨fun h=>absurd h (by decide),fun h=>absurd h su.out⟩,HB0.out⟩
 have s2:=jQ e2;by_cases e3:x.on=y.on
 case neg=>
  have s3:=sW e3;have su:Hid (¬(x=y∧L1.map Pw.x=L2.map Pw.x)):=fun h=>e3 (by rw [h.1])
  clear e0 e1 e2 e3;go_enter func18,ntmps18;go_wp2_with fail;go_ret;exact ⟨false,rfl,⟨fun h=>absurd h (by decide),fun h=>absurd h su.out⟩,HB0.out⟩
 have s3:=jQ e3;have HE0:=Lib.hid e0;have HE1:=Lib.hid e1;have HE2:=Lib.hid e2;have HE3:=Lib.hid e3;clear e0 e1 e2 e3;go_enter func18,ntmps18;go_wp2_with fail
 (try rw [hW])
 refine (Rw (x:=x) (y:=y) HNX.out HNY.out (HP.out.acv HNX.out HB0.out) (HQ.out.acv HNY.out HB0.out) (by have:=HSX.out.1;have:=HNX.out;omega) (by have:=HSY.out.1;have:=HNY.out;omega)).mono ?_;rintro e w1 ⟨b1,rfl,i1,h1⟩;have HI1:=Lib.hid i1;have Wy:=Lib.hid (bL h1 HX0.out);have Wz:=Lib.hid (bL h1 HY0.out);have HB1:=Lib.hid (HB0.out.trans (h1.mono HB0.out.size));clear h1 i1 HX0 HY0 hW;clear c0 d0 c1 d1 c2 d2 c3 d3 c4 d4 c5 d5 c6 d6 c7 d7 c8 d8 c9 d9 c10 zm;obtain ⟨c0,c1,c2,c3,c4,c5,c6,c7,c8,c9,c10,c11,c12,c13,c14,c15,c16,c17⟩:=aK Wy.out;obtain ⟨d0,d1,d2,d3,d4,d5,d6,d7,d8,d9,zm,uV,uU,qE,sS,sU,zR,yK⟩:=aK Wz.out;clear c0 d0 c1 d1 c2 d2 c3 d3 c4 d4 c5 d5 c6 d6 c7 d7 c8 d8 c9 d9 c10 zm c12 uU c13 qE c14 sS c15 sU c16 zR c17 yK;cases b1 with
 |false=>
  have su:Hid (¬(x=y∧L1.map Pw.x=L2.map Pw.x)):=fun h=>absurd (HI1.out.2 (by rw [h.1];exact ⟨rfl,rfl,rfl,rfl,rfl⟩)) (by decide)
  go_wp2_with fail;go_ret;exact ⟨false,rfl,⟨fun h=>absurd h (by decide),fun h=>absurd h su.out⟩,HB1.out⟩
 |true=>
 go_wp2_with fail;refine (Rv (L:=x.aI) (M:=y.aI) (HP.out.c.below HB1.out) (HQ.out.c.below HB1.out) HSX.out.2.1 HSY.out.2.1).mono ?_;rintro e w2 ⟨b2,rfl,i2,h2⟩;have HI2:=Lib.hid i2;have Kj:=Lib.hid (bL h2 Wy.out);have WA:=Lib.hid (bL h2 Wz.out);have HB2:=Lib.hid (HB1.out.trans (h2.mono HB1.out.size));clear h2 i2 Wy Wz;clear c11 uV;obtain ⟨c0,c1,c2,c3,c4,c5,c6,c7,c8,c9,c10,c11,c12,c13,c14,c15,c16,c17⟩:=aK Kj.out;obtain ⟨d0,d1,d2,d3,d4,d5,d6,d7,d8,d9,zm,uV,uU,qE,sS,sU,zR,yK⟩:=aK WA.out;clear c0 d0 c1 d1 c2 d2 c3 d3 c4 d4 c5 d5 c6 d6 c7 d7 c8 d8 c9 d9 c10 zm c11 uV c13 qE c14 sS c15 sU c16 zR c17 yK;cases b2 with
 |false=>
  have su:Hid (¬(x=y∧L1.map Pw.x=L2.map Pw.x)):=fun h=>absurd (HI2.out.2 (by rw [h.1])) (by decide)
  go_wp2_with fail;go_ret;exact ⟨false,rfl,⟨fun h=>absurd h (by decide),fun h=>absurd h su.out⟩,HB2.out⟩
 |true=>
 go_wp2_with fail;refine (zV (L:=x.sets) (M:=y.sets) (HP.out.s.below HB2.out) (HQ.out.s.below HB2.out) HSX.out.2.2.1 HSY.out.2.2.1).mono ?_;rintro e w3 ⟨b3,rfl,i3,h3⟩;have HI3:=Lib.hid i3;have HX3:=Lib.hid (bL h3 Kj.out);have HY3:=Lib.hid (bL h3 WA.out);have HB3:=Lib.hid (HB2.out.trans (h3.mono HB2.out.size));clear h3 i3 Kj WA;clear c12 uU;obtain ⟨c0,c1,c2,c3,c4,c5,c6,c7,c8,c9,c10,c11,c12,c13,c14,c15,c16,c17⟩:=aK HX3.out;obtain ⟨d0,d1,d2,d3,d4,d5,d6,d7,d8,d9,zm,uV,uU,qE,sS,sU,zR,yK⟩:=aK HY3.out;clear c0 d0 c1 d1 c2 d2 c3 d3 c4 d4 c5 d5 c6 d6 c7 d7 c8 d8 c9 d9 c10 zm c11 uV c12 uU c14 sS c15 sU c16 zR c17 yK;cases b3 with
 |false=>
  have su:Hid (¬(x=y∧L1.map Pw.x=L2.map Pw.x)):=fun h=>absurd (HI3.out.2 (by rw [h.1])) (by decide)
  go_wp2_with fail;go_ret;exact ⟨false,rfl,⟨fun h=>absurd h (by decide),fun h=>absurd h su.out⟩,HB3.out⟩
 |true=>
 go_wp2_with fail;refine (zV (L:=x.aH) (M:=y.aH) (HP.out.wv.below HB3.out) (HQ.out.wv.below HB3.out) HSX.out.2.2.2 HSY.out.2.2.2).mono ?_;rintro e w4 ⟨b4,rfl,i4,h4⟩;have HI4:=Lib.hid i4;have HX4:=Lib.hid (bL h4 HX3.out);have HY4:=Lib.hid (bL h4 HY3.out);have JC:=Lib.hid (HB3.out.trans (h4.mono HB3.out.size));clear h4 i4 HX3 HY3;clear c13 qE;obtain ⟨c0,c1,c2,c3,c4,c5,c6,c7,c8,c9,c10,c11,c12,c13,c14,c15,c16,c17⟩:=aK HX4.out;obtain ⟨d0,d1,d2,d3,d4,d5,d6,d7,d8,d9,zm,uV,uU,qE,sS,sU,zR,yK⟩:=aK HY4.out;clear c0 d0 c1 d1 c2 d2 c3 d3 c4 d4 c5 d5 c6 d6 c7 d7 c8 d8 c9 d9 c10 zm c11 uV c12 uU c13 qE;cases b4 with
 |false=>
  have su:Hid (¬(x=y∧L1.map Pw.x=L2.map Pw.x)):=fun h=>absurd (HI4.out.2 (by rw [h.1])) (by decide)
  go_wp2_with fail;go_ret;exact ⟨false,rfl,⟨fun h=>absurd h (by decide),fun h=>absurd h su.out⟩,JC.out⟩
 |true=>
 by_cases e8:x.stamp=y.stamp
 case neg=>
  have s8:=IK e8;have su:Hid (¬(x=y∧L1.map Pw.x=L2.map Pw.x)):=fun h=>e8 (by rw [h.1])
  clear e8;go_wp2_with fail;go_ret;exact ⟨false,rfl,⟨fun h=>absurd h (by decide),fun h=>absurd h su.out⟩,JC.out⟩
 have s8:=IL e8;have HE8:=Lib.hid e8;clear e8;by_cases e9:x.ttl=y.ttl
 case neg=>
  have s9:=IK e9;have su:Hid (¬(x=y∧L1.map Pw.x=L2.map Pw.x)):=fun h=>e9 (by rw [h.1])
  clear e9;go_wp2_with fail;go_ret;exact ⟨false,rfl,⟨fun h=>absurd h (by decide),fun h=>absurd h su.out⟩,JC.out⟩
 have s9:=IL e9;have HE9:=Lib.hid e9;clear e9;by_cases e10:x.limit=y.limit
 case neg=>
  have s10:=IK e10;have su:Hid (¬(x=y∧L1.map Pw.x=L2.map Pw.x)):=fun h=>e10 (by rw [h.1])
  clear e10;go_wp2_with fail;go_ret;exact ⟨false,rfl,⟨fun h=>absurd h (by decide),fun h=>absurd h su.out⟩,JC.out⟩
 have s10:=IL e10;have ai6:=Lib.hid e10;clear e10;by_cases e11:l=l'
 case neg=>
  have s11:((l:Int) !=(l' :Int))=true:=bne_iff_ne.2 (by omega);have su:Hid (¬(x=y∧L1.map Pw.x=L2.map Pw.x)):=fun h=>e11 (by have h2:=congrArg List.length h.2;rw [List.length_map,List.length_map]at h2;have:=HL1.out;have:=HL2.out;omega)
  clear e11;go_wp2_with fail;go_ret;exact ⟨false,rfl,⟨fun h=>absurd h (by decide),fun h=>absurd h su.out⟩,JC.out⟩
 subst e11;have s11:((l:Int) !=(l:Int))=false:=by simp
 go_wp2_with fail
 go_loopw [5] (fun i wr=>∃j:Nat,i= .int .i64 j∧j≤l∧Hid (Below w4.heap.size w4 wr∧(L1.map Pw.x).take j=(L2.map Pw.x).take j)) (fun i _=>l - (intOf i).toNat)
 case atStart=>exact ⟨0,rfl,Nat.zero_le _,Below.refl _ _,rfl⟩
 case round=>
  obtain ⟨j,rfl,hj,Eb⟩:=hrel;have e17:=aJ Eb.out.1 c17;have f17:=aJ Eb.out.1 yK;have zw:=Lib.hid (JC.out.trans (Eb.out.1.mono JC.out.size));clear c14 c15 c16 c17 sS sU zR yK;by_cases hjl:j<l
  · have p0:(j:Int)<(l:Int):=by omega
    have p1:(0:Int)≤(j:Int):=by omega
    have HJ:=Lib.hid (show j+1≤l from hjl);obtain ⟨q,hq⟩:∃q,L1[j]? =some q:=⟨_,List.getElem?_eq_getElem (by have:=HL1.out;omega)⟩;obtain ⟨r,hr⟩:∃r,L2[j]? =some r:=⟨_,List.getElem?_eq_getElem (by have:=HL2.out;omega)⟩;obtain ⟨a1,k1,ha1,hx0⟩:=HL.out;obtain ⟨a2,k2,ha2,hy0⟩:=HM.out;cases ha1;cases ha2;obtain ⟨ga,o1,PW,hx⟩:=hx0 (by omega);obtain ⟨gb,o2,heb,hy⟩:=hy0 (by omega);subst PW;subst heb;have hc:=Lib.hid (HF.out j q r hq hr);have hR1:=ou hx hq zw.out;have hR2:=ou hy hr zw.out;have HE:Hid (q.x=r.x→(L1.map Pw.x).take (j+1)=(L2.map Pw.x).take (j+1)):=take_one Eb.out.2 (by rw [List.getElem?_map,hq];rfl) (by rw [List.getElem?_map,hr];rfl);have HD:Hid (¬q.x=r.x→¬L1.map Pw.x=L2.map Pw.x):=Td (j:=j) (by rw [List.getElem?_map,hq];rfl) (by rw [List.getElem?_map,hr];rfl);obtain ⟨x1,tc1,cc1,ss1,wv1,pv1⟩:=q;obtain ⟨x2,VX,cc2,ss2,wv2,Z5⟩:=r;clear hq hr hx hy hx0 hy0;have agF:=Lib.hid (fun d os (i:Nat) v hv=>cell_regrown (hR1 i v hv) d os);have agG:=Lib.hid (fun d os (i:Nat) v hv=>cell_regrown (hR2 i v hv) d os);have ami:=cell_regrown e17;have amj:=cell_regrown f17;clear hR1 hR2;by_cases hxy:x1=x2
    · have hc2:∀w',Below w.heap.size w w' →Calls prog 18 #[.agg (aG x1 tc1 cc1 ss1 wv1 pv1), .agg (aG x2 VX cc2 ss2 wv2 Z5)] w' fun e w'' =>e= .returned (.bool true)∧Below w'.heap.size w' w'' :=fun w' hb=>(hc.out w' hb).mono fun e w'' ⟨b,he,hi,hb2⟩=>⟨by rw [he,hi.2 hxy],hb2⟩
      have HC3:=Lib.hid hc2;have HE2:Hid ((L1.map Pw.x).take (j+1)=(L2.map Pw.x).take (j+1)):=HE.out hxy;clear hc2 hc hxy HE HD;go_wp2_with fail;refine wp_region_quiet_below (by kernel_rfl) (by kernel_rfl) ?_
      iterate 4 (go_big_quiet_step (fail))
      refine gX rfl _ rfl rfl (p:=⟨x1,tc1,cc1,ss1,wv1,pv1⟩) (fun w' hw' =>by obtain ⟨p,rfl⟩:=hw';exact agF.out p.d p.os) ?_;go_simp
      iterate 4 (go_big_quiet_step (fail))
      refine gX rfl _ rfl rfl (p:=⟨x2,VX,cc2,ss2,wv2,Z5⟩) (fun w' hw' =>by obtain ⟨p,rfl⟩:=hw';exact agG.out p.d p.os) ?_;go_simp;go_big_quiet_step (exact Calls.regrown_of (HC3.out _ (zw.out.trans ((below_regrown wr _ _).mono zw.out.size))));go_big_quiet_step (fail);refine wpQuiet_nil ?_;intro pq;obtain ⟨dq,osq⟩:=pq;go_wp2_with fail;go_roundw
      case rel=>exact ⟨j+1,by go_num,HJ.out,Eb.out.1.trans ((below_regrown wr dq osq).mono Eb.out.1.size),HE2.out⟩
      case measure=>have hjj:=HJ.out;simp [intOf];omega
    · have hc2:∀w',Below w.heap.size w w' →Calls prog 18 #[.agg (aG x1 tc1 cc1 ss1 wv1 pv1), .agg (aG x2 VX cc2 ss2 wv2 Z5)] w' fun e w'' =>e= .returned (.bool false)∧Below w'.heap.size w' w'' :=fun w' hb=>(hc.out w' hb).mono fun e w'' ⟨b,he,hi,hb2⟩=>⟨by
       rw [he];cases b with
       |true=>exact absurd (hi.1 rfl) hxy
       |false=>rfl,hb2⟩
      have HC3:=Lib.hid hc2;have su:Hid (¬(x=y∧L1.map Pw.x=L2.map Pw.x)):=fun h=>HD.out hxy h.2
      clear hc2 hc hxy HE HD;go_wp2_with fail;refine wp_region_quiet_below (by kernel_rfl) (by kernel_rfl) ?_
      iterate 4 (go_big_quiet_step (fail))
      refine gX rfl _ rfl rfl (p:=⟨x1,tc1,cc1,ss1,wv1,pv1⟩) (fun w' hw' =>by obtain ⟨p,rfl⟩:=hw';exact agF.out p.d p.os) ?_;go_simp
      iterate 4 (go_big_quiet_step (fail))
      refine gX rfl _ rfl rfl (p:=⟨x2,VX,cc2,ss2,wv2,Z5⟩) (fun w' hw' =>by obtain ⟨p,rfl⟩:=hw';exact agG.out p.d p.os) ?_;go_simp;go_big_quiet_step (exact Calls.regrown_of (HC3.out _ (zw.out.trans ((below_regrown wr _ _).mono zw.out.size))));go_big_quiet_step (fail);refine wpQuiet_nil ?_;intro pq;obtain ⟨dq,osq⟩:=pq;go_wp2_with fail;go_ret;exact ⟨false,rfl,⟨fun h=>absurd h (by decide),fun h=>absurd h su.out⟩,zw.out.trans ((below_regrown wr dq osq).mono zw.out.size)⟩
  · have mF:j=l:=by omega
    subst mF;have WA:Hid (x=y∧L1.map Pw.x=L2.map Pw.x):=⟨aeJ HE0.out HE1.out HE2.out HE3.out (HI1.out.1 (by first|exact rfl|exact trivial)) (HI2.out.1 (by first|exact rfl|exact trivial)) (HI3.out.1 (by first|exact rfl|exact trivial)) (HI4.out.1 (by first|exact rfl|exact trivial)) HE8.out HE9.out ai6.out,CX Eb.out.2 (by rw [List.length_map];exact HL1.out) (by rw [List.length_map];exact HL2.out)⟩;go_wp2_with fail;go_ret;exact ⟨true,rfl,⟨fun _=>WA.out,fun _=>rfl⟩,zw.out⟩
theorem aeK {w:World}{q r:Pw}(h1:iJ w q.x q.tc q.c q.s q.wv) (p1:Rd w q.pv 0 []) (h2:iJ w r.x r.tc r.c r.s r.wv) (p2:Rd w r.pv 0 []) (s1:Pn q.x) (s2:Pn r.x):
 Calls prog 18 #[.agg q.arr, .agg r.arr] w fun e w' =>∃b:Bool,e= .returned (.bool b)∧(b=true ↔ q.x=r.x)∧Below w.heap.size w w' :=by
 obtain ⟨x,tc,c,s,wv,pv⟩:=q;obtain ⟨y,Vz,c',s',wv',pv'⟩:=r;obtain ⟨a0,k0,e1,_⟩:=h1.tc;obtain ⟨b0,m0,e2,_⟩:=h2.tc;have p1' :=p1;have p2' :=p2;obtain ⟨ap,kp,e3,_⟩:=p1';obtain ⟨bp,mp,e4,_⟩:=p2';have e1:tc= .slice a0 x.aB.length k0:=e1;have e2:Vz= .slice b0 y.aB.length m0:=e2;have e3:pv= .slice ap 0 kp:=e3;have e4:pv' = .slice bp 0 mp:=e4;subst e1 e2 e3 e4;refine (OZ (w:=w) (x:=x) (y:=y) (a0:=a0) (b0:=b0) (ap:=ap) (bp:=bp) (k0:=k0) (m0:=m0) (kp:=kp) (mp:=mp) (c:=c) (s:=s) (wv:=wv) (c' :=c') (s' :=s') (wv' :=wv') rfl rfl h1 h2 s1 s2 (L1:= []) (L2:= []) rfl rfl p1 p2 (Nat.zero_le _) (Nat.zero_le _) (fun j q r h=>by simp at h)).mono fun e w' ⟨b,he,hi,hb⟩=>⟨b,he, ?_,hb⟩
 rw [hi];exact ⟨fun h=>h.1,fun h=>⟨h,rfl⟩⟩
theorem V6 {w:World}{p q:Pw}{L M:List Pw}(hp:zQ w p L) (hq:zQ w q M) (s1:SmS ⟨p.x,L.map Pw.x⟩) (s2:SmS ⟨q.x,M.map Pw.x⟩):
 Calls prog 18 #[.agg p.arr, .agg q.arr] w fun e w' =>∃b:Bool,e= .returned (.bool b)∧(b=true ↔ p.x=q.x∧L.map Pw.x=M.map Pw.x)∧Below w.heap.size w w' :=by
 have hf:∀(j:Nat) (u v:Pw),L[j]? =some u→M[j]? =some v→∀w',Below w.heap.size w w' →Calls prog 18 #[.agg u.arr, .agg v.arr] w' fun e w'' =>∃b:Bool,e= .returned (.bool b)∧(b=true ↔ u.x=v.x)∧Below w'.heap.size w' w'' :=by
  intro j u v hu hv w' hb;have hum:=List.mem_of_getElem? hu;have hvm:=List.mem_of_getElem? hv;exact aeK ((hp.each u hum).1.below hb) ((hp.each u hum).2.below hb) ((hq.each v hvm).1.below hb) ((hq.each v hvm).2.below hb) (s1.2.2 u.x (List.mem_map.2 ⟨u,hum,rfl⟩)) (s2.2.2 v.x (List.mem_map.2 ⟨v,hvm,rfl⟩))
 have hl1:L.length≤100000:=by have:=s1.2.1;simpa using this
 have hl2:M.length≤100000:=by have:=s2.2.1;simpa using this
 obtain ⟨x,tc,c,s,wv,pv⟩:=p;obtain ⟨y,Vz,c',s',wv',pv'⟩:=q;obtain ⟨a0,k0,e1,_⟩:=hp.st.tc;obtain ⟨b0,m0,e2,_⟩:=hq.st.tc;obtain ⟨ap,kp,e3,_⟩:=hp.pv;obtain ⟨bp,mp,e4,_⟩:=hq.pv;have e1:tc= .slice a0 x.aB.length k0:=e1;have e2:Vz= .slice b0 y.aB.length m0:=e2;have e3:pv= .slice ap L.length kp:=e3;have e4:pv' = .slice bp M.length mp:=e4;subst e1 e2 e3 e4;exact OZ (w:=w) (x:=x) (y:=y) (a0:=a0) (b0:=b0) (ap:=ap) (bp:=bp) (k0:=k0) (m0:=m0) (kp:=kp) (mp:=mp) (c:=c) (s:=s) (wv:=wv) (c' :=c') (s' :=s') (wv' :=wv') rfl rfl hp.st hq.st s1.1 s2.1 (L1:=L) (L2:=M) rfl rfl hp.pv hq.pv hl1 hl2 hf
end Go.Proofs.YtcgadodckoalnaaGreatDoor
