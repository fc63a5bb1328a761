/- Parts of the proof, joined: RSmB. -/
import Derived.Lib.QuietBelow
import Derived.Test.YtfbgdjcnlnfoaaaGreatDoorB12i
import Derived.Test.YtfbgdjcnlnfoaaaGreatDoorCPId
import Derived.Test.YtfbgdjcnlnfoaaaGreatDoorRows
set_option maxHeartbeats 8000000
set_option maxRecDepth 100000
namespace Go.Proofs.YtfbgdjcnlnfoaaaGreatDoor
open Go.RowKit
open aH
theorem DU {ops:Array Oper}{rest:List Oper}{op:Oper}{a:Act}{C:World→Prop}{Q:Act→Prop}{b o:Nat}{p:Pw}(hw:Region.wanted op (yielded ops a.tmps)=true) (x:Operand) (ho:op.op= .load 31 x) (hx:a.eval x= .pointer (some ⟨b,o,none⟩))
 (hr:∀w',C w' →w'.rangeAt b o p.arr.toList) (h:wpQuiet Tryz.prog ops C Q rest (a.put op.dst (.agg p.arr))):wpQuiet Tryz.prog ops C Q (op::rest) a:=by
 obtain ⟨d,hu,hd⟩:=Tryz.F9
 refine wpQuiet_step fun K hK=> ?_
 rw [if_pos hw]
 refine ⟨.agg p.arr,fun w' hC=> ?_,hK _ h⟩
 have:=run_loadAt_mid w' b o 31 p.arr.toList d (hr w' hC) hu hd (by rw [show p.arr.toList.length=18 from rfl];exact Tryz.qU)
 unfold Oper.quietAt execOp
 simp only [ho,hx,Sem.run_bind,this,Result.andThen_ok,Sem.run_pure]
 exact ⟨rfl,rfl⟩
theorem jm.Wh {w W:World}{x:Sx}{tc c s wv:Value}{n:Nat}(h:jm w x tc c s wv) (hn:x.aN.length=n) (hb:Below w.heap.size w W):Rd W tc n (iM x.aN):=by
 rw [←hn];exact h.tc.below hb
theorem IV {w:World}{x:Sx}{a0 b0 ap bp:Option Addr}{n k0 m0 l kp mp:Nat}{c s wv c' s' wv' :Value}(hn:x.aN.length=n) (hp:jm w x (.slice a0 n k0) c s wv) (hq:jm w x (.slice b0 n m0) c' s' wv') (sm:SS x) {L1 L2:List Pw}(hl1:L1.length=l) (hl2:L2.length=l) (hL:Rd w (.slice ap l kp) l (jw L1)) (hM:Rd w (.slice bp l mp) l (jw L2)) (hl:l≤100000)
 (hf:∀(j:Nat) (q r:Pw),L1[j]? =some q→L2[j]? =some r→∀w',Below w.heap.size w w' →Calls Tryz.prog 34 #[.agg q.arr,.agg r.arr] w' fun e w'' =>e= .returned (.bool true)∧Below w'.heap.size w' w''):
 Calls Tryz.prog 34 #[.agg (aF x (.slice a0 n k0) c s wv (.slice ap l kp)),.agg (aF x (.slice b0 n m0) c' s' wv' (.slice bp l mp))] w fun e w' =>e= .returned (.bool true)∧Below w.heap.size w w' :=by
 obtain ⟨hB,hBx,bg⟩:=eu w (aF x (.slice a0 n k0) c s wv (.slice ap l kp)) (aF x (.slice b0 n m0) c' s' wv' (.slice bp l mp)) 31 31
 obtain ⟨W,hW⟩:∃W,(w.alloc (.cells (aF x (.slice a0 n k0) c s wv (.slice ap l kp)) 31)).alloc (.cells (aF x (.slice b0 n m0) c' s' wv' (.slice bp l mp)) 31)=W:=⟨_,rfl⟩
 rw [hW]at hB hBx bg
 have HX0:=Lib.hid hBx
 have HY0:=Lib.hid bg
 have HB0:=Lib.hid hB
 have HP:=Lib.hid hp
 have HQ:=Lib.hid hq
 have HF:=Lib.hid hf
 have HL:=Lib.hid hL
 have HM:=Lib.hid hM
 have IW:=Lib.hid sm
 have HN:=Lib.hid hn
 have HL1:=Lib.hid hl1
 have HL2:=Lib.hid hl2
 clear hB hBx bg hp hq hf hL hM sm hn hl1 hl2
 have s0:(x.name.toList==x.name.toList)=true:=bC rfl
 have s1:(x.bM.toList==x.bM.toList)=true:=bC rfl
 have s2:(x.on.toList==x.on.toList)=true:=bC rfl
 have t0:((l:Int) !=(l:Int))=false:=by simp
 obtain ⟨c0,c1,c2,c3,c4,c5,c6,c7,c8,c9,c10,c11,c12,c13,c14,c15,c16,c17⟩:=aM HX0.out
 obtain ⟨d0,d1,d2,d3,d4,d5,d6,d7,d8,d9,fF,gJ,gI,fO,fU,fV,gQ,gP⟩:=aM HY0.out
 clear c11 gJ c12 gI c13 fO c14 fU c15 fV c16 gQ c17 gP
 go_enter Tryz.func34,Tryz.ntmps34
 go_wp2_with fail
 (try rw [hW])
 refine (KC (x:=x) HN.out (HP.out.Wh HN.out HB0.out) (HQ.out.Wh HN.out HB0.out) (by have:=IW.out.1;have:=HN.out;omega)).mono ?_;rintro e w1 ⟨rfl,h1⟩
 have uT:=Lib.hid (aD h1 HX0.out)
 have uU:=Lib.hid (aD h1 HY0.out)
 have HB1:=Lib.hid (HB0.out.trans (h1.mono HB0.out.size))
 clear h1 HX0 HY0 hW c0 d0 c1 d1 c2 d2 c3 d3 c4 d4 c5 d5 c6 d6 c7 d7 c8 d8 c9 d9 c10 fF
 obtain ⟨c0,c1,c2,c3,c4,c5,c6,c7,c8,c9,c10,c11,c12,c13,c14,c15,c16,c17⟩:=aM uT.out
 obtain ⟨d0,d1,d2,d3,d4,d5,d6,d7,d8,d9,fF,gJ,gI,fO,fU,fV,gQ,gP⟩:=aM uU.out
 clear c0 d0 c1 d1 c2 d2 c3 d3 c4 d4 c5 d5 c6 d6 c7 d7 c8 d8 c9 d9 c10 fF c12 gI c13 fO c14 fU c15 fV c16 gQ c17 gP
 go_wp2_with fail
 refine (KA (L:=x.aO) (HP.out.c.below HB1.out) (HQ.out.c.below HB1.out) IW.out.2.1).mono ?_;rintro e w2 ⟨rfl,h2⟩
 have Co:=Lib.hid (aD h2 uT.out)
 have LV:=Lib.hid (aD h2 uU.out)
 have HB2:=Lib.hid (HB1.out.trans (h2.mono HB1.out.size))
 clear h2 uT uU c11 gJ
 obtain ⟨c0,c1,c2,c3,c4,c5,c6,c7,c8,c9,c10,c11,c12,c13,c14,c15,c16,c17⟩:=aM Co.out
 obtain ⟨d0,d1,d2,d3,d4,d5,d6,d7,d8,d9,fF,gJ,gI,fO,fU,fV,gQ,gP⟩:=aM LV.out
 clear c0 d0 c1 d1 c2 d2 c3 d3 c4 d4 c5 d5 c6 d6 c7 d7 c8 d8 c9 d9 c10 fF c11 gJ c13 fO c14 fU c15 fV c16 gQ c17 gP
 go_wp2_with fail
 refine (Cc (L:=x.sets) (HP.out.s.below HB2.out) (HQ.out.s.below HB2.out) IW.out.2.2.1).mono ?_;rintro e w3 ⟨rfl,h3⟩
 have SV:=Lib.hid (aD h3 Co.out)
 have SX:=Lib.hid (aD h3 LV.out)
 have HB3:=Lib.hid (HB2.out.trans (h3.mono HB2.out.size))
 clear h3 Co LV c12 gI
 obtain ⟨c0,c1,c2,c3,c4,c5,c6,c7,c8,c9,c10,c11,c12,c13,c14,c15,c16,c17⟩:=aM SV.out
 obtain ⟨d0,d1,d2,d3,d4,d5,d6,d7,d8,d9,fF,gJ,gI,fO,fU,fV,gQ,gP⟩:=aM SX.out
 clear c0 d0 c1 d1 c2 d2 c3 d3 c4 d4 c5 d5 c6 d6 c7 d7 c8 d8 c9 d9 c10 fF c11 gJ c12 gI c14 fU c15 fV c16 gQ c17 gP
 go_wp2_with fail
 refine (Cc (L:=x.aP) (HP.out.wv.below HB3.out) (HQ.out.wv.below HB3.out) IW.out.2.2.2).mono ?_;rintro e w4 ⟨rfl,h4⟩
 have Yz:=Lib.hid (aD h4 SV.out)
 have YA:=Lib.hid (aD h4 SX.out)
 have I6:=Lib.hid (HB3.out.trans (h4.mono HB3.out.size))
 clear h4 SV SX c13 fO
 obtain ⟨c0,c1,c2,c3,c4,c5,c6,c7,c8,c9,c10,c11,c12,c13,c14,c15,c16,c17⟩:=aM Yz.out
 obtain ⟨d0,d1,d2,d3,d4,d5,d6,d7,d8,d9,fF,gJ,gI,fO,fU,fV,gQ,gP⟩:=aM YA.out
 clear c0 d0 c1 d1 c2 d2 c3 d3 c4 d4 c5 d5 c6 d6 c7 d7 c8 d8 c9 d9 c10 fF c11 gJ c12 gI c13 fO
 go_wp2_with fail
 go_loopw [5] (fun i wr=>∃j:Nat,i= .int .i64 j∧j≤l∧Hid (Below w4.heap.size w4 wr)) (fun i _=>l - (intOf i).toNat)
 case atStart=>exact ⟨0,rfl,Nat.zero_le _,Below.refl _ _⟩
 case round=>
  obtain ⟨j,rfl,hj,Sk⟩:=hrel
  have e17:=aJ Sk.out c17
  have f17:=aJ Sk.out gP
  have Sl:=Lib.hid (I6.out.trans (Sk.out.mono I6.out.size))
  clear c14 c15 c16 c17 fU fV gQ gP
  by_cases hjl:j<l
  · have p0:(j:Int)<(l:Int):=by omega
    have p1:(0:Int)≤(j:Int):=by omega
    have HJ:=Lib.hid (show j+1≤l from hjl)
    obtain ⟨q,hq⟩:∃q,L1[j]? =some q:=⟨_,List.getElem?_eq_getElem (by have:=HL1.out;omega)⟩
    obtain ⟨r,hr⟩:∃r,L2[j]? =some r:=⟨_,List.getElem?_eq_getElem (by have:=HL2.out;omega)⟩
    obtain ⟨a1,k1,ha1,hx0⟩:=HL.out
    obtain ⟨a2,k2,ha2,hy0⟩:=HM.out
    cases ha1
    cases ha2
    obtain ⟨ga,o1,Rp,hx⟩:=hx0 (by omega)
    obtain ⟨gb,o2,heb,hy⟩:=hy0 (by omega)
    subst Rp
    subst heb
    have hc:=Lib.hid (HF.out j q r hq hr)
    have hR1:=qm hx hq Sl.out
    have hR2:=qm hy hr Sl.out
    obtain ⟨x1,tc1,cc1,ss1,wv1,pv1⟩:=q
    obtain ⟨x2,OP,cc2,ss2,wv2,O8⟩:=r
    clear hq hr hx hy hx0 hy0
    have rq:=fun w' hb=>hc.out w' hb
    have HC1:=fun d os (i:Nat) v hv=>cell_regrown (hR1 i v hv) d os
    have HC2:=fun d os (i:Nat) v hv=>cell_regrown (hR2 i v hv) d os
    have afb:=cell_regrown e17
    have afc:=cell_regrown f17
    have aco:=Lib.hid HC1
    have acp:=Lib.hid HC2
    clear hR1 hR2 rq HC1 HC2
    go_wp2_with fail
    refine wp_region_quiet_below (by kernel_rfl) (by kernel_rfl) ?_
    iterate 4 (go_big_quiet_step (fail))
    refine DU rfl _ rfl rfl (p:=⟨x1,tc1,cc1,ss1,wv1,pv1⟩) (fun w' hw' =>by obtain ⟨p,rfl⟩:=hw';exact aco.out p.d p.os) ?_
    go_simp
    iterate 4 (go_big_quiet_step (fail))
    refine DU rfl _ rfl rfl (p:=⟨x2,OP,cc2,ss2,wv2,O8⟩) (fun w' hw' =>by obtain ⟨p,rfl⟩:=hw';exact acp.out p.d p.os) ?_
    go_simp
    go_big_quiet_step (exact Calls.regrown_of (hc.out _ (Sl.out.trans ((below_regrown wr _ _).mono Sl.out.size))))
    go_big_quiet_step (fail)
    refine wpQuiet_nil ?_
    intro pq
    obtain ⟨dq,osq⟩:=pq
    go_wp2_with fail
    go_roundw
    case rel=>exact ⟨j+1,by go_num,HJ.out,Sk.out.trans ((below_regrown wr dq osq).mono Sk.out.size)⟩
    case measure=>have hjj:=HJ.out;simp [intOf];omega
  · have mo:j=l:=by omega
    subst mo
    go_wp2_with fail
    go_ret
    exact ⟨rfl,Sl.out⟩
end Go.Proofs.YtfbgdjcnlnfoaaaGreatDoor
