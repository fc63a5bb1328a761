/- Parts of a proof. -/
import Derived.Deep.DeepCutAuto
import Derived.Deep.CutRange
import Derived.Test.YtnngbhpeeakfaaaGreatDoorB06
import Derived.Test.YtnngbhpeeakfaaaGreatDoorB28
set_option maxHeartbeats 8000000
set_option maxRecDepth 100000
namespace Go.Proofs.YtnngbhpeeakfaaaGreatDoor
open Go.Proofs.Tryz
open Go.RowKit
open aK
theorem vJ {ops:Array Oper}{rest:List Oper}{op:Oper}{a:Act}{w:World}{Q:Exit→Act→World→Prop}{b:Nat}{V:Array Value}{T:TypeId}(hw:Region.wanted op (yielded ops a.tmps)=true) (x:Operand) (ho:op.op= .load 39 x)
 (hx:a.eval x= .pointer (some ⟨b,0,none⟩)) (hV:V.size=18) (hb:w.heap[b]? =some (.cells V T (0,0))) (h:wpList prog ops Q rest (a.put op.dst (.agg V)) w):wpList prog ops Q (op::rest) a w:=by
 obtain ⟨d,hu,hd⟩:=Tryz.OY;refine wpList_step fun K hK=> ?_
 rw [if_pos hw];refine wp_load_mid 39 x ho b 0 hx V.toList d (fun j v hv=> ?_) hu hd (by rw [show V.toList.length=18 by simpa using hV];exact Tryz.xH) (hK _ _ (by simpa using h));rw [Nat.zero_add,aj hb];simpa using hv
theorem RD {w:World}{x:Sx}{a0 a1 a2 a3 a4:Option Addr}{n0 n1 n2 n3 n4 k0 k1 k2 k3 k4:Nat}(t0:decide ((10:Int)<(n1:Int))=true):
 Calls prog 66 #[.agg (aP x (.slice a0 n0 k0) (.slice a1 n1 k1) (.slice a2 n2 k2) (.slice a3 n3 k3) (.slice a4 n4 k4))] w fun e w' =>e= .returned (.bool false)∧Below w.heap.size w w' :=by
 have hB:=(Below.refl w.heap.size w).alloc (Nat.le_refl _) (.cells (aP x (.slice a0 n0 k0) (.slice a1 n1 k1) (.slice a2 n2 k2) (.slice a3 n3 k3) (.slice a4 n4 k4)) 39);have hbl:(w.alloc (.cells (aP x (.slice a0 n0 k0) (.slice a1 n1 k1) (.slice a2 n2 k2) (.slice a3 n3 k3) (.slice a4 n4 k4)) 39)).heap[w.heap.size]? =some (.cells (aP x (.slice a0 n0 k0) (.slice a1 n1 k1) (.slice a2 n2 k2) (.slice a3 n3 k3) (.slice a4 n4 k4)) 39 (0,0)):=aB w _;obtain ⟨c0,c1,c2,c3,c4,c5,c6,c7,c8,c9,c10,c11,c12,c13,c14,c15,c16,c17⟩:=bn hbl;clear c0 c1 c2 c3 c4 c5 c6 c7 c8 c9 c14 c15 c16;have u10:=ak hbl 10;have u11:=ak hbl 11;have WE:=ak hbl 12;have u13:=ak hbl 13;have Zz:=ak hbl 17;clear hbl;go_enter func66,ntmps66;go_wp2_with fail;go_ret;exact ⟨rfl,hB⟩
theorem RF {w:World}{x:Sx}{a0 a1 a2 a3 a4:Option Addr}{n0 n1 n2 n3 n4 k0 k1 k2 k3 k4:Nat}(t0:decide ((10:Int)<(n1:Int))=false) (t1:decide ((10:Int)<(n2:Int))=true):
 Calls prog 66 #[.agg (aP x (.slice a0 n0 k0) (.slice a1 n1 k1) (.slice a2 n2 k2) (.slice a3 n3 k3) (.slice a4 n4 k4))] w fun e w' =>e= .returned (.bool false)∧Below w.heap.size w w' :=by
 have hB:=(Below.refl w.heap.size w).alloc (Nat.le_refl _) (.cells (aP x (.slice a0 n0 k0) (.slice a1 n1 k1) (.slice a2 n2 k2) (.slice a3 n3 k3) (.slice a4 n4 k4)) 39);have hbl:(w.alloc (.cells (aP x (.slice a0 n0 k0) (.slice a1 n1 k1) (.slice a2 n2 k2) (.slice a3 n3 k3) (.slice a4 n4 k4)) 39)).heap[w.heap.size]? =some (.cells (aP x (.slice a0 n0 k0) (.slice a1 n1 k1) (.slice a2 n2 k2) (.slice a3 n3 k3) (.slice a4 n4 k4)) 39 (0,0)):=aB w _;obtain ⟨c0,c1,c2,c3,c4,c5,c6,c7,c8,c9,c10,c11,c12,c13,c14,c15,c16,c17⟩:=bn hbl;clear c0 c1 c2 c3 c4 c5 c6 c7 c8 c9 c14 c15 c16;have u10:=ak hbl 10;have u11:=ak hbl 11;have WE:=ak hbl 12;have u13:=ak hbl 13;have Zz:=ak hbl 17;clear hbl;go_enter func66,ntmps66;go_wp2_with fail;go_ret;exact ⟨rfl,hB⟩
theorem RH {w:World}{x:Sx}{a0 a1 a2 a3 a4:Option Addr}{n0 n1 n2 n3 n4 k0 k1 k2 k3 k4:Nat}(t0:decide ((10:Int)<(n1:Int))=false) (t1:decide ((10:Int)<(n2:Int))=false) (t2:decide ((2:Int)<(n3:Int))=true):
 Calls prog 66 #[.agg (aP x (.slice a0 n0 k0) (.slice a1 n1 k1) (.slice a2 n2 k2) (.slice a3 n3 k3) (.slice a4 n4 k4))] w fun e w' =>e= .returned (.bool false)∧Below w.heap.size w w' :=by
 have hB:=(Below.refl w.heap.size w).alloc (Nat.le_refl _) (.cells (aP x (.slice a0 n0 k0) (.slice a1 n1 k1) (.slice a2 n2 k2) (.slice a3 n3 k3) (.slice a4 n4 k4)) 39);have hbl:(w.alloc (.cells (aP x (.slice a0 n0 k0) (.slice a1 n1 k1) (.slice a2 n2 k2) (.slice a3 n3 k3) (.slice a4 n4 k4)) 39)).heap[w.heap.size]? =some (.cells (aP x (.slice a0 n0 k0) (.slice a1 n1 k1) (.slice a2 n2 k2) (.slice a3 n3 k3) (.slice a4 n4 k4)) 39 (0,0)):=aB w _;obtain ⟨c0,c1,c2,c3,c4,c5,c6,c7,c8,c9,c10,c11,c12,c13,c14,c15,c16,c17⟩:=bn hbl;clear c0 c1 c2 c3 c4 c5 c6 c7 c8 c9 c14 c15 c16;have u10:=ak hbl 10;have u11:=ak hbl 11;have WE:=ak hbl 12;have u13:=ak hbl 13;have Zz:=ak hbl 17;clear hbl;go_enter func66,ntmps66;go_wp2_with fail;go_ret;exact ⟨rfl,hB⟩
theorem RI {w:World}{x:Sx}{a0 a1 a2 a3 a4:Option Addr}{n0 n1 n2 n3 n4 k0 k1 k2 k3 k4:Nat}(t0:decide ((10:Int)<(n1:Int))=false) (t1:decide ((10:Int)<(n2:Int))=false) (t2:decide ((2:Int)<(n3:Int))=false) (t3:decide ((10:Int)<(n0:Int))=true):
 Calls prog 66 #[.agg (aP x (.slice a0 n0 k0) (.slice a1 n1 k1) (.slice a2 n2 k2) (.slice a3 n3 k3) (.slice a4 n4 k4))] w fun e w' =>e= .returned (.bool false)∧Below w.heap.size w w' :=by
 have hB:=(Below.refl w.heap.size w).alloc (Nat.le_refl _) (.cells (aP x (.slice a0 n0 k0) (.slice a1 n1 k1) (.slice a2 n2 k2) (.slice a3 n3 k3) (.slice a4 n4 k4)) 39);have hbl:(w.alloc (.cells (aP x (.slice a0 n0 k0) (.slice a1 n1 k1) (.slice a2 n2 k2) (.slice a3 n3 k3) (.slice a4 n4 k4)) 39)).heap[w.heap.size]? =some (.cells (aP x (.slice a0 n0 k0) (.slice a1 n1 k1) (.slice a2 n2 k2) (.slice a3 n3 k3) (.slice a4 n4 k4)) 39 (0,0)):=aB w _;obtain ⟨c0,c1,c2,c3,c4,c5,c6,c7,c8,c9,c10,c11,c12,c13,c14,c15,c16,c17⟩:=bn hbl;clear c0 c1 c2 c3 c4 c5 c6 c7 c8 c9 c14 c15 c16;have u10:=ak hbl 10;have u11:=ak hbl 11;have WE:=ak hbl 12;have u13:=ak hbl 13;have Zz:=ak hbl 17;clear hbl;go_enter func66,ntmps66;go_wp2_with fail;go_ret;exact ⟨rfl,hB⟩
theorem RJ {w:World}{x:Sx}{a0 a1 a2 a3 a4:Option Addr}{n0 n1 n2 n3 n4 k0 k1 k2 k3 k4:Nat}(t0:decide ((10:Int)<(n1:Int))=false) (t1:decide ((10:Int)<(n2:Int))=false) (t2:decide ((2:Int)<(n3:Int))=false) (t3:decide ((10:Int)<(n0:Int))=false) (t4:decide ((8:Int)<(n4:Int))=true):
 Calls prog 66 #[.agg (aP x (.slice a0 n0 k0) (.slice a1 n1 k1) (.slice a2 n2 k2) (.slice a3 n3 k3) (.slice a4 n4 k4))] w fun e w' =>e= .returned (.bool false)∧Below w.heap.size w w' :=by
 have hB:=(Below.refl w.heap.size w).alloc (Nat.le_refl _) (.cells (aP x (.slice a0 n0 k0) (.slice a1 n1 k1) (.slice a2 n2 k2) (.slice a3 n3 k3) (.slice a4 n4 k4)) 39);have hbl:(w.alloc (.cells (aP x (.slice a0 n0 k0) (.slice a1 n1 k1) (.slice a2 n2 k2) (.slice a3 n3 k3) (.slice a4 n4 k4)) 39)).heap[w.heap.size]? =some (.cells (aP x (.slice a0 n0 k0) (.slice a1 n1 k1) (.slice a2 n2 k2) (.slice a3 n3 k3) (.slice a4 n4 k4)) 39 (0,0)):=aB w _;obtain ⟨c0,c1,c2,c3,c4,c5,c6,c7,c8,c9,c10,c11,c12,c13,c14,c15,c16,c17⟩:=bn hbl;clear c0 c1 c2 c3 c4 c5 c6 c7 c8 c9 c14 c15 c16;have u10:=ak hbl 10;have u11:=ak hbl 11;have WE:=ak hbl 12;have u13:=ak hbl 13;have Zz:=ak hbl 17;clear hbl;go_enter func66,ntmps66;go_wp2_with fail;go_ret;exact ⟨rfl,hB⟩
theorem RL {w:World}{x:Sx}{a0 a1 a2 a3 a4:Option Addr}{n0 n1 n2 n3 n4 k0 k1 k2 k3 k4:Nat}(t0:decide ((10:Int)<(n1:Int))=false) (t1:decide ((10:Int)<(n2:Int))=false) (t2:decide ((2:Int)<(n3:Int))=false) (t3:decide ((10:Int)<(n0:Int))=false) (t4:decide ((8:Int)<(n4:Int))=false) {b:Bool}(hc:∀w',Below w.heap.size w w' →Calls prog 118 #[.slice a4 n4 k4, .func (.func 119) #[] #[]] w' fun e w'' =>e= .returned (.bool b)∧Below w'.heap.size w' w''):
 Calls prog 66 #[.agg (aP x (.slice a0 n0 k0) (.slice a1 n1 k1) (.slice a2 n2 k2) (.slice a3 n3 k3) (.slice a4 n4 k4))] w fun e w' =>e= .returned (.bool (!b))∧Below w.heap.size w w' :=by
 have hB:=(Below.refl w.heap.size w).alloc (Nat.le_refl _) (.cells (aP x (.slice a0 n0 k0) (.slice a1 n1 k1) (.slice a2 n2 k2) (.slice a3 n3 k3) (.slice a4 n4 k4)) 39);have hbl:(w.alloc (.cells (aP x (.slice a0 n0 k0) (.slice a1 n1 k1) (.slice a2 n2 k2) (.slice a3 n3 k3) (.slice a4 n4 k4)) 39)).heap[w.heap.size]? =some (.cells (aP x (.slice a0 n0 k0) (.slice a1 n1 k1) (.slice a2 n2 k2) (.slice a3 n3 k3) (.slice a4 n4 k4)) 39 (0,0)):=aB w _;obtain ⟨c0,c1,c2,c3,c4,c5,c6,c7,c8,c9,c10,c11,c12,c13,c14,c15,c16,c17⟩:=bn hbl;clear c0 c1 c2 c3 c4 c5 c6 c7 c8 c9 c14 c15 c16;have u10:=ak hbl 10;have u11:=ak hbl 11;have WE:=ak hbl 12;have u13:=ak hbl 13;have Zz:=ak hbl 17;clear hbl;have h1:=hc _ hB;clear hc;go_enter func66,ntmps66;go_wp2_with fail;refine h1.mono ?_;rintro e w2 ⟨rfl,hb2⟩;go_wp2_with fail;go_ret;exact ⟨rfl,hB.trans (hb2.mono hB.size)⟩
theorem YH {w:World}{u:Value}{L:List Pw}{g:Pw→Bool}(hl:L.length≤100000) (hr:Rd w u L.length (nE L))
 (hf:∀q∈L,∀w',Below w.heap.size w w' →Calls prog 119 #[.agg q.arr] w' fun e w'' =>e= .returned (.bool (g q))∧Below w'.heap.size w' w''):
 Calls prog 185 #[u, .func (.func 119) #[] #[]] w fun e w' =>((∃k:Nat,e= .returned (.int .i64 k)∧L.any g=true)∨(e= .returned (.int .i64 (-1))∧L.any g=false))∧Below w.heap.size w w' :=by
 obtain ⟨a,cap,rfl,hx0⟩:=hr;go_enter func185,ntmps185;go_wp2_with fail
 go_loopw [8] (fun i wr=>∃j:Nat,i= .int .i64 j∧j≤L.length∧Below w.heap.size w wr∧Hid ((L.take j).any g=false)) (fun i _=>L.length - (intOf i).toNat)
 case atStart=>exact ⟨0,rfl,Nat.zero_le _,Below.refl _ _,rfl⟩
 case round=>
  obtain ⟨j,rfl,hj,hBr,HA⟩:=hrel;have hsz:=hBr.size;by_cases hjl:j<L.length
  · have p0:(j:Int)<(L.length:Int):=by omega
    have p1:(0:Int)≤(j:Int):=by omega
    have HJ:=Lib.hid (show j+1≤L.length from hjl);obtain ⟨ga,o,rfl,hx⟩:=hx0 (by omega);obtain ⟨q,hq⟩:∃q,L[j]? =some q:=⟨_,List.getElem?_eq_getElem hjl⟩;have HQ:=Lib.hid hq
    have hR:wr.rangeAt ga (o+j*18) q.arr.toList:=fun i v hv=>by
     have hi:i<18:=by have:=(List.getElem?_eq_some_iff.1 hv).1;simp [Pw.arr]at this;omega
     have:=hx (j*18+i) v (by rw [zR hq i hi];exact hv);rw [Nat.add_assoc];exact aI hBr this
    have hc:=hf q (List.mem_of_getElem? hq) _ hBr
    have HT:Hid ((L.take (j+1)).any g=g q):=by
     obtain ⟨hj2,rfl⟩:=List.getElem?_eq_some_iff.1 hq;show _=_;rw [List.take_succ_eq_append_getElem hj2,List.any_append,HA.out];simp
    clear hq hx;cases hg:g q with
    |false=>
     rw [hg]at hc HT;have HG:=Lib.hid hg;clear hg;obtain ⟨x,tc,c,s,wv,pv⟩:=q;go_wp2_with (refine zU rfl _ rfl rfl rfl hR ?_);refine hc.mono ?_;rintro e w2 ⟨rfl,hb2⟩;have hB2:=hBr.trans (hb2.mono hsz);go_wp2_with fail;go_roundw
     case rel=>exact ⟨j+1,by go_num,HJ.out,hB2,HT⟩
     case measure=>have hjj:=HJ.out;simp [intOf];omega
    |true=>
     rw [hg]at hc HT;have HY:Hid (L.any g=true):=List.any_eq_true.2 ⟨q,List.mem_of_getElem? HQ.out,hg⟩;clear hg;obtain ⟨x,tc,c,s,wv,pv⟩:=q;go_wp2_with (refine zU rfl _ rfl rfl rfl hR ?_);refine hc.mono ?_;rintro e w2 ⟨rfl,hb2⟩;have hB2:=hBr.trans (hb2.mono hsz);go_wp2_with fail;go_ret;exact ⟨Or.inl ⟨j,rfl,HY.out⟩,hB2⟩
  · have jV:j=L.length:=by omega
    subst jV;have HA2:Hid (L.any g=false):=by show _=_;have:=HA.out;rwa [List.take_length]at this
    clear HA;go_wp2_with fail;go_ret;exact ⟨Or.inr ⟨rfl,HA2.out⟩,hBr⟩
theorem Ph {w:World}{u:Value}{L:List Pw}{g:Pw→Bool}(hl:L.length≤100000) (hr:Rd w u L.length (nE L))
 (hf:∀q∈L,∀w',Below w.heap.size w w' →Calls prog 119 #[.agg q.arr] w' fun e w'' =>e= .returned (.bool (g q))∧Below w'.heap.size w' w''):
 Calls prog 118 #[u, .func (.func 119) #[] #[]] w fun e w' =>e= .returned (.bool (L.any g))∧Below w.heap.size w w' :=by
 have hi:=YH hl hr hf;clear hr hf;obtain ⟨r,hr⟩:∃r,L.any g=r:=⟨_,rfl⟩;rw [hr]at hi⊢;clear hr;go_enter func118,ntmps118;go_wp2_with fail;refine hi.mono ?_;rintro e w2 ⟨⟨k,rfl,rfl⟩|⟨rfl,rfl⟩,hb2⟩
 · have p1:(0:Int)≤(k:Int):=by omega
   go_wp2_with fail;go_ret;exact ⟨rfl,hb2⟩
 · go_wp2_with fail;go_ret;exact ⟨rfl,hb2⟩
theorem Nt {w:World}{x:Sx}{tc c s wv:Value}{a4:Option Addr}{n4 k4:Nat}  (_t:decide ((0:Int)<(n4:Int))=true) (_t2:decide (0<n4)=true) (t3:0<n4):
 Calls prog 119 #[.agg (aP x tc c s wv (.slice a4 n4 k4))] w fun e w' =>e= .returned (.bool true)∧Below w.heap.size w w' :=by
 have hB:=(Below.refl w.heap.size w).alloc (Nat.le_refl _) (.cells (aP x tc c s wv (.slice a4 n4 k4)) 39);have hbl:(w.alloc (.cells (aP x tc c s wv (.slice a4 n4 k4)) 39)).heap[w.heap.size]? =some (.cells (aP x tc c s wv (.slice a4 n4 k4)) 39 (0,0)):=aB w _;obtain ⟨c0,c1,c2,c3,c4,c5,c6,c7,c8,c9,c10,c11,c12,c13,c14,c15,c16,c17⟩:=bn hbl;clear c0 c1 c2 c3 c4 c5 c6 c7 c8 c9 c10 c11 c12 c13 c14 c15 c16;have Zz:=ak hbl 17;go_enter func119,ntmps119;go_wp2_with fail;go_ret;exact ⟨rfl,hB⟩
theorem RN {w:World}{x:Sx}{tc c s wv:Value}{a4:Option Addr}{n4 k4:Nat}{b:Bool}(hc:∀w',Below w.heap.size w w' →Calls prog 66 #[.agg (aP x tc c s wv (.slice a4 n4 k4))] w' fun e w'' =>e= .returned (.bool b)∧Below w'.heap.size w' w'') (hn:n4=0):
 Calls prog 119 #[.agg (aP x tc c s wv (.slice a4 n4 k4))] w fun e w' =>e= .returned (.bool (!b))∧Below w.heap.size w w' :=by
 have hB:=(Below.refl w.heap.size w).alloc (Nat.le_refl _) (.cells (aP x tc c s wv (.slice a4 n4 k4)) 39);have hbl:(w.alloc (.cells (aP x tc c s wv (.slice a4 n4 k4)) 39)).heap[w.heap.size]? =some (.cells (aP x tc c s wv (.slice a4 n4 k4)) 39 (0,0)):=aB w _;obtain ⟨c0,c1,c2,c3,c4,c5,c6,c7,c8,c9,c10,c11,c12,c13,c14,c15,c16,c17⟩:=bn hbl;clear c0 c1 c2 c3 c4 c5 c6 c7 c8 c9 c10 c11 c12 c13 c14 c15 c16;have Zz:=ak hbl 17;have h1:=hc _ hB;clear hc;subst hn;go_enter func119,ntmps119;go_wp2_with (refine vJ (by go_simp) _ rfl rfl rfl hbl ?_);refine h1.mono ?_;rintro e w2 ⟨rfl,hb2⟩;go_wp2_with fail;go_ret;exact ⟨rfl,hB.trans (hb2.mono hB.size)⟩
theorem La {w:World}{x:Sx}{tc c s wv pv:Value}{n:Nat}{ys:List Value}{b:Bool}(hin:kL w x tc c s wv) (hp:Rd w pv n ys)
 (hc:jc x=true→n≤8→∀w',Below w.heap.size w w' →Calls prog 118 #[pv, .func (.func 119) #[] #[]] w' fun e w'' =>e= .returned (.bool b)∧Below w'.heap.size w' w''):
 Calls prog 66 #[.agg (aP x tc c s wv pv)] w fun e w' =>e= .returned (.bool (jc x&&decide (n≤8)&& !b))∧Below w.heap.size w w' :=by
 obtain ⟨⟨a0,k0,rfl,_⟩,⟨a1,k1,rfl,_⟩,⟨a2,k2,rfl,_⟩,⟨a3,k3,rfl,_⟩⟩:=hin;obtain ⟨a4,k4,rfl,_⟩:=hp;unfold jc at hc⊢
 have no:¬(x.aD.length≤10∧x.sets.length≤10∧x.aO.length≤2∧x.aF.length≤10)∨¬n≤8→(decide (x.aD.length≤10∧x.sets.length≤10∧x.aO.length≤2∧x.aF.length≤10)&&decide (n≤8)&& !b)=false:=by
  rintro (h|h)
  · rw [decide_eq_false h];rfl
  · rw [decide_eq_false h,Bool.and_false,Bool.false_and]
 by_cases h0:10<x.aD.length
 · rw [no (Or.inl (by omega))];exact RD (decide_eq_true (by omega))
 have f0:decide ((10:Int)<(x.aD.length:Int))=false:=decide_eq_false (by omega);by_cases h1:10<x.sets.length
 · rw [no (Or.inl (by omega))];exact RF f0 (decide_eq_true (by omega))
 have f1:decide ((10:Int)<(x.sets.length:Int))=false:=decide_eq_false (by omega);by_cases h2:2<x.aO.length
 · rw [no (Or.inl (by omega))];exact RH f0 f1 (decide_eq_true (by omega))
 have f2:decide ((2:Int)<(x.aO.length:Int))=false:=decide_eq_false (by omega);by_cases h3:10<x.aF.length
 · rw [no (Or.inl (by omega))];exact RI f0 f1 f2 (decide_eq_true (by omega))
 have f3:decide ((10:Int)<(x.aF.length:Int))=false:=decide_eq_false (by omega);by_cases h4:8<n
 · rw [no (Or.inr (by omega))];exact RJ f0 f1 f2 f3 (decide_eq_true (by omega))
 have f4:decide ((8:Int)<(n:Int))=false:=decide_eq_false (by omega);have hy:x.aD.length≤10∧x.sets.length≤10∧x.aO.length≤2∧x.aF.length≤10:=by omega
 rw [decide_eq_true hy,decide_eq_true (show n≤8 by omega)];exact RL f0 f1 f2 f3 f4 (hc (decide_eq_true hy) (by omega))
theorem Pj:∀L:List Pw,L.all (jc ∘ Pw.x)= !(L.any fun q=> !jc q.x)
 | []=>rfl
 |q::l=>by rw [List.all_cons,List.any_cons,Bool.not_or,Bool.not_not,Pj l];rfl
theorem Nu {w:World}{p:Pw}(h:kL w p.x p.tc p.c p.s p.wv) (hp:Rd w p.pv 0 []):
 Calls prog 66 #[.agg p.arr] w fun e w' =>e= .returned (.bool (jc p.x))∧Below w.heap.size w w' :=by
 have:=La (b:=false) h hp (fun _ _ w' hb=>Ph (L:= []) (g:=fun _=>false) (by decide) (hp.below hb) (fun q hq=>absurd hq (by simp)));simp only [Bool.not_false,Bool.and_true,Nat.zero_le,decide_true]at this;exact this
theorem Nv {w:World}{p:Pw}{n:Nat}{ys:List Value}(h:kL w p.x p.tc p.c p.s p.wv) (hp:Rd w p.pv n ys) (hn:n=0→ys= []):
 Calls prog 119 #[.agg p.arr] w fun e w' =>e= .returned (.bool (decide (0<n)|| !jc p.x))∧Below w.heap.size w w' :=by
 obtain ⟨x,tc,c,s,wv,pv⟩:=p;by_cases h0:0<n
 · obtain ⟨a4,k4,rfl,_⟩:=hp;rw [decide_eq_true h0];exact Nt (decide_eq_true (by omega)) (decide_eq_true h0) h0
 · have e:n=0:=by omega
   subst e;have hy:=hn rfl;subst hy;have hp' :=hp;obtain ⟨a4,k4,rfl,_⟩:=hp';rw [decide_eq_false h0,Bool.false_or];exact RN (b:=jc x) (fun w' hb=>Nu (p:=⟨x,tc,c,s,wv, .slice a4 0 k4⟩) (h.below hb) (hp.below hb)) rfl
theorem RO {w:World}{p:Pw}{L:List Pw}(h:kL w p.x p.tc p.c p.s p.wv) (hp:Rd w p.pv L.length (nE L)) (hq:∀q∈L,kL w q.x q.tc q.c q.s q.wv∧Rd w q.pv 0 []):
 Calls prog 66 #[.agg p.arr] w fun e w' =>e= .returned (.bool (oQ ⟨p.x,L.map Pw.x⟩))∧Below w.heap.size w w' :=by
 have hb:oQ ⟨p.x,L.map Pw.x⟩=(jc p.x&&decide (L.length≤8)&& !(L.any fun q=> !jc q.x)):=by
  unfold oQ;simp only [List.length_map,List.all_map];congr 1;exact Pj L
 rw [hb];refine La h hp (fun _ hn w' hb=>Ph (by omega) (hp.below hb) (fun q hq' w'' hb' => ?_));have:=Nv (p:=q) (w:=w'') ((hq q hq').1.below (hb.trans (hb'.mono hb.size))) ((hq q hq').2.below (hb.trans (hb'.mono hb.size))) (fun _=>rfl);simp only [Nat.lt_irrefl,decide_false,Bool.false_or]at this;exact this
theorem YI {t:Tm}(h:rT t):Fh t:=by
 rcases h with ⟨h1,_,h3,h4⟩|⟨h1,h2,h3,h4⟩
 · exact ⟨by rw [h1];exact ⟨by decide,by decide⟩,by rw [h4];exact ⟨by decide,by decide⟩,by omega⟩
 · refine ⟨by rw [h1];exact ⟨by decide,by decide⟩,⟨by omega,by omega⟩, ?_⟩;rw [h2];exact Nat.zero_le _
theorem vK {L:List Pr}{n:Nat}(hn:n≤100) (h:∀p∈L,mq p) (hl:L.length≤n):rD L:=
 ⟨by omega,fun q hq=>⟨YI (h q hq).2,by have:=(h q hq).1.2.2.1;omega⟩⟩
theorem iJ:rD []:=⟨by decide,by simp⟩
theorem qo {α:Type}{P:α→Prop}:([]:List α).length≤90∧∀q∈([]:List α),P q:=⟨Nat.zero_le _,fun _ h=>nomatch h⟩
theorem dI:Jr 0:=⟨by decide,by decide⟩
theorem Nw {n:Int}(h:kN n):Jr n:=⟨by have:=h.1;omega,by have:=h.2;omega⟩
theorem xS {b:Bool}{stamp ttl:Int}(h:rU b stamp ttl):Jr stamp∧Jr ttl:=by
 refine ⟨?_, ?_⟩
 · rcases h.1 with rfl|h1
   · exact dI
   · exact Nw h1
 · rcases h.2 with rfl|h1
   · exact dI
   · exact Nw h1.2
theorem gq {s:ByteArray}(h:cB s):s.size≤2000000:=by have:=h.2.2.1;omega
theorem I8 {l:List ByteArray}{most:Nat}(hm:most≤90) (h:oN most l):l.length≤90∧∀q∈l,q.size≤2000000:=⟨by have:=h.2.2;omega,fun q hq=>gq (h.1 q hq)⟩
theorem cK (n:Nat):(⟨#[]⟩:ah).size≤n:=Nat.zero_le _
theorem I9:∀{c:List ByteArray}{v:List Tm}{p:Pr},p∈List.zipWith Pr.mk c v→p.name∈c∧p.t∈v
 | [],_,_,h=>absurd h (by simp)
 |_::_, [],_,h=>absurd h (by simp)
 |a::c,b::v,p,h=>by
  rw [List.zipWith_cons_cons]at h;rcases List.mem_cons.1 h with rfl|h
  · exact ⟨List.mem_cons_self ..,List.mem_cons_self ..⟩
  · obtain ⟨h1,h2⟩:=I9 h;exact ⟨List.mem_cons_of_mem _ h1,List.mem_cons_of_mem _ h2⟩
theorem aK.GC.st {x:Sx}{L:List To}(h:GC x L):iG x:=by
 cases h with
 |insert o c v a b h=>
  obtain ⟨h1,h2,h3,h4,h5,h6⟩:=h;obtain ⟨u1,u2⟩:=xS h6;exact ⟨cK _,gq h1,cK _,cK _,cK _,qo,qo,vK (n:=10) (by decide) (fun p hp=>⟨h3.1 _ (I9 hp).1,h5 _ (I9 hp).2⟩) (by show (List.zipWith Pr.mk c v).length≤10;rw [List.length_zipWith];have:=h3.2.2;omega),iJ,Nat.zero_le _,u1,u2,dI⟩
 |update o a b c v h=>
  obtain ⟨h1,h2,⟨h3,h4,h5,h6⟩,h7,h8⟩:=h;obtain ⟨u1,u2⟩:=xS h2;exact ⟨cK _,gq h1,cK _,cK _,cK _,qo,qo,vK (n:=8) (by decide) h4 h6,vK (n:=2) (by decide) h7 (by show v.length≤2;omega),by show v.length≤90;omega,u1,u2,dI⟩
 |remove o a b c h=>
  obtain ⟨h1,h2,h3,h7,h8⟩:=h;obtain ⟨u1,u2⟩:=xS h3;exact ⟨cK _,gq h2,cK _,cK _,cK _,qo,I8 (by decide) h1,iJ,vK (n:=2) (by decide) h7 (by show c.length≤2;omega),by show c.length≤90;omega,u1,dI,dI⟩
theorem aK.GP.st {x:Sx}{L:List To}(h:GP x L):iG x:=by
 cases h with
 |ask o c v a h=>
  obtain ⟨h1,h2,⟨h7,h8⟩,h9⟩:=h;refine ⟨cK _,gq h2,cK _,cK _,cK _,qo,I8 (by decide) h1,iJ,vK (n:=2) (by decide) h7 (by show v.length≤2;omega),by show v.length≤90;omega,dI,dI, ?_⟩;rcases h9 with rfl|h9
  · exact dI
  · exact Nw h9
 |view o c v a p q h=>
  obtain ⟨h1,h2,h3,h4,h5,h6⟩:=h;have hz:Fh Tm.zero:=⟨dI,dI,cK _⟩;refine ⟨gq h1,gq h3,gq h4,cK _,cK _,qo,I8 (by decide) h2,iJ,⟨(show (2:Nat)≤100 by decide), ?_⟩,(show (2:Nat)≤90 by decide),dI,dI,dI⟩;intro r hr;rcases List.mem_cons.1 hr with rfl|hr
  · exact ⟨hz,gq h5⟩
  · rcases List.mem_cons.1 hr with rfl|hr
    · exact ⟨hz,gq h6⟩
    · cases hr
 |index o c v h=>exact ⟨gq h.1,gq h.2.1,gq h.2.2,cK _,cK _,qo,qo,iJ,iJ,Nat.zero_le _,dI,dI,dI⟩
 |drop o h=>exact ⟨gq h,cK _,cK _,cK _,cK _,qo,qo,iJ,iJ,Nat.zero_le _,dI,dI,dI⟩
 |table o c v a h=>
  obtain ⟨p,q,D,hp,hq,e0,_,ok⟩:=qd h;rw [e0];have hn:=ok.2.1;have hl:=ok.2.2.2.1;exact ⟨gq ok.1,cK _,cK _,gq (hn p (List.mem_cons_self ..)).1,gq (hn q (List.mem_cons_of_mem _ (List.mem_cons_self ..))).1,⟨by show D.length≤90;simp at hl;omega,fun r hr=>gq (hn r (List.mem_cons_of_mem _ (List.mem_cons_of_mem _ hr))).1⟩,qo,iJ,iJ,Nat.zero_le _,dI,dI,dI⟩
theorem Pk (k:Int):iG {Sx.zero with kind:=k}:=⟨cK _,cK _,cK _,cK _,cK _,qo,qo,iJ,iJ,Nat.zero_le _,dI,dI,dI⟩
theorem aK.GB.st {l:List Sx}{L:List To}(h:GB l L):∀y∈l,iG y:=by
 induction h with
 |nil=>simp
 |cons hx _ ih=>
  intro y hy;rcases List.mem_cons.1 hy with rfl|hy
  · exact hx.st
  · exact ih y hy
theorem aK.GN.st {nd:Tx.Nd}{L:List To}(h:GN nd L):iG (kI nd).x∧(∀y∈(kI nd).parts,iG y)∧(kI nd).parts.length≤8:=by
 cases h with
 |plain h=>exact ⟨h.st,(fun _ h=>nomatch h),Nat.zero_le _⟩
 |change h=>exact ⟨h.st,(fun _ h=>nomatch h),Nat.zero_le _⟩
 |batch h h1 h2=>exact ⟨Pk 9,h.st,h2⟩
def FB (w:World) (base:Nat) (nd:Tx.Nd) (v:Value):Prop:=
 match nd with
 | .plain x=>∃tc c s wv,v= .iface 280 (.agg (aP x tc c s wv au))∧gB w base x tc c s wv
 | .change x=>∃tc c s wv,v= .iface 330 (.agg (aP x tc c s wv au))∧gB w base x tc c s wv
 | .batch l=>∃(L:List Pv) (a:Option Addr) (cap:Nat),L.map Pv.x=l∧v= .iface 334 (.agg #[.slice a L.length cap])∧w.ownsRow base 200 1 (.slice a L.length cap) L.length (L.map Pv.val)∧gI w base L
theorem rH {K:PK}{w:World}{nd:Tx.Nd}{σ:Ps}{e:Ending}{w' :World}(h:o8 K w nd σ e w'):∃v,e= .returned v∧Did K w σ w' ∧FB w' w.heap.size nd v:=by
 cases nd with
 |plain x=>obtain ⟨tc,c,s,wv,rfl,hd,hr⟩:=h;exact ⟨_,rfl,hd,tc,c,s,wv,rfl,hr⟩
 |change x=>obtain ⟨tc,c,s,wv,rfl,hd,hr⟩:=h;exact ⟨_,rfl,hd,tc,c,s,wv,rfl,hr⟩
 |batch l=>obtain ⟨L,a,cap,hL,rfl,hd,hr,hp⟩:=h;exact ⟨_,rfl,hd,L,a,cap,hL,rfl,hr,hp⟩
theorem FB.map {w w' :World}{base:Nat}{nd:Tx.Nd}{v:Value}(h:FB w base nd v) (f:∀(e:TypeId) (size n:Nat) (u:Value) (xs:List Value),w.ownsRow base e size u n xs→w'.ownsRow base e size u n xs):FB w' base nd v:=by
 cases nd with
 |plain x=>obtain ⟨tc,c,s,wv,hv,hr⟩:=h;exact ⟨tc,c,s,wv,hv,hr.map fun _ _ _ _ _ _ hq=>f _ _ _ _ _ hq⟩
 |change x=>obtain ⟨tc,c,s,wv,hv,hr⟩:=h;exact ⟨tc,c,s,wv,hv,hr.map fun _ _ _ _ _ _ hq=>f _ _ _ _ _ hq⟩
 |batch l=>obtain ⟨L,a,cap,hL,hv,hr,hp⟩:=h;exact ⟨L,a,cap,hL,hv,f _ _ _ _ _ hr,hp.map fun _ _ _ _ _ _ hq=>f _ _ _ _ _ hq⟩
theorem FB.did {K:PK}{σ:Ps}{w w' :World}{base:Nat}{nd:Tx.Nd}{v:Value}(h:FB w base nd v) (hd:Did K w σ w') (hb:K.L≤base):FB w' base nd v:=h.map fun _ _ _ _ _ hr=>hd.row hr hb
theorem FB.below {w w' :World}{base:Nat}{nd:Tx.Nd}{v:Value}(h:FB w base nd v) (hb:Below w.heap.size w w'):FB w' base nd v:=h.map fun _ _ _ _ _ hr=>bP hr hb
structure nJ (w:World) (base:Nat) (p:Pw) (L:List Pw) (z:ni):Prop where
 x:p.x=z.x
 parts:L.map Pw.x=z.parts
 rows:gB w base p.x p.tc p.c p.s p.wv
 row:w.ownsRow base 39 18 p.pv L.length (nE L)
 each:∀q∈L,gB w base q.x q.tc q.c q.s q.wv∧q.pv=au
theorem gB.rd {w:World}{base:Nat}{x:Sx}{tc c s wv:Value}(h:gB w base x tc c s wv):kL w x tc c s wv:=⟨Rd.own h.1,Rd.own h.2.1,Rd.own h.2.2.1,Rd.own h.2.2.2⟩
theorem Ny (w:World):Rd w au 0 []:=⟨none,0,rfl,fun h=>absurd h (by decide)⟩
structure Lb (w:World) (p:Pw) (L:List Pw):Prop where
 st:kL w p.x p.tc p.c p.s p.wv
 pv:Rd w p.pv L.length (nE L)
 each:∀q∈L,kL w q.x q.tc q.c q.s q.wv∧Rd w q.pv 0 []
theorem Lb.below {w w' :World}{p:Pw}{L:List Pw}(h:Lb w p L) (hb:Below w.heap.size w w'):Lb w' p L:=
 ⟨h.st.below hb,h.pv.below hb,fun q hq=>⟨(h.each q hq).1.below hb,(h.each q hq).2.below hb⟩⟩
theorem YJ (w:World):Rd w au 0 []:=⟨none,0,rfl,fun h=>absurd h (by omega)⟩
theorem nJ.wd {w:World}{base:Nat}{p:Pw}{L:List Pw}{z:ni}(h:nJ w base p L z):Lb w p L:=
 ⟨h.rows.rd,Rd.own h.row,fun q hq=>⟨(h.each q hq).1.rd,by rw [(h.each q hq).2];exact YJ w⟩⟩
theorem nJ.z {w:World}{base:Nat}{p:Pw}{L:List Pw}{z:ni}(h:nJ w base p L z):(⟨p.x,L.map Pw.x⟩:ni)=z:=by rw [h.x,h.parts]
def SzS (p:Pw) (L:List Pw):Prop:=iG p.x∧∀q∈L,iG q.x
theorem Rd.one {w:World}{u:Value}{n:Nat}{xs:List Value}(h:Rd w u n xs):u.oneCell' =true:=by
 obtain ⟨_,_,rfl,_⟩:=h;rfl
theorem Lb.one {w:World}{p:Pw}{L:List Pw}(h:Lb w p L):p.arr.toList.all (·.oneCell')=true:=h.st.one h.pv.one
theorem Lb.pw {w:World}{p:Pw}{L:List Pw}(h:Lb w p L) (hs:SzS p L):EB w p∧∀q∈L,EB w q∧Rd w q.pv 0 []:=
 ⟨⟨hs.1,h.st,h.pv.one⟩,fun q hq=>⟨⟨hs.2 q hq,(h.each q hq).1,(h.each q hq).2.one⟩,(h.each q hq).2⟩⟩
theorem EC {w:World}{p:Pw}{L:List Pw}(h:Lb w p L):
 Calls prog 66 #[.agg p.arr] w fun e w' =>e= .returned (.bool (oQ ⟨p.x,L.map Pw.x⟩))∧Below w.heap.size w w' :=RO h.st h.pv h.each
theorem RP {w:World}{p:Pw}{L:List Pw}(hG:Gp w) (h:Lb w p L) (hs:SzS p L) (hl:L.length≤100):
 Calls prog 68 #[.agg p.arr] w fun e w' =>e= .returned (.string (iA ⟨p.x,L.map Pw.x⟩))∧Below w.heap.size w w' :=
 vZ hG (h.pw hs).1 fun _=>⟨hl,h.pv,(h.pw hs).2⟩
def WK (x:Sx):Prop:=x.aF.length≤100000∧x.aD.length≤100000∧x.sets.length≤100000∧x.aO.length≤100000
def SmS (z:ni):Prop:=WK z.x∧z.parts.length≤100000∧∀y∈z.parts,WK y
theorem Lc {x:Sx}(h:jc x=true):WK x:=by
 have h:=of_decide_eq_true h;unfold WK;omega
theorem BO {z:ni}(h:oQ z=true):jc z.x=true∧z.parts.length≤8∧∀y∈z.parts,jc y=true:=by
 unfold oQ at h;simp only [Bool.and_eq_true,decide_eq_true_eq,List.all_eq_true]at h;exact ⟨h.1.1,h.1.2,h.2⟩
theorem Ld {z:ni}(h:jc z.x=true∧z.parts.length≤8∧∀y∈z.parts,jc y=true):SmS z:=
 ⟨Lc h.1,by omega,fun y hy=>Lc (h.2.2 y hy)⟩
theorem abp {z:ni}(h:May z):SmS z:=Ld (BO (Du h))
theorem ED {w wr:World}{L:List Pw}{g o j:Nat}{q:Pw}(hx:∀k v,(nE L)[k]? =some v→w.cell? ⟨g,o+k,none⟩=some v) (hq:L[j]? =some q) (hB:Below w.heap.size w wr):wr.rangeAt g (o+j*18) q.arr.toList:=fun i v hv=>by
 have hi:i<18:=by have:=(List.getElem?_eq_some_iff.1 hv).1;simp [Pw.arr]at this;omega
 have:=hx (j*18+i) v (by rw [zR hq i hi];exact hv);rw [Nat.add_assoc];exact aI hB this
theorem Pm {w:World}{u v:Value}{L M:List Pw}(hu:Rd w u L.length (nE L)) (hv:Rd w v M.length (nE M)) (hl:L.length≤100000) (_hm:M.length≤100000)
 (h1:∀p∈L,p.arr.toList.all (·.oneCell')=true) (h2:∀p∈M,p.arr.toList.all (·.oneCell')=true)
 (hf:∀p∈L,∀q∈M,∀w',Below w.heap.size w w' →Calls prog 69 #[.agg p.arr, .agg q.arr] w' fun e w'' =>∃b:Bool,e= .returned (.bool b)∧(b=true ↔ p.x=q.x)∧Below w'.heap.size w' w''):
 Calls prog 141 #[u,v, .func (.func 69) #[] #[]] w fun e w' =>∃b:Bool,e= .returned (.bool b)∧(b=true ↔ L.map Pw.x=M.map Pw.x)∧Below w.heap.size w w' :=by
 obtain ⟨a1,k1,rfl,hx0⟩:=hu;obtain ⟨a2,k2,rfl,hy0⟩:=hv;by_cases hlen:L.length=M.length
 · have HL:=Lib.hid hlen;obtain ⟨n,hn⟩:∃n,L.length=n:=⟨_,rfl⟩;have hn2:M.length=n:=by omega
   have HN:=Lib.hid hn;have HN2:=Lib.hid hn2;rw [hn]at hx0 hl⊢;rw [hn2]at hy0⊢;clear hlen hn hn2 _hm;have t0:((n:Int) !=(n:Int))=false:=by simp
   go_enter func141,ntmps141;go_wp2_with fail
   go_loopw [17] (fun i wr=>∃j:Nat,i= .int .i64 j∧j≤n∧Below w.heap.size w wr∧Hid (∀k,k<j→(L.map Pw.x)[k]? =(M.map Pw.x)[k]?)) (fun i _=>n - (intOf i).toNat)
   case atStart=>exact ⟨0,rfl,Nat.zero_le _,Below.refl _ _,fun k hk=>absurd hk (by omega)⟩
   case round=>
    obtain ⟨j,rfl,hj,hBr,HA⟩:=hrel;have hsz:=hBr.size;by_cases hjl:j<n
    · have p0:(j:Int)<(n:Int):=by omega
      have p1:(0:Int)≤(j:Int):=by omega
      have HJ:=Lib.hid (show j+1≤n from hjl);obtain ⟨g1,o1,rfl,hx⟩:=hx0 (by omega);obtain ⟨g2,o2,rfl,hy⟩:=hy0 (by omega);obtain ⟨q,hq⟩:∃q,L[j]? =some q:=⟨_,List.getElem?_eq_getElem (by have:=HN.out;omega)⟩;obtain ⟨r,hr⟩:∃q,M[j]? =some q:=⟨_,List.getElem?_eq_getElem (by have:=HN2.out;omega)⟩;have hq1:(L.map Pw.x)[j]? =some q.x:=by rw [List.getElem?_map,hq];rfl
      have hr1:(M.map Pw.x)[j]? =some r.x:=by rw [List.getElem?_map,hr];rfl
      have hone:=h1 q (List.mem_of_getElem? hq);have adv:=h2 r (List.mem_of_getElem? hr);have hR:=ED hx hq hBr;have hB1:=hBr.alloc hsz (.cells q.arr 39);have hR2:=ED hy hr hB1;have hB2:=hB1.alloc hB1.size (.cells r.arr 39);have DU:((wr.alloc (.cells q.arr 39)).alloc (.cells r.arr 39)).heap[wr.heap.size]? =some (.cells q.arr 39 (0,0)):=AO (aB wr _) _;have YK:((wr.alloc (.cells q.arr 39)).alloc (.cells r.arr 39)).heap[wr.heap.size+1]? =some (.cells r.arr 39 (0,0)):=by rw [←av wr (.cells q.arr 39)];exact aB _ _
      have hc:=hf q (List.mem_of_getElem? hq) r (List.mem_of_getElem? hr) _ hB2;have HT:Hid (q.x=r.x→∀k,k<j+1→(L.map Pw.x)[k]? =(M.map Pw.x)[k]?):=fun he=>yU hq1 hr1 HA.out he
      have HF:Hid (¬q.x=r.x→L.map Pw.x≠M.map Pw.x):=fun he=>Il hq1 hr1 he
      clear hq hr hq1 hr1 hx hy hx0 hy0 hf h1 h2;obtain ⟨x,tc,c,s,wv,pv⟩:=q;obtain ⟨x',YL,c',s',wv',pv'⟩:=r;go_wp2_with (first|refine zU rfl _ rfl rfl rfl hR ?_|refine zU rfl _ rfl rfl rfl hR2 ?_|refine jw rfl _ _ rfl rfl rfl rfl rfl hone ?_|refine jw (b:=wr.heap.size+1) rfl _ _ rfl (av _ _).symm rfl rfl rfl adv ?_|refine bK rfl _ rfl rfl rfl DU ?_|refine bK rfl _ rfl rfl rfl YK ?_);refine hc.mono ?_;rintro e w2 ⟨b,rfl,hb,hb2⟩;have hB3:=hB2.trans (hb2.mono hB2.size);cases b with
      |true=>
       have HT2:=Lib.hid (HT.out (hb.1 rfl));clear hb hc;go_wp2_with fail;go_roundw
       case rel=>exact ⟨j+1,by go_num,HJ.out,hB3,HT2⟩
       case measure=>have hjj:=HJ.out;simp [intOf];omega
      |false=>
       have HF2:=Lib.hid (HF.out (fun h=>absurd (hb.2 h) (by decide)));clear hb hc;go_wp2_with fail;go_ret;exact ⟨false,rfl,by simpa using HF2.out,hB3⟩
    · have jV:j=n:=by omega
      subst jV;have HT:Hid (L.map Pw.x=M.map Pw.x):=yT (by rw [List.length_map,List.length_map];exact HL.out) (by rw [List.length_map,HN.out];exact HA.out);clear HA hf;go_wp2_with fail;go_ret;exact ⟨true,rfl,by simpa using HT.out,hBr⟩
 · have t0:((L.length:Int) !=(M.length:Int))=true:=by rw [bne_iff_ne];omega
   have HT:Hid (L.map Pw.x≠M.map Pw.x):=fun h=>hlen (by have:=congrArg List.length h;simpa using this)
   clear hlen hf;go_enter func141,ntmps141;go_wp2_with fail;go_ret;exact ⟨false,rfl,by simpa using HT.out,Below.refl _ _⟩
theorem t7 {w:World}{b:Nat}{T:TypeId}{a0 a1 a2 a3 a4 a5 a6:Value}(h:w.heap[b]? =some (.cells #[a0,a1,a2,a3,a4,a5,a6] T (0,0))):
 w.cell? ⟨b,0,none⟩=some a0∧w.cell? ⟨b,1,none⟩=some a1∧w.cell? ⟨b,2,none⟩=some a2∧w.cell? ⟨b,3,none⟩=some a3∧w.cell? ⟨b,4,none⟩=some a4∧w.cell? ⟨b,5,none⟩=some a5∧w.cell? ⟨b,6,none⟩=some a6:=
 ⟨aj h 0,aj h 1,aj h 2,aj h 3,aj h 4,aj h 5,aj h 6⟩
theorem sZ (w:World) (A B:Array Value) (S T:TypeId):Below w.heap.size w ((w.alloc (.cells A S)).alloc (.cells B T))∧((w.alloc (.cells A S)).alloc (.cells B T)).heap[w.heap.size]? =some (.cells A S (0,0))∧((w.alloc (.cells A S)).alloc (.cells B T)).heap[w.heap.size+1]? =some (.cells B T (0,0)):=
 ⟨((Below.refl w.heap.size w).alloc (Nat.le_refl _) _).alloc (by rw [av];omega) _,AO (aB w _) _,by rw [←av w (.cells A S)];exact aB _ _⟩
theorem dO (w:World) (A B:Array Value) (S T:TypeId):Below w.heap.size w ((w.alloc (.cells A S)).alloc (.cells B T)).drew∧((w.alloc (.cells A S)).alloc (.cells B T)).drew.heap[w.heap.size]? =some (.cells A S (0,0))∧((w.alloc (.cells A S)).alloc (.cells B T)).drew.heap[w.heap.size+1]? =some (.cells B T (0,0)):=
 ⟨(sZ w A B S T).1.trans ⟨rfl,rfl,rfl,Nat.le_refl _,fun _ _=>rfl⟩,(sZ w A B S T).2.1,(sZ w A B S T).2.2⟩
theorem Gu {a b:ByteArray}(h:a≠b):(a.toList==b.toList)=false:=by rw [bU];exact xA h
theorem l8 {a b:ByteArray}(h:a=b):(a.toList==b.toList)=true:=by rw [bU];exact dY.2 h
theorem EF {a b:Int}(h:a≠b):(a==b)=false:=beq_eq_false_iff_ne.2 h
theorem l9 {a b:Int}(h:a=b):(a==b)=true:=by rw [h];simp
end Go.Proofs.YtnngbhpeeakfaaaGreatDoor
