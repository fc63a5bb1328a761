/- Parts of a proof. -/
import Derived.Deep.DeepCutAuto
import Derived.Deep.CutRange
import Derived.Test.YtcgadodckoalnaaGreatDoorB06
import Derived.Test.YtcgadodckoalnaaGreatDoorB28
set_option maxHeartbeats 8000000
set_option maxRecDepth 100000
namespace Go.Proofs.YtcgadodckoalnaaGreatDoor
open Go.Proofs.Tryz
open Go.RowKit
open aN
theorem rR {ops:Array Oper}{rest:List Oper}{op:Oper}{a:Act}{w:World}{Q:Exit→Act→World→Prop}{b:Nat}{V:Array Value}{T:TypeId}(hw:Region.wanted op (yielded ops a.tmps)=true) (x:Operand) (ho:op.op= .load 31 x)
 (hx:a.eval x= .pointer (some ⟨b,0,none⟩)) (hV:V.size=18) (hb:w.heap[b]? =some (.cells V T (0,0))) (h:wpList prog ops Q rest (a.put op.dst (.agg V)) w):wpList prog ops Q (op::rest) a w:=by
 obtain ⟨d,hu,hd⟩:=Tryz.Kh;refine wpList_step fun K hK=> ?_
 rw [if_pos hw];refine wp_load_mid 31 x ho b 0 hx V.toList d (fun j v hv=> ?_) hu hd (by rw [show V.toList.length=18 by simpa using hV];exact Tryz.vW) (hK _ _ (by simpa using h));rw [Nat.zero_add,au hb];simpa using hv
theorem Vr {w:World}{x:Sx}{a0 a1 a2 a3 a4:Option Addr}{n0 n1 n2 n3 n4 k0 k1 k2 k3 k4:Nat}(t0:decide ((10:Int)<(n1:Int))=true):
 Calls prog 13 #[.agg (aG x (.slice a0 n0 k0) (.slice a1 n1 k1) (.slice a2 n2 k2) (.slice a3 n3 k3) (.slice a4 n4 k4))] w fun e w' =>e= .returned (.bool false)∧Below w.heap.size w w' :=by
 have hB:=(Below.refl w.heap.size w).alloc (Nat.le_refl _) (.cells (aG x (.slice a0 n0 k0) (.slice a1 n1 k1) (.slice a2 n2 k2) (.slice a3 n3 k3) (.slice a4 n4 k4)) 31);have hbl:(w.alloc (.cells (aG x (.slice a0 n0 k0) (.slice a1 n1 k1) (.slice a2 n2 k2) (.slice a3 n3 k3) (.slice a4 n4 k4)) 31)).heap[w.heap.size]? =some (.cells (aG x (.slice a0 n0 k0) (.slice a1 n1 k1) (.slice a2 n2 k2) (.slice a3 n3 k3) (.slice a4 n4 k4)) 31 (0,0)):=aA w _;obtain ⟨c0,c1,c2,c3,c4,c5,c6,c7,c8,c9,c10,c11,c12,c13,c14,c15,c16,c17⟩:=aK hbl;clear c0 c1 c2 c3 c4 c5 c6 c7 c8 c9 c14 c15 c16;have u10:=aj hbl 10;have u11:=aj hbl 11;have ZW:=aj hbl 12;have u13:=aj hbl 13;have u17:=aj hbl 17;clear hbl;go_enter func13,ntmps13;go_wp2_with fail;go_ret;exact ⟨rfl,hB⟩
theorem Vs {w:World}{x:Sx}{a0 a1 a2 a3 a4:Option Addr}{n0 n1 n2 n3 n4 k0 k1 k2 k3 k4:Nat}(t0:decide ((10:Int)<(n1:Int))=false) (t1:decide ((10:Int)<(n2:Int))=true):
 Calls prog 13 #[.agg (aG x (.slice a0 n0 k0) (.slice a1 n1 k1) (.slice a2 n2 k2) (.slice a3 n3 k3) (.slice a4 n4 k4))] w fun e w' =>e= .returned (.bool false)∧Below w.heap.size w w' :=by
 have hB:=(Below.refl w.heap.size w).alloc (Nat.le_refl _) (.cells (aG x (.slice a0 n0 k0) (.slice a1 n1 k1) (.slice a2 n2 k2) (.slice a3 n3 k3) (.slice a4 n4 k4)) 31);have hbl:(w.alloc (.cells (aG x (.slice a0 n0 k0) (.slice a1 n1 k1) (.slice a2 n2 k2) (.slice a3 n3 k3) (.slice a4 n4 k4)) 31)).heap[w.heap.size]? =some (.cells (aG x (.slice a0 n0 k0) (.slice a1 n1 k1) (.slice a2 n2 k2) (.slice a3 n3 k3) (.slice a4 n4 k4)) 31 (0,0)):=aA w _;obtain ⟨c0,c1,c2,c3,c4,c5,c6,c7,c8,c9,c10,c11,c12,c13,c14,c15,c16,c17⟩:=aK hbl;clear c0 c1 c2 c3 c4 c5 c6 c7 c8 c9 c14 c15 c16;have u10:=aj hbl 10;have u11:=aj hbl 11;have ZW:=aj hbl 12;have u13:=aj hbl 13;have u17:=aj hbl 17;clear hbl;go_enter func13,ntmps13;go_wp2_with fail;go_ret;exact ⟨rfl,hB⟩
theorem Vt {w:World}{x:Sx}{a0 a1 a2 a3 a4:Option Addr}{n0 n1 n2 n3 n4 k0 k1 k2 k3 k4:Nat}(t0:decide ((10:Int)<(n1:Int))=false) (t1:decide ((10:Int)<(n2:Int))=false) (t2:decide ((2:Int)<(n3:Int))=true):
 Calls prog 13 #[.agg (aG x (.slice a0 n0 k0) (.slice a1 n1 k1) (.slice a2 n2 k2) (.slice a3 n3 k3) (.slice a4 n4 k4))] w fun e w' =>e= .returned (.bool false)∧Below w.heap.size w w' :=by
 have hB:=(Below.refl w.heap.size w).alloc (Nat.le_refl _) (.cells (aG x (.slice a0 n0 k0) (.slice a1 n1 k1) (.slice a2 n2 k2) (.slice a3 n3 k3) (.slice a4 n4 k4)) 31);have hbl:(w.alloc (.cells (aG x (.slice a0 n0 k0) (.slice a1 n1 k1) (.slice a2 n2 k2) (.slice a3 n3 k3) (.slice a4 n4 k4)) 31)).heap[w.heap.size]? =some (.cells (aG x (.slice a0 n0 k0) (.slice a1 n1 k1) (.slice a2 n2 k2) (.slice a3 n3 k3) (.slice a4 n4 k4)) 31 (0,0)):=aA w _;obtain ⟨c0,c1,c2,c3,c4,c5,c6,c7,c8,c9,c10,c11,c12,c13,c14,c15,c16,c17⟩:=aK hbl;clear c0 c1 c2 c3 c4 c5 c6 c7 c8 c9 c14 c15 c16;have u10:=aj hbl 10;have u11:=aj hbl 11;have ZW:=aj hbl 12;have u13:=aj hbl 13;have u17:=aj hbl 17;clear hbl;go_enter func13,ntmps13;go_wp2_with fail;go_ret;exact ⟨rfl,hB⟩
theorem Vu {w:World}{x:Sx}{a0 a1 a2 a3 a4:Option Addr}{n0 n1 n2 n3 n4 k0 k1 k2 k3 k4:Nat}(t0:decide ((10:Int)<(n1:Int))=false) (t1:decide ((10:Int)<(n2:Int))=false) (t2:decide ((2:Int)<(n3:Int))=false) (t3:decide ((10:Int)<(n0:Int))=true):
 Calls prog 13 #[.agg (aG x (.slice a0 n0 k0) (.slice a1 n1 k1) (.slice a2 n2 k2) (.slice a3 n3 k3) (.slice a4 n4 k4))] w fun e w' =>e= .returned (.bool false)∧Below w.heap.size w w' :=by
 have hB:=(Below.refl w.heap.size w).alloc (Nat.le_refl _) (.cells (aG x (.slice a0 n0 k0) (.slice a1 n1 k1) (.slice a2 n2 k2) (.slice a3 n3 k3) (.slice a4 n4 k4)) 31);have hbl:(w.alloc (.cells (aG x (.slice a0 n0 k0) (.slice a1 n1 k1) (.slice a2 n2 k2) (.slice a3 n3 k3) (.slice a4 n4 k4)) 31)).heap[w.heap.size]? =some (.cells (aG x (.slice a0 n0 k0) (.slice a1 n1 k1) (.slice a2 n2 k2) (.slice a3 n3 k3) (.slice a4 n4 k4)) 31 (0,0)):=aA w _;obtain ⟨c0,c1,c2,c3,c4,c5,c6,c7,c8,c9,c10,c11,c12,c13,c14,c15,c16,c17⟩:=aK hbl;clear c0 c1 c2 c3 c4 c5 c6 c7 c8 c9 c14 c15 c16;have u10:=aj hbl 10;have u11:=aj hbl 11;have ZW:=aj hbl 12;have u13:=aj hbl 13;have u17:=aj hbl 17;clear hbl;go_enter func13,ntmps13;go_wp2_with fail;go_ret;exact ⟨rfl,hB⟩
theorem Vv {w:World}{x:Sx}{a0 a1 a2 a3 a4:Option Addr}{n0 n1 n2 n3 n4 k0 k1 k2 k3 k4:Nat}(t0:decide ((10:Int)<(n1:Int))=false) (t1:decide ((10:Int)<(n2:Int))=false) (t2:decide ((2:Int)<(n3:Int))=false) (t3:decide ((10:Int)<(n0:Int))=false) (t4:decide ((8:Int)<(n4:Int))=true):
 Calls prog 13 #[.agg (aG x (.slice a0 n0 k0) (.slice a1 n1 k1) (.slice a2 n2 k2) (.slice a3 n3 k3) (.slice a4 n4 k4))] w fun e w' =>e= .returned (.bool false)∧Below w.heap.size w w' :=by
 have hB:=(Below.refl w.heap.size w).alloc (Nat.le_refl _) (.cells (aG x (.slice a0 n0 k0) (.slice a1 n1 k1) (.slice a2 n2 k2) (.slice a3 n3 k3) (.slice a4 n4 k4)) 31);have hbl:(w.alloc (.cells (aG x (.slice a0 n0 k0) (.slice a1 n1 k1) (.slice a2 n2 k2) (.slice a3 n3 k3) (.slice a4 n4 k4)) 31)).heap[w.heap.size]? =some (.cells (aG x (.slice a0 n0 k0) (.slice a1 n1 k1) (.slice a2 n2 k2) (.slice a3 n3 k3) (.slice a4 n4 k4)) 31 (0,0)):=aA w _;obtain ⟨c0,c1,c2,c3,c4,c5,c6,c7,c8,c9,c10,c11,c12,c13,c14,c15,c16,c17⟩:=aK hbl;clear c0 c1 c2 c3 c4 c5 c6 c7 c8 c9 c14 c15 c16;have u10:=aj hbl 10;have u11:=aj hbl 11;have ZW:=aj hbl 12;have u13:=aj hbl 13;have u17:=aj hbl 17;clear hbl;go_enter func13,ntmps13;go_wp2_with fail;go_ret;exact ⟨rfl,hB⟩
theorem Vw {w:World}{x:Sx}{a0 a1 a2 a3 a4:Option Addr}{n0 n1 n2 n3 n4 k0 k1 k2 k3 k4:Nat}(t0:decide ((10:Int)<(n1:Int))=false) (t1:decide ((10:Int)<(n2:Int))=false) (t2:decide ((2:Int)<(n3:Int))=false) (t3:decide ((10:Int)<(n0:Int))=false) (t4:decide ((8:Int)<(n4:Int))=false) {b:Bool}(hc:∀w',Below w.heap.size w w' →Calls prog 26 #[.slice a4 n4 k4, .func (.func 27) #[] #[]] w' fun e w'' =>e= .returned (.bool b)∧Below w'.heap.size w' w''):
 Calls prog 13 #[.agg (aG x (.slice a0 n0 k0) (.slice a1 n1 k1) (.slice a2 n2 k2) (.slice a3 n3 k3) (.slice a4 n4 k4))] w fun e w' =>e= .returned (.bool (!b))∧Below w.heap.size w w' :=by
 have hB:=(Below.refl w.heap.size w).alloc (Nat.le_refl _) (.cells (aG x (.slice a0 n0 k0) (.slice a1 n1 k1) (.slice a2 n2 k2) (.slice a3 n3 k3) (.slice a4 n4 k4)) 31);have hbl:(w.alloc (.cells (aG x (.slice a0 n0 k0) (.slice a1 n1 k1) (.slice a2 n2 k2) (.slice a3 n3 k3) (.slice a4 n4 k4)) 31)).heap[w.heap.size]? =some (.cells (aG x (.slice a0 n0 k0) (.slice a1 n1 k1) (.slice a2 n2 k2) (.slice a3 n3 k3) (.slice a4 n4 k4)) 31 (0,0)):=aA w _;obtain ⟨c0,c1,c2,c3,c4,c5,c6,c7,c8,c9,c10,c11,c12,c13,c14,c15,c16,c17⟩:=aK hbl;clear c0 c1 c2 c3 c4 c5 c6 c7 c8 c9 c14 c15 c16;have u10:=aj hbl 10;have u11:=aj hbl 11;have ZW:=aj hbl 12;have u13:=aj hbl 13;have u17:=aj hbl 17;clear hbl;have h1:=hc _ hB;clear hc;go_enter func13,ntmps13;go_wp2_with fail;refine h1.mono ?_;rintro e w2 ⟨rfl,hb2⟩;go_wp2_with fail;go_ret;exact ⟨rfl,hB.trans (hb2.mono hB.size)⟩
theorem abz {w:World}{u:Value}{L:List Pw}{g:Pw→Bool}(hl:L.length≤100000) (hr:Rd w u L.length (jP L))
 (hf:∀q∈L,∀w',Below w.heap.size w w' →Calls prog 27 #[.agg q.arr] w' fun e w'' =>e= .returned (.bool (g q))∧Below w'.heap.size w' w''):
 Calls prog 72 #[u, .func (.func 27) #[] #[]] w fun e w' =>((∃k:Nat,e= .returned (.int .i64 k)∧L.any g=true)∨(e= .returned (.int .i64 (-1))∧L.any g=false))∧Below w.heap.size w w' :=by
 obtain ⟨a,cap,rfl,hx0⟩:=hr;go_enter func72,ntmps72;go_wp2_with fail
 go_loopw [8] (fun i wr=>∃j:Nat,i= .int .i64 j∧j≤L.length∧Below w.heap.size w wr∧Hid ((L.take j).any g=false)) (fun i _=>L.length - (intOf i).toNat)
 case atStart=>exact ⟨0,rfl,Nat.zero_le _,Below.refl _ _,rfl⟩
 case round=>
  obtain ⟨j,rfl,hj,hBr,HA⟩:=hrel;have hsz:=hBr.size;by_cases hjl:j<L.length
  · have p0:(j:Int)<(L.length:Int):=by omega
    have p1:(0:Int)≤(j:Int):=by omega
    have HJ:=Lib.hid (show j+1≤L.length from hjl);obtain ⟨ga,o,rfl,hx⟩:=hx0 (by omega);obtain ⟨q,hq⟩:∃q,L[j]? =some q:=⟨_,List.getElem?_eq_getElem hjl⟩;have HQ:=Lib.hid hq
    have hR:wr.rangeAt ga (o+j*18) q.arr.toList:=fun i v hv=>by
     have hi:i<18:=by have:=(List.getElem?_eq_some_iff.1 hv).1;simp [Pw.arr]at this;omega
     have:=hx (j*18+i) v (by rw [CG hq i hi];exact hv);rw [Nat.add_assoc];exact aJ hBr this
    have hc:=hf q (List.mem_of_getElem? hq) _ hBr
    have HT:Hid ((L.take (j+1)).any g=g q):=by
     obtain ⟨hj2,rfl⟩:=List.getElem?_eq_some_iff.1 hq;show _=_;rw [List.take_succ_eq_append_getElem hj2,List.any_append,HA.out];simp
    clear hq hx;cases hg:g q with
    |false=>
     rw [hg]at hc HT;have HG:=Lib.hid hg;clear hg;obtain ⟨x,tc,c,s,wv,pv⟩:=q;go_wp2_with (refine zi rfl _ rfl rfl rfl hR ?_);refine hc.mono ?_;rintro e w2 ⟨rfl,hb2⟩;have hB2:=hBr.trans (hb2.mono hsz);go_wp2_with fail;go_roundw
     case rel=>exact ⟨j+1,by go_num,HJ.out,hB2,HT⟩
     case measure=>have hjj:=HJ.out;simp [intOf];omega
    |true=>
     rw [hg]at hc HT;have HY:Hid (L.any g=true):=List.any_eq_true.2 ⟨q,List.mem_of_getElem? HQ.out,hg⟩;clear hg;obtain ⟨x,tc,c,s,wv,pv⟩:=q;go_wp2_with (refine zi rfl _ rfl rfl rfl hR ?_);refine hc.mono ?_;rintro e w2 ⟨rfl,hb2⟩;have hB2:=hBr.trans (hb2.mono hsz);go_wp2_with fail;go_ret;exact ⟨Or.inl ⟨j,rfl,HY.out⟩,hB2⟩
  · have mF:j=L.length:=by omega
    subst mF;have HA2:Hid (L.any g=false):=by show _=_;have:=HA.out;rwa [List.take_length]at this
    clear HA;go_wp2_with fail;go_ret;exact ⟨Or.inr ⟨rfl,HA2.out⟩,hBr⟩
theorem SH {w:World}{u:Value}{L:List Pw}{g:Pw→Bool}(hl:L.length≤100000) (hr:Rd w u L.length (jP L))
 (hf:∀q∈L,∀w',Below w.heap.size w w' →Calls prog 27 #[.agg q.arr] w' fun e w'' =>e= .returned (.bool (g q))∧Below w'.heap.size w' w''):
 Calls prog 26 #[u, .func (.func 27) #[] #[]] w fun e w' =>e= .returned (.bool (L.any g))∧Below w.heap.size w w' :=by
 have hi:=abz hl hr hf;clear hr hf;obtain ⟨r,hr⟩:∃r,L.any g=r:=⟨_,rfl⟩;rw [hr]at hi⊢;clear hr;go_enter func26,ntmps26;go_wp2_with fail;refine hi.mono ?_;rintro e w2 ⟨⟨k,rfl,rfl⟩|⟨rfl,rfl⟩,hb2⟩
 · have p1:(0:Int)≤(k:Int):=by omega
   go_wp2_with fail;go_ret;exact ⟨rfl,hb2⟩
 · go_wp2_with fail;go_ret;exact ⟨rfl,hb2⟩
theorem QZ {w:World}{x:Sx}{tc c s wv:Value}{a4:Option Addr}{n4 k4:Nat}  (_t:decide ((0:Int)<(n4:Int))=true) (_t2:decide (0<n4)=true) (t3:0<n4):
 Calls prog 27 #[.agg (aG x tc c s wv (.slice a4 n4 k4))] w fun e w' =>e= .returned (.bool true)∧Below w.heap.size w w' :=by
 have hB:=(Below.refl w.heap.size w).alloc (Nat.le_refl _) (.cells (aG x tc c s wv (.slice a4 n4 k4)) 31);have hbl:(w.alloc (.cells (aG x tc c s wv (.slice a4 n4 k4)) 31)).heap[w.heap.size]? =some (.cells (aG x tc c s wv (.slice a4 n4 k4)) 31 (0,0)):=aA w _;obtain ⟨c0,c1,c2,c3,c4,c5,c6,c7,c8,c9,c10,c11,c12,c13,c14,c15,c16,c17⟩:=aK hbl;clear c0 c1 c2 c3 c4 c5 c6 c7 c8 c9 c10 c11 c12 c13 c14 c15 c16;have u17:=aj hbl 17;go_enter func27,ntmps27;go_wp2_with fail;go_ret;exact ⟨rfl,hB⟩
theorem Vx {w:World}{x:Sx}{tc c s wv:Value}{a4:Option Addr}{n4 k4:Nat}{b:Bool}(hc:∀w',Below w.heap.size w w' →Calls prog 13 #[.agg (aG x tc c s wv (.slice a4 n4 k4))] w' fun e w'' =>e= .returned (.bool b)∧Below w'.heap.size w' w'') (hn:n4=0):
 Calls prog 27 #[.agg (aG x tc c s wv (.slice a4 n4 k4))] w fun e w' =>e= .returned (.bool (!b))∧Below w.heap.size w w' :=by
 have hB:=(Below.refl w.heap.size w).alloc (Nat.le_refl _) (.cells (aG x tc c s wv (.slice a4 n4 k4)) 31);have hbl:(w.alloc (.cells (aG x tc c s wv (.slice a4 n4 k4)) 31)).heap[w.heap.size]? =some (.cells (aG x tc c s wv (.slice a4 n4 k4)) 31 (0,0)):=aA w _;obtain ⟨c0,c1,c2,c3,c4,c5,c6,c7,c8,c9,c10,c11,c12,c13,c14,c15,c16,c17⟩:=aK hbl;clear c0 c1 c2 c3 c4 c5 c6 c7 c8 c9 c10 c11 c12 c13 c14 c15 c16;have u17:=aj hbl 17;have h1:=hc _ hB;clear hc;subst hn;go_enter func27,ntmps27;go_wp2_with (refine rR (by go_simp) _ rfl rfl rfl hbl ?_);refine h1.mono ?_;rintro e w2 ⟨rfl,hb2⟩;go_wp2_with fail;go_ret;exact ⟨rfl,hB.trans (hb2.mono hB.size)⟩
theorem Oz {w:World}{x:Sx}{tc c s wv pv:Value}{n:Nat}{ys:List Value}{b:Bool}(hin:iJ w x tc c s wv) (hp:Rd w pv n ys)
 (hc:jw x=true→n≤8→∀w',Below w.heap.size w w' →Calls prog 26 #[pv, .func (.func 27) #[] #[]] w' fun e w'' =>e= .returned (.bool b)∧Below w'.heap.size w' w''):
 Calls prog 13 #[.agg (aG x tc c s wv pv)] w fun e w' =>e= .returned (.bool (jw x&&decide (n≤8)&& !b))∧Below w.heap.size w w' :=by
 obtain ⟨⟨a0,k0,rfl,_⟩,⟨a1,k1,rfl,_⟩,⟨a2,k2,rfl,_⟩,⟨a3,k3,rfl,_⟩⟩:=hin;obtain ⟨a4,k4,rfl,_⟩:=hp;unfold jw at hc⊢
 have no:¬(x.aI.length≤10∧x.sets.length≤10∧x.aH.length≤2∧x.aB.length≤10)∨¬n≤8→(decide (x.aI.length≤10∧x.sets.length≤10∧x.aH.length≤2∧x.aB.length≤10)&&decide (n≤8)&& !b)=false:=by
  rintro (h|h)
  · rw [decide_eq_false h];rfl
  · rw [decide_eq_false h,Bool.and_false,Bool.false_and]
 by_cases h0:10<x.aI.length
 · rw [no (Or.inl (by omega))];exact Vr (decide_eq_true (by omega))
 have f0:decide ((10:Int)<(x.aI.length:Int))=false:=decide_eq_false (by omega);by_cases h1:10<x.sets.length
 · rw [no (Or.inl (by omega))];exact Vs f0 (decide_eq_true (by omega))
 have f1:decide ((10:Int)<(x.sets.length:Int))=false:=decide_eq_false (by omega);by_cases h2:2<x.aH.length
 · rw [no (Or.inl (by omega))];exact Vt f0 f1 (decide_eq_true (by omega))
 have f2:decide ((2:Int)<(x.aH.length:Int))=false:=decide_eq_false (by omega);by_cases h3:10<x.aB.length
 · rw [no (Or.inl (by omega))];exact Vu f0 f1 f2 (decide_eq_true (by omega))
 have f3:decide ((10:Int)<(x.aB.length:Int))=false:=decide_eq_false (by omega);by_cases h4:8<n
 · rw [no (Or.inr (by omega))];exact Vv f0 f1 f2 f3 (decide_eq_true (by omega))
 have f4:decide ((8:Int)<(n:Int))=false:=decide_eq_false (by omega);have hy:x.aI.length≤10∧x.sets.length≤10∧x.aH.length≤2∧x.aB.length≤10:=by omega
 rw [decide_eq_true hy,decide_eq_true (show n≤8 by omega)];exact Vw f0 f1 f2 f3 f4 (hc (decide_eq_true hy) (by omega))
theorem SI:∀L:List Pw,L.all (jw ∘ Pw.x)= !(L.any fun q=> !jw q.x)
 | []=>rfl
 |q::l=>by rw [List.all_cons,List.any_cons,Bool.not_or,Bool.not_not,SI l];rfl
theorem Q0 {w:World}{p:Pw}(h:iJ w p.x p.tc p.c p.s p.wv) (hp:Rd w p.pv 0 []):
 Calls prog 13 #[.agg p.arr] w fun e w' =>e= .returned (.bool (jw p.x))∧Below w.heap.size w w' :=by
 have:=Oz (b:=false) h hp (fun _ _ w' hb=>SH (L:= []) (g:=fun _=>false) (by decide) (hp.below hb) (fun q hq=>absurd hq (by simp)));simp only [Bool.not_false,Bool.and_true,Nat.zero_le,decide_true]at this;exact this
theorem Q5 {w:World}{p:Pw}{n:Nat}{ys:List Value}(h:iJ w p.x p.tc p.c p.s p.wv) (hp:Rd w p.pv n ys) (hn:n=0→ys= []):
 Calls prog 27 #[.agg p.arr] w fun e w' =>e= .returned (.bool (decide (0<n)|| !jw p.x))∧Below w.heap.size w w' :=by
 obtain ⟨x,tc,c,s,wv,pv⟩:=p;by_cases h0:0<n
 · obtain ⟨a4,k4,rfl,_⟩:=hp;rw [decide_eq_true h0];exact QZ (decide_eq_true (by omega)) (decide_eq_true h0) h0
 · have e:n=0:=by omega
   subst e;have hy:=hn rfl;subst hy;have hp' :=hp;obtain ⟨a4,k4,rfl,_⟩:=hp';rw [decide_eq_false h0,Bool.false_or];exact Vx (b:=jw x) (fun w' hb=>Q0 (p:=⟨x,tc,c,s,wv, .slice a4 0 k4⟩) (h.below hb) (hp.below hb)) rfl
theorem Vy {w:World}{p:Pw}{L:List Pw}(h:iJ w p.x p.tc p.c p.s p.wv) (hp:Rd w p.pv L.length (jP L)) (hq:∀q∈L,iJ w q.x q.tc q.c q.s q.wv∧Rd w q.pv 0 []):
 Calls prog 13 #[.agg p.arr] w fun e w' =>e= .returned (.bool (rC ⟨p.x,L.map Pw.x⟩))∧Below w.heap.size w w' :=by
 have hb:rC ⟨p.x,L.map Pw.x⟩=(jw p.x&&decide (L.length≤8)&& !(L.any fun q=> !jw q.x)):=by
  unfold rC;simp only [List.length_map,List.all_map];congr 1;exact SI L
 rw [hb];refine Oz h hp (fun _ hn w' hb=>SH (by omega) (hp.below hb) (fun q hq' w'' hb' => ?_));have:=Q5 (p:=q) (w:=w'') ((hq q hq').1.below (hb.trans (hb'.mono hb.size))) ((hq q hq').2.below (hb.trans (hb'.mono hb.size))) (fun _=>rfl);simp only [Nat.lt_irrefl,decide_false,Bool.false_or]at this;exact this
theorem abA {t:Tm}(h:nT t):DR t:=by
 rcases h with ⟨h1,_,h3,h4⟩|⟨h1,h2,h3,h4⟩
 · exact ⟨by rw [h1];exact ⟨by decide,by decide⟩,by rw [h4];exact ⟨by decide,by decide⟩,by omega⟩
 · refine ⟨by rw [h1];exact ⟨by decide,by decide⟩,⟨by omega,by omega⟩, ?_⟩;rw [h2];exact Nat.zero_le _
theorem yI {L:List Pr}{n:Nat}(hn:n≤100) (h:∀p∈L,nW p) (hl:L.length≤n):qD L:=
 ⟨by omega,fun q hq=>⟨abA (h q hq).2,by have:=(h q hq).1.2.2.1;omega⟩⟩
theorem jB:qD []:=⟨by decide,by simp⟩
theorem sV {α:Type}{P:α→Prop}:([]:List α).length≤90∧∀q∈([]:List α),P q:=⟨Nat.zero_le _,fun _ h=>nomatch h⟩
theorem dX:Ba 0:=⟨by decide,by decide⟩
theorem Q6 {n:Int}(h:jR n):Ba n:=⟨by have:=h.1;omega,by have:=h.2;omega⟩
theorem AJ {b:Bool}{stamp ttl:Int}(h:vC b stamp ttl):Ba stamp∧Ba ttl:=by
 refine ⟨?_, ?_⟩
 · rcases h.1 with rfl|h1
   · exact dX
   · exact Q6 h1
 · rcases h.2 with rfl|h1
   · exact dX
   · exact Q6 h1.2
theorem iC {s:ByteArray}(h:dz s):s.size≤2000000:=by have:=h.2.2.1;omega
theorem Me {l:List ByteArray}{most:Nat}(hm:most≤90) (h:qZ most l):l.length≤90∧∀q∈l,q.size≤2000000:=⟨by have:=h.2.2;omega,fun q hq=>iC (h.1 q hq)⟩
theorem bU (n:Nat):(⟨#[]⟩:ah).size≤n:=Nat.zero_le _
theorem FE:∀{c:List ByteArray}{v:List Tm}{p:Pr},p∈List.zipWith Pr.mk c v→p.name∈c∧p.t∈v
 | [],_,_,h=>absurd h (by simp)
 |_::_, [],_,h=>absurd h (by simp)
 |a::c,b::v,p,h=>by
  rw [List.zipWith_cons_cons]at h;rcases List.mem_cons.1 h with rfl|h
  · exact ⟨List.mem_cons_self ..,List.mem_cons_self ..⟩
  · obtain ⟨h1,h2⟩:=FE h;exact ⟨List.mem_cons_of_mem _ h1,List.mem_cons_of_mem _ h2⟩
theorem aN.GC.st {x:Sx}{L:List To}(h:GC x L):gB x:=by
 cases h with
 |insert o c v a b h=>
  obtain ⟨h1,h2,h3,h4,h5,h6⟩:=h;obtain ⟨u1,u2⟩:=AJ h6;exact ⟨bU _,iC h1,bU _,bU _,bU _,sV,sV,yI (n:=10) (by decide) (fun p hp=>⟨h3.1 _ (FE hp).1,h5 _ (FE hp).2⟩) (by show (List.zipWith Pr.mk c v).length≤10;rw [List.length_zipWith];have:=h3.2.2;omega),jB,Nat.zero_le _,u1,u2,dX⟩
 |update o a b c v h=>
  obtain ⟨h1,h2,⟨h3,h4,h5,h6⟩,h7,h8⟩:=h;obtain ⟨u1,u2⟩:=AJ h2;exact ⟨bU _,iC h1,bU _,bU _,bU _,sV,sV,yI (n:=8) (by decide) h4 h6,yI (n:=2) (by decide) h7 (by show v.length≤2;omega),by show v.length≤90;omega,u1,u2,dX⟩
 |remove o a b c h=>
  obtain ⟨h1,h2,h3,h7,h8⟩:=h;obtain ⟨u1,u2⟩:=AJ h3;exact ⟨bU _,iC h2,bU _,bU _,bU _,sV,Me (by decide) h1,jB,yI (n:=2) (by decide) h7 (by show c.length≤2;omega),by show c.length≤90;omega,u1,dX,dX⟩
theorem aN.GP.st {x:Sx}{L:List To}(h:GP x L):gB x:=by
 cases h with
 |ask o c v a h=>
  obtain ⟨h1,h2,⟨h7,h8⟩,h9⟩:=h;refine ⟨bU _,iC h2,bU _,bU _,bU _,sV,Me (by decide) h1,jB,yI (n:=2) (by decide) h7 (by show v.length≤2;omega),by show v.length≤90;omega,dX,dX, ?_⟩;rcases h9 with rfl|h9
  · exact dX
  · exact Q6 h9
 |view o c v a p q h=>
  obtain ⟨h1,h2,h3,h4,h5,h6⟩:=h;have hz:DR Tm.zero:=⟨dX,dX,bU _⟩;refine ⟨iC h1,iC h3,iC h4,bU _,bU _,sV,Me (by decide) h2,jB,⟨(show (2:Nat)≤100 by decide), ?_⟩,(show (2:Nat)≤90 by decide),dX,dX,dX⟩;intro r hr;rcases List.mem_cons.1 hr with rfl|hr
  · exact ⟨hz,iC h5⟩
  · rcases List.mem_cons.1 hr with rfl|hr
    · exact ⟨hz,iC h6⟩
    · cases hr
 |index o c v h=>exact ⟨iC h.1,iC h.2.1,iC h.2.2,bU _,bU _,sV,sV,jB,jB,Nat.zero_le _,dX,dX,dX⟩
 |drop o h=>exact ⟨iC h,bU _,bU _,bU _,bU _,sV,sV,jB,jB,Nat.zero_le _,dX,dX,dX⟩
 |table o c v a h=>
  obtain ⟨p,q,D,hp,hq,e0,_,ok⟩:=kX h;rw [e0];have hn:=ok.2.1;have hl:=ok.2.2.2.1;exact ⟨iC ok.1,bU _,bU _,iC (hn p (List.mem_cons_self ..)).1,iC (hn q (List.mem_cons_of_mem _ (List.mem_cons_self ..))).1,⟨by show D.length≤90;simp at hl;omega,fun r hr=>iC (hn r (List.mem_cons_of_mem _ (List.mem_cons_of_mem _ hr))).1⟩,sV,jB,jB,Nat.zero_le _,dX,dX,dX⟩
theorem SK (k:Int):gB {Sx.zero with kind:=k}:=⟨bU _,bU _,bU _,bU _,bU _,sV,sV,jB,jB,Nat.zero_le _,dX,dX,dX⟩
theorem aN.GB.st {l:List Sx}{L:List To}(h:GB l L):∀y∈l,gB y:=by
 induction h with
 |nil=>simp
 |cons hx _ ih=>
  intro y hy;rcases List.mem_cons.1 hy with rfl|hy
  · exact hx.st
  · exact ih y hy
theorem aN.GN.st {nd:Tx.Nd}{L:List To}(h:GN nd L):gB (je nd).x∧(∀y∈(je nd).parts,gB y)∧(je nd).parts.length≤8:=by
 cases h with
 |plain h=>exact ⟨h.st,(fun _ h=>nomatch h),Nat.zero_le _⟩
 |change h=>exact ⟨h.st,(fun _ h=>nomatch h),Nat.zero_le _⟩
 |batch h h1 h2=>exact ⟨SK 9,h.st,h2⟩
def JB (w:World) (base:Nat) (nd:Tx.Nd) (v:Value):Prop:=
 match nd with
 | .plain x=>∃tc c s wv,v= .iface 100 (.agg (aG x tc c s wv ak))∧eX w base x tc c s wv
 | .change x=>∃tc c s wv,v= .iface 133 (.agg (aG x tc c s wv ak))∧eX w base x tc c s wv
 | .batch l=>∃(L:List Pv) (a:Option Addr) (cap:Nat),L.map Pv.x=l∧v= .iface 138 (.agg #[.slice a L.length cap])∧w.ownsRow base 47 1 (.slice a L.length cap) L.length (L.map Pv.val)∧fO w base L
theorem uX {K:PK}{w:World}{nd:Tx.Nd}{σ:Ps}{e:Ending}{w' :World}(h:rO K w nd σ e w'):∃v,e= .returned v∧Did K w σ w' ∧JB w' w.heap.size nd v:=by
 cases nd with
 |plain x=>obtain ⟨tc,c,s,wv,rfl,hd,hr⟩:=h;exact ⟨_,rfl,hd,tc,c,s,wv,rfl,hr⟩
 |change x=>obtain ⟨tc,c,s,wv,rfl,hd,hr⟩:=h;exact ⟨_,rfl,hd,tc,c,s,wv,rfl,hr⟩
 |batch l=>obtain ⟨L,a,cap,hL,rfl,hd,hr,hp⟩:=h;exact ⟨_,rfl,hd,L,a,cap,hL,rfl,hr,hp⟩
theorem JB.map {w w' :World}{base:Nat}{nd:Tx.Nd}{v:Value}(h:JB w base nd v) (f:∀(e:TypeId) (size n:Nat) (u:Value) (xs:List Value),w.ownsRow base e size u n xs→w'.ownsRow base e size u n xs):JB w' base nd v:=by
 cases nd with
 |plain x=>obtain ⟨tc,c,s,wv,hv,hr⟩:=h;exact ⟨tc,c,s,wv,hv,hr.map fun _ _ _ _ _ _ hq=>f _ _ _ _ _ hq⟩
 |change x=>obtain ⟨tc,c,s,wv,hv,hr⟩:=h;exact ⟨tc,c,s,wv,hv,hr.map fun _ _ _ _ _ _ hq=>f _ _ _ _ _ hq⟩
 |batch l=>obtain ⟨L,a,cap,hL,hv,hr,hp⟩:=h;exact ⟨L,a,cap,hL,hv,f _ _ _ _ _ hr,hp.map fun _ _ _ _ _ _ hq=>f _ _ _ _ _ hq⟩
theorem JB.did {K:PK}{σ:Ps}{w w' :World}{base:Nat}{nd:Tx.Nd}{v:Value}(h:JB w base nd v) (hd:Did K w σ w') (hb:K.L≤base):JB w' base nd v:=h.map fun _ _ _ _ _ hr=>hd.row hr hb
theorem JB.below {w w' :World}{base:Nat}{nd:Tx.Nd}{v:Value}(h:JB w base nd v) (hb:Below w.heap.size w w'):JB w' base nd v:=h.map fun _ _ _ _ _ hr=>fC hr hb
structure oq (w:World) (base:Nat) (p:Pw) (L:List Pw) (z:kD):Prop where
 x:p.x=z.x
 parts:L.map Pw.x=z.parts
 rows:eX w base p.x p.tc p.c p.s p.wv
 row:w.ownsRow base 31 18 p.pv L.length (jP L)
 each:∀q∈L,eX w base q.x q.tc q.c q.s q.wv∧q.pv=ak
theorem eX.rd {w:World}{base:Nat}{x:Sx}{tc c s wv:Value}(h:eX w base x tc c s wv):iJ w x tc c s wv:=⟨Rd.own h.1,Rd.own h.2.1,Rd.own h.2.2.1,Rd.own h.2.2.2⟩
theorem Q7 (w:World):Rd w ak 0 []:=⟨none,0,rfl,fun h=>absurd h (by decide)⟩
structure zQ (w:World) (p:Pw) (L:List Pw):Prop where
 st:iJ w p.x p.tc p.c p.s p.wv
 pv:Rd w p.pv L.length (jP L)
 each:∀q∈L,iJ w q.x q.tc q.c q.s q.wv∧Rd w q.pv 0 []
theorem zQ.below {w w' :World}{p:Pw}{L:List Pw}(h:zQ w p L) (hb:Below w.heap.size w w'):zQ w' p L:=
 ⟨h.st.below hb,h.pv.below hb,fun q hq=>⟨(h.each q hq).1.below hb,(h.each q hq).2.below hb⟩⟩
theorem abB (w:World):Rd w ak 0 []:=⟨none,0,rfl,fun h=>absurd h (by omega)⟩
theorem oq.wd {w:World}{base:Nat}{p:Pw}{L:List Pw}{z:kD}(h:oq w base p L z):zQ w p L:=
 ⟨h.rows.rd,Rd.own h.row,fun q hq=>⟨(h.each q hq).1.rd,by rw [(h.each q hq).2];exact abB w⟩⟩
theorem oq.z {w:World}{base:Nat}{p:Pw}{L:List Pw}{z:kD}(h:oq w base p L z):(⟨p.x,L.map Pw.x⟩:kD)=z:=by rw [h.x,h.parts]
def Wx (p:Pw) (L:List Pw):Prop:=gB p.x∧∀q∈L,gB q.x
theorem Rd.one {w:World}{u:Value}{n:Nat}{xs:List Value}(h:Rd w u n xs):u.oneCell' =true:=by
 obtain ⟨_,_,rfl,_⟩:=h;rfl
theorem zQ.one {w:World}{p:Pw}{L:List Pw}(h:zQ w p L):p.arr.toList.all (·.oneCell')=true:=h.st.one h.pv.one
theorem zQ.pw {w:World}{p:Pw}{L:List Pw}(h:zQ w p L) (hs:Wx p L):zB w p∧∀q∈L,zB w q∧Rd w q.pv 0 []:=
 ⟨⟨hs.1,h.st,h.pv.one⟩,fun q hq=>⟨⟨hs.2 q hq,(h.each q hq).1,(h.each q hq).2.one⟩,(h.each q hq).2⟩⟩
theorem Io {w:World}{p:Pw}{L:List Pw}(h:zQ w p L):
 Calls prog 13 #[.agg p.arr] w fun e w' =>e= .returned (.bool (rC ⟨p.x,L.map Pw.x⟩))∧Below w.heap.size w w' :=Vy h.st h.pv h.each
theorem Kt {w:World}{p:Pw}{L:List Pw}(hG:Gp w) (h:zQ w p L) (hs:Wx p L) (hl:L.length≤100):
 Calls prog 14 #[.agg p.arr] w fun e w' =>e= .returned (.string (eO ⟨p.x,L.map Pw.x⟩))∧Below w.heap.size w w' :=
 zl hG (h.pw hs).1 fun _=>⟨hl,h.pv,(h.pw hs).2⟩
def Pn (x:Sx):Prop:=x.aB.length≤100000∧x.aI.length≤100000∧x.sets.length≤100000∧x.aH.length≤100000
def SmS (z:kD):Prop:=Pn z.x∧z.parts.length≤100000∧∀y∈z.parts,Pn y
theorem OA {x:Sx}(h:jw x=true):Pn x:=by
 have h:=of_decide_eq_true h;unfold Pn;omega
theorem yJ {z:kD}(h:rC z=true):jw z.x=true∧z.parts.length≤8∧∀y∈z.parts,jw y=true:=by
 unfold rC at h;simp only [Bool.and_eq_true,decide_eq_true_eq,List.all_eq_true]at h;exact ⟨h.1.1,h.1.2,h.2⟩
theorem OB {z:kD}(h:jw z.x=true∧z.parts.length≤8∧∀y∈z.parts,jw y=true):SmS z:=
 ⟨OA h.1,by omega,fun y hy=>OA (h.2.2 y hy)⟩
theorem Zd {z:kD}(h:May z):SmS z:=OB (yJ (Ag h))
theorem Ze {p:Pw}{L:List Pw}(h:May ⟨p.x,L.map Pw.x⟩):Wx p L:=by
 obtain ⟨nd,l,hG,he,_⟩:=h;have hs:=hG.st;rw [←he]at hs;exact ⟨hs.1,fun q hq=>hs.2.1 q.x (List.mem_map.2 ⟨q,hq,rfl⟩)⟩
theorem bL {w w' :World}{b:Nat}{o:Obj}(hb:Below w.heap.size w w') (h:w.heap[b]? =some o):w'.heap[b]? =some o:=by
 rw [hb.block _ (aD h)];exact h
theorem uY {w:World}{b:Nat}{o:Obj}(h:w.heap[b]? =some o) (o' :Obj):(w.alloc o').heap[b]? =some o:=
 bL ((Below.refl w.heap.size w).alloc (Nat.le_refl _) o') h
theorem ou {w wr:World}{L:List Pw}{g o j:Nat}{q:Pw}(hx:∀k v,(jP L)[k]? =some v→w.cell? ⟨g,o+k,none⟩=some v) (hq:L[j]? =some q) (hB:Below w.heap.size w wr):wr.rangeAt g (o+j*18) q.arr.toList:=fun i v hv=>by
 have hi:i<18:=by have:=(List.getElem?_eq_some_iff.1 hv).1;simp [Pw.arr]at this;omega
 have:=hx (j*18+i) v (by rw [CG hq i hi];exact hv);rw [Nat.add_assoc];exact aJ hB this
theorem SL {w:World}{u v:Value}{L M:List Pw}(hu:Rd w u L.length (jP L)) (hv:Rd w v M.length (jP M)) (hl:L.length≤100000) (_hm:M.length≤100000)
 (h1:∀p∈L,p.arr.toList.all (·.oneCell')=true) (h2:∀p∈M,p.arr.toList.all (·.oneCell')=true)
 (hf:∀p∈L,∀q∈M,∀w',Below w.heap.size w w' →Calls prog 15 #[.agg p.arr, .agg q.arr] w' fun e w'' =>∃b:Bool,e= .returned (.bool b)∧(b=true ↔ p.x=q.x)∧Below w'.heap.size w' w''):
 Calls prog 45 #[u,v, .func (.func 15) #[] #[]] w fun e w' =>∃b:Bool,e= .returned (.bool b)∧(b=true ↔ L.map Pw.x=M.map Pw.x)∧Below w.heap.size w w' :=by
 obtain ⟨a1,k1,rfl,hx0⟩:=hu;obtain ⟨a2,k2,rfl,hy0⟩:=hv;by_cases hlen:L.length=M.length
 · have HL:=Lib.hid hlen;obtain ⟨n,hn⟩:∃n,L.length=n:=⟨_,rfl⟩;have hn2:M.length=n:=by omega
   have HN:=Lib.hid hn;have su:=Lib.hid hn2;rw [hn]at hx0 hl⊢;rw [hn2]at hy0⊢;clear hlen hn hn2 _hm;have t0:((n:Int) !=(n:Int))=false:=by simp
   go_enter func45,ntmps45;go_wp2_with fail
   go_loopw [17] (fun i wr=>∃j:Nat,i= .int .i64 j∧j≤n∧Below w.heap.size w wr∧Hid (∀k,k<j→(L.map Pw.x)[k]? =(M.map Pw.x)[k]?)) (fun i _=>n - (intOf i).toNat)
   case atStart=>exact ⟨0,rfl,Nat.zero_le _,Below.refl _ _,fun k hk=>absurd hk (by omega)⟩
   case round=>
    obtain ⟨j,rfl,hj,hBr,HA⟩:=hrel;have hsz:=hBr.size;by_cases hjl:j<n
    · have p0:(j:Int)<(n:Int):=by omega
      have p1:(0:Int)≤(j:Int):=by omega
      have HJ:=Lib.hid (show j+1≤n from hjl);obtain ⟨g1,o1,rfl,hx⟩:=hx0 (by omega);obtain ⟨g2,o2,rfl,hy⟩:=hy0 (by omega);obtain ⟨q,hq⟩:∃q,L[j]? =some q:=⟨_,List.getElem?_eq_getElem (by have:=HN.out;omega)⟩;obtain ⟨r,hr⟩:∃q,M[j]? =some q:=⟨_,List.getElem?_eq_getElem (by have:=su.out;omega)⟩;have hq1:(L.map Pw.x)[j]? =some q.x:=by rw [List.getElem?_map,hq];rfl
      have hr1:(M.map Pw.x)[j]? =some r.x:=by rw [List.getElem?_map,hr];rfl
      have hone:=h1 q (List.mem_of_getElem? hq);have agb:=h2 r (List.mem_of_getElem? hr);have hR:=ou hx hq hBr;have hB1:=hBr.alloc hsz (.cells q.arr 31);have hR2:=ou hy hr hB1;have hB2:=hB1.alloc hB1.size (.cells r.arr 31);have DI:((wr.alloc (.cells q.arr 31)).alloc (.cells r.arr 31)).heap[wr.heap.size]? =some (.cells q.arr 31 (0,0)):=uY (aA wr _) _;have qb:((wr.alloc (.cells q.arr 31)).alloc (.cells r.arr 31)).heap[wr.heap.size+1]? =some (.cells r.arr 31 (0,0)):=by rw [←av wr (.cells q.arr 31)];exact aA _ _
      have hc:=hf q (List.mem_of_getElem? hq) r (List.mem_of_getElem? hr) _ hB2;have HT:Hid (q.x=r.x→∀k,k<j+1→(L.map Pw.x)[k]? =(M.map Pw.x)[k]?):=fun he=>CO hq1 hr1 HA.out he
      have HF:Hid (¬q.x=r.x→L.map Pw.x≠M.map Pw.x):=fun he=>Md hq1 hr1 he
      clear hq hr hq1 hr1 hx hy hx0 hy0 hf h1 h2;obtain ⟨x,tc,c,s,wv,pv⟩:=q;obtain ⟨x',Vz,c',s',wv',pv'⟩:=r;go_wp2_with (first|refine zi rfl _ rfl rfl rfl hR ?_|refine zi rfl _ rfl rfl rfl hR2 ?_|refine fA rfl _ _ rfl rfl rfl rfl rfl hone ?_|refine fA (b:=wr.heap.size+1) rfl _ _ rfl (av _ _).symm rfl rfl rfl agb ?_|refine aT rfl _ rfl rfl rfl DI ?_|refine aT rfl _ rfl rfl rfl qb ?_);refine hc.mono ?_;rintro e w2 ⟨b,rfl,hb,hb2⟩;have hB3:=hB2.trans (hb2.mono hB2.size);cases b with
      |true=>
       have HT2:=Lib.hid (HT.out (hb.1 rfl));clear hb hc;go_wp2_with fail;go_roundw
       case rel=>exact ⟨j+1,by go_num,HJ.out,hB3,HT2⟩
       case measure=>have hjj:=HJ.out;simp [intOf];omega
      |false=>
       have HF2:=Lib.hid (HF.out (fun h=>absurd (hb.2 h) (by decide)));clear hb hc;go_wp2_with fail;go_ret;exact ⟨false,rfl,by simpa using HF2.out,hB3⟩
    · have mF:j=n:=by omega
      subst mF;have HT:Hid (L.map Pw.x=M.map Pw.x):=CK (by rw [List.length_map,List.length_map];exact HL.out) (by rw [List.length_map,HN.out];exact HA.out);clear HA hf;go_wp2_with fail;go_ret;exact ⟨true,rfl,by simpa using HT.out,hBr⟩
 · have t0:((L.length:Int) !=(M.length:Int))=true:=by rw [bne_iff_ne];omega
   have HT:Hid (L.map Pw.x≠M.map Pw.x):=fun h=>hlen (by have:=congrArg List.length h;simpa using this)
   clear hlen hf;go_enter func45,ntmps45;go_wp2_with fail;go_ret;exact ⟨false,rfl,by simpa using HT.out,Below.refl _ _⟩
theorem t7 {w:World}{b:Nat}{T:TypeId}{a0 a1 a2 a3 a4 a5 a6:Value}(h:w.heap[b]? =some (.cells #[a0,a1,a2,a3,a4,a5,a6] T (0,0))):
 w.cell? ⟨b,0,none⟩=some a0∧w.cell? ⟨b,1,none⟩=some a1∧w.cell? ⟨b,2,none⟩=some a2∧w.cell? ⟨b,3,none⟩=some a3∧w.cell? ⟨b,4,none⟩=some a4∧w.cell? ⟨b,5,none⟩=some a5∧w.cell? ⟨b,6,none⟩=some a6:=
 ⟨au h 0,au h 1,au h 2,au h 3,au h 4,au h 5,au h 6⟩
theorem oN (w:World) (A B:Array Value) (S T:TypeId):Below w.heap.size w ((w.alloc (.cells A S)).alloc (.cells B T))∧((w.alloc (.cells A S)).alloc (.cells B T)).heap[w.heap.size]? =some (.cells A S (0,0))∧((w.alloc (.cells A S)).alloc (.cells B T)).heap[w.heap.size+1]? =some (.cells B T (0,0)):=
 ⟨((Below.refl w.heap.size w).alloc (Nat.le_refl _) _).alloc (by rw [av];omega) _,uY (aA w _) _,by rw [←av w (.cells A S)];exact aA _ _⟩
theorem eT (w:World) (A B:Array Value) (S T:TypeId):Below w.heap.size w ((w.alloc (.cells A S)).alloc (.cells B T)).drew∧((w.alloc (.cells A S)).alloc (.cells B T)).drew.heap[w.heap.size]? =some (.cells A S (0,0))∧((w.alloc (.cells A S)).alloc (.cells B T)).drew.heap[w.heap.size+1]? =some (.cells B T (0,0)):=
 ⟨(oN w A B S T).1.trans ⟨rfl,rfl,rfl,Nat.le_refl _,fun _ _=>rfl⟩,(oN w A B S T).2.1,(oN w A B S T).2.2⟩
theorem sW {a b:ByteArray}(h:a≠b):(a.toList==b.toList)=false:=by rw [dR];exact xM h
theorem jQ {a b:ByteArray}(h:a=b):(a.toList==b.toList)=true:=by rw [dR];exact eD.2 h
theorem EL {a b:Int}(h:a≠b):(a==b)=false:=beq_eq_false_iff_ne.2 h
theorem nL {a b:Int}(h:a=b):(a==b)=true:=by rw [h];simp
end Go.Proofs.YtcgadodckoalnaaGreatDoor
