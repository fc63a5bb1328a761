/- Parts of a proof. -/
import Derived.ProofKit
import Derived.OpenShut
import Derived.Deep.Slices
import Derived.LaidMore
import Derived.RowKit
import Derived.BigQuiet
import Derived.Lib.QuietBelow
import Derived.Test.YtcgadodckoalnaaGreatDoorB29
import Derived.Test.YtcgadodckoalnaaGreatDoorRows
set_option maxHeartbeats 8000000
set_option maxRecDepth 100000
namespace Go.Proofs.YtcgadodckoalnaaGreatDoor
open Go.Proofs.Tryz
open Go.RowKit
open aN
theorem S9 {ops:Array Oper}{rest:List Oper}{op:Oper}{a:Act}{w:World}{Q:Exit→Act→World→Prop}{b o:Nat}{V:Array Value}(hw:Region.wanted op (yielded ops a.tmps)=true) (x:Operand) (ho:op.op= .load 31 x)
 (hx:a.eval x= .pointer (some ⟨b,o,none⟩)) (hV:V.size=18) (hc:w.rangeAt b o V.toList) (h:wpList prog ops Q rest (a.put op.dst (.agg V)) w):wpList prog ops Q (op::rest) a w:=by
 obtain ⟨d,hu,hd⟩:=Tryz.Kh;refine wpList_step fun K hK=> ?_
 rw [if_pos hw];exact wp_load_mid 31 x ho b o hx V.toList d hc hu hd (by rw [show V.toList.length=18 by simpa using hV];exact Tryz.vW) (hK _ _ (by simpa using h))
def lY:Value→Nat
 | .slice _ n _=>n
 |_=>0
def IJ (x:Sx):Bool:=decide (x.aI.length≤12∧x.sets.length≤12∧x.aH.length≤4∧x.aB.length≤12∧x.name.size≤100∧x.bT.size≤100)
theorem V5 {w:World}{x:Sx}{a0 a1 a2 a3 a4:Option Addr}{n0 n1 n2 n3 n4 k0 k1 k2 k3 k4:Nat}(h:12<n1∨12<n2∨4<n3∨12<n0∨8<n4∨100<x.name.size∨100<x.bT.size):
 Calls prog 5 #[.agg (aG x (.slice a0 n0 k0) (.slice a1 n1 k1) (.slice a2 n2 k2) (.slice a3 n3 k3) (.slice a4 n4 k4))] w fun e w' =>e= .returned (.bool false)∧Below w.heap.size w w' :=by
 have hB:=(Below.refl w.heap.size w).alloc (Nat.le_refl _) (.cells (aG x (.slice a0 n0 k0) (.slice a1 n1 k1) (.slice a2 n2 k2) (.slice a3 n3 k3) (.slice a4 n4 k4)) 31);have hbl:(w.alloc (.cells (aG x (.slice a0 n0 k0) (.slice a1 n1 k1) (.slice a2 n2 k2) (.slice a3 n3 k3) (.slice a4 n4 k4)) 31)).heap[w.heap.size]? =some (.cells (aG x (.slice a0 n0 k0) (.slice a1 n1 k1) (.slice a2 n2 k2) (.slice a3 n3 k3) (.slice a4 n4 k4)) 31 (0,0)):=aA w _;obtain ⟨c0,c1,c2,c3,c4,c5,c6,c7,c8,c9,c10,c11,c12,c13,c14,c15,c16,c17⟩:=aK hbl;clear c0 c3 c4 c5 c6 c7 c8 c9 c14 c15 c16;have y1:=aj hbl 1;have y2:=aj hbl 2;have y10:=aj hbl 10;have y11:=aj hbl 11;have Yl:=aj hbl 12;have y13:=aj hbl 13;have y17:=aj hbl 17;clear hbl;by_cases h0:12<n1
 · have t0:decide ((12:Int)<(n1:Int))=true:=decide_eq_true (by omega);clear h h0;go_enter func5,ntmps5;go_wp2_with fail;go_ret;exact ⟨rfl,hB⟩
 have t0:decide ((12:Int)<(n1:Int))=false:=decide_eq_false (by omega);by_cases h1:12<n2
 · have t1:decide ((12:Int)<(n2:Int))=true:=decide_eq_true (by omega);clear h h1;go_enter func5,ntmps5;go_wp2_with fail;go_ret;exact ⟨rfl,hB⟩
 have t1:decide ((12:Int)<(n2:Int))=false:=decide_eq_false (by omega);by_cases h2:4<n3
 · have t2:decide ((4:Int)<(n3:Int))=true:=decide_eq_true (by omega);clear h h2;go_enter func5,ntmps5;go_wp2_with fail;go_ret;exact ⟨rfl,hB⟩
 have t2:decide ((4:Int)<(n3:Int))=false:=decide_eq_false (by omega);by_cases h3:12<n0
 · have t3:decide ((12:Int)<(n0:Int))=true:=decide_eq_true (by omega);clear h h3;go_enter func5,ntmps5;go_wp2_with fail;go_ret;exact ⟨rfl,hB⟩
 have t3:decide ((12:Int)<(n0:Int))=false:=decide_eq_false (by omega);by_cases h4:8<n4
 · have t4:decide ((8:Int)<(n4:Int))=true:=decide_eq_true (by omega);clear h h4;go_enter func5,ntmps5;go_wp2_with fail;go_ret;exact ⟨rfl,hB⟩
 have t4:decide ((8:Int)<(n4:Int))=false:=decide_eq_false (by omega);by_cases h5:100<x.name.size
 · have t5:decide ((100:Int)<(x.name.size:Int))=true:=decide_eq_true (by omega);clear h h5;go_enter func5,ntmps5;go_wp2_with fail;go_ret;exact ⟨rfl,hB⟩
 have t5:decide ((100:Int)<(x.name.size:Int))=false:=decide_eq_false (by omega);have t6:decide ((100:Int)<(x.bT.size:Int))=true:=decide_eq_true (by omega);clear h h0 h1 h2 h3 h4 h5;go_enter func5,ntmps5;go_wp2_with fail;go_ret;exact ⟨rfl,hB⟩
theorem Rt {w:World}{x:Sx}{a0 a1 a2 a3 a4:Option Addr}{n0 n1 n2 n3 n4 k0 k1 k2 k3 k4:Nat}(t0:decide ((12:Int)<(n1:Int))=false) (t1:decide ((12:Int)<(n2:Int))=false) (t2:decide ((4:Int)<(n3:Int))=false) (t3:decide ((12:Int)<(n0:Int))=false) (t4:decide ((8:Int)<(n4:Int))=false) (t5:decide ((100:Int)<(x.name.size:Int))=false) (t6:decide ((100:Int)<(x.bT.size:Int))=false) {L:List Pw}(hL:L.length=n4) (h4:n4≤8) (hp:Rd w (.slice a4 n4 k4) n4 (jP L))
 (hs:∀q∈L,∃a k,q.pv= .slice a (lY q.pv) k) (hc:∀q∈L,lY q.pv=0→∀w',Below w.heap.size w w' →Calls prog 5 #[.agg q.arr] w' fun e w'' =>e= .returned (.bool (IJ q.x))∧Below w'.heap.size w' w''):
 Calls prog 5 #[.agg (aG x (.slice a0 n0 k0) (.slice a1 n1 k1) (.slice a2 n2 k2) (.slice a3 n3 k3) (.slice a4 n4 k4))] w fun e w' =>e= .returned (.bool (L.all fun q=>decide (lY q.pv=0)&&IJ q.x))∧Below w.heap.size w w' :=by
 have hB:=(Below.refl w.heap.size w).alloc (Nat.le_refl _) (.cells (aG x (.slice a0 n0 k0) (.slice a1 n1 k1) (.slice a2 n2 k2) (.slice a3 n3 k3) (.slice a4 n4 k4)) 31);have hbl:(w.alloc (.cells (aG x (.slice a0 n0 k0) (.slice a1 n1 k1) (.slice a2 n2 k2) (.slice a3 n3 k3) (.slice a4 n4 k4)) 31)).heap[w.heap.size]? =some (.cells (aG x (.slice a0 n0 k0) (.slice a1 n1 k1) (.slice a2 n2 k2) (.slice a3 n3 k3) (.slice a4 n4 k4)) 31 (0,0)):=aA w _;obtain ⟨c0,c1,c2,c3,c4,c5,c6,c7,c8,c9,c10,c11,c12,c13,c14,c15,c16,c17⟩:=aK hbl;clear c0 c3 c4 c5 c6 c7 c8 c9 c14 c15 c16;have y1:=aj hbl 1;have y2:=aj hbl 2;have y10:=aj hbl 10;have y11:=aj hbl 11;have Yl:=aj hbl 12;have y13:=aj hbl 13;have y17:=aj hbl 17;have HP:=Lib.hid hp;have HS:=Lib.hid hs;have HC:=Lib.hid hc;have HL:=Lib.hid hL;have HBL:=Lib.hid hbl;have HB:=Lib.hid hB;clear hbl hp hs hc hL;go_enter func5,ntmps5;go_wp2_with fail;generalize w.alloc (.cells (aG x (.slice a0 n0 k0) (.slice a1 n1 k1) (.slice a2 n2 k2) (.slice a3 n3 k3) (.slice a4 n4 k4)) 31)=w1 at *
 go_loopw [3] (fun i wr=>∃j:Nat,i= .int .i64 j∧j≤n4∧Below w1.heap.size w1 wr∧Hid ((L.take j).all (fun q=>decide (lY q.pv=0)&&IJ q.x)=true)) (fun i _=>n4 - (intOf i).toNat)
 case atStart=>exact ⟨0,rfl,Nat.zero_le _,Below.refl _ _,rfl⟩
 case round=>
  obtain ⟨j,rfl,hj,hBr,HA⟩:=hrel;have e17:=aJ hBr c17;have zw:=Lib.hid (HB.out.trans (hBr.mono HB.out.size));clear c1 c2 c10 c11 c12 c13 c17 y1 y2 y10 y11 Yl y13 y17;by_cases hjl:j<n4
  · have p0:(j:Int)<(n4:Int):=by omega
    have p1:(0:Int)≤(j:Int):=by omega
    have HJ:=Lib.hid (show j+1≤n4 from hjl);obtain ⟨q,hq⟩:∃q,L[j]? =some q:=⟨_,List.getElem?_eq_getElem (by have:=HL.out;omega)⟩;obtain ⟨a5,k5,ha5,hx0⟩:=HP.out;cases ha5;obtain ⟨ga,o1,PW,hx⟩:=hx0 (by omega);subst PW;have hR:=ou hx hq zw.out;have hmem:=List.mem_of_getElem? hq;obtain ⟨aq,kq,hpv⟩:=HS.out q hmem
    have HT:Hid ((L.take (j+1)).all (fun q=>decide (lY q.pv=0)&&IJ q.x)=(decide (lY q.pv=0)&&IJ q.x)):=by
     obtain ⟨hj2,rfl⟩:=List.getElem?_eq_some_iff.1 hq;show _=_;rw [List.take_succ_eq_append_getElem hj2,List.all_append,HA.out];simp
    have HF:Hid ((decide (lY q.pv=0)&&IJ q.x)=false→L.all (fun q=>decide (lY q.pv=0)&&IJ q.x)=false):=fun h=>by
     rw [List.all_eq_false];exact ⟨q,hmem,by rw [h];decide⟩
    have HC1:=Lib.hid (HC.out q hmem);obtain ⟨nq,hnq⟩:∃n,lY q.pv=n:=⟨_,rfl⟩;rw [hnq]at hpv HT HF HC1;have k17:wr.cell? ⟨ga,o1+j*18+17,none⟩=some (.slice aq nq kq):=by rw [←hpv];exact hR 17 _ rfl
    clear hq hx hx0 hnq hmem;by_cases h0:nq=0
    · subst h0;have h1:=HC1.out rfl;have hv:wr.rangeAt ga (o1+j*18) q.arr.toList:=hR;obtain ⟨qx,wW,qc,qs,wX,wT⟩:=q;replace hpv:wT= .slice aq 0 kq:=hpv;clear hR HC1 hpv;have h1:=h1 _ zw.out;cases hg:IJ qx with
      |true=>
       replace h1:Calls prog 5 #[.agg (aG qx wW qc qs wX wT)] wr fun e w'' =>e= .returned (.bool true)∧Below wr.heap.size wr w'' :=by rw [←hg];exact h1
       have HT2:Hid ((L.take (j+1)).all (fun q=>decide (lY q.pv=0)&&IJ q.x)=true):=by show _=_;rw [HT.out];show (decide (0=0)&&IJ qx)=true;rw [hg];rfl
       clear hg HT HF;go_wp2_with (refine S9 (by go_simp) _ rfl rfl rfl hv ?_);refine h1.mono ?_;rintro e w2 ⟨rfl,hb2⟩;have hB2:=hBr.trans (hb2.mono hBr.size);go_wp2_with fail;go_roundw
       case rel=>exact ⟨j+1,by go_num,HJ.out,hB2,HT2⟩
       case measure=>have hjj:=HJ.out;simp [intOf];omega
      |false=>
       replace h1:Calls prog 5 #[.agg (aG qx wW qc qs wX wT)] wr fun e w'' =>e= .returned (.bool false)∧Below wr.heap.size wr w'' :=by rw [←hg];exact h1
       have HF2:Hid (L.all (fun q=>decide (lY q.pv=0)&&IJ q.x)=false):=HF.out (by show (decide (0=0)&&IJ qx)=false;rw [hg];rfl);clear hg HT HF;go_wp2_with (refine S9 (by go_simp) _ rfl rfl rfl hv ?_);refine h1.mono ?_;rintro e w2 ⟨rfl,hb2⟩;have hB2:=hBr.trans (hb2.mono hBr.size);go_wp2_with fail;go_ret;rw [HF2.out];exact ⟨rfl,HB.out.trans (hB2.mono HB.out.size)⟩
    · have HF2:Hid (L.all (fun q=>decide (lY q.pv=0)&&IJ q.x)=false):=HF.out (by rw [decide_eq_false h0];rfl);have q0:decide ((0:Int)<(nq:Int))=true:=decide_eq_true (by omega);have q1:decide (0<nq)=true:=decide_eq_true (by omega);have q2:0<nq:=by omega
      clear HT HF HC1 h0 hR;go_wp2_with fail;go_ret;rw [HF2.out];exact ⟨rfl,zw.out⟩
  · have mF:j=n4:=by omega
    subst mF
    have HA2:Hid (L.all (fun q=>decide (lY q.pv=0)&&IJ q.x)=true):=by
     show _=_;have:=HA.out;rwa [←HL.out,List.take_length]at this
    go_wp2_with fail;go_ret;rw [HA2.out];exact ⟨rfl,zw.out⟩
def MG (p:Pw) (L:List Pw):Bool:=IJ p.x&&decide (L.length≤8)&&L.all fun q=>decide (lY q.pv=0)&&IJ q.x
theorem KG {w:World}{p:Pw}{L:List Pw}(hin:iJ w p.x p.tc p.c p.s p.wv) (hp:Rd w p.pv L.length (jP L)) (hs:∀q∈L,∃a k,q.pv= .slice a (lY q.pv) k)
 (hc:∀q∈L,lY q.pv=0→∀w',Below w.heap.size w w' →Calls prog 5 #[.agg q.arr] w' fun e w'' =>e= .returned (.bool (IJ q.x))∧Below w'.heap.size w' w''):
 Calls prog 5 #[.agg p.arr] w fun e w' =>e= .returned (.bool (MG p L))∧Below w.heap.size w w' :=by
 obtain ⟨x,tc,c,s,wv,pv⟩:=p;obtain ⟨⟨a0,k0,e0,_⟩,⟨a1,k1,e1,_⟩,⟨a2,k2,e2,_⟩,⟨a3,k3,e3,_⟩⟩:=hin;have hp2:=hp;obtain ⟨a4,k4,e4,_⟩:=hp2;replace e0:tc= .slice a0 x.aB.length k0:=e0;replace e1:c= .slice a1 x.aI.length k1:=e1;replace e2:s= .slice a2 x.sets.length k2:=e2;replace e3:wv= .slice a3 x.aH.length k3:=e3;replace e4:pv= .slice a4 L.length k4:=e4;subst e0 e1 e2 e3 e4;unfold MG IJ;show Calls prog 5 #[.agg (aG x (.slice a0 x.aB.length k0) (.slice a1 x.aI.length k1) (.slice a2 x.sets.length k2) (.slice a3 x.aH.length k3) (.slice a4 L.length k4))] w _;by_cases hy:(x.aI.length≤12∧x.sets.length≤12∧x.aH.length≤4∧x.aB.length≤12∧x.name.size≤100∧x.bT.size≤100)∧L.length≤8
 · have e:(decide (x.aI.length≤12∧x.sets.length≤12∧x.aH.length≤4∧x.aB.length≤12∧x.name.size≤100∧x.bT.size≤100)&&decide (L.length≤8))=true:=by rw [decide_eq_true hy.1,decide_eq_true hy.2];rfl
   rw [e,Bool.true_and];obtain ⟨⟨y1,y2,y3,y4,y5,y6⟩,y7⟩:=hy;exact Rt (decide_eq_false (by omega)) (decide_eq_false (by omega)) (decide_eq_false (by omega)) (decide_eq_false (by omega)) (decide_eq_false (by omega)) (decide_eq_false (by omega)) (decide_eq_false (by omega)) rfl y7 hp hs hc
 · have e:(decide (x.aI.length≤12∧x.sets.length≤12∧x.aH.length≤4∧x.aB.length≤12∧x.name.size≤100∧x.bT.size≤100)&&decide (L.length≤8))=false:=by
    by_cases h:L.length≤8
    · rw [decide_eq_false (fun h2=>hy ⟨h2,h⟩)];rfl
    · rw [decide_eq_false h,Bool.and_false]
   rw [e,Bool.false_and];exact V5 (by omega)
theorem abQ {w:World}{q:Pw}(hin:iJ w q.x q.tc q.c q.s q.wv) (hs:∃a k,q.pv= .slice a (lY q.pv) k) (h0:lY q.pv=0):
 Calls prog 5 #[.agg q.arr] w fun e w' =>e= .returned (.bool (IJ q.x))∧Below w.heap.size w w' :=by
 obtain ⟨a,k,e⟩:=hs;rw [h0]at e;have h:=KG (L:= []) hin (show Rd w q.pv 0 []from ⟨a,k,e,fun h=>absurd h (by omega)⟩) (fun q hq=>nomatch hq) (fun q hq=>nomatch hq);have e2:MG q []=IJ q.x:=by simp [MG]
 rw [e2]at h;exact h
theorem wH {w:World}{p:Pw}{L:List Pw}(hin:iJ w p.x p.tc p.c p.s p.wv) (hp:Rd w p.pv L.length (jP L)) (hs:∀q∈L,iJ w q.x q.tc q.c q.s q.wv∧∃a k,q.pv= .slice a (lY q.pv) k):
 Calls prog 5 #[.agg p.arr] w fun e w' =>e= .returned (.bool (MG p L))∧Below w.heap.size w w' :=
 KG hin hp (fun q hq=>(hs q hq).2) fun q hq h0 _ hb=>abQ ((hs q hq).1.below hb) (hs q hq).2 h0
open Go.ChangeShapes Go.WideShapes Go.ChangeAt Go.RowKit Go.Shelf
section
variable {H:Type}{enc:TypeId×Value→H}{P:Program}{W:World}{N:Nat}
theorem Ea {d:DataW H}:∀{l:List (DataW H)},d∈l→Rows.uptoBulk d≤Rows.uptoBulkAll l
 |x::r,h=>by
  simp only [Rows.uptoBulkAll];rcases List.mem_cons.1 h with e|e
  · subst e;omega
  · have:=Ea e;omega
def Tr (enc:TypeId×Value→H) (P:Program) (W:World) (N:Nat) (t:TypeId) (cs:List Value):Prop:=
 ∃fuel x,DataW.trod enc P W 0 (fun _=>true) true fuel t cs=some x∧Rows.uptoBulk x.1≤N
theorem Tr.int {t:TypeId}{cs:List Value}(ht:P.underlying t=some (.int .i64)) (h:Tr enc P W N t cs):∃n:Int,cs= [.int .i64 n]∧Ba n:=by
 obtain ⟨fuel,x,hx,_⟩:=h;obtain ⟨n,h1,_,h3⟩:=DataW.trod_int ht hx;exact ⟨n,h1,bounds_i64 h3⟩
theorem Tr.str {t:TypeId}{cs:List Value}(ht:P.underlying t=some .string) (h:Tr enc P W N t cs):∃s:ByteArray,cs= [.string s]∧s.size≤N:=by
 obtain ⟨fuel,x,hx,hb⟩:=h;obtain ⟨s,h1,h2,_⟩:=DataW.trod_string ht hx;refine ⟨s,h1, ?_⟩;rw [h2]at hb;simp only [Rows.uptoBulk]at hb;have:s.data.toList.length=s.size:=by simp
 omega
theorem Tr.len {t:TypeId}{fs:Array Field}{cs:List Value}(ht:P.underlying t=some (.struct fs)) (h:Tr enc P W N t cs):cs.length=P.cellsOf t:=by
 obtain ⟨fuel,x,hx,_⟩:=h;obtain ⟨_,_,_,_,h3,_⟩:=DataW.trod_struct ht hx;exact h3
theorem Tr.FL {t:TypeId}{fs:Array Field}{cs:List Value}(ht:P.underlying t=some (.struct fs)) (h:Tr enc P W N t cs) (i:Nat) (f:Field) (hf:fs[i]? =some f) (k:Nat) (hk:P.cellsOf f.type=k):Tr enc P W N f.type ((cs.drop f.offset).take k):=by
 obtain ⟨fuel,x,hx,hb⟩:=h;obtain ⟨xs,n,_,rfl,_,hl,h4⟩:=DataW.trod_struct ht hx;have hi:i<xs.length:=by rw [hl];exact (Array.getElem?_eq_some_iff.1 hf).1
 refine ⟨n,xs[i],by rw [←hk,h4 i f hf,List.getElem?_eq_getElem hi], ?_⟩;have:=Ea (d:=xs[i].1) (l:=xs.map (·.1)) (List.mem_map_of_mem (List.getElem_mem hi));simp only [Rows.uptoBulk]at hb;omega
theorem KH {α:Type}{Q:Nat→α→Prop}:∀n,(∀i,i<n→∃q,Q i q)→∃L:List α,L.length=n∧∀i q,L[i]? =some q→Q i q
 |0,_=>⟨[],rfl,fun i q h=>by simp at h⟩
 |n+1,h=>by
  obtain ⟨L,hl,hL⟩:=KH n fun i hi=>h i (by omega)
  obtain ⟨q,hq⟩:=h n (by omega);refine ⟨L++ [q],by simp [hl],fun i r hr=> ?_⟩;by_cases hi:i<L.length
  · rw [List.getElem?_append_left hi]at hr;exact hL i r hr
  · rw [List.getElem?_append_right (by omega)]at hr
    have:i - L.length=0:=by
     rcases Nat.eq_zero_or_pos (i - L.length)with h0|h0
     · exact h0
     · rw [List.getElem?_eq_none (by simp;omega)]at hr;cases hr
    rw [this]at hr;obtain rfl:q=r:=by simpa using hr
    rw [show i=n by omega];exact hq
theorem Ta {α:Type}(f:α→List Value) (k:Nat) (hf:∀q,(f q).length=k):∀(L:List α) (i j:Nat) (q:α),L[i]? =some q→j<k→(L.flatMap f)[i*k+j]? =(f q)[j]?
 | [],i,j,q,h,_=>by simp at h
 |p::l,0,j,q,h,hj=>by
  obtain rfl:p=q:=by simpa using h
  rw [List.flatMap_cons,Nat.zero_mul,Nat.zero_add,List.getElem?_append_left (by rw [hf];exact hj)]
 |p::l,i+1,j,q,h,hj=>by
  have:=Ta f k hf l i j q (by simpa using h) hj;rw [List.flatMap_cons,List.getElem?_append_right (by rw [hf,Nat.succ_mul];omega),hf,←this];congr 1;rw [Nat.succ_mul];omega
theorem KI {α:Type}(k:Nat):∀L:List α,(L.map fun _=>k).sum=L.length*k
 | []=>by simp
 |a::l=>by rw [List.map_cons,List.sum_cons,KI k l,List.length_cons,Nat.succ_mul];omega
theorem OY {a:Addr}{k:Nat}{cs:List Value}(h:W.cells? 0 a k=some cs) (j:Nat) (hj:j<k):W.cell? (a.add j)=cs[j]? :=by
 unfold World.cells? at h;rw [if_pos (Nat.zero_le _)]at h;exact mapM_some_get h j j (by simp [hj])
theorem Tr.rd {α:Type}{t e:TypeId}{cs:List Value}(ht:P.underlying t=some (.slice e)) (k:Nat) (hk:P.cellsOf e=k) (hk0:0<k) (f:α→List Value) (hlen:∀q,(f q).length=k) {OK:α→Prop}(hf:∀cs,Tr enc P W N e cs→∃q:α,cs=f q∧OK q)
 (h:Tr enc P W N t cs):∃(v:Value) (L:List α),cs= [v]∧Rd W v L.length (L.flatMap f)∧∀q∈L,OK q:=by
 obtain ⟨fuel,x,hx,hb⟩:=h;rcases Go.Deep.open_slice ht hx with ⟨h1,_⟩|⟨a,len,cap,m,n,D,Pl,h1,_,hl,hc,hm,hxe,hel⟩
 · exact ⟨_, [],h1,⟨none,0,rfl,fun h=>absurd h (by simp)⟩,fun _ h=>nomatch h⟩
 · simp only [if_true]at hm;rw [hxe]at hb;simp only [Rows.uptoBulk]at hb
   obtain ⟨L,hL,hQ⟩:=KH (Q:=fun i (q:α)=>OK q∧W.cells? 0 (a.add (i*k)) k=some (f q)) len fun i hi=>by
    obtain ⟨cs',h2,h3⟩:=hel i (by omega);rw [hk]at h2;have hD:=Ea (d:=D i) (l:=(List.range len).map D) (List.mem_map_of_mem (List.mem_range.2 hi));obtain ⟨q,rfl,hq⟩:=hf cs' ⟨n,_,h3,by show Rows.uptoBulk (D i)≤N;omega⟩;exact ⟨q,hq,h2⟩
   refine ⟨_,L,h1,⟨some a,cap,by rw [hL],fun h0=> ?_⟩,fun q hq=> ?_⟩
   · obtain ⟨g,off,spot⟩:=a;obtain ⟨q0,hq0⟩:∃q,L[0]? =some q:=⟨_,List.getElem?_eq_getElem h0⟩;have hcell:=OY (hQ 0 q0 hq0).2 0 hk0
     have hs:spot=none:=by
      rw [List.getElem?_eq_getElem (by rw [hlen];exact hk0)]at hcell;simpa [Addr.add]using World.cell?_spot hcell
     subst hs;refine ⟨g,off,rfl,fun i v hv=> ?_⟩
     have hi:i<L.length*k:=by
      have h2:=(List.getElem?_eq_some_iff.1 hv).1;rw [List.length_flatMap]at h2;have e:(L.map fun q=>(f q).length)=L.map fun _=>k:=List.map_congr_left fun q _=>hlen q
      rw [e,KI]at h2;exact h2
     have hd:i / k<L.length:=Nat.div_lt_of_lt_mul (by rw [Nat.mul_comm];exact hi);obtain ⟨q,hq⟩:∃q,L[i / k]? =some q:=⟨_,List.getElem?_eq_getElem hd⟩;have hj:=Nat.mod_lt i hk0;have h3:=OY (hQ _ q hq).2 (i % k) hj;have h4:=Ta f k hlen L (i / k) (i % k) q hq hj;have e:i / k*k+i % k=i:=by rw [Nat.mul_comm];exact Nat.div_add_mod i k
     rw [e,hv]at h4;rw [←h4]at h3
     have ea:((⟨g,off,none⟩:Addr).add (i / k*k)).add (i % k)=⟨g,off+i,none⟩:=by
      rw [Go.WideShapes.add_plain,Go.WideShapes.add_plain,Nat.add_assoc,e]
     rw [ea]at h3;exact h3
   · obtain ⟨i,hi⟩:=List.getElem?_of_mem hq;exact (hQ i q hi).1
theorem gF {α:Type}{l:List α}{n:Nat}(h:l.length=n+1):∃c t,l=c::t∧t.length=n:=by
 cases l with
 |nil=>simp at h
 |cons c t=>exact ⟨c,t,rfl,by simpa using h⟩
end
section
variable {H:Type}{enc:TypeId×Value→H}{W:World}{N:Nat}
theorem Ru (cs:List Value) (h:Tr enc prog W N 23 cs):∃q:Cl,cs=mJ q∧q.name.size≤N:=by
 have hl:=h.len underlying23;rw [show prog.cellsOf 23=2 by kernel_rfl]at hl;obtain ⟨c0,t0,rfl,l1⟩:=gF hl;obtain ⟨c1,t1,rfl,l2⟩:=gF l1;obtain rfl:=List.eq_nil_of_length_eq_zero l2;obtain ⟨s,e0,hs⟩:=(h.FL underlying23 0 _ rfl 1 (by kernel_rfl)).str underlying9;obtain ⟨n,e1,_⟩:=(h.FL underlying23 1 _ rfl 1 (by kernel_rfl)).int underlying3;replace e0: [c0]= [.string s]:=e0;replace e1: [c1]= [.int .i64 n]:=e1;cases e0;cases e1;exact ⟨⟨s,n⟩,rfl,hs⟩
theorem aeG (cs:List Value) (h:Tr enc prog W N 9 cs):∃q:ByteArray,cs= [Value.string q]∧q.size≤N:=h.str underlying9
theorem Tc (cs:List Value) (h:Tr enc prog W N 62 cs):∃q:Pr,cs=kI q∧q.name.size≤N∧Ba q.t.ty∧Ba q.t.n∧q.t.s.size≤N:=by
 have hl:=h.len underlying62;rw [show prog.cellsOf 62=4 by kernel_rfl]at hl;obtain ⟨c0,t0,rfl,l1⟩:=gF hl;obtain ⟨c1,t1,rfl,l2⟩:=gF l1;obtain ⟨c2,t2,rfl,l3⟩:=gF l2;obtain ⟨c3,t3,rfl,l4⟩:=gF l3;obtain rfl:=List.eq_nil_of_length_eq_zero l4;obtain ⟨s,e0,hs⟩:=(h.FL underlying62 0 _ rfl 1 (by kernel_rfl)).str underlying9;have ht:=h.FL underlying62 1 _ rfl 3 (by kernel_rfl);obtain ⟨ty,e1,h1⟩:=(ht.FL underlying60 0 _ rfl 1 (by kernel_rfl)).int underlying3;obtain ⟨u,e2,h2⟩:=(ht.FL underlying60 1 _ rfl 1 (by kernel_rfl)).str underlying9;obtain ⟨n,e3,h3⟩:=(ht.FL underlying60 2 _ rfl 1 (by kernel_rfl)).int underlying3;replace e0: [c0]= [.string s]:=e0;replace e1: [c1]= [.int .i64 ty]:=e1;replace e2: [c2]= [.string u]:=e2;replace e3: [c3]= [.int .i64 n]:=e3;cases e0;cases e1;cases e2;cases e3;exact ⟨⟨s,⟨ty,u,n⟩⟩,rfl,hs,h1,h3,h2⟩
structure SzB (N:Nat) (x:Sx):Prop where
 name:x.name.size≤N
 bT:x.bT.size≤N
 on:x.on.size≤N
 part:x.part.name.size≤N
 aX:x.aX.name.size≤N
 aB:∀q∈x.aB,q.name.size≤N
 aI:∀q∈x.aI,q.size≤N
 sets:∀q∈x.sets,q.name.size≤N∧Ba q.t.ty∧Ba q.t.n∧q.t.s.size≤N
 aH:∀q∈x.aH,q.name.size≤N∧Ba q.t.ty∧Ba q.t.n∧q.t.s.size≤N
 stamp:Ba x.stamp
 ttl:Ba x.ttl
 limit:Ba x.limit
theorem SzB.ok {N:Nat}{x:Sx}(h:SzB N x) (hN:N≤2000000) (hd:IJ x=true):gB x:=by
 have hd:=of_decide_eq_true hd;have f:∀{s:ByteArray},s.size≤N→s.size≤2000000:=fun h=>Nat.le_trans h hN
 have g:∀{L:List Pr},L.length≤12→(∀q∈L,q.name.size≤N∧Ba q.t.ty∧Ba q.t.n∧q.t.s.size≤N)→qD L:=fun hl h=>⟨by omega,fun q hq=>⟨⟨(h q hq).2.1,(h q hq).2.2.1,f (h q hq).2.2.2⟩,f (h q hq).1⟩⟩
 exact ⟨f h.name,f h.bT,f h.on,f h.part,f h.aX,⟨by omega,fun q hq=>f (h.aB q hq)⟩,⟨by omega,fun q hq=>f (h.aI q hq)⟩,g (by omega) h.sets,g (by omega) h.aH,by omega,h.stamp,h.ttl,h.limit⟩
theorem Mq (L:List ByteArray):L.flatMap (fun s=> [Value.string s])=L.map Value.string:=by
 induction L with
 |nil=>rfl
 |cons a l ih=>rw [List.flatMap_cons,ih];rfl
theorem Mr (cs:List Value) (h:Tr enc prog W N 31 cs):∃q:Pw,cs=q.arr.toList∧(iJ W q.x q.tc q.c q.s q.wv∧SzB N q.x∧Tr enc prog W N 29 [q.pv]):=by
 have hl:=h.len underlying31;rw [show prog.cellsOf 31=18 by kernel_rfl]at hl;obtain ⟨c0,t0,rfl,l1⟩:=gF hl;obtain ⟨c1,t1,rfl,l2⟩:=gF l1;obtain ⟨c2,t2,rfl,l3⟩:=gF l2;obtain ⟨c3,t3,rfl,l4⟩:=gF l3;obtain ⟨c4,t4,rfl,l5⟩:=gF l4;obtain ⟨c5,t5,rfl,l6⟩:=gF l5;obtain ⟨c6,t6,rfl,l7⟩:=gF l6;obtain ⟨c7,t7,rfl,l8⟩:=gF l7;obtain ⟨c8,t8,rfl,l9⟩:=gF l8;obtain ⟨c9,t9,rfl,l10⟩:=gF l9;obtain ⟨c10,t10,rfl,l11⟩:=gF l10;obtain ⟨c11,t11,rfl,l12⟩:=gF l11;obtain ⟨c12,t12,rfl,l13⟩:=gF l12;obtain ⟨c13,t13,rfl,l14⟩:=gF l13;obtain ⟨c14,t14,rfl,l15⟩:=gF l14;obtain ⟨c15,t15,rfl,l16⟩:=gF l15;obtain ⟨c16,t16,rfl,l17⟩:=gF l16;obtain ⟨c17,t17,rfl,l18⟩:=gF l17;obtain rfl:=List.eq_nil_of_length_eq_zero l18;have U:=underlying31;obtain ⟨kind,e0,_⟩:=(h.FL U 0 _ rfl 1 (by kernel_rfl)).int underlying3;obtain ⟨name,e1,h1⟩:=(h.FL U 1 _ rfl 1 (by kernel_rfl)).str underlying9;obtain ⟨bT,e2,h2⟩:=(h.FL U 2 _ rfl 1 (by kernel_rfl)).str underlying9;obtain ⟨on,e3,h3⟩:=(h.FL U 3 _ rfl 1 (by kernel_rfl)).str underlying9;have ht:=h.FL U 4 _ rfl 7 (by kernel_rfl);have V:=underlying26;obtain ⟨bG,e4,_⟩:=(ht.FL V 0 _ rfl 1 (by kernel_rfl)).str underlying9;obtain ⟨tid,e5,_⟩:=(ht.FL V 1 _ rfl 1 (by kernel_rfl)).int underlying3;obtain ⟨part,e6,h6⟩:=Ru _ (ht.FL V 2 _ rfl 2 (by kernel_rfl));obtain ⟨aX,e8,h8⟩:=Ru _ (ht.FL V 3 _ rfl 2 (by kernel_rfl));obtain ⟨v10,aB,e10,r10,h10⟩:=(ht.FL V 4 _ rfl 1 (by kernel_rfl)).rd underlying24 2 (by kernel_rfl) (by decide) mJ (fun _=>rfl) Ru;obtain ⟨v11,aI,e11,r11,h11⟩:=(h.FL U 5 _ rfl 1 (by kernel_rfl)).rd underlying27 1 (by kernel_rfl) (by decide) (fun s=> [Value.string s]) (fun _=>rfl) aeG;obtain ⟨v12,sets,e12,r12,h12⟩:=(h.FL U 6 _ rfl 1 (by kernel_rfl)).rd underlying28 4 (by kernel_rfl) (by decide) kI (fun _=>rfl) Tc;obtain ⟨v13,aH,e13,r13,K4⟩:=(h.FL U 7 _ rfl 1 (by kernel_rfl)).rd underlying28 4 (by kernel_rfl) (by decide) kI (fun _=>rfl) Tc;obtain ⟨stamp,e14,ZU⟩:=(h.FL U 8 _ rfl 1 (by kernel_rfl)).int underlying3;obtain ⟨ttl,e15,h15⟩:=(h.FL U 9 _ rfl 1 (by kernel_rfl)).int underlying3;obtain ⟨limit,e16,h16⟩:=(h.FL U 10 _ rfl 1 (by kernel_rfl)).int underlying3;have h17:=h.FL U 11 _ rfl 1 (by kernel_rfl);rw [Mq]at r11;replace e0: [c0]= [.int .i64 kind]:=e0;replace e1: [c1]= [.string name]:=e1;replace e2: [c2]= [.string bT]:=e2;replace e3: [c3]= [.string on]:=e3;replace e4: [c4]= [.string bG]:=e4;replace e5: [c5]= [.int .i64 tid]:=e5;replace e10: [c10]= [v10]:=e10;replace e11: [c11]= [v11]:=e11;replace e12: [c12]= [v12]:=e12;replace e13: [c13]= [v13]:=e13;replace e14: [c14]= [.int .i64 stamp]:=e14;replace e15: [c15]= [.int .i64 ttl]:=e15;replace e16: [c16]= [.int .i64 limit]:=e16;replace e6: [c6,c7]= [.string part.name, .int .i64 part.ty]:=e6;replace e8: [c8,c9]= [.string aX.name, .int .i64 aX.ty]:=e8;cases e0;cases e1;cases e2;cases e3;cases e4;cases e5;cases e10;cases e11;cases e12;cases e13;cases e14;cases e15;cases e16;cases e6;cases e8;exact ⟨⟨⟨kind,name,bT,on,bG,tid,part,aX,aB,aI,sets,aH,stamp,ttl,limit⟩,c10,c11,c12,c13,c17⟩,rfl,⟨r10,r11,r12,r13⟩,⟨h1,h2,h3,h6,h8,h10,h11,h12,K4,ZU,h15,h16⟩,h17⟩
structure JE (W:World) (N:Nat) (p:Pw) (L:List Pw):Prop where
 st:iJ W p.x p.tc p.c p.s p.wv
 pv:Rd W p.pv L.length (jP L)
 each:∀q∈L,iJ W q.x q.tc q.c q.s q.wv∧∃a k,q.pv= .slice a (lY q.pv) k
 sz:SzB N p.x
 szs:∀q∈L,SzB N q.x
theorem ZB (cs:List Value) (h:Tr enc prog W N 31 cs):∃(p:Pw) (L:List Pw),cs=p.arr.toList∧JE W N p L:=by
 obtain ⟨p,e,h1,h2,h3⟩:=Mr cs h;obtain ⟨v,L,ev,hr,hq⟩:=h3.rd underlying29 18 (by kernel_rfl) (by decide) (fun q:Pw=>q.arr.toList) (fun _=>rfl) Mr;simp only [List.cons.injEq,and_true]at ev;subst ev;refine ⟨p,L,e,h1,hr,fun q hq' =>⟨(hq q hq').1, ?_⟩,h2,fun q hq' =>(hq q hq').2.1⟩;obtain ⟨v,M,ev,⟨a,k,hv,_⟩,_⟩:=(hq q hq').2.2.rd underlying29 18 (by kernel_rfl) (by decide) (fun q:Pw=>q.arr.toList) (fun _=>rfl) Mr;simp only [List.cons.injEq,and_true]at ev;exact ⟨a,k,by rw [ev,hv];rfl⟩
theorem JE.wd {p:Pw}{L:List Pw}(h:JE W N p L) (hd:MG p L=true):zQ W p L:=by
 unfold MG at hd;simp only [Bool.and_eq_true,decide_eq_true_eq,List.all_eq_true]at hd;refine ⟨h.st,h.pv,fun q hq=>⟨(h.each q hq).1, ?_⟩⟩;obtain ⟨a,k,e⟩:=(h.each q hq).2;rw [(hd.2 q hq).1]at e;exact ⟨a,k,e,fun h=>absurd h (by omega)⟩
theorem JE.agD {p:Pw}{L:List Pw}(h:JE W N p L) (hN:N≤2000000) (hd:MG p L=true):Wx p L:=by
 unfold MG at hd;simp only [Bool.and_eq_true,decide_eq_true_eq,List.all_eq_true]at hd;exact ⟨h.sz.ok hN hd.1.1,fun q hq=>(h.szs q hq).ok hN (hd.2 q hq).2⟩
theorem JE.below {W' :World}{p:Pw}{L:List Pw}(h:JE W N p L) (hb:Below W.heap.size W W'):JE W' N p L:=
 ⟨h.st.below hb,h.pv.below hb,fun q hq=>⟨(h.each q hq).1.below hb,(h.each q hq).2⟩,h.sz,h.szs⟩
end
theorem IK {a b:Int}(h:a≠b):(a !=b)=true:=bne_iff_ne.2 h
theorem IL {a b:Int}(h:a=b):(a !=b)=false:=by rw [h];simp
theorem IQ (s t:ByteArray) (a b:Int) (w:World):
 Calls prog 96 #[.agg #[.string s, .int .i64 a], .agg #[.string t, .int .i64 b]] w fun e w' =>∃r:Bool,e= .returned (.bool r)∧(r=true ↔ s=t∧a=b)∧Below w.heap.size w w' :=by
 obtain ⟨hB,hBx,kF⟩:=oN w #[.string s, .int .i64 a] #[.string t, .int .i64 b] 23 23;obtain ⟨W,hW⟩:∃W,(w.alloc (.cells #[.string s, .int .i64 a] 23)).alloc (.cells #[.string t, .int .i64 b] 23)=W:=⟨_,rfl⟩;rw [hW]at hB hBx kF;have a0:W.cell? ⟨w.heap.size,0,none⟩=some (.string s):=au hBx 0;have a1:W.cell? ⟨w.heap.size,1,none⟩=some (.int .i64 a):=au hBx 1;have b0:W.cell? ⟨w.heap.size+1,0,none⟩=some (.string t):=au kF 0;have b1:W.cell? ⟨w.heap.size+1,1,none⟩=some (.int .i64 b):=au kF 1;clear hBx kF;by_cases h1:s=t
 · have s1:=jQ h1;by_cases h2:a=b
   · have s2:=nL h2;have HY:=Lib.hid (And.intro h1 h2);clear h1 h2;go_enter func96,ntmps96;go_wp2_with fail;go_ret;exact ⟨true,rfl,⟨fun _=>HY.out,fun _=>rfl⟩,hB⟩
   · have s2:=EL h2;have HN:Hid (¬(s=t∧a=b)):=fun h=>h2 h.2
     clear h1 h2;go_enter func96,ntmps96;go_wp2_with fail;go_ret;exact ⟨false,rfl,⟨fun h=>absurd h (by decide),fun h=>absurd h HN.out⟩,hB⟩
 · have s1:=sW h1;have HN:Hid (¬(s=t∧a=b)):=fun h=>h1 h.1
   clear h1;go_enter func96,ntmps96;go_wp2_with fail;go_ret;exact ⟨false,rfl,⟨fun h=>absurd h (by decide),fun h=>absurd h HN.out⟩,hB⟩
theorem take_one {α:Type}{L M:List α}{j:Nat}{q r:α}(h:L.take j=M.take j) (hq:L[j]? =some q) (hr:M[j]? =some r) (hqr:q=r):L.take (j+1)=M.take (j+1):=by
 obtain ⟨h1,rfl⟩:=List.getElem?_eq_some_iff.1 hq;obtain ⟨h2,rfl⟩:=List.getElem?_eq_some_iff.1 hr;rw [List.take_succ_eq_append_getElem h1,List.take_succ_eq_append_getElem h2,h,hqr]
theorem Td {α:Type}{L M:List α}{j:Nat}{q r:α}(hq:L[j]? =some q) (hr:M[j]? =some r) (hqr:¬q=r):¬L=M:=fun h=>by
 rw [h,hr]at hq;exact hqr (Option.some.inj hq).symm
theorem CX {α:Type}{L M:List α}{j:Nat}(h:L.take j=M.take j) (h1:L.length=j) (h2:M.length=j):L=M:=by
 rw [←h1,List.take_length,h1,←h2,List.take_length]at h;exact h
theorem Rv {w:World}{u v:Value}{L M:List ByteArray}(hu:Rd w u L.length (L.map Value.string)) (hv:Rd w v M.length (M.map Value.string)) (hl:L.length≤100000) (hm:M.length≤100000):
 Calls prog 56 #[u,v] w fun e w' =>∃r:Bool,e= .returned (.bool r)∧(r=true ↔ L=M)∧Below w.heap.size w w' :=by
 obtain ⟨a1,k1,rfl,hx0⟩:=hu;obtain ⟨a2,k2,rfl,hy0⟩:=hv;by_cases hlen:L.length=M.length
 · obtain ⟨n,hn⟩:∃n,L.length=n:=⟨_,rfl⟩;have hn2:M.length=n:=by omega
   have HN:=Lib.hid hn;have HM:=Lib.hid hn2;rw [hn]at hx0 hl⊢;rw [hn2]at hy0 hm⊢;clear hn hn2 hlen;have t0:((n:Int) !=(n:Int))=false:=by simp
   go_enter func56,ntmps56;go_wp2_with fail
   go_loopw [5] (fun i wr=>∃j:Nat,i= .int .i64 j∧j≤n∧Below w.heap.size w wr∧Hid (L.take j=M.take j)) (fun i _=>n - (intOf i).toNat)
   case atStart=>exact ⟨0,rfl,Nat.zero_le _,Below.refl _ _,rfl⟩
   case round=>
    obtain ⟨j,rfl,hj,hBr,HA⟩:=hrel;have hsz:=hBr.size;by_cases hjl:j<n
    · have p0:(j:Int)<(n:Int):=by omega
      have p1:(0:Int)≤(j:Int):=by omega
      have HJ:=Lib.hid (show j+1≤n from hjl);obtain ⟨g1,o1,rfl,hx⟩:=hx0 (by omega);obtain ⟨g2,o2,rfl,hy⟩:=hy0 (by omega);obtain ⟨q,hq⟩:∃q,L[j]? =some q:=⟨_,List.getElem?_eq_getElem (by have:=HN.out;omega)⟩;obtain ⟨r,hr⟩:∃r,M[j]? =some r:=⟨_,List.getElem?_eq_getElem (by have:=HM.out;omega)⟩;have k0:wr.cell? ⟨g1,o1+j,none⟩=some (.string q):=aJ hBr (hx (j) _ (by rw [List.getElem?_map,hq];rfl));have l0:wr.cell? ⟨g2,o2+j,none⟩=some (.string r):=aJ hBr (hy (j) _ (by rw [List.getElem?_map,hr];rfl));have HE:Hid (q=r→L.take (j+1)=M.take (j+1)):=take_one HA.out hq hr;have HD:Hid (¬q=r→¬L=M):=Td hq hr;clear hq hr hx hy hx0 hy0;by_cases h0:q=r
      · have s0:=jQ h0;have HE2:Hid (L.take (j+1)=M.take (j+1)):=HE.out h0;clear HE HD h0;go_wp2_with fail;go_quiet (fail);go_wp2_with fail;go_roundw
        case rel=>exact ⟨j+1,by go_num,HJ.out,aN.below_drewN hBr _,HE2⟩
        case measure=>have hjj:=HJ.out;simp [intOf];omega
      · have s0:=sW h0;have HD2:Hid (¬L=M):=HD.out (h0);clear HE HD h0;go_wp2_with fail;go_quiet (fail);go_wp2_with fail;go_ret;exact ⟨false,rfl,⟨fun h=>absurd h (by decide),fun h=>absurd h HD2.out⟩,aN.below_drewN hBr _⟩
    · have mF:j=n:=by omega
      subst mF;have HY:Hid (L=M):=CX HA.out HN.out HM.out;go_wp2_with fail;go_ret;exact ⟨true,rfl,⟨fun _=>HY.out,fun _=>rfl⟩,hBr⟩
 · have t0:((L.length:Int) !=(M.length:Int))=true:=bne_iff_ne.2 (by omega);have t1:(L.length !=M.length)=true:=bne_iff_ne.2 hlen;have HX:Hid (¬L=M):=fun h=>hlen (by rw [h])
   clear hlen;go_enter func56,ntmps56;go_wp2_with fail;go_ret;exact ⟨false,rfl,⟨fun h=>absurd h (by decide),fun h=>absurd h HX.out⟩,Below.refl _ _⟩
theorem zV {w:World}{u v:Value}{L M:List Pr}(hu:Rd w u L.length (dI L)) (hv:Rd w v M.length (dI M)) (hl:L.length≤100000) (hm:M.length≤100000):
 Calls prog 57 #[u,v] w fun e w' =>∃r:Bool,e= .returned (.bool r)∧(r=true ↔ L=M)∧Below w.heap.size w w' :=by
 obtain ⟨a1,k1,rfl,hx0⟩:=hu;obtain ⟨a2,k2,rfl,hy0⟩:=hv;by_cases hlen:L.length=M.length
 · obtain ⟨n,hn⟩:∃n,L.length=n:=⟨_,rfl⟩;have hn2:M.length=n:=by omega
   have HN:=Lib.hid hn;have HM:=Lib.hid hn2;rw [hn]at hx0 hl⊢;rw [hn2]at hy0 hm⊢;clear hn hn2 hlen;have t0:((n:Int) !=(n:Int))=false:=by simp
   go_enter func57,ntmps57;go_wp2_with fail
   go_loopw [5] (fun i wr=>∃j:Nat,i= .int .i64 j∧j≤n∧Below w.heap.size w wr∧Hid (L.take j=M.take j)) (fun i _=>n - (intOf i).toNat)
   case atStart=>exact ⟨0,rfl,Nat.zero_le _,Below.refl _ _,rfl⟩
   case round=>
    obtain ⟨j,rfl,hj,hBr,HA⟩:=hrel;have hsz:=hBr.size;by_cases hjl:j<n
    · have p0:(j:Int)<(n:Int):=by omega
      have p1:(0:Int)≤(j:Int):=by omega
      have HJ:=Lib.hid (show j+1≤n from hjl);obtain ⟨g1,o1,rfl,hx⟩:=hx0 (by omega);obtain ⟨g2,o2,rfl,hy⟩:=hy0 (by omega);obtain ⟨q,hq⟩:∃q,L[j]? =some q:=⟨_,List.getElem?_eq_getElem (by have:=HN.out;omega)⟩;obtain ⟨r,hr⟩:∃r,M[j]? =some r:=⟨_,List.getElem?_eq_getElem (by have:=HM.out;omega)⟩;have k0:wr.cell? ⟨g1,o1+j*4,none⟩=some (.string q.name):=aJ hBr (hx (j*4) _ (by have:=bF hq 0 (by omega);rw [Nat.add_zero]at this;rw [this];rfl));have k1:wr.cell? ⟨g1,o1+j*4+1,none⟩=some (.int .i64 q.t.ty):=by rw [Nat.add_assoc];exact aJ hBr (hx (j*4+1) _ (by rw [bF hq 1 (by omega)];rfl))
      have k2:wr.cell? ⟨g1,o1+j*4+2,none⟩=some (.string q.t.s):=by rw [Nat.add_assoc];exact aJ hBr (hx (j*4+2) _ (by rw [bF hq 2 (by omega)];rfl))
      have k3:wr.cell? ⟨g1,o1+j*4+3,none⟩=some (.int .i64 q.t.n):=by rw [Nat.add_assoc];exact aJ hBr (hx (j*4+3) _ (by rw [bF hq 3 (by omega)];rfl))
      have l0:wr.cell? ⟨g2,o2+j*4,none⟩=some (.string r.name):=aJ hBr (hy (j*4) _ (by have:=bF hr 0 (by omega);rw [Nat.add_zero]at this;rw [this];rfl));have l1:wr.cell? ⟨g2,o2+j*4+1,none⟩=some (.int .i64 r.t.ty):=by rw [Nat.add_assoc];exact aJ hBr (hy (j*4+1) _ (by rw [bF hr 1 (by omega)];rfl))
      have l2:wr.cell? ⟨g2,o2+j*4+2,none⟩=some (.string r.t.s):=by rw [Nat.add_assoc];exact aJ hBr (hy (j*4+2) _ (by rw [bF hr 2 (by omega)];rfl))
      have l3:wr.cell? ⟨g2,o2+j*4+3,none⟩=some (.int .i64 r.t.n):=by rw [Nat.add_assoc];exact aJ hBr (hy (j*4+3) _ (by rw [bF hr 3 (by omega)];rfl))
      have HE:Hid (q=r→L.take (j+1)=M.take (j+1)):=take_one HA.out hq hr;have HD:Hid (¬q=r→¬L=M):=Td hq hr;clear hq hr hx hy hx0 hy0;obtain ⟨qn,⟨qty,qs,qi⟩⟩:=q;obtain ⟨rn,⟨rty,rs,ri⟩⟩:=r;simp only at k0 k1 k2 k3 l0 l1 l2 l3;by_cases h0:qn=rn
      · have s0:=jQ h0;by_cases h1:qty=rty
        · have s1:=IL h1;by_cases h2:qs=rs
          · have s2:=jQ h2;by_cases h3:qi=ri
            · have s3:=IL h3;have HE2:Hid (L.take (j+1)=M.take (j+1)):=HE.out (by rw [h0,h1,h2,h3]);clear HE HD h0 h1 h2 h3;go_wp2_with fail;go_quiet (fail);go_wp2_with fail;go_roundw
              case rel=>exact ⟨j+1,by go_num,HJ.out,aN.below_drewN hBr _,HE2⟩
              case measure=>have hjj:=HJ.out;simp [intOf];omega
            · have s3:=IK h3;have HD2:Hid (¬L=M):=HD.out (fun h=>h3 (congrArg (fun p=>p.t.n) h));clear HE HD h0 h1 h2 h3;go_wp2_with fail;go_quiet (fail);go_wp2_with fail;go_ret;exact ⟨false,rfl,⟨fun h=>absurd h (by decide),fun h=>absurd h HD2.out⟩,aN.below_drewN hBr _⟩
          · have s2:=sW h2;have HD2:Hid (¬L=M):=HD.out (fun h=>h2 (congrArg (fun p=>p.t.s) h));clear HE HD h0 h1 h2;go_wp2_with fail;go_quiet (fail);go_wp2_with fail;go_ret;exact ⟨false,rfl,⟨fun h=>absurd h (by decide),fun h=>absurd h HD2.out⟩,aN.below_drewN hBr _⟩
        · have s1:=IK h1;have HD2:Hid (¬L=M):=HD.out (fun h=>h1 (congrArg (fun p=>p.t.ty) h));clear HE HD h0 h1;go_wp2_with fail;go_quiet (fail);go_wp2_with fail;go_ret;exact ⟨false,rfl,⟨fun h=>absurd h (by decide),fun h=>absurd h HD2.out⟩,aN.below_drewN hBr _⟩
      · have s0:=sW h0;have HD2:Hid (¬L=M):=HD.out (fun h=>h0 (congrArg Pr.name h));clear HE HD h0;go_wp2_with fail;go_quiet (fail);go_wp2_with fail;go_ret;exact ⟨false,rfl,⟨fun h=>absurd h (by decide),fun h=>absurd h HD2.out⟩,aN.below_drewN hBr _⟩
    · have mF:j=n:=by omega
      subst mF;have HY:Hid (L=M):=CX HA.out HN.out HM.out;go_wp2_with fail;go_ret;exact ⟨true,rfl,⟨fun _=>HY.out,fun _=>rfl⟩,hBr⟩
 · have t0:((L.length:Int) !=(M.length:Int))=true:=bne_iff_ne.2 (by omega);have t1:(L.length !=M.length)=true:=bne_iff_ne.2 hlen;have HX:Hid (¬L=M):=fun h=>hlen (by rw [h])
   clear hlen;go_enter func57,ntmps57;go_wp2_with fail;go_ret;exact ⟨false,rfl,⟨fun h=>absurd h (by decide),fun h=>absurd h HX.out⟩,Below.refl _ _⟩
theorem KJ {a b:Cl}:a=b ↔ a.name=b.name∧a.ty=b.ty:=⟨fun h=>by rw [h];exact ⟨rfl,rfl⟩,fun h=>by obtain ⟨an,at_⟩:=a;obtain ⟨bn,bt⟩:=b;obtain ⟨h1,h2⟩:=h;cases h1;cases h2;rfl⟩
theorem Rw {w:World}{x y:Sx}{a0 b0:Option Addr}{n m k0 m0:Nat}(hn:x.aB.length=n) (hm:y.aB.length=m) (hu:Rd w (.slice a0 n k0) n (iO x.aB)) (hv:Rd w (.slice b0 m m0) m (iO y.aB)) (hl:n≤100000) (hl2:m≤100000):
 Calls prog 55 #[.agg #[.string x.bG, .int .i64 x.tid, .string x.part.name, .int .i64 x.part.ty, .string x.aX.name, .int .i64 x.aX.ty, .slice a0 n k0], .agg #[.string y.bG, .int .i64 y.tid, .string y.part.name, .int .i64 y.part.ty, .string y.aX.name, .int .i64 y.aX.ty, .slice b0 m m0]] w fun e w' =>∃r:Bool,e= .returned (.bool r)∧(r=true ↔ (x.bG=y.bG∧x.tid=y.tid∧x.part=y.part∧x.aX=y.aX∧x.aB=y.aB))∧Below w.heap.size w w' :=by
 have hx0:0<n→∃g o,a0=some ⟨g,o,none⟩∧∀k v,(iO x.aB)[k]? =some v→w.cell? ⟨g,o+k,none⟩=some v:=by
  obtain ⟨a1,k1,ha1,h⟩:=hu;cases ha1;exact h
 have hy0:0<m→∃g o,b0=some ⟨g,o,none⟩∧∀k v,(iO y.aB)[k]? =some v→w.cell? ⟨g,o+k,none⟩=some v:=by
  obtain ⟨a1,k1,ha1,h⟩:=hv;cases ha1;exact h
 clear hu hv;obtain ⟨hB,hBx,kF⟩:=oN w #[.string x.bG, .int .i64 x.tid, .string x.part.name, .int .i64 x.part.ty, .string x.aX.name, .int .i64 x.aX.ty, .slice a0 n k0] #[.string y.bG, .int .i64 y.tid, .string y.part.name, .int .i64 y.part.ty, .string y.aX.name, .int .i64 y.aX.ty, .slice b0 m m0] 26 26;obtain ⟨W,hW⟩:∃W,(w.alloc (.cells #[.string x.bG, .int .i64 x.tid, .string x.part.name, .int .i64 x.part.ty, .string x.aX.name, .int .i64 x.aX.ty, .slice a0 n k0] 26)).alloc (.cells #[.string y.bG, .int .i64 y.tid, .string y.part.name, .int .i64 y.part.ty, .string y.aX.name, .int .i64 y.aX.ty, .slice b0 m m0] 26)=W:=⟨_,rfl⟩;rw [hW]at hB hBx kF;have HX:=Lib.hid hBx;have HY:=Lib.hid kF;have HNX:=Lib.hid hn;have HNY:=Lib.hid hm;obtain ⟨f0,f1,f2,f3,f4,f5,f6⟩:=t7 hBx;obtain ⟨g0,g1,g2,g3,g4,g5,g6⟩:=t7 kF;have r1:=IQ x.part.name y.part.name x.part.ty y.part.ty;have r2:=IQ x.aX.name y.aX.name x.aX.ty y.aX.ty;have HB:=Lib.hid hB;clear hBx kF hB hn hm;by_cases e0:x.bG=y.bG
 case neg=>
  have s0:=sW e0;have su:Hid (¬(x.bG=y.bG∧x.tid=y.tid∧x.part=y.part∧x.aX=y.aX∧x.aB=y.aB)):=fun h=>e0 h.1
  clear e0 r1 r2;go_enter func55,ntmps55;go_wp2_with fail;go_ret;exact ⟨false,rfl,⟨fun h=>absurd h (by decide),fun h=>absurd h su.out⟩,HB.out⟩
 have s0:=jQ e0;by_cases e1:x.tid=y.tid
 case neg=>
  have s1:=IK e1;have su:Hid (¬(x.bG=y.bG∧x.tid=y.tid∧x.part=y.part∧x.aX=y.aX∧x.aB=y.aB)):=fun h=>e1 h.2.1
  clear e0 e1 r1 r2;go_enter func55,ntmps55;go_wp2_with fail;go_ret;exact ⟨false,rfl,⟨fun h=>absurd h (by decide),fun h=>absurd h su.out⟩,HB.out⟩
 have s1:=IL e1;have HE0:=Lib.hid e0;have HE1:=Lib.hid e1;clear e0 e1;go_enter func55,ntmps55;go_wp2_with fail
 (try rw [hW])
 refine (r1 _).mono ?_;rintro e w1 ⟨b1,rfl,i1,h1⟩;have HI1:=Lib.hid i1;have hBx:=bL h1 HX.out;have kF:=bL h1 HY.out;have Wy:=Lib.hid hBx;have Wz:=Lib.hid kF;have HB1:=Lib.hid (HB.out.trans (h1.mono HB.out.size));obtain ⟨f0,f1,f2,f3,f4,f5,f6⟩:=t7 hBx;obtain ⟨g0,g1,g2,g3,g4,g5,g6⟩:=t7 kF;clear hBx kF h1 HX HY HB r1 hW i1;cases b1 with
 |false=>
  have su:Hid (¬(x.bG=y.bG∧x.tid=y.tid∧x.part=y.part∧x.aX=y.aX∧x.aB=y.aB)):=fun h=>absurd (HI1.out.2 (KJ.1 h.2.2.1)) (by decide)
  go_wp2_with fail;go_ret;exact ⟨false,rfl,⟨fun h=>absurd h (by decide),fun h=>absurd h su.out⟩,HB1.out⟩
 |true=>
 go_wp2_with fail;refine (r2 _).mono ?_;rintro e w2 ⟨b2,rfl,i2,h2⟩;have HI2:=Lib.hid i2;have hBx:=bL h2 Wy.out;have kF:=bL h2 Wz.out;have Kj:=Lib.hid hBx;have WA:=Lib.hid kF;have HB2:=Lib.hid (HB1.out.trans (h2.mono HB1.out.size));obtain ⟨f0,f1,f2,f3,f4,f5,f6⟩:=t7 hBx;obtain ⟨g0,g1,g2,g3,g4,g5,g6⟩:=t7 kF;clear hBx kF h2 Wy Wz HB1 r2 i2;cases b2 with
 |false=>
  have su:Hid (¬(x.bG=y.bG∧x.tid=y.tid∧x.part=y.part∧x.aX=y.aX∧x.aB=y.aB)):=fun h=>absurd (HI2.out.2 (KJ.1 h.2.2.2.1)) (by decide)
  go_wp2_with fail;go_ret;exact ⟨false,rfl,⟨fun h=>absurd h (by decide),fun h=>absurd h su.out⟩,HB2.out⟩
 |true=>
 by_cases e2:n=m
 case neg=>
  have s2:((n:Int) !=(m:Int))=true:=bne_iff_ne.2 (by omega);have su:Hid (¬(x.bG=y.bG∧x.tid=y.tid∧x.part=y.part∧x.aX=y.aX∧x.aB=y.aB)):=fun h=>e2 (by have:=congrArg List.length h.2.2.2.2;have:=HNX.out;have:=HNY.out;omega)
  clear e2;go_wp2_with fail;go_ret;exact ⟨false,rfl,⟨fun h=>absurd h (by decide),fun h=>absurd h su.out⟩,HB2.out⟩
 subst e2;have s2:((n:Int) !=(n:Int))=false:=by simp
 go_wp2_with fail
 go_loopw [5] (fun i wr=>∃j:Nat,i= .int .i64 j∧j≤n∧Hid (Below w2.heap.size w2 wr∧x.aB.take j=y.aB.take j)) (fun i _=>n - (intOf i).toNat)
 case atStart=>exact ⟨0,rfl,Nat.zero_le _,Below.refl _ _,rfl⟩
 case round=>
  obtain ⟨j,rfl,hj,Eb⟩:=hrel;have hBx:=bL Eb.out.1 Kj.out;have kF:=bL Eb.out.1 WA.out;have f6:=au hBx 6;have g6:=au kF 6;have f6' :wr.cell? ⟨w.heap.size,6,none⟩=some (.slice a0 n k0):=f6;have g6' :wr.cell? ⟨w.heap.size+1,6,none⟩=some (.slice b0 n m0):=g6;clear f6 g6 hBx kF;have zw:=Lib.hid (HB2.out.trans (Eb.out.1.mono HB2.out.size));by_cases hjl:j<n
  · have p0:(j:Int)<(n:Int):=by omega
    have p1:(0:Int)≤(j:Int):=by omega
    have HJ:=Lib.hid (show j+1≤n from hjl);obtain ⟨ga,o1,PW,hx⟩:=hx0 (by omega);obtain ⟨gb,o2,heb,hy⟩:=hy0 (by omega);subst PW;subst heb;obtain ⟨q,hq⟩:∃q,x.aB[j]? =some q:=⟨_,List.getElem?_eq_getElem (by have:=HNX.out;omega)⟩;obtain ⟨r,hr⟩:∃r,y.aB[j]? =some r:=⟨_,List.getElem?_eq_getElem (by have:=HNY.out;omega)⟩;have k0' :wr.cell? ⟨ga,o1+j*2,none⟩=some (.string q.name):=aJ zw.out (hx (j*2) _ (by have:=jA hq 0 (by omega);rw [Nat.add_zero]at this;rw [this];rfl));have k1' :wr.cell? ⟨ga,o1+j*2+1,none⟩=some (.int .i64 q.ty):=by rw [Nat.add_assoc];exact aJ zw.out (hx (j*2+1) _ (by rw [jA hq 1 (by omega)];rfl))
    have l0' :wr.cell? ⟨gb,o2+j*2,none⟩=some (.string r.name):=aJ zw.out (hy (j*2) _ (by have:=jA hr 0 (by omega);rw [Nat.add_zero]at this;rw [this];rfl));have l1' :wr.cell? ⟨gb,o2+j*2+1,none⟩=some (.int .i64 r.ty):=by rw [Nat.add_assoc];exact aJ zw.out (hy (j*2+1) _ (by rw [jA hr 1 (by omega)];rfl))
    have HE:Hid (q=r→x.aB.take (j+1)=y.aB.take (j+1)):=take_one Eb.out.2 hq hr;have HD:Hid (¬q=r→¬x.aB=y.aB):=Td hq hr;have rq0:=IQ q.name r.name q.ty r.ty;clear hq hr hx hy hx0 hy0;by_cases hqr:q=r
    · have rq:∀w0,Calls prog 96 #[.agg #[.string q.name, .int .i64 q.ty], .agg #[.string r.name, .int .i64 r.ty]] w0 fun e w' =>e= .returned (.bool true)∧Below w0.heap.size w0 w' :=fun w0=>(rq0 w0).mono fun e w' ⟨b,he,hi,hb⟩=>⟨by rw [he,hi.2 (KJ.1 hqr)],hb⟩
      have HE2:=Lib.hid (HE.out hqr);clear rq0 HE HD hqr;go_wp2_with fail
      go_region_law (go_simp;go_at_call 96;refine (rq _).mono ?_;rintro e w3 ⟨rfl,h3⟩)
      all_goals go_wp2_with fail
      all_goals go_roundw
      all_goals first
       |exact ⟨j+1,by go_num,HJ.out,Eb.out.1.trans (((aN.below_drewN (Below.refl wr.heap.size wr) _).trans h3).mono Eb.out.1.size),HE2.out⟩
       |(have hjj:=HJ.out;simp [intOf];omega)
    · have rq:∀w0,Calls prog 96 #[.agg #[.string q.name, .int .i64 q.ty], .agg #[.string r.name, .int .i64 r.ty]] w0 fun e w' =>e= .returned (.bool false)∧Below w0.heap.size w0 w' :=fun w0=>(rq0 w0).mono fun e w' ⟨b,he,hi,hb⟩=>⟨by
       rw [he];cases b with
       |true=>exact absurd (KJ.2 (hi.1 rfl)) hqr
       |false=>rfl,hb⟩
      have su:Hid (¬(x.bG=y.bG∧x.tid=y.tid∧x.part=y.part∧x.aX=y.aX∧x.aB=y.aB)):=fun h=>HD.out hqr h.2.2.2.2
      clear rq0 HE HD hqr;go_wp2_with fail
      go_region_law (go_simp;go_at_call 96;refine (rq _).mono ?_;rintro e w3 ⟨rfl,h3⟩)
      all_goals go_wp2_with fail
      all_goals go_ret
      all_goals exact ⟨false,rfl,⟨fun h=>absurd h (by decide),fun h=>absurd h su.out⟩,zw.out.trans (((aN.below_drewN (Below.refl wr.heap.size wr) _).trans h3).mono zw.out.size)⟩
  · have mF:j=n:=by omega
    subst mF;have WA:Hid (x.bG=y.bG∧x.tid=y.tid∧x.part=y.part∧x.aX=y.aX∧x.aB=y.aB):=⟨HE0.out,HE1.out,KJ.2 (HI1.out.1 (by first|exact rfl|exact trivial)),KJ.2 (HI2.out.1 (by first|exact rfl|exact trivial)),CX Eb.out.2 HNX.out HNY.out⟩;go_wp2_with fail;go_ret;exact ⟨true,rfl,⟨fun _=>WA.out,fun _=>rfl⟩,zw.out⟩
theorem gX {ops:Array Oper}{rest:List Oper}{op:Oper}{a:Act}{C:World→Prop}{Q:Act→Prop}{b o:Nat}{p:Pw}(hw:Region.wanted op (yielded ops a.tmps)=true) (x:Operand) (ho:op.op= .load 31 x) (hx:a.eval x= .pointer (some ⟨b,o,none⟩))
 (hr:∀w',C w' →w'.rangeAt b o p.arr.toList) (h:wpQuiet prog ops C Q rest (a.put op.dst (.agg p.arr))):wpQuiet prog ops C Q (op::rest) a:=by
 obtain ⟨d,hu,hd⟩:=Tryz.Kh;refine wpQuiet_step fun K hK=> ?_
 rw [if_pos hw];refine ⟨.agg p.arr,fun w' hC=> ?_,hK _ h⟩;have:=run_loadAt_mid w' b o 31 p.arr.toList d (hr w' hC) hu hd (by rw [show p.arr.toList.length=18 from rfl];exact Tryz.vW);unfold Oper.quietAt execOp;simp only [ho,hx,Sem.run_bind,this,Result.andThen_ok,Sem.run_pure];exact ⟨rfl,rfl⟩
theorem iJ.acv {w W:World}{x:Sx}{tc c s wv:Value}{n:Nat}(h:iJ w x tc c s wv) (hn:x.aB.length=n) (hb:Below w.heap.size w W):Rd W tc n (iO x.aB):=by
 rw [←hn];exact h.tc.below hb
end Go.Proofs.YtcgadodckoalnaaGreatDoor
