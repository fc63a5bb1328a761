/- Parts of the proof, joined: SamC. -/
import Derived.Test.YtfbgdjcnlnfoaaaGreatDoorB12b
import Derived.Test.YtfbgdjcnlnfoaaaGreatDoorB12c
import Derived.Test.YtfbgdjcnlnfoaaaGreatDoorB12d
import Derived.Test.YtfbgdjcnlnfoaaaGreatDoorB12e
import Derived.Test.YtfbgdjcnlnfoaaaGreatDoorB12f
import Derived.Test.YtfbgdjcnlnfoaaaGreatDoorB12g
import Derived.Test.YtfbgdjcnlnfoaaaGreatDoorB12h
namespace Go.Proofs.YtfbgdjcnlnfoaaaGreatDoor
open Go.RowKit
open aH
theorem DJ {a b:ByteArray}(h:a≠b):(a.toList==b.toList)=false:=by rw [eO];exact rW h
theorem bC {a b:ByteArray}(h:a=b):(a.toList==b.toList)=true:=by rw [eO];exact dY.2 h
theorem BS {a b:Int}(h:a≠b):(a==b)=false:=beq_eq_false_iff_ne.2 h
theorem bE {a b:Int}(h:a=b):(a==b)=true:=by rw [h];simp
theorem LW {w:World}{x y:Sx}{tc c s wv pv V5 c' s' wv' pv' :Value}{P:Prop}(hx:jm w x tc c s wv) (hy:jm w y V5 c' s' wv') (sx:SS x) (sy:SS y)
 (hp:∀w',Below w.heap.size w w' →Calls Tryz.prog 65 #[pv,pv', .func (.func 31) #[] #[]] w' fun e w'' =>∃b:Bool,e= .returned (.bool b)∧(b=true ↔ P)∧Below w'.heap.size w' w''):
 Calls Tryz.prog 31 #[.agg (aF x tc c s wv pv), .agg (aF y V5 c' s' wv' pv')] w fun e w' =>∃b:Bool,e= .returned (.bool b)∧(b=true ↔ x=y∧P)∧Below w.heap.size w w' :=by
 have no:∀{R:Ending→World→Prop},(¬(x=y∧P))→(∀(e:Ending) (w' :World),(e= .returned (.bool false)∧Below w.heap.size w w')→∃b:Bool,e= .returned (.bool b)∧(b=true ↔ x=y∧P)∧Below w.heap.size w w'):=by
  rintro _ hn e w' ⟨rfl,hb⟩
  exact ⟨false,rfl,⟨fun h=>absurd h (by decide),fun h=>absurd h hn⟩,hb⟩
 obtain ⟨htc,hc,hs,hw⟩:=hx
 obtain ⟨Vo,hc',hs',hw'⟩:=hy
 have YB:∀w',Below w.heap.size w w' →_:=fun w' hb=>U6 (htc.below hb) (Vo.below hb) sx.1 sy.1
 have ZX:∀w',Below w.heap.size w w' →_:=fun w' hb=>U7 (hc.below hb) (hc'.below hb) sx.2.1 sy.2.1
 have q13:∀w',Below w.heap.size w w' →_:=fun w' hb=>LD (hs.below hb) (hs'.below hb) sx.2.2.1 sy.2.2.1
 have q14:∀w',Below w.heap.size w w' →_:=fun w' hb=>LD (hw.below hb) (hw'.below hb) sx.2.2.2 sy.2.2.2
 obtain ⟨a0,k0,rfl,_⟩:=htc
 obtain ⟨b0,l0,rfl,_⟩:=Vo
 by_cases t0:x.kind=y.kind
 case neg=>exact (X5 (BS t0)).mono fun e w' h=>no (R:=fun _ _=>True) (fun h=>t0 (by rw [h.1])) e w' h
 by_cases t1:x.name=y.name
 case neg=>exact (X6 (bE t0) (DJ t1)).mono fun e w' h=>no (R:=fun _ _=>True) (fun h=>t1 (by rw [h.1])) e w' h
 by_cases t2:x.bM=y.bM
 case neg=>exact (X7 (bE t0) (bC t1) (DJ t2)).mono fun e w' h=>no (R:=fun _ _=>True) (fun h=>t2 (by rw [h.1])) e w' h
 by_cases t3:x.on=y.on
 case neg=>exact (X8 (bE t0) (bC t1) (bC t2) (DJ t3)).mono fun e w' h=>no (R:=fun _ _=>True) (fun h=>t3 (by rw [h.1])) e w' h
 by_cases t4:x.stamp=y.stamp
 case neg=>exact (X9 (bE t0) (bC t1) (bC t2) (bC t3) (BS t4)).mono fun e w' h=>no (R:=fun _ _=>True) (fun h=>t4 (by rw [h.1])) e w' h
 by_cases t5:x.ttl=y.ttl
 case neg=>exact (Ya (bE t0) (bC t1) (bC t2) (bC t3) (bE t4) (BS t5)).mono fun e w' h=>no (R:=fun _ _=>True) (fun h=>t5 (by rw [h.1])) e w' h
 by_cases t6:x.limit=y.limit
 case neg=>exact (Yb (bE t0) (bC t1) (bC t2) (bC t3) (bE t4) (bE t5) (BS t6)).mono fun e w' h=>no (R:=fun _ _=>True) (fun h=>t6 (by rw [h.1])) e w' h
 by_cases t7:x.aW=y.aW
 case neg=>exact (Yc (bE t0) (bC t1) (bC t2) (bC t3) (bE t4) (bE t5) (bE t6) (DJ t7)).mono fun e w' h=>no (R:=fun _ _=>True) (fun h=>t7 (by rw [h.1])) e w' h
 by_cases t8:x.tid=y.tid
 case neg=>exact (Yd (bE t0) (bC t1) (bC t2) (bC t3) (bE t4) (bE t5) (bE t6) (bC t7) (BS t8)).mono fun e w' h=>no (R:=fun _ _=>True) (fun h=>t8 (by rw [h.1])) e w' h
 by_cases t9:x.part.name=y.part.name
 case neg=>exact (Vd (bE t0) (bC t1) (bC t2) (bC t3) (bE t4) (bE t5) (bE t6) (bC t7) (bE t8) (DJ t9)).mono fun e w' h=>no (R:=fun _ _=>True) (fun h=>t9 (by rw [h.1])) e w' h
 by_cases O7:x.part.ty=y.part.ty
 case neg=>exact (Vf (bE t0) (bC t1) (bC t2) (bC t3) (bE t4) (bE t5) (bE t6) (bC t7) (bE t8) (bC t9) (BS O7)).mono fun e w' h=>no (R:=fun _ _=>True) (fun h=>O7 (by rw [h.1])) e w' h
 by_cases t10:x.aI.name=y.aI.name
 case neg=>exact (R8 (bE t0) (bC t1) (bC t2) (bC t3) (bE t4) (bE t5) (bE t6) (bC t7) (bE t8) (bC t9) (bE O7) (DJ t10)).mono fun e w' h=>no (R:=fun _ _=>True) (fun h=>t10 (by rw [h.1])) e w' h
 by_cases CS:x.aI.ty=y.aI.ty
 case neg=>exact (R9 (bE t0) (bC t1) (bC t2) (bC t3) (bE t4) (bE t5) (bE t6) (bC t7) (bE t8) (bC t9) (bE O7) (bC t10) (BS CS)).mono fun e w' h=>no (R:=fun _ _=>True) (fun h=>CS (by rw [h.1])) e w' h
 -- what a contract says where the answer is known
 have fix:∀{F:FuncId} {args:Array Value} {Q:Prop} {v:Bool} {w' :World},(Q ↔ v=true)→Calls Tryz.prog F args w' (fun e w'' =>∃b:Bool,e= .returned (.bool b)∧(b=true ↔ Q)∧Below w'.heap.size w' w'')→Calls Tryz.prog F args w' (fun e w'' =>e= .returned (.bool v)∧Below w'.heap.size w' w''):=by
  intro F args Q v w' hq hc
  refine hc.mono ?_
  rintro e w'' ⟨b,rfl,hb,hbl⟩
  have:b=v:=by
   have h:=hb.trans hq
   cases b with
   |false=>cases v with
    |false=>rfl
    |true=>exact h.2 rfl
   |true=>cases v with
    |false=>exact (h.1 rfl).symm
    |true=>rfl
  rw [this]
  exact ⟨rfl,hbl⟩
 have yes:∀{Q:Prop},Q→(Q ↔ true=true):=fun h=>⟨fun _=>rfl,fun _=>h⟩
 have non:∀{Q:Prop},¬Q→(Q ↔ false=true):=fun h=>⟨fun hq=>absurd hq h,fun hf=>absurd hf (by decide)⟩
 by_cases t11:x.aN=y.aN
 case neg=>exact (Vg (bE t0) (bC t1) (bC t2) (bC t3) (bE t4) (bE t5) (bE t6) (bC t7) (bE t8) (bC t9) (bE O7) (bC t10) (bE CS) (fun w' hb=>fix (non t11) (YB w' hb))).mono fun e w' h=>no (R:=fun _ _=>True) (fun h=>t11 (by rw [h.1])) e w' h
 by_cases t12:x.aO=y.aO
 case neg=>exact (Vh (bE t0) (bC t1) (bC t2) (bC t3) (bE t4) (bE t5) (bE t6) (bC t7) (bE t8) (bC t9) (bE O7) (bC t10) (bE CS) (fun w' hb=>fix (yes t11) (YB w' hb)) (fun w' hb=>fix (non t12) (ZX w' hb))).mono fun e w' h=>no (R:=fun _ _=>True) (fun h=>t12 (by rw [h.1])) e w' h
 by_cases Yf:x.sets=y.sets
 case neg=>exact (Vj (bE t0) (bC t1) (bC t2) (bC t3) (bE t4) (bE t5) (bE t6) (bC t7) (bE t8) (bC t9) (bE O7) (bC t10) (bE CS) (fun w' hb=>fix (yes t11) (YB w' hb)) (fun w' hb=>fix (yes t12) (ZX w' hb)) (fun w' hb=>fix (non Yf) (q13 w' hb))).mono fun e w' h=>no (R:=fun _ _=>True) (fun h=>Yf (by rw [h.1])) e w' h
 by_cases TM:x.aP=y.aP
 case neg=>exact (Vk (bE t0) (bC t1) (bC t2) (bC t3) (bE t4) (bE t5) (bE t6) (bC t7) (bE t8) (bC t9) (bE O7) (bC t10) (bE CS) (fun w' hb=>fix (yes t11) (YB w' hb)) (fun w' hb=>fix (yes t12) (ZX w' hb)) (fun w' hb=>fix (yes Yf) (q13 w' hb)) (fun w' hb=>fix (non TM) (q14 w' hb))).mono fun e w' h=>no (R:=fun _ _=>True) (fun h=>TM (by rw [h.1])) e w' h
 have hxy:x=y:=by
  obtain ⟨x1,x2,x3,x4,x5,x6,⟨x7,x7'⟩,⟨x8,x8'⟩,x9,x10,x11,x12,x13,x14,x15⟩:=x
  obtain ⟨y1,y2,y3,y4,y5,y6,⟨y7,y7'⟩,⟨y8,y8'⟩,y9,y10,y11,Y5,y13,y14,y15⟩:=y
  simp only at t0 t1 t2 t3 t4 t5 t6 t7 t8 t9 O7 t10 CS t11 t12 Yf TM
  subst t0 t1 t2 t3 t4 t5 t6 t7 t8 t9 O7 t10 CS t11 t12 Yf TM
  rfl
 by_cases Yt:P
 · refine (Vn (bE t0) (bC t1) (bC t2) (bC t3) (bE t4) (bE t5) (bE t6) (bC t7) (bE t8) (bC t9) (bE O7) (bC t10) (bE CS) (fun w' hb=>fix (yes t11) (YB w' hb)) (fun w' hb=>fix (yes t12) (ZX w' hb)) (fun w' hb=>fix (yes Yf) (q13 w' hb)) (fun w' hb=>fix (yes TM) (q14 w' hb)) (fun w' hb=>fix (yes Yt) (hp w' hb))).mono ?_
   rintro e w' ⟨rfl,hb⟩
   exact ⟨true,rfl,⟨fun _=>⟨hxy,Yt⟩,fun _=>rfl⟩,hb⟩
 · exact (Vm (bE t0) (bC t1) (bC t2) (bC t3) (bE t4) (bE t5) (bE t6) (bC t7) (bE t8) (bC t9) (bE O7) (bC t10) (bE CS) (fun w' hb=>fix (yes t11) (YB w' hb)) (fun w' hb=>fix (yes t12) (ZX w' hb)) (fun w' hb=>fix (yes Yf) (q13 w' hb)) (fun w' hb=>fix (yes TM) (q14 w' hb)) (fun w' hb=>fix (non Yt) (hp w' hb))).mono fun e w' h=>no (R:=fun _ _=>True) (fun h=>Yt h.2) e w' h
theorem OA {w:World}{p q:Pw}(hp:jm w p.x p.tc p.c p.s p.wv) (hp0:Rd w p.pv 0 []) (hq:jm w q.x q.tc q.c q.s q.wv) (hq0:Rd w q.pv 0 []) (sp:SS p.x) (sq:SS q.x):
 Calls Tryz.prog 31 #[.agg p.arr, .agg q.arr] w fun e w' =>∃b:Bool,e= .returned (.bool b)∧(b=true ↔ p.x=q.x)∧Below w.heap.size w w' :=by
 have h:=LW (P:=True) hp hq sp sq (pv:=p.pv) (pv' :=q.pv) (fun w' hb=>by
  refine (LU (L:= []) (M:= []) (hp0.below hb) (hq0.below hb) (by decide) (by decide) (fun _ h=>absurd h (by simp)) (fun _ h=>absurd h (by simp)) (fun _ h=>absurd h (by simp))).mono ?_
  rintro e w'' ⟨b,rfl,hb,hbl⟩
  exact ⟨b,rfl,⟨fun _=>trivial,fun _=>hb.2 rfl⟩,hbl⟩)
 refine h.mono ?_
 rintro e w' ⟨b,rfl,hb,hbl⟩
 exact ⟨b,rfl,⟨fun h=>(hb.1 h).1,fun h=>hb.2 ⟨h,trivial⟩⟩,hbl⟩
theorem Kv {w:World}{p q:Pw}{L M:List Pw}(hp:Ct w p L) (hq:Ct w q M) (sp:Yy ⟨p.x,L.map Pw.x⟩) (sq:Yy ⟨q.x,M.map Pw.x⟩):
 Calls Tryz.prog 31 #[.agg p.arr, .agg q.arr] w fun e w' =>∃b:Bool,e= .returned (.bool b)∧(b=true ↔ (⟨p.x,L.map Pw.x⟩:jT)=⟨q.x,M.map Pw.x⟩)∧Below w.heap.size w w' :=by
 have hL:L.length≤100000:=by have:=sp.2.1;simpa using this
 have hM:M.length≤100000:=by have:=sq.2.1;simpa using this
 have h:=LW (P:=L.map Pw.x=M.map Pw.x) hp.st hq.st sp.1 sq.1 (pv:=p.pv) (pv' :=q.pv) (fun w' hb=>
  LU (hp.pv.below hb) (hq.pv.below hb) hL hM (fun r hr=>(hp.each r hr).1.one (hp.each r hr).2.one) (fun r hr=>(hq.each r hr).1.one (hq.each r hr).2.one) (fun r hr t ht w'' hb' =>
   have hbb:=hb.trans (hb'.mono hb.size)
   OA ((hp.each r hr).1.below hbb) ((hp.each r hr).2.below hbb) ((hq.each t ht).1.below hbb) ((hq.each t ht).2.below hbb) (sp.2.2 r.x (List.mem_map.2 ⟨r,hr,rfl⟩)) (sq.2.2 t.x (List.mem_map.2 ⟨t,ht,rfl⟩))))
 refine h.mono ?_
 rintro e w' ⟨b,rfl,hb,hbl⟩
 refine ⟨b,rfl,hb.trans ⟨fun h=>by rw [h.1,h.2],fun h=> ?_⟩,hbl⟩
 injection h with h1 h2
 exact ⟨h1,h2⟩
end Go.Proofs.YtfbgdjcnlnfoaaaGreatDoor
