/- Parts of a proof. -/
import Derived.StillTailTactics
import Derived.Test.YtnngbhpeeakfaaaGreatDoorB29
import Derived.Test.YtnngbhpeeakfaaaGreatDoorB30
import Derived.Test.YtnngbhpeeakfaaaGreatDoorB31
import Derived.Test.YtnngbhpeeakfaaaGreatDoorB32
import Derived.Test.YtnngbhpeeakfaaaGreatDoorB33
set_option maxHeartbeats 4000000
set_option maxRecDepth 100000
namespace Go.Proofs.YtnngbhpeeakfaaaGreatDoor
open Go.Proofs.Tryz
open Go.RowKit
open aK
theorem Pp {w:World}{x y:Sx}{tc c s wv pv YL c' s' wv' pv' :Value}{P:Prop}(hx:kL w x tc c s wv) (hy:kL w y YL c' s' wv') (sx:WK x) (sy:WK y)
 (hp:∀w',Below w.heap.size w w' →Calls prog 141 #[pv,pv', .func (.func 69) #[] #[]] w' fun e w'' =>∃b:Bool,e= .returned (.bool b)∧(b=true ↔ P)∧Below w'.heap.size w' w''):
 Calls prog 69 #[.agg (aP x tc c s wv pv), .agg (aP y YL c' s' wv' pv')] w fun e w' =>∃b:Bool,e= .returned (.bool b)∧(b=true ↔ x=y∧P)∧Below w.heap.size w w' :=by
 obtain ⟨a0,k0,e1,_⟩:=hx.tc;obtain ⟨b0,l0,e2,_⟩:=hy.tc;subst e1 e2;by_cases h1:x.kind=y.kind∧x.name=y.name∧x.dA=y.dA∧x.on=y.on
 case neg=>exact abq h1
 obtain ⟨t0,t1,t2,t3⟩:=h1;by_cases h1:x.stamp=y.stamp∧x.ttl=y.ttl∧x.limit=y.limit∧x.bW=y.bW∧x.tid=y.tid
 case neg=>exact abt t0 t1 t2 t3 h1
 obtain ⟨t4,t5,t6,t7,t8⟩:=h1;by_cases h1:x.part.name=y.part.name∧x.part.ty=y.part.ty∧x.aY.name=y.aY.name∧x.aY.ty=y.aY.ty
 case neg=>exact abu t0 t1 t2 t3 t4 t5 t6 t7 t8 h1
 obtain ⟨t9,t10,t11,t12⟩:=h1;exact abv hx hy sx sy hp t0 t1 t2 t3 t4 t5 t6 t7 t8 t9 t10 t11 t12
theorem R6 {w:World}{p q:Pw}(hp:kL w p.x p.tc p.c p.s p.wv) (hp0:Rd w p.pv 0 []) (hq:kL w q.x q.tc q.c q.s q.wv) (hq0:Rd w q.pv 0 []) (sp:WK p.x) (sq:WK q.x):
 Calls prog 69 #[.agg p.arr, .agg q.arr] w fun e w' =>∃b:Bool,e= .returned (.bool b)∧(b=true ↔ p.x=q.x)∧Below w.heap.size w w' :=by
 have h:=Pp (P:=True) hp hq sp sq (pv:=p.pv) (pv' :=q.pv) (fun w' hb=>by
  refine (Pm (L:= []) (M:= []) (hp0.below hb) (hq0.below hb) (by decide) (by decide) (fun _ h=>absurd h (by simp)) (fun _ h=>absurd h (by simp)) (fun _ h=>absurd h (by simp))).mono ?_;rintro e w'' ⟨b,rfl,hb,hbl⟩;exact ⟨b,rfl,⟨fun _=>trivial,fun _=>hb.2 rfl⟩,hbl⟩)
 refine h.mono ?_;rintro e w' ⟨b,rfl,hb,hbl⟩;exact ⟨b,rfl,⟨fun h=>(hb.1 h).1,fun h=>hb.2 ⟨h,trivial⟩⟩,hbl⟩
theorem NI {w:World}{p q:Pw}{L M:List Pw}(hp:Lb w p L) (hq:Lb w q M) (sp:SmS ⟨p.x,L.map Pw.x⟩) (sq:SmS ⟨q.x,M.map Pw.x⟩):
 Calls prog 69 #[.agg p.arr, .agg q.arr] w fun e w' =>∃b:Bool,e= .returned (.bool b)∧(b=true ↔ (⟨p.x,L.map Pw.x⟩:ni)=⟨q.x,M.map Pw.x⟩)∧Below w.heap.size w w' :=by
 have hL:L.length≤100000:=by have:=sp.2.1;simpa using this
 have hM:M.length≤100000:=by have:=sq.2.1;simpa using this
 have h:=Pp (P:=L.map Pw.x=M.map Pw.x) hp.st hq.st sp.1 sq.1 (pv:=p.pv) (pv' :=q.pv) (fun w' hb=>
  Pm (hp.pv.below hb) (hq.pv.below hb) hL hM (fun r hr=>(hp.each r hr).1.one (hp.each r hr).2.one) (fun r hr=>(hq.each r hr).1.one (hq.each r hr).2.one) (fun r hr t ht w'' hb' =>
   have hbb:=hb.trans (hb'.mono hb.size)
   R6 ((hp.each r hr).1.below hbb) ((hp.each r hr).2.below hbb) ((hq.each t ht).1.below hbb) ((hq.each t ht).2.below hbb) (sp.2.2 r.x (List.mem_map.2 ⟨r,hr,rfl⟩)) (sq.2.2 t.x (List.mem_map.2 ⟨t,ht,rfl⟩))))
 refine h.mono ?_;rintro e w' ⟨b,rfl,hb,hbl⟩;refine ⟨b,rfl,hb.trans ⟨fun h=>by rw [h.1,h.2],fun h=> ?_⟩,hbl⟩;injection h with h1 h2
 exact ⟨h1,h2⟩
theorem fD {P:Program}{fn:Func}{a u v:Tmp}{t:TypeId}(h:fn.results= #[.cell a t, .tmp u, .tmp v]) {tm:Array Value}{ad:Addr}{x:Value}{W:World}(ht:tm.getD a undef= .pointer (some ad)) (hl:(loadVar t ad).run P W= .ok x W):
 (results fn tm).run P W= .ok (.tuple #[x,tm.getD u undef,tm.getD v undef]) W:=by
 unfold results;rw [h];rw [Array.getD_eq_getD_getElem?]at ht;simp [ht,asAddr,hl,Result.andThen_ok]
theorem tu (w:World):(Instr.build 39 #[]).run prog w= .ok (.agg bC) w:=by kernel_rfl
def pz:Pw:=⟨Sx.zero,au,au,au,au,au⟩
theorem Bb (w:World) (base:Nat):nJ w base pz [] ni.zero:=⟨rfl,rfl,mJ _ _ _ rfl rfl rfl rfl,World.ownsRow_nil _ _ _ _,fun _ h=>nomatch h⟩
def rM (w:World) (s:ByteArray):Ending→World→Prop:=fun e w' =>∃(p:Pw) (L:List Pw),e= .returned (.tuple #[.agg p.arr, .int .i64 (dJ s).2.1, .int .i64 (dJ s).2.2])∧Below w.heap.size w w' ∧nJ w' w.heap.size p L (dJ s).1
theorem EJ {w1 w2 w:World}{s:ByteArray}{ta:Option Addr}{kM:Nat}(hG:Gp w) (hs:s.size≤1000) (hrow:w1.ownsRow w2.heap.size 276 4 (.slice ta (aX s).1.length kM) (aX s).1.length (lK (aX s).1)) (hb:Below w1.heap.size w1 w):
 ∃K:PK,K.b=w.heap.size∧K.L=w.heap.size+1∧K.X=⟨(aX s).1,(pts s).length⟩∧K.ws=w∧PQ K (w.alloc (.cells #[.slice ta (aX s).1.length kM, .int .i64 0, .int .i64 (pts s).length, .int .i64 (-1)] 198)) ⟨0,none⟩:=by
 have hl:=JD s;have hr:=bP hrow hb;refine ⟨⟨w,w.heap.size+1,w.heap.size,⟨(aX s).1,(pts s).length⟩,hG,Nat.le_refl _,Nat.lt_succ_self _,by show (aX s).1.length≤100000;omega⟩,rfl,rfl,rfl,rfl, ?_⟩;refine ⟨by rw [av];exact Nat.le_refl _,(Below.refl _ w).alloc (Nat.le_refl _) _,ta,kM,aB w _,fun hp=> ?_⟩;obtain ⟨_,_,hsl,hgx⟩:=aN hr;cases hsl;obtain ⟨g,rfl,_,hgl,_⟩:=hgx hp
 have hlt:g<w.heap.size:=by
  have:=aM hr 0 (.int .i64 ((aX s).1[0]'hp).kind) (by have:=iP (aX s).1 0 0 hp (by omega);rw [show 0*4+0=0 from rfl]at this;rw [this];rfl);exact eH this
 exact ⟨g,rfl,by show g≠w.heap.size;omega,by show g<w.heap.size+1;omega,fun j u hj=>aM (hr.alloc _) j u hj⟩
theorem R7 {s:ByteArray}{w:World}(hG:Gp w) (he:(aX s).2.2≠0):Calls prog 67 #[.string s] w (rM w s):=by
 have hB1:=(Below.refl w.heap.size w).alloc (Nat.le_refl _) (.cells bC 39);have hb0:(w.alloc (.cells bC 39)).heap[w.heap.size]? =some (.cells bC 39 (0,0)):=aB w _;have hlex:=mG s _ (hG.below hB1).1;have q1:((aX s).2.2 !=0)=true:=bne_iff_ne.2 he;have HE:Hid (dJ s=(ni.zero,((aX s).2.1:Int),(aX s).2.2)):=by show _=_;unfold dJ;simp only;rw [if_pos he]
 have hbz:=tu;clear he hG;go_enter func67,ntmps67;go_wp2_with fail;refine hlex.mono ?_;rintro e w2 ⟨⟨v,rfl,hrow⟩,hb2⟩;have hB2:=hB1.trans (hb2.mono hB1.size);have nG:=bf hb0 hb2 (aG hb0);go_wp2_with (refine iC rfl _ _ rfl rfl rfl nG rfl rfl rfl ?_;intro w9 Ej);refine bodyPost_ret (fD rfl rfl (vC Ej.blk rfl)) rfl ?_;exact ⟨pz, [],by rw [HE.out];rfl,Ej.below _ _ hB2 (Nat.le_refl _),by rw [HE.out];exact Bb _ _⟩
theorem Gy {w:World}{b:Nat}{T:TypeId}(h:w.heap[b]? =some (.cells bC T (0,0))):w.cell? ⟨b,0,none⟩=some (.int .i64 0)∧w.cell? ⟨b,1,none⟩=some (.string ⟨#[]⟩)∧w.cell? ⟨b,2,none⟩=some (.string ⟨#[]⟩)∧w.cell? ⟨b,3,none⟩=some (.string ⟨#[]⟩)∧w.cell? ⟨b,4,none⟩=some (.string ⟨#[]⟩)∧w.cell? ⟨b,5,none⟩=some (.int .i64 0)∧w.cell? ⟨b,6,none⟩=some (.string ⟨#[]⟩)∧w.cell? ⟨b,7,none⟩=some (.int .i64 0)∧w.cell? ⟨b,8,none⟩=some (.string ⟨#[]⟩)∧w.cell? ⟨b,9,none⟩=some (.int .i64 0)∧w.cell? ⟨b,10,none⟩=some (.slice none 0 0)∧w.cell? ⟨b,11,none⟩=some (.slice none 0 0)∧w.cell? ⟨b,12,none⟩=some (.slice none 0 0)∧w.cell? ⟨b,13,none⟩=some (.slice none 0 0)∧w.cell? ⟨b,14,none⟩=some (.int .i64 0)∧w.cell? ⟨b,15,none⟩=some (.int .i64 0)∧w.cell? ⟨b,16,none⟩=some (.int .i64 0)∧w.cell? ⟨b,17,none⟩=some (.slice none 0 0):=
 ⟨by rw [aj h];rfl,by rw [aj h];rfl,by rw [aj h];rfl,by rw [aj h];rfl,by rw [aj h];rfl,by rw [aj h];rfl,by rw [aj h];rfl,by rw [aj h];rfl,by rw [aj h];rfl,by rw [aj h];rfl,by rw [aj h];rfl,by rw [aj h];rfl,by rw [aj h];rfl,by rw [aj h];rfl,by rw [aj h];rfl,by rw [aj h];rfl,by rw [aj h];rfl,by rw [aj h];rfl⟩
theorem Lj {w:World}{b:Nat}{T:TypeId}(h:w.heap[b]? =some (.cells bC T (0,0))):w.frozen? ⟨b,0,none⟩=false∧w.frozen? ⟨b,1,none⟩=false∧w.frozen? ⟨b,2,none⟩=false∧w.frozen? ⟨b,3,none⟩=false∧w.frozen? ⟨b,4,none⟩=false∧w.frozen? ⟨b,5,none⟩=false∧w.frozen? ⟨b,6,none⟩=false∧w.frozen? ⟨b,7,none⟩=false∧w.frozen? ⟨b,8,none⟩=false∧w.frozen? ⟨b,9,none⟩=false∧w.frozen? ⟨b,10,none⟩=false∧w.frozen? ⟨b,11,none⟩=false∧w.frozen? ⟨b,12,none⟩=false∧w.frozen? ⟨b,13,none⟩=false∧w.frozen? ⟨b,14,none⟩=false∧w.frozen? ⟨b,15,none⟩=false∧w.frozen? ⟨b,16,none⟩=false∧w.frozen? ⟨b,17,none⟩=false:=
 ⟨ak h 0,ak h 1,ak h 2,ak h 3,ak h 4,ak h 5,ak h 6,ak h 7,ak h 8,ak h 9,ak h 10,ak h 11,ak h 12,ak h 13,ak h 14,ak h 15,ak h 16,ak h 17⟩
theorem BR {w:World}{b:Nat}{C V:Array Value}{T:TypeId}(h:w.heap[b]? =some (.cells C T (0,0))) (hC:C.size=18) (hV:V.size=18):Wrote w b V T (w.setCells b 0 V.toList):=by
 have ht:w.there b 0 V.size:=by
  intro j hj;refine ⟨?_,ak h _⟩;rw [aj h,Nat.zero_add,Array.getElem?_eq_getElem (by omega)];rfl
 obtain ⟨C',e1,e2⟩:=oo V.toList 0 w C h;obtain ⟨r1,r2,r3⟩:=mV (b:=b) V.toList 0 w;have hs:=World.rangeAt_setCells_same w b 0 V.toList (by simpa using ht)
 have:C' =V:=by
  apply Array.ext_getElem?;intro j;by_cases hj:j<V.size
  · have:=hs j V[j] (by simp [Array.getElem?_eq_getElem hj]);rw [aj e1,Nat.zero_add]at this;rw [this,Array.getElem?_eq_getElem hj]
  · rw [Array.getElem?_eq_none (by omega),Array.getElem?_eq_none (by omega)]
 subst this;exact ⟨e1,r1,r2,r3⟩
theorem nJ.below {w w' :World}{base:Nat}{p:Pw}{L:List Pw}{z:ni}(h:nJ w base p L z) (hb:Below w.heap.size w w'):nJ w' base p L z:=
 ⟨h.x,h.parts,h.rows.map fun _ _ _ _ _ _ hr=>bP hr hb,bP h.row hb,fun q hq=>⟨(h.each q hq).1.map fun _ _ _ _ _ _ hr=>bP hr hb,(h.each q hq).2⟩⟩
theorem nJ.mono {w:World}{base base' :Nat}{p:Pw}{L:List Pw}{z:ni}(h:nJ w base p L z) (hb:base' ≤base):nJ w base' p L z:=
 ⟨h.x,h.parts,h.rows.mono hb,bH h.row hb,fun q hq=>⟨(h.each q hq).1.mono hb,(h.each q hq).2⟩⟩
theorem adz (V:Array Value) (w:World):(method 515 280 (.agg V) "clerestory/parse.stmt").run prog w= .ok (364, .agg V) w:=by kernel_rfl
theorem adA (V:Array Value) (w:World):(method 515 330 (.agg V) "clerestory/parse.stmt").run prog w= .ok (365, .agg V) w:=by kernel_rfl
theorem adB (V:Array Value) (w:World):(method 515 334 (.agg V) "clerestory/parse.stmt").run prog w= .ok (366, .agg V) w:=by kernel_rfl
theorem zX {K:PK}{W w' :World}{σ:Ps}{k:Nat}{C:Array Value}{T:TypeId}{fr:Nat×Nat}(hD:Did K W σ w') (h:W.heap[k]? =some (.cells C T fr)) (hne:K.b≠k):w'.heap[k]? =some (.cells C T fr):=
 (hD.2.1.block k (aG h) (fun e=>hne (Option.some.inj e).symm)).trans h
theorem lV {w w' :World}{s:ByteArray}{p:Pw}{L:List Pw}{z:ni}{a e:Int}(h:dJ s=(z,a,e)) (hB:Below w.heap.size w w') (hH:nJ w' w.heap.size p L z):rM w s (.returned (.tuple #[.agg p.arr, .int .i64 a, .int .i64 e])) w' :=
 ⟨p,L,by rw [h],hB,by rw [h];exact hH⟩
theorem Wrote.has {w w' :World}{b base:Nat}{V:Array Value}{T:TypeId}{p:Pw}{L:List Pw}{z:ni}(hw:Wrote w b V T w') (h:nJ w base p L z) (hb:b<base):nJ w' base p L z:=by
 have f:∀(e:TypeId) (size n:Nat) (u:Value) (xs:List Value),w.ownsRow base e size u n xs→w'.ownsRow base e size u n xs:=by
  intro e size n u xs hr;obtain ⟨h1,h2⟩:=hr;refine ⟨h1, ?_⟩;rcases h2 with h2|⟨g,cap,cur,a,b',c,d⟩
  · exact .inl h2
  · refine .inr ⟨g,cap,cur,a,b', ?_,d⟩;rw [hw.rest g (by omega)];exact c
 exact ⟨h.x,h.parts,h.rows.map fun _ _ _ _ _ _ hr=>f _ _ _ _ _ hr,f _ _ _ _ _ h.row,fun q hq=>⟨(h.each q hq).1.map fun _ _ _ _ _ _ hr=>f _ _ _ _ _ hr,(h.each q hq).2⟩⟩
theorem R8 {s:ByteArray}{w:World}(hG:Gp w) (he:(aX s).2.2=0) (hC:(Tx.may (⟨(aX s).1,(pts s).length⟩:Tx) (Tx.iY (⟨(aX s).1,(pts s).length⟩:Tx) ((aX s).1.length+2) ⟨0,none⟩).2 (⟨#[59]⟩:ah)).i<(aX s).1.length):Calls prog 67 #[.string s] w (rM w s):=by
 have hB1:=(Below.refl w.heap.size w).alloc (Nat.le_refl _) (.cells bC 39);have hb0:(w.alloc (.cells bC 39)).heap[w.heap.size]? =some (.cells bC 39 (0,0)):=aB w _;have hlex:=mG s _ (hG.below hB1).1;obtain ⟨dK,hsz⟩:=sD he;have q1:((aX s).2.2 !=0)=false:=by rw [he];rfl
 have hX:=Lx.ok dK (pts s).length;obtain ⟨⟨nd,τ⟩,hpt⟩:∃r,jN ⟨(aX s).1,(pts s).length⟩=r:=⟨_,rfl⟩
 have HE:Hid (dJ s=match τ.bad with|some a=>(ni.zero,(a:Int),3)|none=>if 1000<(iA (kI nd)).size then (ni.zero,0,2)else (kI nd,0,0)):=by
  show _=_;unfold dJ;simp only;rw [if_neg (by rw [he];simp),hpt];rfl
 have HST:Hid (τ.bad=none→iG (kI nd).x∧(∀y∈(kI nd).parts,iG y)∧(kI nd).parts.length≤8):=fun hb=>by
  obtain ⟨L,R,Pq,_,_⟩:=mE hX (by rw [hpt];exact hb);rw [hpt]at Pq;exact Pq.st
 unfold jN at hpt;simp only at hpt;obtain ⟨⟨nd',σ1⟩,h1⟩:∃r,Tx.iY ⟨(aX s).1,(pts s).length⟩ ((aX s).1.length+2) ⟨0,none⟩=r:=⟨_,rfl⟩;rw [h1]at hpt;obtain ⟨σ2,h2⟩:∃r,Tx.may ⟨(aX s).1,(pts s).length⟩ σ1 (⟨#[59]⟩:ah)=r:=⟨_,rfl⟩;rw [h2]at hpt;injection hpt with hnd Kh
 rw [h1]at hC;simp only [h2]at hC;have HC:=Lib.hid hC;clear hC;subst hnd;have hbz:=tu;have HG:=Lib.hid hG;have Px:=Lib.hid hsz;clear he hG hsz dK hX;go_enter func67,ntmps67;go_wp2_with fail;refine hlex.mono ?_;rintro e w2 ⟨⟨v,rfl,hrow⟩,hb2⟩;have hB2:=hB1.trans (hb2.mono hB1.size);have nG:=bf hb0 hb2 (aG hb0);obtain ⟨ta,kM,rfl,_⟩:=aN hrow;have hct:=qR s w2 (by have:=Px.out;omega);go_wp2_with fail;refine hct.mono ?_;rintro e w3 ⟨rfl,hb3⟩;have hB3:=hB2.trans (hb3.mono hB2.size);have ku:=bf nG hb3 (aG nG);obtain ⟨K,hKb,Bc,pU,hKw,hPQ⟩:=EJ (HG.out.below hB3) Px.out hrow hb3;have hD4:=Did.refl hPQ;have hb4:=ay ku (.cells #[.slice ta (aX s).1.length kM, .int .i64 0, .int .i64 (pts s).length, .int .i64 (-1)] 198);have hst:=kK (K:=K) ((aX s).1.length+2) hPQ (by rw [pU];show (aX s).1.length - 0<_;omega);rw [pU,h1,hKb]at hst;go_wp2_with fail;refine hst.mono ?_;intro e w5 hz;obtain ⟨v9,rfl,hd5,Ab⟩:=rH hz;have hD5:=hD4.trans hd5;have hmay:=aS hd5.1 (⟨#[59]⟩:ah);rw [pU,h2,hKb]at hmay;go_wp2_with fail;refine hmay.mono ?_;rintro e w6 ⟨rfl,hd6⟩;have hD6:=hD5.trans hd6;have Q0:=Ab.did hd6 (by rw [Bc,av];exact Nat.le_refl _);have hLb:K.L≤(w3.alloc (.cells #[.slice ta (aX s).1.length kM, .int .i64 0, .int .i64 (pts s).length, .int .i64 (-1)] 198)).heap.size:=by rw [Bc,av];exact Nat.le_refl _
 obtain ⟨ta2,Ll,c0,c1,c2,c3,_,f3,_⟩:=hD6.1.cells;rw [hKb]at c0 c1 c2 c3 f3;rw [pU]at c0 c2;have HX:=Lib.hid pU;have Ci:=Lib.hid hKb;have HKL:=Lib.hid Bc;have Jb:=Lib.hid Kh;clear pU hKb Bc Kh h1 h2 hst hmay hct hlex;have hB4:=hB3.alloc hB3.size (.cells #[.slice ta (aX s).1.length kM, .int .i64 0, .int .i64 (pts s).length, .int .i64 (-1)] 198);have LX:Hid (K.b≠w.heap.size):=by show _≠_;rw [Ci.out];have:=aG ku;omega
 by_cases hlt:σ2.i<(aX s).1.length
 · have p0:(σ2.i:Int)<((aX s).1.length:Int):=by omega
   have hf:=Tx.fail ⟨(aX s).1,(pts s).length⟩ σ2;obtain ⟨σ3,h3⟩:∃r,Tx.fail ⟨(aX s).1,(pts s).length⟩ σ2=r:=⟨_,rfl⟩;have HT3:Hid (τ=σ3):=by show _=_;rw [←Jb.out,if_pos hlt,h3]
   have H3:=Lib.hid h3
   obtain ⟨bd,hbad⟩:∃bd,σ3.bad=some bd:=by
    cases hb:σ3.bad with
    |some a=>exact ⟨a,rfl⟩
    |none=>rw [←h3]at hb;exact absurd hb vX
   clear h3 hf;go_wp2_with fail;go_quiet (fail);go_wp2_with fail;have hD7:=hD6.drewN nq;generalize w6.drewN nq=w7 at *;have hat:=iQ hD7.1;rw [HX.out,Ci.out]at hat;refine hat.mono ?_;rintro e w8 ⟨rfl,m8,rfl⟩;have BI:=hD7.drewN m8;generalize w7.drewN m8=w8 at *;have hwr:=gM BI.1 (Tx.here ⟨(aX s).1,(pts s).length⟩ σ2);rw [Ci.out]at hwr;go_wp2_with fail;refine hwr.mono ?_;rintro e w9 ⟨rfl,O1⟩;have wI:=BI.trans O1;replace wI:Did K (w3.alloc (.cells #[.slice ta (aX s).1.length kM, .int .i64 0, .int .i64 (pts s).length, .int .i64 (-1)] 198)) σ3 w9:=by have h:=wI;rw [show σ2.wrong (Tx.here ⟨(aX s).1,(pts s).length⟩ σ2)=σ3 from H3.out]at h;exact h
   have hok:=tK wI.1 (v:=false) (by rw [hbad];rfl);rw [Ci.out]at hok;go_wp2_with fail;refine hok.mono ?_;rintro e wy ⟨rfl,my,rfl⟩;have nC:=wI.drewN my;generalize w9.drewN my=wx at *;obtain ⟨_,_,_,_,_,e3,_,g3,_⟩:=nC.1.cells;rw [Ci.out]at e3 g3;have ZE:σ3.iB=(bd:Int):=by unfold Ps.iB;rw [hbad]
   rw [ZE]at e3;have hbx:=zX nC hb4 LX.out;have hBx:=hB4.grown nC.2.1 hB4.size (fun k hk=>by cases hk;rw [Ci.out];exact hB3.size)
   have HP:Hid (dJ s=(ni.zero,(bd:Int),3)):=by
    show _=_;rw [HE.out,HT3.out,hbad]
   clear hbad ZE;go_wp2_with fail;obtain ⟨zc0,zc1,zc2,zc3,zc4,zc5,zc6,zc7,zc8,zc9,afF,afG,afH,afI,afJ,afK,afL,afM⟩:=Gy hbx;obtain ⟨zf0,zf1,zf2,zf3,zf4,zf5,zf6,zf7,zf8,zf9,afN,afO,afP,afQ,afR,afS,afT,afU⟩:=Lj hbx;have hwz:=BR (w:=wx) (V:=bC) hbx rfl rfl;obtain ⟨wz,Jd⟩:∃wz,wz=wx.setCells w.heap.size 0 [.int .i64 0, .string ⟨#[]⟩, .string ⟨#[]⟩, .string ⟨#[]⟩, .string ⟨#[]⟩, .int .i64 0, .string ⟨#[]⟩, .int .i64 0, .string ⟨#[]⟩, .int .i64 0, .slice none 0 0, .slice none 0 0, .slice none 0 0, .slice none 0 0, .int .i64 0, .int .i64 0, .int .i64 0, .slice none 0 0]:=⟨_,rfl⟩;replace hwz:Wrote wx w.heap.size bC 39 (wx.setCells w.heap.size 0 [.int .i64 0, .string ⟨#[]⟩, .string ⟨#[]⟩, .string ⟨#[]⟩, .string ⟨#[]⟩, .int .i64 0, .string ⟨#[]⟩, .int .i64 0, .string ⟨#[]⟩, .int .i64 0, .slice none 0 0, .slice none 0 0, .slice none 0 0, .slice none 0 0, .int .i64 0, .int .i64 0, .int .i64 0, .slice none 0 0]):=hwz;rw [←Jd]at hwz;simp only [World.setCells,Nat.zero_add,Nat.reduceAdd]at Jd;have HWZ:=Lib.hid Jd;clear Jd;have hne1:¬w3.heap.size=w.heap.size:=by have:=aG ku;omega
   have hne2:¬w.heap.size=w3.heap.size:=by have:=aG ku;omega
   go_region
   all_goals
    go_wp2_with fail;rw [←HWZ.out];refine bodyPost_ret (fD rfl rfl (vC (w:=wz.drew) hwz.blk rfl)) rfl ?_;exact lV (p:=pz) HP.out (hwz.below _ _ hBx (Nat.le_refl _)).drew (Bb _ _)
 · exact absurd HC.out hlt
theorem R9 {s:ByteArray}{w:World}(hG:Gp w) (he:(aX s).2.2=0) (hC:¬(Tx.may (⟨(aX s).1,(pts s).length⟩:Tx) (Tx.iY (⟨(aX s).1,(pts s).length⟩:Tx) ((aX s).1.length+2) ⟨0,none⟩).2 (⟨#[59]⟩:ah)).i<(aX s).1.length∧(Tx.may (⟨(aX s).1,(pts s).length⟩:Tx) (Tx.iY (⟨(aX s).1,(pts s).length⟩:Tx) ((aX s).1.length+2) ⟨0,none⟩).2 (⟨#[59]⟩:ah)).bad≠none):Calls prog 67 #[.string s] w (rM w s):=by
 have hB1:=(Below.refl w.heap.size w).alloc (Nat.le_refl _) (.cells bC 39);have hb0:(w.alloc (.cells bC 39)).heap[w.heap.size]? =some (.cells bC 39 (0,0)):=aB w _;have hlex:=mG s _ (hG.below hB1).1;obtain ⟨dK,hsz⟩:=sD he;have q1:((aX s).2.2 !=0)=false:=by rw [he];rfl
 have hX:=Lx.ok dK (pts s).length;obtain ⟨⟨nd,τ⟩,hpt⟩:∃r,jN ⟨(aX s).1,(pts s).length⟩=r:=⟨_,rfl⟩
 have HE:Hid (dJ s=match τ.bad with|some a=>(ni.zero,(a:Int),3)|none=>if 1000<(iA (kI nd)).size then (ni.zero,0,2)else (kI nd,0,0)):=by
  show _=_;unfold dJ;simp only;rw [if_neg (by rw [he];simp),hpt];rfl
 have HST:Hid (τ.bad=none→iG (kI nd).x∧(∀y∈(kI nd).parts,iG y)∧(kI nd).parts.length≤8):=fun hb=>by
  obtain ⟨L,R,Pq,_,_⟩:=mE hX (by rw [hpt];exact hb);rw [hpt]at Pq;exact Pq.st
 unfold jN at hpt;simp only at hpt;obtain ⟨⟨nd',σ1⟩,h1⟩:∃r,Tx.iY ⟨(aX s).1,(pts s).length⟩ ((aX s).1.length+2) ⟨0,none⟩=r:=⟨_,rfl⟩;rw [h1]at hpt;obtain ⟨σ2,h2⟩:∃r,Tx.may ⟨(aX s).1,(pts s).length⟩ σ1 (⟨#[59]⟩:ah)=r:=⟨_,rfl⟩;rw [h2]at hpt;injection hpt with hnd Kh
 rw [h1]at hC;simp only [h2]at hC;have HC:=Lib.hid hC;clear hC;subst hnd;have hbz:=tu;have HG:=Lib.hid hG;have Px:=Lib.hid hsz;clear he hG hsz dK hX;go_enter func67,ntmps67;go_wp2_with fail;refine hlex.mono ?_;rintro e w2 ⟨⟨v,rfl,hrow⟩,hb2⟩;have hB2:=hB1.trans (hb2.mono hB1.size);have nG:=bf hb0 hb2 (aG hb0);obtain ⟨ta,kM,rfl,_⟩:=aN hrow;have hct:=qR s w2 (by have:=Px.out;omega);go_wp2_with fail;refine hct.mono ?_;rintro e w3 ⟨rfl,hb3⟩;have hB3:=hB2.trans (hb3.mono hB2.size);have ku:=bf nG hb3 (aG nG);obtain ⟨K,hKb,Bc,pU,hKw,hPQ⟩:=EJ (HG.out.below hB3) Px.out hrow hb3;have hD4:=Did.refl hPQ;have hb4:=ay ku (.cells #[.slice ta (aX s).1.length kM, .int .i64 0, .int .i64 (pts s).length, .int .i64 (-1)] 198);have hst:=kK (K:=K) ((aX s).1.length+2) hPQ (by rw [pU];show (aX s).1.length - 0<_;omega);rw [pU,h1,hKb]at hst;go_wp2_with fail;refine hst.mono ?_;intro e w5 hz;obtain ⟨v9,rfl,hd5,Ab⟩:=rH hz;have hD5:=hD4.trans hd5;have hmay:=aS hd5.1 (⟨#[59]⟩:ah);rw [pU,h2,hKb]at hmay;go_wp2_with fail;refine hmay.mono ?_;rintro e w6 ⟨rfl,hd6⟩;have hD6:=hD5.trans hd6;have Q0:=Ab.did hd6 (by rw [Bc,av];exact Nat.le_refl _);have hLb:K.L≤(w3.alloc (.cells #[.slice ta (aX s).1.length kM, .int .i64 0, .int .i64 (pts s).length, .int .i64 (-1)] 198)).heap.size:=by rw [Bc,av];exact Nat.le_refl _
 obtain ⟨ta2,Ll,c0,c1,c2,c3,_,f3,_⟩:=hD6.1.cells;rw [hKb]at c0 c1 c2 c3 f3;rw [pU]at c0 c2;have HX:=Lib.hid pU;have Ci:=Lib.hid hKb;have HKL:=Lib.hid Bc;have Jb:=Lib.hid Kh;clear pU hKb Bc Kh h1 h2 hst hmay hct hlex;have hB4:=hB3.alloc hB3.size (.cells #[.slice ta (aX s).1.length kM, .int .i64 0, .int .i64 (pts s).length, .int .i64 (-1)] 198);have LX:Hid (K.b≠w.heap.size):=by show _≠_;rw [Ci.out];have:=aG ku;omega
 by_cases hlt:σ2.i<(aX s).1.length
 · exact absurd hlt HC.out.1
 · have p0:¬(σ2.i:Int)<((aX s).1.length:Int):=by omega
   have HT3:Hid (τ=σ2):=by show _=_;rw [←Jb.out,if_neg hlt]
   cases hbad:σ2.bad with
   |some bd=>
    go_wp2_with fail;go_quiet (fail);go_wp2_with fail;have wI:=hD6.drewN nq;generalize w6.drewN nq=w9 at *;have hok:=tK wI.1 (v:=false) (by rw [hbad];rfl);rw [Ci.out]at hok;go_wp2_with fail;refine hok.mono ?_;rintro e wy ⟨rfl,my,rfl⟩;have nC:=wI.drewN my;generalize w9.drewN my=wx at *;obtain ⟨_,_,_,_,_,e3,_,g3,_⟩:=nC.1.cells;rw [Ci.out]at e3 g3;have ZE:σ2.iB=(bd:Int):=by unfold Ps.iB;rw [hbad]
    rw [ZE]at e3;have hbx:=zX nC hb4 LX.out;have hBx:=hB4.grown nC.2.1 hB4.size (fun k hk=>by cases hk;rw [Ci.out];exact hB3.size)
    have HP:Hid (dJ s=(ni.zero,(bd:Int),3)):=by
     show _=_;rw [HE.out,HT3.out,hbad]
    clear hbad ZE;go_wp2_with fail;obtain ⟨zc0,zc1,zc2,zc3,zc4,zc5,zc6,zc7,zc8,zc9,afF,afG,afH,afI,afJ,afK,afL,afM⟩:=Gy hbx;obtain ⟨zf0,zf1,zf2,zf3,zf4,zf5,zf6,zf7,zf8,zf9,afN,afO,afP,afQ,afR,afS,afT,afU⟩:=Lj hbx;have hwz:=BR (w:=wx) (V:=bC) hbx rfl rfl;obtain ⟨wz,Jd⟩:∃wz,wz=wx.setCells w.heap.size 0 [.int .i64 0, .string ⟨#[]⟩, .string ⟨#[]⟩, .string ⟨#[]⟩, .string ⟨#[]⟩, .int .i64 0, .string ⟨#[]⟩, .int .i64 0, .string ⟨#[]⟩, .int .i64 0, .slice none 0 0, .slice none 0 0, .slice none 0 0, .slice none 0 0, .int .i64 0, .int .i64 0, .int .i64 0, .slice none 0 0]:=⟨_,rfl⟩;replace hwz:Wrote wx w.heap.size bC 39 (wx.setCells w.heap.size 0 [.int .i64 0, .string ⟨#[]⟩, .string ⟨#[]⟩, .string ⟨#[]⟩, .string ⟨#[]⟩, .int .i64 0, .string ⟨#[]⟩, .int .i64 0, .string ⟨#[]⟩, .int .i64 0, .slice none 0 0, .slice none 0 0, .slice none 0 0, .slice none 0 0, .int .i64 0, .int .i64 0, .int .i64 0, .slice none 0 0]):=hwz;rw [←Jd]at hwz;simp only [World.setCells,Nat.zero_add,Nat.reduceAdd]at Jd;have HWZ:=Lib.hid Jd;clear Jd;have hne1:¬w3.heap.size=w.heap.size:=by have:=aG ku;omega
    have hne2:¬w.heap.size=w3.heap.size:=by have:=aG ku;omega
    go_region
    all_goals
     go_wp2_with fail;rw [←HWZ.out];refine bodyPost_ret (fD rfl rfl (vC (w:=wz.drew) hwz.blk rfl)) rfl ?_;exact lV (p:=pz) HP.out (hwz.below _ _ hBx (Nat.le_refl _)).drew (Bb _ _)
   |none=>exact absurd hbad HC.out.2
theorem Sb {s:ByteArray}{w:World}(hG:Gp w) (he:(aX s).2.2=0) (hC:¬(Tx.may (⟨(aX s).1,(pts s).length⟩:Tx) (Tx.iY (⟨(aX s).1,(pts s).length⟩:Tx) ((aX s).1.length+2) ⟨0,none⟩).2 (⟨#[59]⟩:ah)).i<(aX s).1.length∧(Tx.may (⟨(aX s).1,(pts s).length⟩:Tx) (Tx.iY (⟨(aX s).1,(pts s).length⟩:Tx) ((aX s).1.length+2) ⟨0,none⟩).2 (⟨#[59]⟩:ah)).bad=none∧∃x,(Tx.iY (⟨(aX s).1,(pts s).length⟩:Tx) ((aX s).1.length+2) ⟨0,none⟩).1= .plain x):Calls prog 67 #[.string s] w (rM w s):=by
 have hB1:=(Below.refl w.heap.size w).alloc (Nat.le_refl _) (.cells bC 39);have hb0:(w.alloc (.cells bC 39)).heap[w.heap.size]? =some (.cells bC 39 (0,0)):=aB w _;have hlex:=mG s _ (hG.below hB1).1;obtain ⟨dK,hsz⟩:=sD he;have q1:((aX s).2.2 !=0)=false:=by rw [he];rfl
 have hX:=Lx.ok dK (pts s).length;obtain ⟨⟨nd,τ⟩,hpt⟩:∃r,jN ⟨(aX s).1,(pts s).length⟩=r:=⟨_,rfl⟩
 have HE:Hid (dJ s=match τ.bad with|some a=>(ni.zero,(a:Int),3)|none=>if 1000<(iA (kI nd)).size then (ni.zero,0,2)else (kI nd,0,0)):=by
  show _=_;unfold dJ;simp only;rw [if_neg (by rw [he];simp),hpt];rfl
 have HST:Hid (τ.bad=none→iG (kI nd).x∧(∀y∈(kI nd).parts,iG y)∧(kI nd).parts.length≤8):=fun hb=>by
  obtain ⟨L,R,Pq,_,_⟩:=mE hX (by rw [hpt];exact hb);rw [hpt]at Pq;exact Pq.st
 unfold jN at hpt;simp only at hpt;obtain ⟨⟨nd',σ1⟩,h1⟩:∃r,Tx.iY ⟨(aX s).1,(pts s).length⟩ ((aX s).1.length+2) ⟨0,none⟩=r:=⟨_,rfl⟩;rw [h1]at hpt;obtain ⟨σ2,h2⟩:∃r,Tx.may ⟨(aX s).1,(pts s).length⟩ σ1 (⟨#[59]⟩:ah)=r:=⟨_,rfl⟩;rw [h2]at hpt;injection hpt with hnd Kh
 rw [h1]at hC;simp only [h2]at hC;have HC:=Lib.hid hC;clear hC;subst hnd;have hbz:=tu;have HG:=Lib.hid hG;have Px:=Lib.hid hsz;clear he hG hsz dK hX;go_enter func67,ntmps67;go_wp2_with fail;refine hlex.mono ?_;rintro e w2 ⟨⟨v,rfl,hrow⟩,hb2⟩;have hB2:=hB1.trans (hb2.mono hB1.size);have nG:=bf hb0 hb2 (aG hb0);obtain ⟨ta,kM,rfl,_⟩:=aN hrow;have hct:=qR s w2 (by have:=Px.out;omega);go_wp2_with fail;refine hct.mono ?_;rintro e w3 ⟨rfl,hb3⟩;have hB3:=hB2.trans (hb3.mono hB2.size);have ku:=bf nG hb3 (aG nG);obtain ⟨K,hKb,Bc,pU,hKw,hPQ⟩:=EJ (HG.out.below hB3) Px.out hrow hb3;have hD4:=Did.refl hPQ;have hb4:=ay ku (.cells #[.slice ta (aX s).1.length kM, .int .i64 0, .int .i64 (pts s).length, .int .i64 (-1)] 198);have hst:=kK (K:=K) ((aX s).1.length+2) hPQ (by rw [pU];show (aX s).1.length - 0<_;omega);rw [pU,h1,hKb]at hst;go_wp2_with fail;refine hst.mono ?_;intro e w5 hz;obtain ⟨v9,rfl,hd5,Ab⟩:=rH hz;have hD5:=hD4.trans hd5;have hmay:=aS hd5.1 (⟨#[59]⟩:ah);rw [pU,h2,hKb]at hmay;go_wp2_with fail;refine hmay.mono ?_;rintro e w6 ⟨rfl,hd6⟩;have hD6:=hD5.trans hd6;have Q0:=Ab.did hd6 (by rw [Bc,av];exact Nat.le_refl _);have hLb:K.L≤(w3.alloc (.cells #[.slice ta (aX s).1.length kM, .int .i64 0, .int .i64 (pts s).length, .int .i64 (-1)] 198)).heap.size:=by rw [Bc,av];exact Nat.le_refl _
 obtain ⟨ta2,Ll,c0,c1,c2,c3,_,f3,_⟩:=hD6.1.cells;rw [hKb]at c0 c1 c2 c3 f3;rw [pU]at c0 c2;have HX:=Lib.hid pU;have Ci:=Lib.hid hKb;have HKL:=Lib.hid Bc;have Jb:=Lib.hid Kh;clear pU hKb Bc Kh h1 h2 hst hmay hct hlex;have hB4:=hB3.alloc hB3.size (.cells #[.slice ta (aX s).1.length kM, .int .i64 0, .int .i64 (pts s).length, .int .i64 (-1)] 198);have LX:Hid (K.b≠w.heap.size):=by show _≠_;rw [Ci.out];have:=aG ku;omega
 by_cases hlt:σ2.i<(aX s).1.length
 · exact absurd hlt HC.out.1
 · have p0:¬(σ2.i:Int)<((aX s).1.length:Int):=by omega
   have HT3:Hid (τ=σ2):=by show _=_;rw [←Jb.out,if_neg hlt]
   cases hbad:σ2.bad with
   |some bd=>exact absurd hbad (by rw [HC.out.2.1];simp)
   |none=>
    go_wp2_with fail;go_quiet (fail);go_wp2_with fail;have wI:=hD6.drewN nq;have hn9:=Q0.below (aK.below_drewN (Below.refl w6.heap.size w6) nq);generalize w6.drewN nq=w9 at *;have hok:=tK wI.1 (v:=true) (by rw [hbad];rfl);rw [Ci.out]at hok;have hst:=HST.out (by rw [HT3.out];exact hbad)
    have HP:Hid (dJ s=if 1000<(iA (kI nd')).size then (ni.zero,0,2)else (kI nd',0,0)):=by
     show _=_;rw [HE.out,HT3.out,hbad]
    clear hbad;go_wp2_with fail;refine hok.mono ?_;rintro e wy ⟨rfl,my,rfl⟩;have nC:=wI.drewN my;have V7:=hn9.below (aK.below_drewN (Below.refl w9.heap.size w9) my);generalize w9.drewN my=wx at *;have hbx:=zX nC hb4 LX.out;have hBx:=hB4.grown nC.2.1 hB4.size (fun k hk=>by cases hk;rw [Ci.out];exact hB3.size);cases nd' with
    |plain x=>
     obtain ⟨tc,c,s',wv,rfl,hrw⟩:=V7;have Lm:=hrw.one;have hmt:=adz;have hsm:=Yl (w:=wx) x tc c s' wv Lm;go_wp2_with fail;refine hsm.mono ?_;rintro e wA ⟨rfl,hbs⟩;have hrw1:=hrw.mono (show w.heap.size+1≤_ by rw [av];have:=hB3.size;omega);have hrw2:=hrw1.map fun _ _ _ _ _ _ hr=>bP hr hbs
     have OQ:=bf hbx hbs (aG hbx);have WL:=hBx.trans (hbs.mono hBx.size);have hone:(aP x tc c s' wv au).toList.all (·.oneCell')=true:=Lm;have hW:=aB wA (.cells (aP x tc c s' wv au) 39);have EK:=WL.alloc WL.size (.cells (aP x tc c s' wv au) 39);have hT:Calls prog 68 #[.agg (aP x tc c s' wv au)] (wA.alloc (.cells (aP x tc c s' wv au) 39)) fun e w' =>e= .returned (.string (iA (kI (.plain x))))∧Below (wA.alloc (.cells (aP x tc c s' wv au) 39)).heap.size (wA.alloc (.cells (aP x tc c s' wv au) 39)) w' :=vZ (p:=⟨x,tc,c,s',wv,au⟩) (L:= []) (HG.out.below EK) ⟨hst.1,(hrw2.map fun _ _ _ _ _ _ hr=>hr.alloc _).rd,rfl⟩ (fun _=>⟨Nat.zero_le _,Ny _,fun _ h=>nomatch h⟩)
     obtain ⟨tx,htx⟩:∃r,iA (kI (.plain x))=r:=⟨_,rfl⟩;rw [htx]at hT HP;have ZF:=Lib.hid HP.out;clear HP htx;go_wp2_with (first|refine jw rfl _ _ rfl rfl rfl rfl rfl hone ?_|refine bK rfl _ rfl rfl rfl hW ?_);refine hT.mono ?_;rintro e wB ⟨rfl,BF⟩;have hWB:=bf hW BF (aG hW);have Lp:=bf (ay OQ _) BF (aG (ay OQ _));have WM:=EK.trans (BF.mono EK.size);have hHB:=(show nJ wA (w.heap.size+1) ⟨x,tc,c,s',wv,au⟩ [] (kI (.plain x))from ⟨rfl,rfl,hrw2,World.ownsRow_nil _ _ _ _,fun _ h=>nomatch h⟩).below ((Below.refl wA.heap.size wA).alloc (Nat.le_refl _) (.cells (aP x tc c s' wv au) 39)|>.trans (BF.mono (by rw [av];omega)));by_cases hbig:1000<tx.size
     · have p9:(1000:Int)<(tx.size:Int):=by omega
       have HQ:Hid (dJ s=(ni.zero,0,2)):=by show _=_;rw [ZF.out,if_pos hbig]
       clear hbig;go_wp2_with (refine iC rfl _ _ rfl rfl rfl Lp rfl rfl rfl ?_;intro wz hwz);refine bodyPost_ret (fD rfl rfl (vC hwz.blk rfl)) rfl ?_;exact lV (p:=pz) HQ.out (hwz.below _ _ WM (Nat.le_refl _)) (Bb _ _)
     · have p9:¬(1000:Int)<(tx.size:Int):=by omega
       have HQ:Hid (dJ s=(kI (.plain x),0,0)):=by show _=_;rw [ZF.out,if_neg hbig]
       clear hbig;go_wp2_with (first|refine bK rfl _ rfl rfl rfl hWB ?_|(refine iC rfl _ _ rfl rfl rfl Lp rfl rfl hone ?_;intro wz hwz));refine bodyPost_ret (fD rfl rfl (vC hwz.blk rfl)) rfl ?_;exact lV (p:=⟨x,tc,c,s',wv,au⟩) HQ.out (hwz.below _ _ WM (Nat.le_refl _)) ((hwz.has hHB (Nat.lt_succ_self _)).mono (Nat.le_succ _))
    |change x=>obtain ⟨_,h⟩:=HC.out.2.2;exact absurd h (by simp)
    |batch l=>obtain ⟨_,h⟩:=HC.out.2.2;exact absurd h (by simp)
theorem Sd {s:ByteArray}{w:World}(hG:Gp w) (he:(aX s).2.2=0) (hC:¬(Tx.may (⟨(aX s).1,(pts s).length⟩:Tx) (Tx.iY (⟨(aX s).1,(pts s).length⟩:Tx) ((aX s).1.length+2) ⟨0,none⟩).2 (⟨#[59]⟩:ah)).i<(aX s).1.length∧(Tx.may (⟨(aX s).1,(pts s).length⟩:Tx) (Tx.iY (⟨(aX s).1,(pts s).length⟩:Tx) ((aX s).1.length+2) ⟨0,none⟩).2 (⟨#[59]⟩:ah)).bad=none∧∃x,(Tx.iY (⟨(aX s).1,(pts s).length⟩:Tx) ((aX s).1.length+2) ⟨0,none⟩).1= .change x):Calls prog 67 #[.string s] w (rM w s):=by
 have hB1:=(Below.refl w.heap.size w).alloc (Nat.le_refl _) (.cells bC 39);have hb0:(w.alloc (.cells bC 39)).heap[w.heap.size]? =some (.cells bC 39 (0,0)):=aB w _;have hlex:=mG s _ (hG.below hB1).1;obtain ⟨dK,hsz⟩:=sD he;have q1:((aX s).2.2 !=0)=false:=by rw [he];rfl
 have hX:=Lx.ok dK (pts s).length;obtain ⟨⟨nd,τ⟩,hpt⟩:∃r,jN ⟨(aX s).1,(pts s).length⟩=r:=⟨_,rfl⟩
 have HE:Hid (dJ s=match τ.bad with|some a=>(ni.zero,(a:Int),3)|none=>if 1000<(iA (kI nd)).size then (ni.zero,0,2)else (kI nd,0,0)):=by
  show _=_;unfold dJ;simp only;rw [if_neg (by rw [he];simp),hpt];rfl
 have HST:Hid (τ.bad=none→iG (kI nd).x∧(∀y∈(kI nd).parts,iG y)∧(kI nd).parts.length≤8):=fun hb=>by
  obtain ⟨L,R,Pq,_,_⟩:=mE hX (by rw [hpt];exact hb);rw [hpt]at Pq;exact Pq.st
 unfold jN at hpt;simp only at hpt;obtain ⟨⟨nd',σ1⟩,h1⟩:∃r,Tx.iY ⟨(aX s).1,(pts s).length⟩ ((aX s).1.length+2) ⟨0,none⟩=r:=⟨_,rfl⟩;rw [h1]at hpt;obtain ⟨σ2,h2⟩:∃r,Tx.may ⟨(aX s).1,(pts s).length⟩ σ1 (⟨#[59]⟩:ah)=r:=⟨_,rfl⟩;rw [h2]at hpt;injection hpt with hnd Kh
 rw [h1]at hC;simp only [h2]at hC;have HC:=Lib.hid hC;clear hC;subst hnd;have hbz:=tu;have HG:=Lib.hid hG;have Px:=Lib.hid hsz;clear he hG hsz dK hX;go_enter func67,ntmps67;go_wp2_with fail;refine hlex.mono ?_;rintro e w2 ⟨⟨v,rfl,hrow⟩,hb2⟩;have hB2:=hB1.trans (hb2.mono hB1.size);have nG:=bf hb0 hb2 (aG hb0);obtain ⟨ta,kM,rfl,_⟩:=aN hrow;have hct:=qR s w2 (by have:=Px.out;omega);go_wp2_with fail;refine hct.mono ?_;rintro e w3 ⟨rfl,hb3⟩;have hB3:=hB2.trans (hb3.mono hB2.size);have ku:=bf nG hb3 (aG nG);obtain ⟨K,hKb,Bc,pU,hKw,hPQ⟩:=EJ (HG.out.below hB3) Px.out hrow hb3;have hD4:=Did.refl hPQ;have hb4:=ay ku (.cells #[.slice ta (aX s).1.length kM, .int .i64 0, .int .i64 (pts s).length, .int .i64 (-1)] 198);have hst:=kK (K:=K) ((aX s).1.length+2) hPQ (by rw [pU];show (aX s).1.length - 0<_;omega);rw [pU,h1,hKb]at hst;go_wp2_with fail;refine hst.mono ?_;intro e w5 hz;obtain ⟨v9,rfl,hd5,Ab⟩:=rH hz;have hD5:=hD4.trans hd5;have hmay:=aS hd5.1 (⟨#[59]⟩:ah);rw [pU,h2,hKb]at hmay;go_wp2_with fail;refine hmay.mono ?_;rintro e w6 ⟨rfl,hd6⟩;have hD6:=hD5.trans hd6;have Q0:=Ab.did hd6 (by rw [Bc,av];exact Nat.le_refl _);have hLb:K.L≤(w3.alloc (.cells #[.slice ta (aX s).1.length kM, .int .i64 0, .int .i64 (pts s).length, .int .i64 (-1)] 198)).heap.size:=by rw [Bc,av];exact Nat.le_refl _
 obtain ⟨ta2,Ll,c0,c1,c2,c3,_,f3,_⟩:=hD6.1.cells;rw [hKb]at c0 c1 c2 c3 f3;rw [pU]at c0 c2;have HX:=Lib.hid pU;have Ci:=Lib.hid hKb;have HKL:=Lib.hid Bc;have Jb:=Lib.hid Kh;clear pU hKb Bc Kh h1 h2 hst hmay hct hlex;have hB4:=hB3.alloc hB3.size (.cells #[.slice ta (aX s).1.length kM, .int .i64 0, .int .i64 (pts s).length, .int .i64 (-1)] 198);have LX:Hid (K.b≠w.heap.size):=by show _≠_;rw [Ci.out];have:=aG ku;omega
 by_cases hlt:σ2.i<(aX s).1.length
 · exact absurd hlt HC.out.1
 · have p0:¬(σ2.i:Int)<((aX s).1.length:Int):=by omega
   have HT3:Hid (τ=σ2):=by show _=_;rw [←Jb.out,if_neg hlt]
   cases hbad:σ2.bad with
   |some bd=>exact absurd hbad (by rw [HC.out.2.1];simp)
   |none=>
    go_wp2_with fail;go_quiet (fail);go_wp2_with fail;have wI:=hD6.drewN nq;have hn9:=Q0.below (aK.below_drewN (Below.refl w6.heap.size w6) nq);generalize w6.drewN nq=w9 at *;have hok:=tK wI.1 (v:=true) (by rw [hbad];rfl);rw [Ci.out]at hok;have hst:=HST.out (by rw [HT3.out];exact hbad)
    have HP:Hid (dJ s=if 1000<(iA (kI nd')).size then (ni.zero,0,2)else (kI nd',0,0)):=by
     show _=_;rw [HE.out,HT3.out,hbad]
    clear hbad;go_wp2_with fail;refine hok.mono ?_;rintro e wy ⟨rfl,my,rfl⟩;have nC:=wI.drewN my;have V7:=hn9.below (aK.below_drewN (Below.refl w9.heap.size w9) my);generalize w9.drewN my=wx at *;have hbx:=zX nC hb4 LX.out;have hBx:=hB4.grown nC.2.1 hB4.size (fun k hk=>by cases hk;rw [Ci.out];exact hB3.size);cases nd' with
    |plain x=>obtain ⟨_,h⟩:=HC.out.2.2;exact absurd h (by simp)
    |change x=>
     obtain ⟨tc,c,s',wv,rfl,hrw⟩:=V7;have Lm:=hrw.one;have hmt:=adA;have hsm:=Ym (w:=wx) x tc c s' wv Lm;go_wp2_with fail;refine hsm.mono ?_;rintro e wA ⟨rfl,hbs⟩;have hrw1:=hrw.mono (show w.heap.size+1≤_ by rw [av];have:=hB3.size;omega);have hrw2:=hrw1.map fun _ _ _ _ _ _ hr=>bP hr hbs
     have OQ:=bf hbx hbs (aG hbx);have WL:=hBx.trans (hbs.mono hBx.size);have hone:(aP x tc c s' wv au).toList.all (·.oneCell')=true:=Lm;have hW:=aB wA (.cells (aP x tc c s' wv au) 39);have EK:=WL.alloc WL.size (.cells (aP x tc c s' wv au) 39);have hT:Calls prog 68 #[.agg (aP x tc c s' wv au)] (wA.alloc (.cells (aP x tc c s' wv au) 39)) fun e w' =>e= .returned (.string (iA (kI (.change x))))∧Below (wA.alloc (.cells (aP x tc c s' wv au) 39)).heap.size (wA.alloc (.cells (aP x tc c s' wv au) 39)) w' :=vZ (p:=⟨x,tc,c,s',wv,au⟩) (L:= []) (HG.out.below EK) ⟨hst.1,(hrw2.map fun _ _ _ _ _ _ hr=>hr.alloc _).rd,rfl⟩ (fun _=>⟨Nat.zero_le _,Ny _,fun _ h=>nomatch h⟩)
     obtain ⟨tx,htx⟩:∃r,iA (kI (.change x))=r:=⟨_,rfl⟩;rw [htx]at hT HP;have ZF:=Lib.hid HP.out;clear HP htx;go_wp2_with (first|refine jw rfl _ _ rfl rfl rfl rfl rfl hone ?_|refine bK rfl _ rfl rfl rfl hW ?_);refine hT.mono ?_;rintro e wB ⟨rfl,BF⟩;have hWB:=bf hW BF (aG hW);have Lp:=bf (ay OQ _) BF (aG (ay OQ _));have WM:=EK.trans (BF.mono EK.size);have hHB:=(show nJ wA (w.heap.size+1) ⟨x,tc,c,s',wv,au⟩ [] (kI (.change x))from ⟨rfl,rfl,hrw2,World.ownsRow_nil _ _ _ _,fun _ h=>nomatch h⟩).below ((Below.refl wA.heap.size wA).alloc (Nat.le_refl _) (.cells (aP x tc c s' wv au) 39)|>.trans (BF.mono (by rw [av];omega)));by_cases hbig:1000<tx.size
     · have p9:(1000:Int)<(tx.size:Int):=by omega
       have HQ:Hid (dJ s=(ni.zero,0,2)):=by show _=_;rw [ZF.out,if_pos hbig]
       clear hbig;go_wp2_with (refine iC rfl _ _ rfl rfl rfl Lp rfl rfl rfl ?_;intro wz hwz);refine bodyPost_ret (fD rfl rfl (vC hwz.blk rfl)) rfl ?_;exact lV (p:=pz) HQ.out (hwz.below _ _ WM (Nat.le_refl _)) (Bb _ _)
     · have p9:¬(1000:Int)<(tx.size:Int):=by omega
       have HQ:Hid (dJ s=(kI (.change x),0,0)):=by show _=_;rw [ZF.out,if_neg hbig]
       clear hbig;go_wp2_with (first|refine bK rfl _ rfl rfl rfl hWB ?_|(refine iC rfl _ _ rfl rfl rfl Lp rfl rfl hone ?_;intro wz hwz));refine bodyPost_ret (fD rfl rfl (vC hwz.blk rfl)) rfl ?_;exact lV (p:=⟨x,tc,c,s',wv,au⟩) HQ.out (hwz.below _ _ WM (Nat.le_refl _)) ((hwz.has hHB (Nat.lt_succ_self _)).mono (Nat.le_succ _))
    |batch l=>obtain ⟨_,h⟩:=HC.out.2.2;exact absurd h (by simp)
theorem Sg {s:ByteArray}{w:World}(hG:Gp w) (he:(aX s).2.2=0) (hC:¬(Tx.may (⟨(aX s).1,(pts s).length⟩:Tx) (Tx.iY (⟨(aX s).1,(pts s).length⟩:Tx) ((aX s).1.length+2) ⟨0,none⟩).2 (⟨#[59]⟩:ah)).i<(aX s).1.length∧(Tx.may (⟨(aX s).1,(pts s).length⟩:Tx) (Tx.iY (⟨(aX s).1,(pts s).length⟩:Tx) ((aX s).1.length+2) ⟨0,none⟩).2 (⟨#[59]⟩:ah)).bad=none∧∃x,(Tx.iY (⟨(aX s).1,(pts s).length⟩:Tx) ((aX s).1.length+2) ⟨0,none⟩).1= .batch x):Calls prog 67 #[.string s] w (rM w s):=by
 have hB1:=(Below.refl w.heap.size w).alloc (Nat.le_refl _) (.cells bC 39);have hb0:(w.alloc (.cells bC 39)).heap[w.heap.size]? =some (.cells bC 39 (0,0)):=aB w _;have hlex:=mG s _ (hG.below hB1).1;obtain ⟨dK,hsz⟩:=sD he;have q1:((aX s).2.2 !=0)=false:=by rw [he];rfl
 have hX:=Lx.ok dK (pts s).length;obtain ⟨⟨nd,τ⟩,hpt⟩:∃r,jN ⟨(aX s).1,(pts s).length⟩=r:=⟨_,rfl⟩
 have HE:Hid (dJ s=match τ.bad with|some a=>(ni.zero,(a:Int),3)|none=>if 1000<(iA (kI nd)).size then (ni.zero,0,2)else (kI nd,0,0)):=by
  show _=_;unfold dJ;simp only;rw [if_neg (by rw [he];simp),hpt];rfl
 have HST:Hid (τ.bad=none→iG (kI nd).x∧(∀y∈(kI nd).parts,iG y)∧(kI nd).parts.length≤8):=fun hb=>by
  obtain ⟨L,R,Pq,_,_⟩:=mE hX (by rw [hpt];exact hb);rw [hpt]at Pq;exact Pq.st
 unfold jN at hpt;simp only at hpt;obtain ⟨⟨nd',σ1⟩,h1⟩:∃r,Tx.iY ⟨(aX s).1,(pts s).length⟩ ((aX s).1.length+2) ⟨0,none⟩=r:=⟨_,rfl⟩;rw [h1]at hpt;obtain ⟨σ2,h2⟩:∃r,Tx.may ⟨(aX s).1,(pts s).length⟩ σ1 (⟨#[59]⟩:ah)=r:=⟨_,rfl⟩;rw [h2]at hpt;injection hpt with hnd Kh
 rw [h1]at hC;simp only [h2]at hC;have HC:=Lib.hid hC;clear hC;subst hnd;have hbz:=tu;have HG:=Lib.hid hG;have Px:=Lib.hid hsz;clear he hG hsz dK hX;go_enter func67,ntmps67;go_wp2_with fail;refine hlex.mono ?_;rintro e w2 ⟨⟨v,rfl,hrow⟩,hb2⟩;have hB2:=hB1.trans (hb2.mono hB1.size);have nG:=bf hb0 hb2 (aG hb0);obtain ⟨ta,kM,rfl,_⟩:=aN hrow;have hct:=qR s w2 (by have:=Px.out;omega);go_wp2_with fail;refine hct.mono ?_;rintro e w3 ⟨rfl,hb3⟩;have hB3:=hB2.trans (hb3.mono hB2.size);have ku:=bf nG hb3 (aG nG);obtain ⟨K,hKb,Bc,pU,hKw,hPQ⟩:=EJ (HG.out.below hB3) Px.out hrow hb3;have hD4:=Did.refl hPQ;have hb4:=ay ku (.cells #[.slice ta (aX s).1.length kM, .int .i64 0, .int .i64 (pts s).length, .int .i64 (-1)] 198);have hst:=kK (K:=K) ((aX s).1.length+2) hPQ (by rw [pU];show (aX s).1.length - 0<_;omega);rw [pU,h1,hKb]at hst;go_wp2_with fail;refine hst.mono ?_;intro e w5 hz;obtain ⟨v9,rfl,hd5,Ab⟩:=rH hz;have hD5:=hD4.trans hd5;have hmay:=aS hd5.1 (⟨#[59]⟩:ah);rw [pU,h2,hKb]at hmay;go_wp2_with fail;refine hmay.mono ?_;rintro e w6 ⟨rfl,hd6⟩;have hD6:=hD5.trans hd6;have Q0:=Ab.did hd6 (by rw [Bc,av];exact Nat.le_refl _);have hLb:K.L≤(w3.alloc (.cells #[.slice ta (aX s).1.length kM, .int .i64 0, .int .i64 (pts s).length, .int .i64 (-1)] 198)).heap.size:=by rw [Bc,av];exact Nat.le_refl _
 obtain ⟨ta2,Ll,c0,c1,c2,c3,_,f3,_⟩:=hD6.1.cells;rw [hKb]at c0 c1 c2 c3 f3;rw [pU]at c0 c2;have HX:=Lib.hid pU;have Ci:=Lib.hid hKb;have HKL:=Lib.hid Bc;have Jb:=Lib.hid Kh;clear pU hKb Bc Kh h1 h2 hst hmay hct hlex;have hB4:=hB3.alloc hB3.size (.cells #[.slice ta (aX s).1.length kM, .int .i64 0, .int .i64 (pts s).length, .int .i64 (-1)] 198);have LX:Hid (K.b≠w.heap.size):=by show _≠_;rw [Ci.out];have:=aG ku;omega
 by_cases hlt:σ2.i<(aX s).1.length
 · exact absurd hlt HC.out.1
 · have p0:¬(σ2.i:Int)<((aX s).1.length:Int):=by omega
   have HT3:Hid (τ=σ2):=by show _=_;rw [←Jb.out,if_neg hlt]
   cases hbad:σ2.bad with
   |some bd=>exact absurd hbad (by rw [HC.out.2.1];simp)
   |none=>
    go_wp2_with fail;go_quiet (fail);go_wp2_with fail;have wI:=hD6.drewN nq;have hn9:=Q0.below (aK.below_drewN (Below.refl w6.heap.size w6) nq);generalize w6.drewN nq=w9 at *;have hok:=tK wI.1 (v:=true) (by rw [hbad];rfl);rw [Ci.out]at hok;have hst:=HST.out (by rw [HT3.out];exact hbad)
    have HP:Hid (dJ s=if 1000<(iA (kI nd')).size then (ni.zero,0,2)else (kI nd',0,0)):=by
     show _=_;rw [HE.out,HT3.out,hbad]
    clear hbad;go_wp2_with fail;refine hok.mono ?_;rintro e wy ⟨rfl,my,rfl⟩;have nC:=wI.drewN my;have V7:=hn9.below (aK.below_drewN (Below.refl w9.heap.size w9) my);generalize w9.drewN my=wx at *;have hbx:=zX nC hb4 LX.out;have hBx:=hB4.grown nC.2.1 hB4.size (fun k hk=>by cases hk;rw [Ci.out];exact hB3.size);cases nd' with
    |plain x=>obtain ⟨_,h⟩:=HC.out.2.2;exact absurd h (by simp)
    |change x=>obtain ⟨_,h⟩:=HC.out.2.2;exact absurd h (by simp)
    |batch l=>
     obtain ⟨L,a,cap,dK,rfl,hrow2,hpv⟩:=V7;have hmt:=adB;have hL8:L.length≤8:=by have h:=hst.2.2;rw [show (kI (.batch l)).parts=l from rfl,←dK,List.length_map]at h;exact h
     have hsm:=Yn (w:=wx) (L:=L) (by omega) hrow2 hpv;go_wp2_with fail;refine hsm.mono ?_;rintro e wA ⟨a3,c3,rfl,hbs,afX⟩;have ajJ:=hBx.size;have adF:=nC.size;have hpv1:gI wx (w.heap.size+1) L:=fun q hq=>(hpv q hq).mono (by rw [av];have:=hB3.size;omega)
     have hpq:gI wA (w.heap.size+1) L:=hpv1.map fun _ _ _ _ _ _ hr=>bP hr hbs
     have afY:=bH afX (show w.heap.size+1≤wx.heap.size by rw [av]at adF;have:=hB3.size;omega)
     have hrq:wA.ownsRow (w.heap.size+1) 39 18 (.slice a3 L.length c3) L.length (nE (L.map fun q=>⟨q.x,q.tc,q.c,q.s,q.wv,au⟩)):=by
      have e:nE (L.map fun q:Pv=>(⟨q.x,q.tc,q.c,q.s,q.wv,au⟩:Pw))=zy L:=by unfold nE zy;rw [List.flatMap_map];rfl
      rw [e];exact afY
     have OQ:=bf hbx hbs (aG hbx);have WL:=hBx.trans (hbs.mono hBx.size);have hone:(aP {Sx.zero with kind:=9} au au au au (.slice a3 L.length c3)).toList.all (·.oneCell')=true:=rfl;have hW:=aB wA (.cells (aP {Sx.zero with kind:=9} au au au au (.slice a3 L.length c3)) 39);have EK:=WL.alloc WL.size (.cells (aP {Sx.zero with kind:=9} au au au au (.slice a3 L.length c3)) 39)
     have hT:Calls prog 68 #[.agg (aP {Sx.zero with kind:=9} au au au au (.slice a3 L.length c3))] (wA.alloc (.cells (aP {Sx.zero with kind:=9} au au au au (.slice a3 L.length c3)) 39)) fun e w' =>e= .returned (.string (iA (kI (.batch l))))∧Below (wA.alloc (.cells (aP {Sx.zero with kind:=9} au au au au (.slice a3 L.length c3)) 39)).heap.size (wA.alloc (.cells (aP {Sx.zero with kind:=9} au au au au (.slice a3 L.length c3)) 39)) w' :=by
      have e:(L.map fun q:Pv=>(⟨q.x,q.tc,q.c,q.s,q.wv,au⟩:Pw)).map Pw.x=l:=by rw [←dK,List.map_map];rfl
      have h:=vZ (p:=⟨{Sx.zero with kind:=9},au,au,au,au, .slice a3 L.length c3⟩) (L:=L.map fun q=>⟨q.x,q.tc,q.c,q.s,q.wv,au⟩) (HG.out.below EK) ⟨Pk 9,(mJ _ 0 _ rfl rfl rfl rfl).rd,rfl⟩ (fun _=>⟨by rw [List.length_map];omega,by rw [List.length_map];exact Rd.own (hrq.alloc _),fun q hq=>by
       obtain ⟨q0,hq0,rfl⟩:=List.mem_map.1 hq;exact ⟨⟨hst.2.1 q0.x (by show q0.x∈l;rw [←dK];exact List.mem_map_of_mem hq0),((hpq q0 hq0).map fun _ _ _ _ _ _ hr=>hr.alloc _).rd,rfl⟩,Ny _⟩⟩)
      rw [e]at h;exact h
     obtain ⟨tx,htx⟩:∃r,iA (kI (.batch l))=r:=⟨_,rfl⟩;rw [htx]at hT HP;have ZF:=Lib.hid HP.out;clear HP htx;go_wp2_with (first|refine jw rfl _ _ rfl rfl rfl rfl rfl hone ?_|refine bK rfl _ rfl rfl rfl hW ?_);refine hT.mono ?_;rintro e wB ⟨rfl,BF⟩;have hWB:=bf hW BF (aG hW);have Lp:=bf (ay OQ _) BF (aG (ay OQ _));have WM:=EK.trans (BF.mono EK.size)
     have hHB:=(show nJ wA (w.heap.size+1) ⟨{Sx.zero with kind:=9},au,au,au,au, .slice a3 L.length c3⟩ (L.map fun q=>⟨q.x,q.tc,q.c,q.s,q.wv,au⟩) (kI (.batch l))from ⟨rfl,by rw [←dK,List.map_map];rfl,mJ _ _ _ rfl rfl rfl rfl,by rw [List.length_map];exact hrq,fun q hq=>by
      obtain ⟨q0,hq0,rfl⟩:=List.mem_map.1 hq;exact ⟨hpq q0 hq0,rfl⟩⟩).below ((Below.refl wA.heap.size wA).alloc (Nat.le_refl _) (.cells (aP {Sx.zero with kind:=9} au au au au (.slice a3 L.length c3)) 39)|>.trans (BF.mono (by rw [av];omega)))
     by_cases hbig:1000<tx.size
     · have p9:(1000:Int)<(tx.size:Int):=by omega
       have HQ:Hid (dJ s=(ni.zero,0,2)):=by show _=_;rw [ZF.out,if_pos hbig]
       clear hbig;go_wp2_with (refine iC rfl _ _ rfl rfl rfl Lp rfl rfl rfl ?_;intro wz hwz);refine bodyPost_ret (fD rfl rfl (vC hwz.blk rfl)) rfl ?_;exact lV (p:=pz) HQ.out (hwz.below _ _ WM (Nat.le_refl _)) (Bb _ _)
     · have p9:¬(1000:Int)<(tx.size:Int):=by omega
       have HQ:Hid (dJ s=(kI (.batch l),0,0)):=by show _=_;rw [ZF.out,if_neg hbig]
       clear hbig;go_wp2_with (first|refine bK rfl _ rfl rfl rfl hWB ?_|(refine iC rfl _ _ rfl rfl rfl Lp rfl rfl hone ?_;intro wz hwz));refine bodyPost_ret (fD rfl rfl (vC hwz.blk rfl)) rfl ?_;exact lV (p:=⟨{Sx.zero with kind:=9},au,au,au,au, .slice a3 L.length c3⟩) HQ.out (hwz.below _ _ WM (Nat.le_refl _)) ((hwz.has hHB (Nat.lt_succ_self _)).mono (Nat.le_succ _))
theorem Si (s:ByteArray) (w:World) (hG:Gp w):Calls prog 67 #[.string s] w (rM w s):=by
 by_cases he:(aX s).2.2=0
 · by_cases h1:(Tx.may (⟨(aX s).1,(pts s).length⟩:Tx) (Tx.iY (⟨(aX s).1,(pts s).length⟩:Tx) ((aX s).1.length+2) ⟨0,none⟩).2 (⟨#[59]⟩:ah)).i<(aX s).1.length
   · exact R8 hG he h1
   · by_cases h2:(Tx.may (⟨(aX s).1,(pts s).length⟩:Tx) (Tx.iY (⟨(aX s).1,(pts s).length⟩:Tx) ((aX s).1.length+2) ⟨0,none⟩).2 (⟨#[59]⟩:ah)).bad=none
     · cases h3:(Tx.iY (⟨(aX s).1,(pts s).length⟩:Tx) ((aX s).1.length+2) ⟨0,none⟩).1 with
       |plain x=>exact Sb hG he ⟨h1,h2,x,h3⟩
       |change x=>exact Sd hG he ⟨h1,h2,x,h3⟩
       |batch l=>exact Sg hG he ⟨h1,h2,l,h3⟩
     · exact R9 hG he ⟨h1,h2⟩
 · exact R7 hG he
end Go.Proofs.YtnngbhpeeakfaaaGreatDoor
