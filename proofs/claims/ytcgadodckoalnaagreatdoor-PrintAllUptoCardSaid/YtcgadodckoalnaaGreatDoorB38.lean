/- Parts of a proof. -/
import Derived.StillTailTactics
import Derived.Test.YtcgadodckoalnaaGreatDoorB29
import Derived.Test.YtcgadodckoalnaaGreatDoorB30
import Derived.Test.YtcgadodckoalnaaGreatDoorB31
import Derived.Test.YtcgadodckoalnaaGreatDoorB32
import Derived.Test.YtcgadodckoalnaaGreatDoorB33
set_option maxHeartbeats 4000000
set_option maxRecDepth 100000
namespace Go.Proofs.YtcgadodckoalnaaGreatDoor
open Go.Proofs.Tryz
open Go.RowKit
open aN
theorem SS {w:World}{x y:Sx}{tc c s wv pv Vz c' s' wv' pv' :Value}{P:Prop}(hx:iJ w x tc c s wv) (hy:iJ w y Vz c' s' wv') (sx:Pn x) (sy:Pn y)
 (hp:∀w',Below w.heap.size w w' →Calls prog 45 #[pv,pv', .func (.func 15) #[] #[]] w' fun e w'' =>∃b:Bool,e= .returned (.bool b)∧(b=true ↔ P)∧Below w'.heap.size w' w''):
 Calls prog 15 #[.agg (aG x tc c s wv pv), .agg (aG y Vz c' s' wv' pv')] w fun e w' =>∃b:Bool,e= .returned (.bool b)∧(b=true ↔ x=y∧P)∧Below w.heap.size w w' :=by
 obtain ⟨a0,k0,e1,_⟩:=hx.tc;obtain ⟨b0,l0,e2,_⟩:=hy.tc;subst e1 e2;by_cases h1:x.kind=y.kind∧x.name=y.name∧x.bT=y.bT∧x.on=y.on
 case neg=>exact ad1 h1
 obtain ⟨t0,t1,t2,t3⟩:=h1;by_cases h1:x.stamp=y.stamp∧x.ttl=y.ttl∧x.limit=y.limit∧x.bG=y.bG∧x.tid=y.tid
 case neg=>exact ad3 t0 t1 t2 t3 h1
 obtain ⟨t4,t5,t6,t7,t8⟩:=h1;by_cases h1:x.part.name=y.part.name∧x.part.ty=y.part.ty∧x.aX.name=y.aX.name∧x.aX.ty=y.aX.ty
 case neg=>exact ad4 t0 t1 t2 t3 t4 t5 t6 t7 t8 h1
 obtain ⟨t9,t10,t11,t12⟩:=h1;exact ad5 hx hy sx sy hp t0 t1 t2 t3 t4 t5 t6 t7 t8 t9 t10 t11 t12
theorem VO {w:World}{p q:Pw}(hp:iJ w p.x p.tc p.c p.s p.wv) (hp0:Rd w p.pv 0 []) (hq:iJ w q.x q.tc q.c q.s q.wv) (hq0:Rd w q.pv 0 []) (sp:Pn p.x) (sq:Pn q.x):
 Calls prog 15 #[.agg p.arr, .agg q.arr] w fun e w' =>∃b:Bool,e= .returned (.bool b)∧(b=true ↔ p.x=q.x)∧Below w.heap.size w w' :=by
 have h:=SS (P:=True) hp hq sp sq (pv:=p.pv) (pv' :=q.pv) (fun w' hb=>by
  refine (SL (L:= []) (M:= []) (hp0.below hb) (hq0.below hb) (by decide) (by decide) (fun _ h=>absurd h (by simp)) (fun _ h=>absurd h (by simp)) (fun _ h=>absurd h (by simp))).mono ?_;rintro e w'' ⟨b,rfl,hb,hbl⟩;exact ⟨b,rfl,⟨fun _=>trivial,fun _=>hb.2 rfl⟩,hbl⟩)
 refine h.mono ?_;rintro e w' ⟨b,rfl,hb,hbl⟩;exact ⟨b,rfl,⟨fun h=>(hb.1 h).1,fun h=>hb.2 ⟨h,trivial⟩⟩,hbl⟩
theorem Ri {w:World}{p q:Pw}{L M:List Pw}(hp:zQ w p L) (hq:zQ w q M) (sp:SmS ⟨p.x,L.map Pw.x⟩) (sq:SmS ⟨q.x,M.map Pw.x⟩):
 Calls prog 15 #[.agg p.arr, .agg q.arr] w fun e w' =>∃b:Bool,e= .returned (.bool b)∧(b=true ↔ (⟨p.x,L.map Pw.x⟩:kD)=⟨q.x,M.map Pw.x⟩)∧Below w.heap.size w w' :=by
 have hL:L.length≤100000:=by have:=sp.2.1;simpa using this
 have hM:M.length≤100000:=by have:=sq.2.1;simpa using this
 have h:=SS (P:=L.map Pw.x=M.map Pw.x) hp.st hq.st sp.1 sq.1 (pv:=p.pv) (pv' :=q.pv) (fun w' hb=>
  SL (hp.pv.below hb) (hq.pv.below hb) hL hM (fun r hr=>(hp.each r hr).1.one (hp.each r hr).2.one) (fun r hr=>(hq.each r hr).1.one (hq.each r hr).2.one) (fun r hr t ht w'' hb' =>
   have hbb:=hb.trans (hb'.mono hb.size)
   VO ((hp.each r hr).1.below hbb) ((hp.each r hr).2.below hbb) ((hq.each t ht).1.below hbb) ((hq.each t ht).2.below hbb) (sp.2.2 r.x (List.mem_map.2 ⟨r,hr,rfl⟩)) (sq.2.2 t.x (List.mem_map.2 ⟨t,ht,rfl⟩))))
 refine h.mono ?_;rintro e w' ⟨b,rfl,hb,hbl⟩;refine ⟨b,rfl,hb.trans ⟨fun h=>by rw [h.1,h.2],fun h=> ?_⟩,hbl⟩;injection h with h1 h2
 exact ⟨h1,h2⟩
theorem dV {P:Program}{fn:Func}{a u v:Tmp}{t:TypeId}(h:fn.results= #[.cell a t, .tmp u, .tmp v]) {tm:Array Value}{ad:Addr}{x:Value}{W:World}(ht:tm.getD a undef= .pointer (some ad)) (hl:(loadVar t ad).run P W= .ok x W):
 (results fn tm).run P W= .ok (.tuple #[x,tm.getD u undef,tm.getD v undef]) W:=by
 unfold results;rw [h];rw [Array.getD_eq_getD_getElem?]at ht;simp [ht,asAddr,hl,Result.andThen_ok]
theorem oO (w:World):(Instr.build 31 #[]).run prog w= .ok (.agg bf) w:=by kernel_rfl
def pz:Pw:=⟨Sx.zero,ak,ak,ak,ak,ak⟩
theorem tY (w:World) (base:Nat):oq w base pz [] kD.zero:=⟨rfl,rfl,ko _ _ _ rfl rfl rfl rfl,World.ownsRow_nil _ _ _ _,fun _ h=>nomatch h⟩
def pU (w:World) (s:ByteArray):Ending→World→Prop:=fun e w' =>∃(p:Pw) (L:List Pw),e= .returned (.tuple #[.agg p.arr, .int .i64 (bE s).2.1, .int .i64 (bE s).2.2])∧Below w.heap.size w w' ∧oq w' w.heap.size p L (bE s).1
theorem Iw {w1 w2 w:World}{s:ByteArray}{ta:Option Addr}{kC:Nat}(hG:Gp w) (hs:s.size≤1000) (hrow:w1.ownsRow w2.heap.size 95 4 (.slice ta (aP s).1.length kC) (aP s).1.length (nE (aP s).1)) (hb:Below w1.heap.size w1 w):
 ∃K:PK,K.b=w.heap.size∧K.L=w.heap.size+1∧K.X=⟨(aP s).1,(pts s).length⟩∧K.ws=w∧PQ K (w.alloc (.cells #[.slice ta (aP s).1.length kC, .int .i64 0, .int .i64 (pts s).length, .int .i64 (-1)] 45)) ⟨0,none⟩:=by
 have hl:=ML s;have hr:=fC hrow hb;refine ⟨⟨w,w.heap.size+1,w.heap.size,⟨(aP s).1,(pts s).length⟩,hG,Nat.le_refl _,Nat.lt_succ_self _,by show (aP s).1.length≤100000;omega⟩,rfl,rfl,rfl,rfl, ?_⟩;refine ⟨by rw [av];exact Nat.le_refl _,(Below.refl _ w).alloc (Nat.le_refl _) _,ta,kC,aA w _,fun hp=> ?_⟩;obtain ⟨_,_,hsl,hgx⟩:=aY hr;cases hsl;obtain ⟨g,rfl,_,hgl,_⟩:=hgx hp
 have hlt:g<w.heap.size:=by
  have:=aS hr 0 (.int .i64 ((aP s).1[0]'hp).kind) (by have:=iy (aP s).1 0 0 hp (by omega);rw [show 0*4+0=0 from rfl]at this;rw [this];rfl);exact dZ this
 exact ⟨g,rfl,by show g≠w.heap.size;omega,by show g<w.heap.size+1;omega,fun j u hj=>aS (hr.alloc _) j u hj⟩
theorem VP {s:ByteArray}{w:World}(hG:Gp w) (he:(aP s).2.2≠0):Calls prog 12 #[.string s] w (pU w s):=by
 have hB1:=(Below.refl w.heap.size w).alloc (Nat.le_refl _) (.cells bf 31);have hb0:(w.alloc (.cells bf 31)).heap[w.heap.size]? =some (.cells bf 31 (0,0)):=aA w _;have hlex:=og s _ (hG.below hB1).1;have q1:((aP s).2.2 !=0)=true:=bne_iff_ne.2 he;have HE:Hid (bE s=(kD.zero,((aP s).2.1:Int),(aP s).2.2)):=by show _=_;unfold bE;simp only;rw [if_pos he]
 have hbz:=oO;clear he hG;go_enter func12,ntmps12;go_wp2_with fail;refine hlex.mono ?_;rintro e w2 ⟨⟨v,rfl,hrow⟩,hb2⟩;have hB2:=hB1.trans (hb2.mono hB1.size);have mY:=aZ hb0 hb2 (aD hb0);go_wp2_with (refine bH rfl _ _ rfl rfl rfl mY rfl rfl rfl ?_;intro w9 Oi);refine bodyPost_ret (dV rfl rfl (jO Oi.blk rfl)) rfl ?_;exact ⟨pz, [],by rw [HE.out];rfl,Oi.below _ _ hB2 (Nat.le_refl _),by rw [HE.out];exact tY _ _⟩
theorem zn {w:World}{b:Nat}{T:TypeId}(h:w.heap[b]? =some (.cells bf T (0,0))):w.cell? ⟨b,0,none⟩=some (.int .i64 0)∧w.cell? ⟨b,1,none⟩=some (.string ⟨#[]⟩)∧w.cell? ⟨b,2,none⟩=some (.string ⟨#[]⟩)∧w.cell? ⟨b,3,none⟩=some (.string ⟨#[]⟩)∧w.cell? ⟨b,4,none⟩=some (.string ⟨#[]⟩)∧w.cell? ⟨b,5,none⟩=some (.int .i64 0)∧w.cell? ⟨b,6,none⟩=some (.string ⟨#[]⟩)∧w.cell? ⟨b,7,none⟩=some (.int .i64 0)∧w.cell? ⟨b,8,none⟩=some (.string ⟨#[]⟩)∧w.cell? ⟨b,9,none⟩=some (.int .i64 0)∧w.cell? ⟨b,10,none⟩=some (.slice none 0 0)∧w.cell? ⟨b,11,none⟩=some (.slice none 0 0)∧w.cell? ⟨b,12,none⟩=some (.slice none 0 0)∧w.cell? ⟨b,13,none⟩=some (.slice none 0 0)∧w.cell? ⟨b,14,none⟩=some (.int .i64 0)∧w.cell? ⟨b,15,none⟩=some (.int .i64 0)∧w.cell? ⟨b,16,none⟩=some (.int .i64 0)∧w.cell? ⟨b,17,none⟩=some (.slice none 0 0):=
 ⟨by rw [au h];rfl,by rw [au h];rfl,by rw [au h];rfl,by rw [au h];rfl,by rw [au h];rfl,by rw [au h];rfl,by rw [au h];rfl,by rw [au h];rfl,by rw [au h];rfl,by rw [au h];rfl,by rw [au h];rfl,by rw [au h];rfl,by rw [au h];rfl,by rw [au h];rfl,by rw [au h];rfl,by rw [au h];rfl,by rw [au h];rfl,by rw [au h];rfl⟩
theorem CS {w:World}{b:Nat}{T:TypeId}(h:w.heap[b]? =some (.cells bf T (0,0))):w.frozen? ⟨b,0,none⟩=false∧w.frozen? ⟨b,1,none⟩=false∧w.frozen? ⟨b,2,none⟩=false∧w.frozen? ⟨b,3,none⟩=false∧w.frozen? ⟨b,4,none⟩=false∧w.frozen? ⟨b,5,none⟩=false∧w.frozen? ⟨b,6,none⟩=false∧w.frozen? ⟨b,7,none⟩=false∧w.frozen? ⟨b,8,none⟩=false∧w.frozen? ⟨b,9,none⟩=false∧w.frozen? ⟨b,10,none⟩=false∧w.frozen? ⟨b,11,none⟩=false∧w.frozen? ⟨b,12,none⟩=false∧w.frozen? ⟨b,13,none⟩=false∧w.frozen? ⟨b,14,none⟩=false∧w.frozen? ⟨b,15,none⟩=false∧w.frozen? ⟨b,16,none⟩=false∧w.frozen? ⟨b,17,none⟩=false:=
 ⟨aj h 0,aj h 1,aj h 2,aj h 3,aj h 4,aj h 5,aj h 6,aj h 7,aj h 8,aj h 9,aj h 10,aj h 11,aj h 12,aj h 13,aj h 14,aj h 15,aj h 16,aj h 17⟩
theorem tF {w:World}{b:Nat}{C V:Array Value}{T:TypeId}(h:w.heap[b]? =some (.cells C T (0,0))) (hC:C.size=18) (hV:V.size=18):Wrote w b V T (w.setCells b 0 V.toList):=by
 have ht:w.there b 0 V.size:=by
  intro j hj;refine ⟨?_,aj h _⟩;rw [au h,Nat.zero_add,Array.getElem?_eq_getElem (by omega)];rfl
 obtain ⟨C',e1,e2⟩:=wm V.toList 0 w C h;obtain ⟨r1,r2,r3⟩:=tV (b:=b) V.toList 0 w;have hs:=World.rangeAt_setCells_same w b 0 V.toList (by simpa using ht)
 have:C' =V:=by
  apply Array.ext_getElem?;intro j;by_cases hj:j<V.size
  · have:=hs j V[j] (by simp [Array.getElem?_eq_getElem hj]);rw [au e1,Nat.zero_add]at this;rw [this,Array.getElem?_eq_getElem hj]
  · rw [Array.getElem?_eq_none (by omega),Array.getElem?_eq_none (by omega)]
 subst this;exact ⟨e1,r1,r2,r3⟩
theorem oq.below {w w' :World}{base:Nat}{p:Pw}{L:List Pw}{z:kD}(h:oq w base p L z) (hb:Below w.heap.size w w'):oq w' base p L z:=
 ⟨h.x,h.parts,h.rows.map fun _ _ _ _ _ _ hr=>fC hr hb,fC h.row hb,fun q hq=>⟨(h.each q hq).1.map fun _ _ _ _ _ _ hr=>fC hr hb,(h.each q hq).2⟩⟩
theorem oq.mono {w:World}{base base' :Nat}{p:Pw}{L:List Pw}{z:kD}(h:oq w base p L z) (hb:base' ≤base):oq w base' p L z:=
 ⟨h.x,h.parts,h.rows.mono hb,aR h.row hb,fun q hq=>⟨(h.each q hq).1.mono hb,(h.each q hq).2⟩⟩
theorem agj (V:Array Value) (w:World):(method 329 100 (.agg V) "clerestory/parse.stmt").run prog w= .ok (205, .agg V) w:=by kernel_rfl
theorem agk (V:Array Value) (w:World):(method 329 133 (.agg V) "clerestory/parse.stmt").run prog w= .ok (206, .agg V) w:=by kernel_rfl
theorem agl (V:Array Value) (w:World):(method 329 138 (.agg V) "clerestory/parse.stmt").run prog w= .ok (207, .agg V) w:=by kernel_rfl
theorem CU {K:PK}{W w' :World}{σ:Ps}{k:Nat}{C:Array Value}{T:TypeId}{fr:Nat×Nat}(hD:Did K W σ w') (h:W.heap[k]? =some (.cells C T fr)) (hne:K.b≠k):w'.heap[k]? =some (.cells C T fr):=
 (hD.2.1.block k (aD h) (fun e=>hne (Option.some.inj e).symm)).trans h
theorem kM {w w' :World}{s:ByteArray}{p:Pw}{L:List Pw}{z:kD}{a e:Int}(h:bE s=(z,a,e)) (hB:Below w.heap.size w w') (hH:oq w' w.heap.size p L z):pU w s (.returned (.tuple #[.agg p.arr, .int .i64 a, .int .i64 e])) w' :=
 ⟨p,L,by rw [h],hB,by rw [h];exact hH⟩
theorem Wrote.has {w w' :World}{b base:Nat}{V:Array Value}{T:TypeId}{p:Pw}{L:List Pw}{z:kD}(hw:Wrote w b V T w') (h:oq w base p L z) (hb:b<base):oq w' base p L z:=by
 have f:∀(e:TypeId) (size n:Nat) (u:Value) (xs:List Value),w.ownsRow base e size u n xs→w'.ownsRow base e size u n xs:=by
  intro e size n u xs hr;obtain ⟨h1,h2⟩:=hr;refine ⟨h1, ?_⟩;rcases h2 with h2|⟨g,cap,cur,a,b',c,d⟩
  · exact .inl h2
  · refine .inr ⟨g,cap,cur,a,b', ?_,d⟩;rw [hw.rest g (by omega)];exact c
 exact ⟨h.x,h.parts,h.rows.map fun _ _ _ _ _ _ hr=>f _ _ _ _ _ hr,f _ _ _ _ _ h.row,fun q hq=>⟨(h.each q hq).1.map fun _ _ _ _ _ _ hr=>f _ _ _ _ _ hr,(h.each q hq).2⟩⟩
theorem VQ {s:ByteArray}{w:World}(hG:Gp w) (he:(aP s).2.2=0) (hC:(Tx.may (⟨(aP s).1,(pts s).length⟩:Tx) (Tx.jh (⟨(aP s).1,(pts s).length⟩:Tx) ((aP s).1.length+2) ⟨0,none⟩).2 (⟨#[59]⟩:ah)).i<(aP s).1.length):Calls prog 12 #[.string s] w (pU w s):=by
 have hB1:=(Below.refl w.heap.size w).alloc (Nat.le_refl _) (.cells bf 31);have hb0:(w.alloc (.cells bf 31)).heap[w.heap.size]? =some (.cells bf 31 (0,0)):=aA w _;have hlex:=og s _ (hG.below hB1).1;obtain ⟨dW,hsz⟩:=oG he;have q1:((aP s).2.2 !=0)=false:=by rw [he];rfl
 have hX:=Lx.ok dW (pts s).length;obtain ⟨⟨nd,τ⟩,hpt⟩:∃r,jv ⟨(aP s).1,(pts s).length⟩=r:=⟨_,rfl⟩
 have HE:Hid (bE s=match τ.bad with|some a=>(kD.zero,(a:Int),3)|none=>if 1000<(eO (je nd)).size then (kD.zero,0,2)else (je nd,0,0)):=by
  show _=_;unfold bE;simp only;rw [if_neg (by rw [he];simp),hpt];rfl
 have HST:Hid (τ.bad=none→gB (je nd).x∧(∀y∈(je nd).parts,gB y)∧(je nd).parts.length≤8):=fun hb=>by
  obtain ⟨L,R,EO,_,_⟩:=kH hX (by rw [hpt];exact hb);rw [hpt]at EO;exact EO.st
 unfold jv at hpt;simp only at hpt;obtain ⟨⟨nd',σ1⟩,h1⟩:∃r,Tx.jh ⟨(aP s).1,(pts s).length⟩ ((aP s).1.length+2) ⟨0,none⟩=r:=⟨_,rfl⟩;rw [h1]at hpt;obtain ⟨σ2,h2⟩:∃r,Tx.may ⟨(aP s).1,(pts s).length⟩ σ1 (⟨#[59]⟩:ah)=r:=⟨_,rfl⟩;rw [h2]at hpt;injection hpt with hnd Em
 rw [h1]at hC;simp only [h2]at hC;have HC:=Lib.hid hC;clear hC;subst hnd;have hbz:=oO;have HG:=Lib.hid hG;have SV:=Lib.hid hsz;clear he hG hsz dW hX;go_enter func12,ntmps12;go_wp2_with fail;refine hlex.mono ?_;rintro e w2 ⟨⟨v,rfl,hrow⟩,hb2⟩;have hB2:=hB1.trans (hb2.mono hB1.size);have mY:=aZ hb0 hb2 (aD hb0);obtain ⟨ta,kC,rfl,_⟩:=aY hrow;have hct:=uJ s w2 (by have:=SV.out;omega);go_wp2_with fail;refine hct.mono ?_;rintro e w3 ⟨rfl,hb3⟩;have hB3:=hB2.trans (hb3.mono hB2.size);have jr:=aZ mY hb3 (aD mY);obtain ⟨K,hKb,zC,pX,Z4,hPQ⟩:=Iw (HG.out.below hB3) SV.out hrow hb3;have hD4:=Did.refl hPQ;have hb4:=aC jr (.cells #[.slice ta (aP s).1.length kC, .int .i64 0, .int .i64 (pts s).length, .int .i64 (-1)] 45);have hst:=mG (K:=K) ((aP s).1.length+2) hPQ (by rw [pX];show (aP s).1.length - 0<_;omega);rw [pX,h1,hKb]at hst;go_wp2_with fail;refine hst.mono ?_;intro e w5 hz;obtain ⟨v9,rfl,hd5,I7⟩:=uX hz;have hD5:=hD4.trans hd5;have hmay:=aV hd5.1 (⟨#[59]⟩:ah);rw [pX,h2,hKb]at hmay;go_wp2_with fail;refine hmay.mono ?_;rintro e w6 ⟨rfl,hd6⟩;have hD6:=hD5.trans hd6;have UQ:=I7.did hd6 (by rw [zC,av];exact Nat.le_refl _);have hLb:K.L≤(w3.alloc (.cells #[.slice ta (aP s).1.length kC, .int .i64 0, .int .i64 (pts s).length, .int .i64 (-1)] 45)).heap.size:=by rw [zC,av];exact Nat.le_refl _
 obtain ⟨ta2,Iy,c0,c1,c2,c3,_,f3,_⟩:=hD6.1.cells;rw [hKb]at c0 c1 c2 c3 f3;rw [pX]at c0 c2;have HX:=Lib.hid pX;have wV:=Lib.hid hKb;have HKL:=Lib.hid zC;have AU:=Lib.hid Em;clear pX hKb zC Em h1 h2 hst hmay hct hlex;have hB4:=hB3.alloc hB3.size (.cells #[.slice ta (aP s).1.length kC, .int .i64 0, .int .i64 (pts s).length, .int .i64 (-1)] 45);have I9:Hid (K.b≠w.heap.size):=by show _≠_;rw [wV.out];have:=aD jr;omega
 by_cases hlt:σ2.i<(aP s).1.length
 · have p0:(σ2.i:Int)<((aP s).1.length:Int):=by omega
   have hf:=Tx.fail ⟨(aP s).1,(pts s).length⟩ σ2;obtain ⟨σ3,h3⟩:∃r,Tx.fail ⟨(aP s).1,(pts s).length⟩ σ2=r:=⟨_,rfl⟩;have HT3:Hid (τ=σ3):=by show _=_;rw [←AU.out,if_pos hlt,h3]
   have H3:=Lib.hid h3
   obtain ⟨bd,hbad⟩:∃bd,σ3.bad=some bd:=by
    cases hb:σ3.bad with
    |some a=>exact ⟨a,rfl⟩
    |none=>rw [←h3]at hb;exact absurd hb zf
   clear h3 hf;go_wp2_with fail;go_quiet (fail);go_wp2_with fail;have hD7:=hD6.drewN nq;generalize w6.drewN nq=w7 at *;have hat:=jH hD7.1;rw [HX.out,wV.out]at hat;refine hat.mono ?_;rintro e w8 ⟨rfl,m8,rfl⟩;have Cb:=hD7.drewN m8;generalize w7.drewN m8=w8 at *;have hwr:=iN Cb.1 (Tx.here ⟨(aP s).1,(pts s).length⟩ σ2);rw [wV.out]at hwr;go_wp2_with fail;refine hwr.mono ?_;rintro e w9 ⟨rfl,Pk⟩;have zJ:=Cb.trans Pk;replace zJ:Did K (w3.alloc (.cells #[.slice ta (aP s).1.length kC, .int .i64 0, .int .i64 (pts s).length, .int .i64 (-1)] 45)) σ3 w9:=by have h:=zJ;rw [show σ2.wrong (Tx.here ⟨(aP s).1,(pts s).length⟩ σ2)=σ3 from H3.out]at h;exact h
   have hok:=wN zJ.1 (v:=false) (by rw [hbad];rfl);rw [wV.out]at hok;go_wp2_with fail;refine hok.mono ?_;rintro e wy ⟨rfl,my,rfl⟩;have oW:=zJ.drewN my;generalize w9.drewN my=wx at *;obtain ⟨_,_,_,_,_,e3,_,g3,_⟩:=oW.1.cells;rw [wV.out]at e3 g3;have MF:σ3.fT=(bd:Int):=by unfold Ps.fT;rw [hbad]
   rw [MF]at e3;have hbx:=CU oW hb4 I9.out;have hBx:=hB4.grown oW.2.1 hB4.size (fun k hk=>by cases hk;rw [wV.out];exact hB3.size)
   have HP:Hid (bE s=(kD.zero,(bd:Int),3)):=by
    show _=_;rw [HE.out,HT3.out,hbad]
   clear hbad MF;go_wp2_with fail;obtain ⟨zc0,zc1,zc2,zc3,zc4,zc5,zc6,zc7,zc8,zc9,aee,aef,aeg,aeh,aei,aej,aek,ael⟩:=zn hbx;obtain ⟨zf0,zf1,zf2,zf3,zf4,zf5,zf6,zf7,zf8,zf9,aem,aen,aeo,aep,aer,aes,aeu,aev⟩:=CS hbx;have hwz:=tF (w:=wx) (V:=bf) hbx rfl rfl;obtain ⟨wz,wF⟩:∃wz,wz=wx.setCells w.heap.size 0 [.int .i64 0, .string ⟨#[]⟩, .string ⟨#[]⟩, .string ⟨#[]⟩, .string ⟨#[]⟩, .int .i64 0, .string ⟨#[]⟩, .int .i64 0, .string ⟨#[]⟩, .int .i64 0, .slice none 0 0, .slice none 0 0, .slice none 0 0, .slice none 0 0, .int .i64 0, .int .i64 0, .int .i64 0, .slice none 0 0]:=⟨_,rfl⟩;replace hwz:Wrote wx w.heap.size bf 31 (wx.setCells w.heap.size 0 [.int .i64 0, .string ⟨#[]⟩, .string ⟨#[]⟩, .string ⟨#[]⟩, .string ⟨#[]⟩, .int .i64 0, .string ⟨#[]⟩, .int .i64 0, .string ⟨#[]⟩, .int .i64 0, .slice none 0 0, .slice none 0 0, .slice none 0 0, .slice none 0 0, .int .i64 0, .int .i64 0, .int .i64 0, .slice none 0 0]):=hwz;rw [←wF]at hwz;simp only [World.setCells,Nat.zero_add,Nat.reduceAdd]at wF;have HWZ:=Lib.hid wF;clear wF;have hne1:¬w3.heap.size=w.heap.size:=by have:=aD jr;omega
   have hne2:¬w.heap.size=w3.heap.size:=by have:=aD jr;omega
   go_region
   all_goals
    go_wp2_with fail;rw [←HWZ.out];refine bodyPost_ret (dV rfl rfl (jO (w:=wz.drew) hwz.blk rfl)) rfl ?_;exact kM (p:=pz) HP.out (hwz.below _ _ hBx (Nat.le_refl _)).drew (tY _ _)
 · exact absurd HC.out hlt
theorem VR {s:ByteArray}{w:World}(hG:Gp w) (he:(aP s).2.2=0) (hC:¬(Tx.may (⟨(aP s).1,(pts s).length⟩:Tx) (Tx.jh (⟨(aP s).1,(pts s).length⟩:Tx) ((aP s).1.length+2) ⟨0,none⟩).2 (⟨#[59]⟩:ah)).i<(aP s).1.length∧(Tx.may (⟨(aP s).1,(pts s).length⟩:Tx) (Tx.jh (⟨(aP s).1,(pts s).length⟩:Tx) ((aP s).1.length+2) ⟨0,none⟩).2 (⟨#[59]⟩:ah)).bad≠none):Calls prog 12 #[.string s] w (pU w s):=by
 have hB1:=(Below.refl w.heap.size w).alloc (Nat.le_refl _) (.cells bf 31);have hb0:(w.alloc (.cells bf 31)).heap[w.heap.size]? =some (.cells bf 31 (0,0)):=aA w _;have hlex:=og s _ (hG.below hB1).1;obtain ⟨dW,hsz⟩:=oG he;have q1:((aP s).2.2 !=0)=false:=by rw [he];rfl
 have hX:=Lx.ok dW (pts s).length;obtain ⟨⟨nd,τ⟩,hpt⟩:∃r,jv ⟨(aP s).1,(pts s).length⟩=r:=⟨_,rfl⟩
 have HE:Hid (bE s=match τ.bad with|some a=>(kD.zero,(a:Int),3)|none=>if 1000<(eO (je nd)).size then (kD.zero,0,2)else (je nd,0,0)):=by
  show _=_;unfold bE;simp only;rw [if_neg (by rw [he];simp),hpt];rfl
 have HST:Hid (τ.bad=none→gB (je nd).x∧(∀y∈(je nd).parts,gB y)∧(je nd).parts.length≤8):=fun hb=>by
  obtain ⟨L,R,EO,_,_⟩:=kH hX (by rw [hpt];exact hb);rw [hpt]at EO;exact EO.st
 unfold jv at hpt;simp only at hpt;obtain ⟨⟨nd',σ1⟩,h1⟩:∃r,Tx.jh ⟨(aP s).1,(pts s).length⟩ ((aP s).1.length+2) ⟨0,none⟩=r:=⟨_,rfl⟩;rw [h1]at hpt;obtain ⟨σ2,h2⟩:∃r,Tx.may ⟨(aP s).1,(pts s).length⟩ σ1 (⟨#[59]⟩:ah)=r:=⟨_,rfl⟩;rw [h2]at hpt;injection hpt with hnd Em
 rw [h1]at hC;simp only [h2]at hC;have HC:=Lib.hid hC;clear hC;subst hnd;have hbz:=oO;have HG:=Lib.hid hG;have SV:=Lib.hid hsz;clear he hG hsz dW hX;go_enter func12,ntmps12;go_wp2_with fail;refine hlex.mono ?_;rintro e w2 ⟨⟨v,rfl,hrow⟩,hb2⟩;have hB2:=hB1.trans (hb2.mono hB1.size);have mY:=aZ hb0 hb2 (aD hb0);obtain ⟨ta,kC,rfl,_⟩:=aY hrow;have hct:=uJ s w2 (by have:=SV.out;omega);go_wp2_with fail;refine hct.mono ?_;rintro e w3 ⟨rfl,hb3⟩;have hB3:=hB2.trans (hb3.mono hB2.size);have jr:=aZ mY hb3 (aD mY);obtain ⟨K,hKb,zC,pX,Z4,hPQ⟩:=Iw (HG.out.below hB3) SV.out hrow hb3;have hD4:=Did.refl hPQ;have hb4:=aC jr (.cells #[.slice ta (aP s).1.length kC, .int .i64 0, .int .i64 (pts s).length, .int .i64 (-1)] 45);have hst:=mG (K:=K) ((aP s).1.length+2) hPQ (by rw [pX];show (aP s).1.length - 0<_;omega);rw [pX,h1,hKb]at hst;go_wp2_with fail;refine hst.mono ?_;intro e w5 hz;obtain ⟨v9,rfl,hd5,I7⟩:=uX hz;have hD5:=hD4.trans hd5;have hmay:=aV hd5.1 (⟨#[59]⟩:ah);rw [pX,h2,hKb]at hmay;go_wp2_with fail;refine hmay.mono ?_;rintro e w6 ⟨rfl,hd6⟩;have hD6:=hD5.trans hd6;have UQ:=I7.did hd6 (by rw [zC,av];exact Nat.le_refl _);have hLb:K.L≤(w3.alloc (.cells #[.slice ta (aP s).1.length kC, .int .i64 0, .int .i64 (pts s).length, .int .i64 (-1)] 45)).heap.size:=by rw [zC,av];exact Nat.le_refl _
 obtain ⟨ta2,Iy,c0,c1,c2,c3,_,f3,_⟩:=hD6.1.cells;rw [hKb]at c0 c1 c2 c3 f3;rw [pX]at c0 c2;have HX:=Lib.hid pX;have wV:=Lib.hid hKb;have HKL:=Lib.hid zC;have AU:=Lib.hid Em;clear pX hKb zC Em h1 h2 hst hmay hct hlex;have hB4:=hB3.alloc hB3.size (.cells #[.slice ta (aP s).1.length kC, .int .i64 0, .int .i64 (pts s).length, .int .i64 (-1)] 45);have I9:Hid (K.b≠w.heap.size):=by show _≠_;rw [wV.out];have:=aD jr;omega
 by_cases hlt:σ2.i<(aP s).1.length
 · exact absurd hlt HC.out.1
 · have p0:¬(σ2.i:Int)<((aP s).1.length:Int):=by omega
   have HT3:Hid (τ=σ2):=by show _=_;rw [←AU.out,if_neg hlt]
   cases hbad:σ2.bad with
   |some bd=>
    go_wp2_with fail;go_quiet (fail);go_wp2_with fail;have zJ:=hD6.drewN nq;generalize w6.drewN nq=w9 at *;have hok:=wN zJ.1 (v:=false) (by rw [hbad];rfl);rw [wV.out]at hok;go_wp2_with fail;refine hok.mono ?_;rintro e wy ⟨rfl,my,rfl⟩;have oW:=zJ.drewN my;generalize w9.drewN my=wx at *;obtain ⟨_,_,_,_,_,e3,_,g3,_⟩:=oW.1.cells;rw [wV.out]at e3 g3;have MF:σ2.fT=(bd:Int):=by unfold Ps.fT;rw [hbad]
    rw [MF]at e3;have hbx:=CU oW hb4 I9.out;have hBx:=hB4.grown oW.2.1 hB4.size (fun k hk=>by cases hk;rw [wV.out];exact hB3.size)
    have HP:Hid (bE s=(kD.zero,(bd:Int),3)):=by
     show _=_;rw [HE.out,HT3.out,hbad]
    clear hbad MF;go_wp2_with fail;obtain ⟨zc0,zc1,zc2,zc3,zc4,zc5,zc6,zc7,zc8,zc9,aee,aef,aeg,aeh,aei,aej,aek,ael⟩:=zn hbx;obtain ⟨zf0,zf1,zf2,zf3,zf4,zf5,zf6,zf7,zf8,zf9,aem,aen,aeo,aep,aer,aes,aeu,aev⟩:=CS hbx;have hwz:=tF (w:=wx) (V:=bf) hbx rfl rfl;obtain ⟨wz,wF⟩:∃wz,wz=wx.setCells w.heap.size 0 [.int .i64 0, .string ⟨#[]⟩, .string ⟨#[]⟩, .string ⟨#[]⟩, .string ⟨#[]⟩, .int .i64 0, .string ⟨#[]⟩, .int .i64 0, .string ⟨#[]⟩, .int .i64 0, .slice none 0 0, .slice none 0 0, .slice none 0 0, .slice none 0 0, .int .i64 0, .int .i64 0, .int .i64 0, .slice none 0 0]:=⟨_,rfl⟩;replace hwz:Wrote wx w.heap.size bf 31 (wx.setCells w.heap.size 0 [.int .i64 0, .string ⟨#[]⟩, .string ⟨#[]⟩, .string ⟨#[]⟩, .string ⟨#[]⟩, .int .i64 0, .string ⟨#[]⟩, .int .i64 0, .string ⟨#[]⟩, .int .i64 0, .slice none 0 0, .slice none 0 0, .slice none 0 0, .slice none 0 0, .int .i64 0, .int .i64 0, .int .i64 0, .slice none 0 0]):=hwz;rw [←wF]at hwz;simp only [World.setCells,Nat.zero_add,Nat.reduceAdd]at wF;have HWZ:=Lib.hid wF;clear wF;have hne1:¬w3.heap.size=w.heap.size:=by have:=aD jr;omega
    have hne2:¬w.heap.size=w3.heap.size:=by have:=aD jr;omega
    go_region
    all_goals
     go_wp2_with fail;rw [←HWZ.out];refine bodyPost_ret (dV rfl rfl (jO (w:=wz.drew) hwz.blk rfl)) rfl ?_;exact kM (p:=pz) HP.out (hwz.below _ _ hBx (Nat.le_refl _)).drew (tY _ _)
   |none=>exact absurd hbad HC.out.2
theorem VT {s:ByteArray}{w:World}(hG:Gp w) (he:(aP s).2.2=0) (hC:¬(Tx.may (⟨(aP s).1,(pts s).length⟩:Tx) (Tx.jh (⟨(aP s).1,(pts s).length⟩:Tx) ((aP s).1.length+2) ⟨0,none⟩).2 (⟨#[59]⟩:ah)).i<(aP s).1.length∧(Tx.may (⟨(aP s).1,(pts s).length⟩:Tx) (Tx.jh (⟨(aP s).1,(pts s).length⟩:Tx) ((aP s).1.length+2) ⟨0,none⟩).2 (⟨#[59]⟩:ah)).bad=none∧∃x,(Tx.jh (⟨(aP s).1,(pts s).length⟩:Tx) ((aP s).1.length+2) ⟨0,none⟩).1= .plain x):Calls prog 12 #[.string s] w (pU w s):=by
 have hB1:=(Below.refl w.heap.size w).alloc (Nat.le_refl _) (.cells bf 31);have hb0:(w.alloc (.cells bf 31)).heap[w.heap.size]? =some (.cells bf 31 (0,0)):=aA w _;have hlex:=og s _ (hG.below hB1).1;obtain ⟨dW,hsz⟩:=oG he;have q1:((aP s).2.2 !=0)=false:=by rw [he];rfl
 have hX:=Lx.ok dW (pts s).length;obtain ⟨⟨nd,τ⟩,hpt⟩:∃r,jv ⟨(aP s).1,(pts s).length⟩=r:=⟨_,rfl⟩
 have HE:Hid (bE s=match τ.bad with|some a=>(kD.zero,(a:Int),3)|none=>if 1000<(eO (je nd)).size then (kD.zero,0,2)else (je nd,0,0)):=by
  show _=_;unfold bE;simp only;rw [if_neg (by rw [he];simp),hpt];rfl
 have HST:Hid (τ.bad=none→gB (je nd).x∧(∀y∈(je nd).parts,gB y)∧(je nd).parts.length≤8):=fun hb=>by
  obtain ⟨L,R,EO,_,_⟩:=kH hX (by rw [hpt];exact hb);rw [hpt]at EO;exact EO.st
 unfold jv at hpt;simp only at hpt;obtain ⟨⟨nd',σ1⟩,h1⟩:∃r,Tx.jh ⟨(aP s).1,(pts s).length⟩ ((aP s).1.length+2) ⟨0,none⟩=r:=⟨_,rfl⟩;rw [h1]at hpt;obtain ⟨σ2,h2⟩:∃r,Tx.may ⟨(aP s).1,(pts s).length⟩ σ1 (⟨#[59]⟩:ah)=r:=⟨_,rfl⟩;rw [h2]at hpt;injection hpt with hnd Em
 rw [h1]at hC;simp only [h2]at hC;have HC:=Lib.hid hC;clear hC;subst hnd;have hbz:=oO;have HG:=Lib.hid hG;have SV:=Lib.hid hsz;clear he hG hsz dW hX;go_enter func12,ntmps12;go_wp2_with fail;refine hlex.mono ?_;rintro e w2 ⟨⟨v,rfl,hrow⟩,hb2⟩;have hB2:=hB1.trans (hb2.mono hB1.size);have mY:=aZ hb0 hb2 (aD hb0);obtain ⟨ta,kC,rfl,_⟩:=aY hrow;have hct:=uJ s w2 (by have:=SV.out;omega);go_wp2_with fail;refine hct.mono ?_;rintro e w3 ⟨rfl,hb3⟩;have hB3:=hB2.trans (hb3.mono hB2.size);have jr:=aZ mY hb3 (aD mY);obtain ⟨K,hKb,zC,pX,Z4,hPQ⟩:=Iw (HG.out.below hB3) SV.out hrow hb3;have hD4:=Did.refl hPQ;have hb4:=aC jr (.cells #[.slice ta (aP s).1.length kC, .int .i64 0, .int .i64 (pts s).length, .int .i64 (-1)] 45);have hst:=mG (K:=K) ((aP s).1.length+2) hPQ (by rw [pX];show (aP s).1.length - 0<_;omega);rw [pX,h1,hKb]at hst;go_wp2_with fail;refine hst.mono ?_;intro e w5 hz;obtain ⟨v9,rfl,hd5,I7⟩:=uX hz;have hD5:=hD4.trans hd5;have hmay:=aV hd5.1 (⟨#[59]⟩:ah);rw [pX,h2,hKb]at hmay;go_wp2_with fail;refine hmay.mono ?_;rintro e w6 ⟨rfl,hd6⟩;have hD6:=hD5.trans hd6;have UQ:=I7.did hd6 (by rw [zC,av];exact Nat.le_refl _);have hLb:K.L≤(w3.alloc (.cells #[.slice ta (aP s).1.length kC, .int .i64 0, .int .i64 (pts s).length, .int .i64 (-1)] 45)).heap.size:=by rw [zC,av];exact Nat.le_refl _
 obtain ⟨ta2,Iy,c0,c1,c2,c3,_,f3,_⟩:=hD6.1.cells;rw [hKb]at c0 c1 c2 c3 f3;rw [pX]at c0 c2;have HX:=Lib.hid pX;have wV:=Lib.hid hKb;have HKL:=Lib.hid zC;have AU:=Lib.hid Em;clear pX hKb zC Em h1 h2 hst hmay hct hlex;have hB4:=hB3.alloc hB3.size (.cells #[.slice ta (aP s).1.length kC, .int .i64 0, .int .i64 (pts s).length, .int .i64 (-1)] 45);have I9:Hid (K.b≠w.heap.size):=by show _≠_;rw [wV.out];have:=aD jr;omega
 by_cases hlt:σ2.i<(aP s).1.length
 · exact absurd hlt HC.out.1
 · have p0:¬(σ2.i:Int)<((aP s).1.length:Int):=by omega
   have HT3:Hid (τ=σ2):=by show _=_;rw [←AU.out,if_neg hlt]
   cases hbad:σ2.bad with
   |some bd=>exact absurd hbad (by rw [HC.out.2.1];simp)
   |none=>
    go_wp2_with fail;go_quiet (fail);go_wp2_with fail;have zJ:=hD6.drewN nq;have hn9:=UQ.below (aN.below_drewN (Below.refl w6.heap.size w6) nq);generalize w6.drewN nq=w9 at *;have hok:=wN zJ.1 (v:=true) (by rw [hbad];rfl);rw [wV.out]at hok;have hst:=HST.out (by rw [HT3.out];exact hbad)
    have HP:Hid (bE s=if 1000<(eO (je nd')).size then (kD.zero,0,2)else (je nd',0,0)):=by
     show _=_;rw [HE.out,HT3.out,hbad]
    clear hbad;go_wp2_with fail;refine hok.mono ?_;rintro e wy ⟨rfl,my,rfl⟩;have oW:=zJ.drewN my;have Zm:=hn9.below (aN.below_drewN (Below.refl w9.heap.size w9) my);generalize w9.drewN my=wx at *;have hbx:=CU oW hb4 I9.out;have hBx:=hB4.grown oW.2.1 hB4.size (fun k hk=>by cases hk;rw [wV.out];exact hB3.size);cases nd' with
    |plain x=>
     obtain ⟨tc,c,s',wv,rfl,hrw⟩:=Zm;have OJ:=hrw.one;have hmt:=agj;have hsm:=abf (w:=wx) x tc c s' wv OJ;go_wp2_with fail;refine hsm.mono ?_;rintro e wA ⟨rfl,hbs⟩;have hrw1:=hrw.mono (show w.heap.size+1≤_ by rw [av];have:=hB3.size;omega);have hrw2:=hrw1.map fun _ _ _ _ _ _ hr=>fC hr hbs
     have Wn:=aZ hbx hbs (aD hbx);have hBA:=hBx.trans (hbs.mono hBx.size);have hone:(aG x tc c s' wv ak).toList.all (·.oneCell')=true:=OJ;have hW:=aA wA (.cells (aG x tc c s' wv ak) 31);have Iz:=hBA.alloc hBA.size (.cells (aG x tc c s' wv ak) 31);have hT:Calls prog 14 #[.agg (aG x tc c s' wv ak)] (wA.alloc (.cells (aG x tc c s' wv ak) 31)) fun e w' =>e= .returned (.string (eO (je (.plain x))))∧Below (wA.alloc (.cells (aG x tc c s' wv ak) 31)).heap.size (wA.alloc (.cells (aG x tc c s' wv ak) 31)) w' :=zl (p:=⟨x,tc,c,s',wv,ak⟩) (L:= []) (HG.out.below Iz) ⟨hst.1,(hrw2.map fun _ _ _ _ _ _ hr=>hr.alloc _).rd,rfl⟩ (fun _=>⟨Nat.zero_le _,Q7 _,fun _ h=>nomatch h⟩)
     obtain ⟨tx,htx⟩:∃r,eO (je (.plain x))=r:=⟨_,rfl⟩;rw [htx]at hT HP;have Zn:=Lib.hid HP.out;clear HP htx;go_wp2_with (first|refine fA rfl _ _ rfl rfl rfl rfl rfl hone ?_|refine aT rfl _ rfl rfl rfl hW ?_);refine hT.mono ?_;rintro e wB ⟨rfl,Jh⟩;have hWB:=aZ hW Jh (aD hW);have OL:=aZ (aC Wn _) Jh (aD (aC Wn _));have Zo:=Iz.trans (Jh.mono Iz.size);have hHB:=(show oq wA (w.heap.size+1) ⟨x,tc,c,s',wv,ak⟩ [] (je (.plain x))from ⟨rfl,rfl,hrw2,World.ownsRow_nil _ _ _ _,fun _ h=>nomatch h⟩).below ((Below.refl wA.heap.size wA).alloc (Nat.le_refl _) (.cells (aG x tc c s' wv ak) 31)|>.trans (Jh.mono (by rw [av];omega)));by_cases hbig:1000<tx.size
     · have p9:(1000:Int)<(tx.size:Int):=by omega
       have HQ:Hid (bE s=(kD.zero,0,2)):=by show _=_;rw [Zn.out,if_pos hbig]
       clear hbig;go_wp2_with (refine bH rfl _ _ rfl rfl rfl OL rfl rfl rfl ?_;intro wz hwz);refine bodyPost_ret (dV rfl rfl (jO hwz.blk rfl)) rfl ?_;exact kM (p:=pz) HQ.out (hwz.below _ _ Zo (Nat.le_refl _)) (tY _ _)
     · have p9:¬(1000:Int)<(tx.size:Int):=by omega
       have HQ:Hid (bE s=(je (.plain x),0,0)):=by show _=_;rw [Zn.out,if_neg hbig]
       clear hbig;go_wp2_with (first|refine aT rfl _ rfl rfl rfl hWB ?_|(refine bH rfl _ _ rfl rfl rfl OL rfl rfl hone ?_;intro wz hwz));refine bodyPost_ret (dV rfl rfl (jO hwz.blk rfl)) rfl ?_;exact kM (p:=⟨x,tc,c,s',wv,ak⟩) HQ.out (hwz.below _ _ Zo (Nat.le_refl _)) ((hwz.has hHB (Nat.lt_succ_self _)).mono (Nat.le_succ _))
    |change x=>obtain ⟨_,h⟩:=HC.out.2.2;exact absurd h (by simp)
    |batch l=>obtain ⟨_,h⟩:=HC.out.2.2;exact absurd h (by simp)
theorem VU {s:ByteArray}{w:World}(hG:Gp w) (he:(aP s).2.2=0) (hC:¬(Tx.may (⟨(aP s).1,(pts s).length⟩:Tx) (Tx.jh (⟨(aP s).1,(pts s).length⟩:Tx) ((aP s).1.length+2) ⟨0,none⟩).2 (⟨#[59]⟩:ah)).i<(aP s).1.length∧(Tx.may (⟨(aP s).1,(pts s).length⟩:Tx) (Tx.jh (⟨(aP s).1,(pts s).length⟩:Tx) ((aP s).1.length+2) ⟨0,none⟩).2 (⟨#[59]⟩:ah)).bad=none∧∃x,(Tx.jh (⟨(aP s).1,(pts s).length⟩:Tx) ((aP s).1.length+2) ⟨0,none⟩).1= .change x):Calls prog 12 #[.string s] w (pU w s):=by
 have hB1:=(Below.refl w.heap.size w).alloc (Nat.le_refl _) (.cells bf 31);have hb0:(w.alloc (.cells bf 31)).heap[w.heap.size]? =some (.cells bf 31 (0,0)):=aA w _;have hlex:=og s _ (hG.below hB1).1;obtain ⟨dW,hsz⟩:=oG he;have q1:((aP s).2.2 !=0)=false:=by rw [he];rfl
 have hX:=Lx.ok dW (pts s).length;obtain ⟨⟨nd,τ⟩,hpt⟩:∃r,jv ⟨(aP s).1,(pts s).length⟩=r:=⟨_,rfl⟩
 have HE:Hid (bE s=match τ.bad with|some a=>(kD.zero,(a:Int),3)|none=>if 1000<(eO (je nd)).size then (kD.zero,0,2)else (je nd,0,0)):=by
  show _=_;unfold bE;simp only;rw [if_neg (by rw [he];simp),hpt];rfl
 have HST:Hid (τ.bad=none→gB (je nd).x∧(∀y∈(je nd).parts,gB y)∧(je nd).parts.length≤8):=fun hb=>by
  obtain ⟨L,R,EO,_,_⟩:=kH hX (by rw [hpt];exact hb);rw [hpt]at EO;exact EO.st
 unfold jv at hpt;simp only at hpt;obtain ⟨⟨nd',σ1⟩,h1⟩:∃r,Tx.jh ⟨(aP s).1,(pts s).length⟩ ((aP s).1.length+2) ⟨0,none⟩=r:=⟨_,rfl⟩;rw [h1]at hpt;obtain ⟨σ2,h2⟩:∃r,Tx.may ⟨(aP s).1,(pts s).length⟩ σ1 (⟨#[59]⟩:ah)=r:=⟨_,rfl⟩;rw [h2]at hpt;injection hpt with hnd Em
 rw [h1]at hC;simp only [h2]at hC;have HC:=Lib.hid hC;clear hC;subst hnd;have hbz:=oO;have HG:=Lib.hid hG;have SV:=Lib.hid hsz;clear he hG hsz dW hX;go_enter func12,ntmps12;go_wp2_with fail;refine hlex.mono ?_;rintro e w2 ⟨⟨v,rfl,hrow⟩,hb2⟩;have hB2:=hB1.trans (hb2.mono hB1.size);have mY:=aZ hb0 hb2 (aD hb0);obtain ⟨ta,kC,rfl,_⟩:=aY hrow;have hct:=uJ s w2 (by have:=SV.out;omega);go_wp2_with fail;refine hct.mono ?_;rintro e w3 ⟨rfl,hb3⟩;have hB3:=hB2.trans (hb3.mono hB2.size);have jr:=aZ mY hb3 (aD mY);obtain ⟨K,hKb,zC,pX,Z4,hPQ⟩:=Iw (HG.out.below hB3) SV.out hrow hb3;have hD4:=Did.refl hPQ;have hb4:=aC jr (.cells #[.slice ta (aP s).1.length kC, .int .i64 0, .int .i64 (pts s).length, .int .i64 (-1)] 45);have hst:=mG (K:=K) ((aP s).1.length+2) hPQ (by rw [pX];show (aP s).1.length - 0<_;omega);rw [pX,h1,hKb]at hst;go_wp2_with fail;refine hst.mono ?_;intro e w5 hz;obtain ⟨v9,rfl,hd5,I7⟩:=uX hz;have hD5:=hD4.trans hd5;have hmay:=aV hd5.1 (⟨#[59]⟩:ah);rw [pX,h2,hKb]at hmay;go_wp2_with fail;refine hmay.mono ?_;rintro e w6 ⟨rfl,hd6⟩;have hD6:=hD5.trans hd6;have UQ:=I7.did hd6 (by rw [zC,av];exact Nat.le_refl _);have hLb:K.L≤(w3.alloc (.cells #[.slice ta (aP s).1.length kC, .int .i64 0, .int .i64 (pts s).length, .int .i64 (-1)] 45)).heap.size:=by rw [zC,av];exact Nat.le_refl _
 obtain ⟨ta2,Iy,c0,c1,c2,c3,_,f3,_⟩:=hD6.1.cells;rw [hKb]at c0 c1 c2 c3 f3;rw [pX]at c0 c2;have HX:=Lib.hid pX;have wV:=Lib.hid hKb;have HKL:=Lib.hid zC;have AU:=Lib.hid Em;clear pX hKb zC Em h1 h2 hst hmay hct hlex;have hB4:=hB3.alloc hB3.size (.cells #[.slice ta (aP s).1.length kC, .int .i64 0, .int .i64 (pts s).length, .int .i64 (-1)] 45);have I9:Hid (K.b≠w.heap.size):=by show _≠_;rw [wV.out];have:=aD jr;omega
 by_cases hlt:σ2.i<(aP s).1.length
 · exact absurd hlt HC.out.1
 · have p0:¬(σ2.i:Int)<((aP s).1.length:Int):=by omega
   have HT3:Hid (τ=σ2):=by show _=_;rw [←AU.out,if_neg hlt]
   cases hbad:σ2.bad with
   |some bd=>exact absurd hbad (by rw [HC.out.2.1];simp)
   |none=>
    go_wp2_with fail;go_quiet (fail);go_wp2_with fail;have zJ:=hD6.drewN nq;have hn9:=UQ.below (aN.below_drewN (Below.refl w6.heap.size w6) nq);generalize w6.drewN nq=w9 at *;have hok:=wN zJ.1 (v:=true) (by rw [hbad];rfl);rw [wV.out]at hok;have hst:=HST.out (by rw [HT3.out];exact hbad)
    have HP:Hid (bE s=if 1000<(eO (je nd')).size then (kD.zero,0,2)else (je nd',0,0)):=by
     show _=_;rw [HE.out,HT3.out,hbad]
    clear hbad;go_wp2_with fail;refine hok.mono ?_;rintro e wy ⟨rfl,my,rfl⟩;have oW:=zJ.drewN my;have Zm:=hn9.below (aN.below_drewN (Below.refl w9.heap.size w9) my);generalize w9.drewN my=wx at *;have hbx:=CU oW hb4 I9.out;have hBx:=hB4.grown oW.2.1 hB4.size (fun k hk=>by cases hk;rw [wV.out];exact hB3.size);cases nd' with
    |plain x=>obtain ⟨_,h⟩:=HC.out.2.2;exact absurd h (by simp)
    |change x=>
     obtain ⟨tc,c,s',wv,rfl,hrw⟩:=Zm;have OJ:=hrw.one;have hmt:=agk;have hsm:=abg (w:=wx) x tc c s' wv OJ;go_wp2_with fail;refine hsm.mono ?_;rintro e wA ⟨rfl,hbs⟩;have hrw1:=hrw.mono (show w.heap.size+1≤_ by rw [av];have:=hB3.size;omega);have hrw2:=hrw1.map fun _ _ _ _ _ _ hr=>fC hr hbs
     have Wn:=aZ hbx hbs (aD hbx);have hBA:=hBx.trans (hbs.mono hBx.size);have hone:(aG x tc c s' wv ak).toList.all (·.oneCell')=true:=OJ;have hW:=aA wA (.cells (aG x tc c s' wv ak) 31);have Iz:=hBA.alloc hBA.size (.cells (aG x tc c s' wv ak) 31);have hT:Calls prog 14 #[.agg (aG x tc c s' wv ak)] (wA.alloc (.cells (aG x tc c s' wv ak) 31)) fun e w' =>e= .returned (.string (eO (je (.change x))))∧Below (wA.alloc (.cells (aG x tc c s' wv ak) 31)).heap.size (wA.alloc (.cells (aG x tc c s' wv ak) 31)) w' :=zl (p:=⟨x,tc,c,s',wv,ak⟩) (L:= []) (HG.out.below Iz) ⟨hst.1,(hrw2.map fun _ _ _ _ _ _ hr=>hr.alloc _).rd,rfl⟩ (fun _=>⟨Nat.zero_le _,Q7 _,fun _ h=>nomatch h⟩)
     obtain ⟨tx,htx⟩:∃r,eO (je (.change x))=r:=⟨_,rfl⟩;rw [htx]at hT HP;have Zn:=Lib.hid HP.out;clear HP htx;go_wp2_with (first|refine fA rfl _ _ rfl rfl rfl rfl rfl hone ?_|refine aT rfl _ rfl rfl rfl hW ?_);refine hT.mono ?_;rintro e wB ⟨rfl,Jh⟩;have hWB:=aZ hW Jh (aD hW);have OL:=aZ (aC Wn _) Jh (aD (aC Wn _));have Zo:=Iz.trans (Jh.mono Iz.size);have hHB:=(show oq wA (w.heap.size+1) ⟨x,tc,c,s',wv,ak⟩ [] (je (.change x))from ⟨rfl,rfl,hrw2,World.ownsRow_nil _ _ _ _,fun _ h=>nomatch h⟩).below ((Below.refl wA.heap.size wA).alloc (Nat.le_refl _) (.cells (aG x tc c s' wv ak) 31)|>.trans (Jh.mono (by rw [av];omega)));by_cases hbig:1000<tx.size
     · have p9:(1000:Int)<(tx.size:Int):=by omega
       have HQ:Hid (bE s=(kD.zero,0,2)):=by show _=_;rw [Zn.out,if_pos hbig]
       clear hbig;go_wp2_with (refine bH rfl _ _ rfl rfl rfl OL rfl rfl rfl ?_;intro wz hwz);refine bodyPost_ret (dV rfl rfl (jO hwz.blk rfl)) rfl ?_;exact kM (p:=pz) HQ.out (hwz.below _ _ Zo (Nat.le_refl _)) (tY _ _)
     · have p9:¬(1000:Int)<(tx.size:Int):=by omega
       have HQ:Hid (bE s=(je (.change x),0,0)):=by show _=_;rw [Zn.out,if_neg hbig]
       clear hbig;go_wp2_with (first|refine aT rfl _ rfl rfl rfl hWB ?_|(refine bH rfl _ _ rfl rfl rfl OL rfl rfl hone ?_;intro wz hwz));refine bodyPost_ret (dV rfl rfl (jO hwz.blk rfl)) rfl ?_;exact kM (p:=⟨x,tc,c,s',wv,ak⟩) HQ.out (hwz.below _ _ Zo (Nat.le_refl _)) ((hwz.has hHB (Nat.lt_succ_self _)).mono (Nat.le_succ _))
    |batch l=>obtain ⟨_,h⟩:=HC.out.2.2;exact absurd h (by simp)
theorem VW {s:ByteArray}{w:World}(hG:Gp w) (he:(aP s).2.2=0) (hC:¬(Tx.may (⟨(aP s).1,(pts s).length⟩:Tx) (Tx.jh (⟨(aP s).1,(pts s).length⟩:Tx) ((aP s).1.length+2) ⟨0,none⟩).2 (⟨#[59]⟩:ah)).i<(aP s).1.length∧(Tx.may (⟨(aP s).1,(pts s).length⟩:Tx) (Tx.jh (⟨(aP s).1,(pts s).length⟩:Tx) ((aP s).1.length+2) ⟨0,none⟩).2 (⟨#[59]⟩:ah)).bad=none∧∃x,(Tx.jh (⟨(aP s).1,(pts s).length⟩:Tx) ((aP s).1.length+2) ⟨0,none⟩).1= .batch x):Calls prog 12 #[.string s] w (pU w s):=by
 have hB1:=(Below.refl w.heap.size w).alloc (Nat.le_refl _) (.cells bf 31);have hb0:(w.alloc (.cells bf 31)).heap[w.heap.size]? =some (.cells bf 31 (0,0)):=aA w _;have hlex:=og s _ (hG.below hB1).1;obtain ⟨dW,hsz⟩:=oG he;have q1:((aP s).2.2 !=0)=false:=by rw [he];rfl
 have hX:=Lx.ok dW (pts s).length;obtain ⟨⟨nd,τ⟩,hpt⟩:∃r,jv ⟨(aP s).1,(pts s).length⟩=r:=⟨_,rfl⟩
 have HE:Hid (bE s=match τ.bad with|some a=>(kD.zero,(a:Int),3)|none=>if 1000<(eO (je nd)).size then (kD.zero,0,2)else (je nd,0,0)):=by
  show _=_;unfold bE;simp only;rw [if_neg (by rw [he];simp),hpt];rfl
 have HST:Hid (τ.bad=none→gB (je nd).x∧(∀y∈(je nd).parts,gB y)∧(je nd).parts.length≤8):=fun hb=>by
  obtain ⟨L,R,EO,_,_⟩:=kH hX (by rw [hpt];exact hb);rw [hpt]at EO;exact EO.st
 unfold jv at hpt;simp only at hpt;obtain ⟨⟨nd',σ1⟩,h1⟩:∃r,Tx.jh ⟨(aP s).1,(pts s).length⟩ ((aP s).1.length+2) ⟨0,none⟩=r:=⟨_,rfl⟩;rw [h1]at hpt;obtain ⟨σ2,h2⟩:∃r,Tx.may ⟨(aP s).1,(pts s).length⟩ σ1 (⟨#[59]⟩:ah)=r:=⟨_,rfl⟩;rw [h2]at hpt;injection hpt with hnd Em
 rw [h1]at hC;simp only [h2]at hC;have HC:=Lib.hid hC;clear hC;subst hnd;have hbz:=oO;have HG:=Lib.hid hG;have SV:=Lib.hid hsz;clear he hG hsz dW hX;go_enter func12,ntmps12;go_wp2_with fail;refine hlex.mono ?_;rintro e w2 ⟨⟨v,rfl,hrow⟩,hb2⟩;have hB2:=hB1.trans (hb2.mono hB1.size);have mY:=aZ hb0 hb2 (aD hb0);obtain ⟨ta,kC,rfl,_⟩:=aY hrow;have hct:=uJ s w2 (by have:=SV.out;omega);go_wp2_with fail;refine hct.mono ?_;rintro e w3 ⟨rfl,hb3⟩;have hB3:=hB2.trans (hb3.mono hB2.size);have jr:=aZ mY hb3 (aD mY);obtain ⟨K,hKb,zC,pX,Z4,hPQ⟩:=Iw (HG.out.below hB3) SV.out hrow hb3;have hD4:=Did.refl hPQ;have hb4:=aC jr (.cells #[.slice ta (aP s).1.length kC, .int .i64 0, .int .i64 (pts s).length, .int .i64 (-1)] 45);have hst:=mG (K:=K) ((aP s).1.length+2) hPQ (by rw [pX];show (aP s).1.length - 0<_;omega);rw [pX,h1,hKb]at hst;go_wp2_with fail;refine hst.mono ?_;intro e w5 hz;obtain ⟨v9,rfl,hd5,I7⟩:=uX hz;have hD5:=hD4.trans hd5;have hmay:=aV hd5.1 (⟨#[59]⟩:ah);rw [pX,h2,hKb]at hmay;go_wp2_with fail;refine hmay.mono ?_;rintro e w6 ⟨rfl,hd6⟩;have hD6:=hD5.trans hd6;have UQ:=I7.did hd6 (by rw [zC,av];exact Nat.le_refl _);have hLb:K.L≤(w3.alloc (.cells #[.slice ta (aP s).1.length kC, .int .i64 0, .int .i64 (pts s).length, .int .i64 (-1)] 45)).heap.size:=by rw [zC,av];exact Nat.le_refl _
 obtain ⟨ta2,Iy,c0,c1,c2,c3,_,f3,_⟩:=hD6.1.cells;rw [hKb]at c0 c1 c2 c3 f3;rw [pX]at c0 c2;have HX:=Lib.hid pX;have wV:=Lib.hid hKb;have HKL:=Lib.hid zC;have AU:=Lib.hid Em;clear pX hKb zC Em h1 h2 hst hmay hct hlex;have hB4:=hB3.alloc hB3.size (.cells #[.slice ta (aP s).1.length kC, .int .i64 0, .int .i64 (pts s).length, .int .i64 (-1)] 45);have I9:Hid (K.b≠w.heap.size):=by show _≠_;rw [wV.out];have:=aD jr;omega
 by_cases hlt:σ2.i<(aP s).1.length
 · exact absurd hlt HC.out.1
 · have p0:¬(σ2.i:Int)<((aP s).1.length:Int):=by omega
   have HT3:Hid (τ=σ2):=by show _=_;rw [←AU.out,if_neg hlt]
   cases hbad:σ2.bad with
   |some bd=>exact absurd hbad (by rw [HC.out.2.1];simp)
   |none=>
    go_wp2_with fail;go_quiet (fail);go_wp2_with fail;have zJ:=hD6.drewN nq;have hn9:=UQ.below (aN.below_drewN (Below.refl w6.heap.size w6) nq);generalize w6.drewN nq=w9 at *;have hok:=wN zJ.1 (v:=true) (by rw [hbad];rfl);rw [wV.out]at hok;have hst:=HST.out (by rw [HT3.out];exact hbad)
    have HP:Hid (bE s=if 1000<(eO (je nd')).size then (kD.zero,0,2)else (je nd',0,0)):=by
     show _=_;rw [HE.out,HT3.out,hbad]
    clear hbad;go_wp2_with fail;refine hok.mono ?_;rintro e wy ⟨rfl,my,rfl⟩;have oW:=zJ.drewN my;have Zm:=hn9.below (aN.below_drewN (Below.refl w9.heap.size w9) my);generalize w9.drewN my=wx at *;have hbx:=CU oW hb4 I9.out;have hBx:=hB4.grown oW.2.1 hB4.size (fun k hk=>by cases hk;rw [wV.out];exact hB3.size);cases nd' with
    |plain x=>obtain ⟨_,h⟩:=HC.out.2.2;exact absurd h (by simp)
    |change x=>obtain ⟨_,h⟩:=HC.out.2.2;exact absurd h (by simp)
    |batch l=>
     obtain ⟨L,a,cap,dW,rfl,hrow2,hpv⟩:=Zm;have hmt:=agl;have Zp:L.length≤8:=by have h:=hst.2.2;rw [show (je (.batch l)).parts=l from rfl,←dW,List.length_map]at h;exact h
     have hsm:=abh (w:=wx) (L:=L) (by omega) hrow2 hpv;go_wp2_with fail;refine hsm.mono ?_;rintro e wA ⟨a3,c3,rfl,hbs,aiF⟩;have alu:=hBx.size;have agp:=oW.size;have hpv1:fO wx (w.heap.size+1) L:=fun q hq=>(hpv q hq).mono (by rw [av];have:=hB3.size;omega)
     have hpq:fO wA (w.heap.size+1) L:=hpv1.map fun _ _ _ _ _ _ hr=>fC hr hbs
     have aiG:=aR aiF (show w.heap.size+1≤wx.heap.size by rw [av]at agp;have:=hB3.size;omega)
     have hrq:wA.ownsRow (w.heap.size+1) 31 18 (.slice a3 L.length c3) L.length (jP (L.map fun q=>⟨q.x,q.tc,q.c,q.s,q.wv,ak⟩)):=by
      have e:jP (L.map fun q:Pv=>(⟨q.x,q.tc,q.c,q.s,q.wv,ak⟩:Pw))=nH L:=by unfold jP nH;rw [List.flatMap_map];rfl
      rw [e];exact aiG
     have Wn:=aZ hbx hbs (aD hbx);have hBA:=hBx.trans (hbs.mono hBx.size);have hone:(aG {Sx.zero with kind:=9} ak ak ak ak (.slice a3 L.length c3)).toList.all (·.oneCell')=true:=rfl;have hW:=aA wA (.cells (aG {Sx.zero with kind:=9} ak ak ak ak (.slice a3 L.length c3)) 31);have Iz:=hBA.alloc hBA.size (.cells (aG {Sx.zero with kind:=9} ak ak ak ak (.slice a3 L.length c3)) 31)
     have hT:Calls prog 14 #[.agg (aG {Sx.zero with kind:=9} ak ak ak ak (.slice a3 L.length c3))] (wA.alloc (.cells (aG {Sx.zero with kind:=9} ak ak ak ak (.slice a3 L.length c3)) 31)) fun e w' =>e= .returned (.string (eO (je (.batch l))))∧Below (wA.alloc (.cells (aG {Sx.zero with kind:=9} ak ak ak ak (.slice a3 L.length c3)) 31)).heap.size (wA.alloc (.cells (aG {Sx.zero with kind:=9} ak ak ak ak (.slice a3 L.length c3)) 31)) w' :=by
      have e:(L.map fun q:Pv=>(⟨q.x,q.tc,q.c,q.s,q.wv,ak⟩:Pw)).map Pw.x=l:=by rw [←dW,List.map_map];rfl
      have h:=zl (p:=⟨{Sx.zero with kind:=9},ak,ak,ak,ak, .slice a3 L.length c3⟩) (L:=L.map fun q=>⟨q.x,q.tc,q.c,q.s,q.wv,ak⟩) (HG.out.below Iz) ⟨SK 9,(ko _ 0 _ rfl rfl rfl rfl).rd,rfl⟩ (fun _=>⟨by rw [List.length_map];omega,by rw [List.length_map];exact Rd.own (hrq.alloc _),fun q hq=>by
       obtain ⟨q0,hq0,rfl⟩:=List.mem_map.1 hq;exact ⟨⟨hst.2.1 q0.x (by show q0.x∈l;rw [←dW];exact List.mem_map_of_mem hq0),((hpq q0 hq0).map fun _ _ _ _ _ _ hr=>hr.alloc _).rd,rfl⟩,Q7 _⟩⟩)
      rw [e]at h;exact h
     obtain ⟨tx,htx⟩:∃r,eO (je (.batch l))=r:=⟨_,rfl⟩;rw [htx]at hT HP;have Zn:=Lib.hid HP.out;clear HP htx;go_wp2_with (first|refine fA rfl _ _ rfl rfl rfl rfl rfl hone ?_|refine aT rfl _ rfl rfl rfl hW ?_);refine hT.mono ?_;rintro e wB ⟨rfl,Jh⟩;have hWB:=aZ hW Jh (aD hW);have OL:=aZ (aC Wn _) Jh (aD (aC Wn _));have Zo:=Iz.trans (Jh.mono Iz.size)
     have hHB:=(show oq wA (w.heap.size+1) ⟨{Sx.zero with kind:=9},ak,ak,ak,ak, .slice a3 L.length c3⟩ (L.map fun q=>⟨q.x,q.tc,q.c,q.s,q.wv,ak⟩) (je (.batch l))from ⟨rfl,by rw [←dW,List.map_map];rfl,ko _ _ _ rfl rfl rfl rfl,by rw [List.length_map];exact hrq,fun q hq=>by
      obtain ⟨q0,hq0,rfl⟩:=List.mem_map.1 hq;exact ⟨hpq q0 hq0,rfl⟩⟩).below ((Below.refl wA.heap.size wA).alloc (Nat.le_refl _) (.cells (aG {Sx.zero with kind:=9} ak ak ak ak (.slice a3 L.length c3)) 31)|>.trans (Jh.mono (by rw [av];omega)))
     by_cases hbig:1000<tx.size
     · have p9:(1000:Int)<(tx.size:Int):=by omega
       have HQ:Hid (bE s=(kD.zero,0,2)):=by show _=_;rw [Zn.out,if_pos hbig]
       clear hbig;go_wp2_with (refine bH rfl _ _ rfl rfl rfl OL rfl rfl rfl ?_;intro wz hwz);refine bodyPost_ret (dV rfl rfl (jO hwz.blk rfl)) rfl ?_;exact kM (p:=pz) HQ.out (hwz.below _ _ Zo (Nat.le_refl _)) (tY _ _)
     · have p9:¬(1000:Int)<(tx.size:Int):=by omega
       have HQ:Hid (bE s=(je (.batch l),0,0)):=by show _=_;rw [Zn.out,if_neg hbig]
       clear hbig;go_wp2_with (first|refine aT rfl _ rfl rfl rfl hWB ?_|(refine bH rfl _ _ rfl rfl rfl OL rfl rfl hone ?_;intro wz hwz));refine bodyPost_ret (dV rfl rfl (jO hwz.blk rfl)) rfl ?_;exact kM (p:=⟨{Sx.zero with kind:=9},ak,ak,ak,ak, .slice a3 L.length c3⟩) HQ.out (hwz.below _ _ Zo (Nat.le_refl _)) ((hwz.has hHB (Nat.lt_succ_self _)).mono (Nat.le_succ _))
theorem Ky (s:ByteArray) (w:World) (hG:Gp w):Calls prog 12 #[.string s] w (pU w s):=by
 by_cases he:(aP s).2.2=0
 · by_cases h1:(Tx.may (⟨(aP s).1,(pts s).length⟩:Tx) (Tx.jh (⟨(aP s).1,(pts s).length⟩:Tx) ((aP s).1.length+2) ⟨0,none⟩).2 (⟨#[59]⟩:ah)).i<(aP s).1.length
   · exact VQ hG he h1
   · by_cases h2:(Tx.may (⟨(aP s).1,(pts s).length⟩:Tx) (Tx.jh (⟨(aP s).1,(pts s).length⟩:Tx) ((aP s).1.length+2) ⟨0,none⟩).2 (⟨#[59]⟩:ah)).bad=none
     · cases h3:(Tx.jh (⟨(aP s).1,(pts s).length⟩:Tx) ((aP s).1.length+2) ⟨0,none⟩).1 with
       |plain x=>exact VT hG he ⟨h1,h2,x,h3⟩
       |change x=>exact VU hG he ⟨h1,h2,x,h3⟩
       |batch l=>exact VW hG he ⟨h1,h2,l,h3⟩
     · exact VR hG he ⟨h1,h2⟩
 · exact VP hG he
end Go.Proofs.YtcgadodckoalnaaGreatDoor
