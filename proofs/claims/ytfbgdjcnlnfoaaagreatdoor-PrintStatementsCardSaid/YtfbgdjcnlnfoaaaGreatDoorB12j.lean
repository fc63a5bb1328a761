/- Parts of the proof, joined: PrsV PrsW0. -/
import Derived.StillTailTactics
import Derived.Test.YtfbgdjcnlnfoaaaGreatDoorB11
set_option maxHeartbeats 4000000
set_option maxRecDepth 100000
namespace Go.Proofs.YtfbgdjcnlnfoaaaGreatDoor
open Go.RowKit
open aH
theorem fT {P:Program}{fn:Func}{a u v:Tmp}{t:TypeId}(h:fn.results= #[.cell a t, .tmp u, .tmp v]) {tm:Array Value}{ad:Addr}{x:Value}{W:World}(ht:tm.getD a undef= .pointer (some ad)) (hl:(loadVar t ad).run P W= .ok x W):
 (results fn tm).run P W= .ok (.tuple #[x,tm.getD u undef,tm.getD v undef]) W:=by
 unfold results
 rw [h]
 rw [Array.getD_eq_getD_getElem?]at ht
 simp [ht,asAddr,hl,Result.andThen_ok]
theorem sQ (w:World):(Instr.build 31 #[]).run Tryz.prog w= .ok (.agg #[.int .i64 0, .string ⟨#[]⟩, .string ⟨#[]⟩, .string ⟨#[]⟩, .string ⟨#[]⟩, .int .i64 0, .string ⟨#[]⟩, .int .i64 0, .string ⟨#[]⟩, .int .i64 0, .slice none 0 0, .slice none 0 0, .slice none 0 0, .slice none 0 0, .int .i64 0, .int .i64 0, .int .i64 0, .slice none 0 0]) w:=by kernel_rfl
def pz:Pw:=⟨Sx.zero,ak,ak,ak,ak,ak⟩
theorem xZ (w:World) (base:Nat):nQ w base pz [] jT.zero:=⟨rfl,rfl,lX _ _ _ rfl rfl rfl rfl,World.ownsRow_nil _ _ _ _,fun _ h=>nomatch h⟩
def uf (w:World) (s:ByteArray):Ending→World→Prop:=fun e w' =>∃(p:Pw) (L:List Pw),e= .returned (.tuple #[.agg p.arr, .int .i64 (bB s).2.1, .int .i64 (bB s).2.2])∧Below w.heap.size w w' ∧nQ w' w.heap.size p L (bB s).1
theorem BU {w1 w2 w:World}{s:ByteArray}{ta:Option Addr}{lV:Nat}(hG:Gp w) (hs:s.size≤1000) (hrow:w1.ownsRow w2.heap.size 119 4 (.slice ta (aX s).1.length lV) (aX s).1.length (qw (aX s).1)) (hb:Below w1.heap.size w1 w):
 ∃K:PK,K.b=w.heap.size∧K.L=w.heap.size+1∧K.X=⟨(aX s).1,(pts s).length⟩∧K.ws=w∧PQ K (w.alloc (.cells #[.slice ta (aX s).1.length lV, .int .i64 0, .int .i64 (pts s).length, .int .i64 (-1)] 69)) ⟨0,none⟩:=by
 have hl:=PI s
 have hr:=fB hrow hb
 refine ⟨⟨w,w.heap.size+1,w.heap.size,⟨(aX s).1,(pts s).length⟩,hG,Nat.le_refl _,Nat.lt_succ_self _,by show (aX s).1.length≤100000;omega⟩,rfl,rfl,rfl,rfl, ?_⟩
 refine ⟨by rw [aA];exact Nat.le_refl _,(Below.refl _ w).alloc (Nat.le_refl _) _,ta,lV,aB w _,fun hp=> ?_⟩
 obtain ⟨_,_,hsl,hgx⟩:=aY hr
 cases hsl
 obtain ⟨g,rfl,_,hgl,_⟩:=hgx hp
 have hlt:g<w.heap.size:=by
  have:=aV hr 0 (.int .i64 ((aX s).1[0]'hp).kind) (by have:=l8 (aX s).1 0 0 hp (by omega);rw [show 0*4+0=0 from rfl]at this;rw [this];rfl)
  exact eY this
 exact ⟨g,rfl,by show g≠w.heap.size;omega,by show g<w.heap.size+1;omega,fun j u hj=>aV (hr.alloc _) j u hj⟩
theorem OB {s:ByteArray}{w:World}(hG:Gp w) (he:(aX s).2.2≠0):Calls Tryz.prog 18 #[.string s] w (uf w s):=by
 have hB1:=(Below.refl w.heap.size w).alloc (Nat.le_refl _) (.cells #[.int .i64 0, .string ⟨#[]⟩, .string ⟨#[]⟩, .string ⟨#[]⟩, .string ⟨#[]⟩, .int .i64 0, .string ⟨#[]⟩, .int .i64 0, .string ⟨#[]⟩, .int .i64 0, .slice none 0 0, .slice none 0 0, .slice none 0 0, .slice none 0 0, .int .i64 0, .int .i64 0, .int .i64 0, .slice none 0 0] 31)
 have hb0:(w.alloc (.cells #[.int .i64 0, .string ⟨#[]⟩, .string ⟨#[]⟩, .string ⟨#[]⟩, .string ⟨#[]⟩, .int .i64 0, .string ⟨#[]⟩, .int .i64 0, .string ⟨#[]⟩, .int .i64 0, .slice none 0 0, .slice none 0 0, .slice none 0 0, .slice none 0 0, .int .i64 0, .int .i64 0, .int .i64 0, .slice none 0 0] 31)).heap[w.heap.size]? =some (.cells #[.int .i64 0, .string ⟨#[]⟩, .string ⟨#[]⟩, .string ⟨#[]⟩, .string ⟨#[]⟩, .int .i64 0, .string ⟨#[]⟩, .int .i64 0, .string ⟨#[]⟩, .int .i64 0, .slice none 0 0, .slice none 0 0, .slice none 0 0, .slice none 0 0, .int .i64 0, .int .i64 0, .int .i64 0, .slice none 0 0] 31 (0,0)):=aB w _
 have hlex:=kF s _ (hG.below hB1).1
 have q1:((aX s).2.2 !=0)=true:=bne_iff_ne.2 he
 have HE:Hid (bB s=(jT.zero,((aX s).2.1:Int),(aX s).2.2)):=by show _=_;unfold bB;simp only;rw [if_pos he]
 have hbz:=sQ
 clear he hG
 go_enter Tryz.func18,Tryz.ntmps18
 go_wp2_with fail
 refine hlex.mono ?_;rintro e w2 ⟨⟨v,rfl,hrow⟩,hb2⟩
 have hB2:=hB1.trans (hb2.mono hB1.size)
 have tq:=bf hb0 hb2 (aC hb0)
 go_wp2_with (refine eD rfl _ _ rfl rfl rfl tq rfl rfl rfl ?_;intro w9 JI)
 refine bodyPost_ret (fT rfl rfl (mV JI.blk rfl)) rfl ?_
 exact ⟨pz, [],by rw [HE.out];rfl,JI.below _ _ hB2 (Nat.le_refl _),by rw [HE.out];exact xZ _ _⟩
theorem DK {w:World}{b:Nat}{T:TypeId}(h:w.heap[b]? =some (.cells #[.int .i64 0, .string ⟨#[]⟩, .string ⟨#[]⟩, .string ⟨#[]⟩, .string ⟨#[]⟩, .int .i64 0, .string ⟨#[]⟩, .int .i64 0, .string ⟨#[]⟩, .int .i64 0, .slice none 0 0, .slice none 0 0, .slice none 0 0, .slice none 0 0, .int .i64 0, .int .i64 0, .int .i64 0, .slice none 0 0] T (0,0))):w.cell? ⟨b,0,none⟩=some (.int .i64 0)∧w.cell? ⟨b,1,none⟩=some (.string ⟨#[]⟩)∧w.cell? ⟨b,2,none⟩=some (.string ⟨#[]⟩)∧w.cell? ⟨b,3,none⟩=some (.string ⟨#[]⟩)∧w.cell? ⟨b,4,none⟩=some (.string ⟨#[]⟩)∧w.cell? ⟨b,5,none⟩=some (.int .i64 0)∧w.cell? ⟨b,6,none⟩=some (.string ⟨#[]⟩)∧w.cell? ⟨b,7,none⟩=some (.int .i64 0)∧w.cell? ⟨b,8,none⟩=some (.string ⟨#[]⟩)∧w.cell? ⟨b,9,none⟩=some (.int .i64 0)∧w.cell? ⟨b,10,none⟩=some (.slice none 0 0)∧w.cell? ⟨b,11,none⟩=some (.slice none 0 0)∧w.cell? ⟨b,12,none⟩=some (.slice none 0 0)∧w.cell? ⟨b,13,none⟩=some (.slice none 0 0)∧w.cell? ⟨b,14,none⟩=some (.int .i64 0)∧w.cell? ⟨b,15,none⟩=some (.int .i64 0)∧w.cell? ⟨b,16,none⟩=some (.int .i64 0)∧w.cell? ⟨b,17,none⟩=some (.slice none 0 0):=
 ⟨by rw [aj h];rfl,by rw [aj h];rfl,by rw [aj h];rfl,by rw [aj h];rfl,by rw [aj h];rfl,by rw [aj h];rfl,by rw [aj h];rfl,by rw [aj h];rfl,by rw [aj h];rfl,by rw [aj h];rfl,by rw [aj h];rfl,by rw [aj h];rfl,by rw [aj h];rfl,by rw [aj h];rfl,by rw [aj h];rfl,by rw [aj h];rfl,by rw [aj h];rfl,by rw [aj h];rfl⟩
theorem IE {w:World}{b:Nat}{T:TypeId}(h:w.heap[b]? =some (.cells #[.int .i64 0, .string ⟨#[]⟩, .string ⟨#[]⟩, .string ⟨#[]⟩, .string ⟨#[]⟩, .int .i64 0, .string ⟨#[]⟩, .int .i64 0, .string ⟨#[]⟩, .int .i64 0, .slice none 0 0, .slice none 0 0, .slice none 0 0, .slice none 0 0, .int .i64 0, .int .i64 0, .int .i64 0, .slice none 0 0] T (0,0))):w.frozen? ⟨b,0,none⟩=false∧w.frozen? ⟨b,1,none⟩=false∧w.frozen? ⟨b,2,none⟩=false∧w.frozen? ⟨b,3,none⟩=false∧w.frozen? ⟨b,4,none⟩=false∧w.frozen? ⟨b,5,none⟩=false∧w.frozen? ⟨b,6,none⟩=false∧w.frozen? ⟨b,7,none⟩=false∧w.frozen? ⟨b,8,none⟩=false∧w.frozen? ⟨b,9,none⟩=false∧w.frozen? ⟨b,10,none⟩=false∧w.frozen? ⟨b,11,none⟩=false∧w.frozen? ⟨b,12,none⟩=false∧w.frozen? ⟨b,13,none⟩=false∧w.frozen? ⟨b,14,none⟩=false∧w.frozen? ⟨b,15,none⟩=false∧w.frozen? ⟨b,16,none⟩=false∧w.frozen? ⟨b,17,none⟩=false:=
 ⟨ah h 0,ah h 1,ah h 2,ah h 3,ah h 4,ah h 5,ah h 6,ah h 7,ah h 8,ah h 9,ah h 10,ah h 11,ah h 12,ah h 13,ah h 14,ah h 15,ah h 16,ah h 17⟩
theorem zh {w:World}{b:Nat}{C V:Array Value}{T:TypeId}(h:w.heap[b]? =some (.cells C T (0,0))) (hC:C.size=18) (hV:V.size=18):Wrote w b V T (w.setCells b 0 V.toList):=by
 have ht:w.there b 0 V.size:=by
  intro j hj
  refine ⟨?_,ah h _⟩
  rw [aj h,Nat.zero_add,Array.getElem?_eq_getElem (by omega)];rfl
 obtain ⟨C',e1,e2⟩:=pR V.toList 0 w C h
 obtain ⟨r1,r2,r3⟩:=nM (b:=b) V.toList 0 w
 have hs:=World.rangeAt_setCells_same w b 0 V.toList (by simpa using ht)
 have:C' =V:=by
  apply Array.ext_getElem?
  intro j
  by_cases hj:j<V.size
  · have:=hs j V[j] (by simp [Array.getElem?_eq_getElem hj])
    rw [aj e1,Nat.zero_add]at this
    rw [this,Array.getElem?_eq_getElem hj]
  · rw [Array.getElem?_eq_none (by omega),Array.getElem?_eq_none (by omega)]
 subst this
 exact ⟨e1,r1,r2,r3⟩
theorem nQ.below {w w' :World}{base:Nat}{p:Pw}{L:List Pw}{z:jT}(h:nQ w base p L z) (hb:Below w.heap.size w w'):nQ w' base p L z:=
 ⟨h.x,h.parts,h.rows.map fun _ _ _ _ _ _ hr=>fB hr hb,fB h.row hb,fun q hq=>⟨(h.each q hq).1.map fun _ _ _ _ _ _ hr=>fB hr hb,(h.each q hq).2⟩⟩
theorem nQ.mono {w:World}{base base' :Nat}{p:Pw}{L:List Pw}{z:jT}(h:nQ w base p L z) (hb:base' ≤base):nQ w base' p L z:=
 ⟨h.x,h.parts,h.rows.mono hb,bF h.row hb,fun q hq=>⟨(h.each q hq).1.mono hb,(h.each q hq).2⟩⟩
theorem ZY (V:Array Value) (w:World):(method 345 124 (.agg V) "clerestory/parse.stmt").run Tryz.prog w= .ok (224, .agg V) w:=by kernel_rfl
theorem Z0 (V:Array Value) (w:World):(method 345 156 (.agg V) "clerestory/parse.stmt").run Tryz.prog w= .ok (225, .agg V) w:=by kernel_rfl
theorem Z4 (V:Array Value) (w:World):(method 345 161 (.agg V) "clerestory/parse.stmt").run Tryz.prog w= .ok (226, .agg V) w:=by kernel_rfl
theorem wU {K:PK}{W w' :World}{σ:Ps}{k:Nat}{C:Array Value}{T:TypeId}{fr:Nat×Nat}(hD:Did K W σ w') (h:W.heap[k]? =some (.cells C T fr)) (hne:K.b≠k):w'.heap[k]? =some (.cells C T fr):=
 (hD.2.1.block k (aC h) (fun e=>hne (Option.some.inj e).symm)).trans h
theorem lH {w w' :World}{s:ByteArray}{p:Pw}{L:List Pw}{z:jT}{a e:Int}(h:bB s=(z,a,e)) (hB:Below w.heap.size w w') (hH:nQ w' w.heap.size p L z):uf w s (.returned (.tuple #[.agg p.arr, .int .i64 a, .int .i64 e])) w' :=
 ⟨p,L,by rw [h],hB,by rw [h];exact hH⟩
theorem Wrote.has {w w' :World}{b base:Nat}{V:Array Value}{T:TypeId}{p:Pw}{L:List Pw}{z:jT}(hw:Wrote w b V T w') (h:nQ w base p L z) (hb:b<base):nQ w' base p L z:=by
 have f:∀(e:TypeId) (size n:Nat) (u:Value) (xs:List Value),w.ownsRow base e size u n xs→w'.ownsRow base e size u n xs:=by
  intro e size n u xs hr
  obtain ⟨h1,h2⟩:=hr
  refine ⟨h1, ?_⟩
  rcases h2 with h2|⟨g,cap,cur,a,b',c,d⟩
  · exact .inl h2
  · refine .inr ⟨g,cap,cur,a,b', ?_,d⟩
    rw [hw.rest g (by omega)];exact c
 exact ⟨h.x,h.parts,h.rows.map fun _ _ _ _ _ _ hr=>f _ _ _ _ _ hr,f _ _ _ _ _ h.row,fun q hq=>⟨(h.each q hq).1.map fun _ _ _ _ _ _ hr=>f _ _ _ _ _ hr,(h.each q hq).2⟩⟩
end Go.Proofs.YtfbgdjcnlnfoaaaGreatDoor
