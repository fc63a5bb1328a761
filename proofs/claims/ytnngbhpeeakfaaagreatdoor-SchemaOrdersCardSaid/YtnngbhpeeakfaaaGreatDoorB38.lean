/- Parts of a proof. -/
import Derived.Lib.LaidTab
import Derived.Deep.QuietTactic
import Derived.BigQuiet
import Derived.Test.YtnngbhpeeakfaaaGreatDoorB06
import Derived.Test.YtnngbhpeeakfaaaGreatDoorB08
import Derived.Test.YtnngbhpeeakfaaaGreatDoorB09
import Derived.Test.YtnngbhpeeakfaaaGreatDoorB10
import Derived.Test.YtnngbhpeeakfaaaGreatDoorB13
import Derived.Test.YtnngbhpeeakfaaaGreatDoorB37
set_option maxHeartbeats 8000000
set_option maxRecDepth 100000
namespace Go.Proofs.YtnngbhpeeakfaaaGreatDoor
open Go.Proofs.Tryz
open Go.RowKit
open aK
theorem Lr {w:World}{p:Pw}{L:List Pw}(h:Lb w p L) (hl:oQ ⟨p.x,L.map Pw.x⟩=false):
 Calls prog 30 #[.agg p.arr] w fun e w' =>e= .returned (.bool false)∧Below w.heap.size w w' :=by
 have hB1:=(Below.refl w.heap.size w).alloc (Nat.le_refl _) (.cells p.arr 39);have hbl:(w.alloc (.cells p.arr 39)).heap[w.heap.size]? =some (.cells p.arr 39 (0,0)):=aB w _;have hc:=EC (h.below hB1);rw [hl]at hc;clear h hl;obtain ⟨x,tc,c,s,wv,pv⟩:=p;go_enter func30,ntmps30;go_wp2_with (refine bK rfl _ rfl rfl rfl hbl ?_);refine hc.mono ?_;rintro e w2 ⟨rfl,hb2⟩;go_wp2_with fail;go_ret;exact ⟨rfl,hB1.trans (hb2.mono hB1.size)⟩
theorem Ls {w:World}{p:Pw}{L:List Pw}(hG:Gp w) (h:Lb w p L) (hs:SzS p L) (hl:oQ ⟨p.x,L.map Pw.x⟩=true):
 Calls prog 30 #[.agg p.arr] w fun e w' =>∃b:Bool,e= .returned (.bool b)∧(b=true ↔ May ⟨p.x,L.map Pw.x⟩)∧Below w.heap.size w w' :=by
 have hB1:=(Below.refl w.heap.size w).alloc (Nat.le_refl _) (.cells p.arr 39);have hbl:(w.alloc (.cells p.arr 39)).heap[w.heap.size]? =some (.cells p.arr 39 (0,0)):=aB w _;have hc:=EC (h.below hB1);rw [hl]at hc;have hLg:=BO hl;have hL8:L.length≤100:=by have:=hLg.2.1;simp at this;omega
 have HT:Hid (∀w',Below w.heap.size w w' →Calls prog 68 #[.agg p.arr] w' fun e w'' =>e= .returned (.string (iA ⟨p.x,L.map Pw.x⟩))∧Below w'.heap.size w' w''):=fun w' hb=>RP (hG.below hb) (h.below hb) hs hL8
 have HP:Hid (∀w',Below w.heap.size w w' →Calls prog 67 #[.string (iA ⟨p.x,L.map Pw.x⟩)] w' (rM w' (iA ⟨p.x,L.map Pw.x⟩))):=fun w' hb=>Si _ w' (hG.below hb)
 have HM:=Lib.hid (XD (z:=⟨p.x,L.map Pw.x⟩));have HS:Hid (∀w',Below w.heap.size w w' →Lb w' p L):=fun w' hb=>h.below hb
 obtain ⟨t,ht⟩:∃t,iA ⟨p.x,L.map Pw.x⟩=t:=⟨_,rfl⟩;rw [ht]at HT HP HM;clear h hl hs ht hG hL8;have HG2:=Lib.hid hLg;clear hLg;unfold rM at HP;obtain ⟨⟨pz,pa,pe⟩,hp⟩:∃r,dJ t=r:=⟨_,rfl⟩;rw [hp]at HP HM
 have HZ:Hid (pe=0→May pz):=fun he=>by
  have he' :pe=0:=he;subst he';exact xB hp
 clear hp;obtain ⟨x,tc,c,s,wv,pv⟩:=p;go_enter func30,ntmps30;go_wp2_with (refine bK rfl _ rfl rfl rfl hbl ?_);refine hc.mono ?_;rintro e w2 ⟨rfl,hb2⟩;have hB2:=hB1.trans (hb2.mono hB1.size);have YK:=aH hb2 hbl;have h2:=HT.out w2 hB2;go_wp2_with (refine bK rfl _ rfl rfl rfl YK ?_);refine h2.mono ?_;rintro e w3 ⟨rfl,hb3⟩;have hB3:=hB2.trans (hb3.mono hB2.size);have af0:=aH hb3 YK;have h3:=HP.out w3 hB3;go_wp2_with fail;refine h3.mono ?_;rintro e w4 ⟨⟨qx,Sj,qc,qs,Sk,Py⟩,M,rfl,hb4,hS⟩;have hB4:=hB3.trans (hb4.mono hB3.size);have af2:=aH hb4 af0;have hq1:=hS.wd.one;have kU:=hB4.alloc hB4.size (.cells (aP qx Sj qc qs Sk Py) 39);have Ya:=AO af2 (.cells (aP qx Sj qc qs Sk Py) 39);have hbq:(w4.alloc (.cells (aP qx Sj qc qs Sk Py) 39)).heap[w4.heap.size]? =some (.cells (aP qx Sj qc qs Sk Py) 39 (0,0)):=aB w4 _;have HSz:=Lib.hid hS.z;cases hz:(pe==0)with
 |false=>
  have HE:Hid (¬pe=0):=by
   intro h;have h' :pe=0:=h;rw [h']at hz;exact absurd hz (by decide)
  clear hS hc h2 h3;go_wp2_with (refine jw rfl _ _ rfl rfl rfl rfl rfl hq1 ?_);go_ret;exact ⟨false,rfl,⟨fun h=>absurd h (by decide),fun h=>absurd (HM.out.1 h).1 HE.out⟩,kU⟩
 |true=>
  have HE:Hid (pe=0):=eq_of_beq hz;have h5:=NI (w:=w4.alloc (.cells (aP qx Sj qc qs Sk Py) 39)) (HS.out _ kU) (hS.wd.below ((Below.refl w4.heap.size w4).alloc (Nat.le_refl _) _)) (Ld HG2.out) (by rw [hS.z];exact abp (HZ.out HE.out));clear hS hc h2 h3;go_wp2_with (first|refine jw rfl _ _ rfl rfl rfl rfl rfl hq1 ?_|refine vJ (by go_simp) _ rfl rfl rfl Ya ?_|refine vJ (by go_simp) _ rfl rfl rfl hbq ?_);refine h5.mono ?_;rintro e w6 ⟨b,rfl,hb,hb6⟩;go_wp2_with fail;go_ret;refine ⟨b,rfl, ?_,kU.trans (hb6.mono kU.size)⟩;rw [hb,HSz.out];exact ⟨fun h=>HM.out.2 ⟨HE.out,h⟩,fun h=>(HM.out.1 h).2⟩
theorem Sl {w:World}{p:Pw}{L:List Pw}(hG:Gp w) (h:Lb w p L) (hs:SzS p L):
 Calls prog 30 #[.agg p.arr] w fun e w' =>∃b:Bool,e= .returned (.bool b)∧(b=true ↔ May ⟨p.x,L.map Pw.x⟩)∧Below w.heap.size w w' :=by
 cases hl:oQ ⟨p.x,L.map Pw.x⟩with
 |true=>exact Ls hG h hs hl
 |false=>
  refine (Lr h hl).mono ?_;rintro e w' ⟨rfl,hb⟩;refine ⟨false,rfl,⟨fun h=>absurd h (by decide),fun h=> ?_⟩,hb⟩;have:=Du h;rw [hl]at this;exact absurd this (by decide)
def Sp (w0 w:World):Prop:=Below w0.heap.size w0 w∧Gp w
theorem Sp.refl {w:World}(h:Gp w):Sp w w:=⟨Below.refl _ _,h⟩
theorem Sp.step {w0 w w' :World}(h:Sp w0 w) (hb:Below w.heap.size w w'):Sp w0 w' :=⟨h.1.trans (hb.mono h.1.size),h.2.below hb⟩
theorem Sp.alloc {w0 w:World}(h:Sp w0 w) (o:Obj):Sp w0 (w.alloc o):=h.step ((Below.refl _ _).alloc (Nat.le_refl _) o)
theorem Sp.trans {w0 w w' :World}(h:Sp w0 w) (hb:Sp w w'):Sp w0 w' :=⟨h.1.trans (hb.1.mono h.1.size),hb.2⟩
open Go.ChangeShapes Go.WideShapes Go.ChangeAt Go.RowKit Go.Shelf
def Gz:List (String×DataW Unit):= [("math/bits.deBruijn32tab",Rows.laid_math_bits_deBruijn32tab),("math/bits.deBruijn64tab",Rows.laid_math_bits_deBruijn64tab),("internal/strconv.uint64pow10",Rows.laid_internal_strconv_uint64pow10),("unicode/utf8.acceptRanges",Rows.laid_unicode_utf8_acceptRanges),("unicode.White_Space",Rows.laid_unicode_White_Space),("strings.asciiSpace",Rows.laid_strings_asciiSpace),("unicode/utf8.first",Rows.laid_unicode_utf8_first)]
def Pz:DataW Unit→List Value
 | .agg l=>l.map fun| .lit (.int k z)=> .int k z|_=>undef
 |_=> []
noncomputable def EL (os:Os):World:=
 let N:=(World.settled prog os).heap.size
 let w0:=World.holding prog os ⟨#[.cells (Lib.whiteT.map fun (z:Nat)=>Value.int .u16 (z:Int)).toArray 393, .cells #[.slice (some ⟨N,0,none⟩) 7 7, .slice none 0 0, .int .i64 2] 390], #[], []⟩
 let put (h:Array Obj) (g:Nat) (cs:Array Value):Array Obj:=h.modify g fun
  | .cells _ t frozen=> .cells cs t frozen
  |o=>o
 let h1:=put w0.heap 3 (Lib.firstTab.map fun z=>Value.int .u8 z).toArray
 let h2:=put h1 4 ((List.range 16).flatMap fun i=> [Value.int .u8 (Lib.accLo i),Value.int .u8 (Lib.accHi i)]).toArray
 let h3:=put h2 2 (Pz Rows.laid_strings_asciiSpace).toArray
 let h4:=put h3 1 (Pz Rows.laid_internal_strconv_uint64pow10).toArray
 let h5:=put h4 6 (Pz Rows.laid_math_bits_deBruijn32tab).toArray
 let h6:=put h5 7 (Pz Rows.laid_math_bits_deBruijn64tab).toArray
 let h7:=put h6 5 #[.pointer (some ⟨N+1,0,none⟩)]
 {w0 with heap:=h7}
theorem Sm (os:Os) (args:Array Value):laidMetH prog Gz ((EL os).forCall (fun _ _=>0) ⟨#[],args, []⟩).memory:=by
 rw [MakeChecks.laidMetH_plain _ _ _ (by kernel_rfl)];exact (LaidIn.of_run (l:=Gz) [6,7,1,4,5,2,3,(World.settled prog default).heap.size,(World.settled prog default).heap.size+1] 10 (by kernel_rfl) (by kernel_rfl) (by kernel_rfl) (by kernel_rfl)).met
theorem NJ:(Rows.laid_strings_asciiSpace:DataW Unit)=Lib.tabData .u8 Lib.asciiSpaceTab:=by kernel_rfl
theorem NK:(Rows.laid_internal_strconv_uint64pow10:DataW Unit)=Lib.tabData .u64 Lib.pow10Tab:=by kernel_rfl
theorem vL {P:Program}{W:World}{name:String}{k:IntKind}{zs:List Int}{g:Nat}{t e:TypeId}{n:Nat}
 (hg:P.globalNamed name=some g) (hty:(P.globals[g]?).map (·.type)=some t) (ht:P.underlying t=some (.array n e)) (he:P.underlying e=some (.int k)) (hce:P.cellsOf e=1) (hct:P.cellsOf t=n)
 (h:Lib.VarReads P W name (Lib.tabData k zs)):Lib.TabIs P W name k zs:=by
 obtain ⟨g',t',cs,fuel,p,hg',ht',hvar,hd⟩:=h;obtain rfl:=Option.some.inj (hg.symm.trans hg');obtain rfl:=Option.some.inj (hty.symm.trans ht');unfold Lib.TabIs;rw [hvar,←Lib.cells_of_tab ht he hce hct hd]
theorem adG {W:World}(hL:laidMetH prog Gz W) (hsh:W.ShapedOpen prog):Gp W:=by
 rw [MakeChecks.laidMetH_plain _ _ _ (by kernel_rfl)]at hL;have h1:=Lib.laidMet.reads hL (.tail _ (.tail _ (.tail _ (.head _))));have h2:=Lib.laidMet.reads hL (.tail _ (.tail _ (.tail _ (.tail _ (.tail _ (.tail _ (.head _)))))));have h3:=Lib.laidMet.reads hL (.tail _ (.tail _ (.tail _ (.tail _ (.tail _ (.head _))))));have h4:=Lib.laidMet.reads hL (.tail _ (.tail _ (.head _)));rw [MJ]at h2;rw [Kv]at h1;rw [NJ]at h3;rw [NK]at h4;have L:={Tryz.OE with:Lays.n260 prog Tryz.Bw};refine ⟨⟨utf8Tabs_of_readsT (U8Types.of260 L) ⟨by kernel_rfl,by kernel_rfl,by kernel_rfl,by kernel_rfl,by kernel_rfl,by kernel_rfl,by kernel_rfl⟩ h2 h1, ?_⟩, ?_, ?_⟩
 · first|exact trivial|exact cell_of_shapedOpen_int (zero:= #[.int .i64 0]) (t:=3) hsh (of_decide_eq_true (by kernel_rfl)) (by kernel_rfl) rfl (by kernel_rfl) (by kernel_rfl) underlying3
 · exact vL (n:=256) (e:=5) Tryz.OU rfl (by kernel_rfl) (by kernel_rfl) (by kernel_rfl) (by kernel_rfl) h3
 · exact vL (n:=20) (e:=249) Tryz.OV rfl (by kernel_rfl) (by kernel_rfl) (by kernel_rfl) (by kernel_rfl) h4
structure FD (P:Program) (T:TypeId) (k:Nat):Prop where
 und:∃d,P.underlying T=some d∧d.isRow=true
 size:(P.info? T).map (·.size)=some k
section
variable {P:Program}{T:TypeId}{k:Nat}{ops:Array Oper}{rest:List Oper}{op:Oper}{a:Act}{w:World}{Q:Exit→Act→World→Prop}{b o:Nat}{V Z:Array Value}
theorem cZ (R:FD P T k) (hw:Region.wanted op (yielded ops a.tmps)=true) (x:Operand) (ho:op.op= .load T x) (hx:a.eval x= .pointer (some ⟨b,o,none⟩)) (hV:V.size=k) (hc:w.rangeAt b o V.toList)
 (h:wpList P ops Q rest (a.put op.dst (.agg V)) w):wpList P ops Q (op::rest) a w:=by
 obtain ⟨d,hu,hd⟩:=R.und;refine wpList_step fun K hK=> ?_
 rw [if_pos hw];exact wp_load_mid T x ho b o hx V.toList d hc hu hd (by rw [show V.toList.length=k by simpa using hV];exact R.size) (hK _ _ (by simpa using h))
theorem fq (R:FD P T k) (hgd:op.guard=none) (x y:Operand) (ho:op.op= .store T x y) (hb:b=w.heap.size) (hx:a.eval x= .pointer (some ⟨b,0,none⟩)) (hy:a.eval y= .agg V) (hV:V.size=k) (hZ:Z.size=k) (h1' :V.toList.all (·.oneCell')=true)
 (h:wpList P ops Q rest (a.put op.dst undef) (w.alloc (.cells V T))):wpList P ops Q (op::rest) a (w.alloc (.cells Z T)):=by
 have h1:V.all (·.oneCell')=true:=by rw [←Array.all_toList];exact h1'
 refine wpList_plain hgd fun K hK=> ?_
 unfold Oper.wp execOp
 have:(Instr.storeAt T (.pointer (some ⟨b,0,none⟩)) (.agg V)).run P (w.alloc (.cells Z T))= .ok () (w.alloc (.cells V T)):=by
  rw [hb];exact run_storeAt_new w _ _ V (by rw [hV];exact R.size) (by rw [hV,hZ]) h1
 simp only [ho,hx,hy,Sem.run_bind,this,Result.andThen_ok,Sem.run_pure];exact hK _ _ h
end
theorem dz {w:World}{b:Nat}{V:Array Value}{T:TypeId}(h:w.heap[b]? =some (.cells V T (0,0))):w.rangeAt b 0 V.toList:=fun j v hv=>by
 rw [Nat.zero_add,aj h];simpa using hv
theorem lq {α:Type}{f:α→List Value}{k:Nat}(hf:∀q,(f q).length=k) {w wr:World}{L:List α}{g o j:Nat}{q:α}(hx:∀k v,(L.flatMap f)[k]? =some v→w.cell? ⟨g,o+k,none⟩=some v) (hq:L[j]? =some q) (hB:Below w.heap.size w wr):wr.rangeAt g (o+j*k) (f q):=fun i v hv=>by
 have hi:i<k:=by have:=(List.getElem?_eq_some_iff.1 hv).1;rw [hf]at this;exact this
 have:=hx (j*k+i) v (by rw [vW f k hf L j i q hq hi];exact hv);rw [Nat.add_assoc];exact aI hB this
section
variable {P:Program}{T:TypeId}{k:Nat}{ops:Array Oper}{rest:List Oper}{op:Oper}{a:Act}{w:World}{Q:Exit→Act→World→Prop}{b:Nat}{V C:Array Value}{T' :TypeId}
theorem Sn (R:FD P T k) (h:w.heap[b]? =some (.cells C T' (0,0))) (hC:C.size=k) (hV:V.size=k) (h1:V.toList.all (·.oneCell')=true):
 ∃w',(Instr.storeAt T (.pointer (some ⟨b,0,none⟩)) (.agg V)).run P w= .ok () w' ∧Wrote w b V T' w' :=by
 have ht:w.there b 0 V.size:=by
  intro j hj;refine ⟨?_,ak h _⟩;rw [aj h,Nat.zero_add,Array.getElem?_eq_getElem (by omega)];rfl
 refine ⟨w.setCells b 0 V.toList,run_storeAt_mid w b 0 _ V ht (by rw [hV];exact R.size) (by rw [←Array.all_toList];exact h1), ?_⟩;obtain ⟨C',e1,e2⟩:=oo V.toList 0 w C h;obtain ⟨r1,r2,r3⟩:=mV (b:=b) V.toList 0 w;have hs:=World.rangeAt_setCells_same w b 0 V.toList (by simpa using ht)
 have:C' =V:=by
  apply Array.ext_getElem?;intro j;by_cases hj:j<V.size
  · have:=hs j V[j] (by simp [Array.getElem?_eq_getElem hj]);rw [aj e1,Nat.zero_add]at this;rw [this,Array.getElem?_eq_getElem hj]
  · rw [Array.getElem?_eq_none (by omega),Array.getElem?_eq_none (by omega)]
 subst this;exact ⟨e1,r1,r2,r3⟩
theorem pJ (R:FD P T k) (hgd:op.guard=none) (x y:Operand) (ho:op.op= .store T x y) (hx:a.eval x= .pointer (some ⟨b,0,none⟩)) (hy:a.eval y= .agg V) (hw:w.heap[b]? =some (.cells C T' (0,0))) (hC:C.size=k) (hV:V.size=k) (h1:V.toList.all (·.oneCell')=true)
 (h:∀w',Wrote w b V T' w' →wpList P ops Q rest (a.put op.dst undef) w'):wpList P ops Q (op::rest) a w:=by
 obtain ⟨w',h2,h3⟩:=Sn R hw hC hV h1;refine wpList_plain hgd fun K hK=> ?_
 unfold Oper.wp execOp;simp only [ho,hx,hy,Sem.run_bind,h2,Result.andThen_ok,Sem.run_pure];exact hK _ _ (h w' h3)
theorem V8 (R:FD P T k) (h:w.heap[b]? =some (.cells V T' (0,0))) (hV:V.size=k):(loadVar T ⟨b,0,none⟩).run P w= .ok (.agg V) w:=by
 obtain ⟨d,hu,hd⟩:=R.und;have:=run_loadVar_mid w b 0 T V.toList d (dz h) hu hd (by rw [show V.toList.length=k by simpa using hV];exact R.size);simpa using this
theorem ko {fn:Func}{s:Tmp}{r:Tmp}{tm:Array Value}{v:Value}(R:FD P T k) (h:fn.results= #[.cell s T, .tmp r]) (hs:tm[s]? =some (.pointer (some ⟨b,0,none⟩))) (hr:tm[r]? =some v) (hb:w.heap[b]? =some (.cells V T' (0,0))) (hV:V.size=k):
 (results fn tm).run P w= .ok (.tuple #[.agg V,v]) w:=by
 have hl:=V8 R hb hV;unfold results;rw [h];simp [hs,hr,asAddr,hl,Result.andThen_ok]
end
structure Tw where
 t:Tb
 v:Value
structure Vv where
 x:Vw
 v:Value
structure Sw where
 last:Int
 T:List Tw
 V:List Vv
 tv:Value
 vv:Value
def Tw.arr (q:Tw):Array Value:= #[.string q.t.name, .int .i64 q.t.id, .string q.t.part.name, .int .i64 q.t.part.ty, .string q.t.aY.name, .int .i64 q.t.aY.ty,q.v]
def Vv.arr (q:Vv):Array Value:= #[.string q.x.name, .int .i64 q.x.id, .string q.x.dA, .string q.x.on,q.v]
def Sw.arr (s:Sw):Array Value:= #[.int .i64 s.last,s.tv,s.vv]
def Sw.x (s:Sw):Sc:=⟨s.last,s.T.map Tw.t,s.V.map Vv.x⟩
def mQ (L:List Tw):List Value:=L.flatMap fun q=>q.arr.toList
def nK (L:List Vv):List Value:=L.flatMap fun q=>q.arr.toList
def nL (w:World) (q:Tw):Prop:=Rd w q.v q.t.aD.length (gH q.t.aD)
def vM (w:World) (q:Vv):Prop:=Rd w q.v q.x.aD.length (q.x.aD.map Value.string)
structure pK (w:World) (s:Sw):Prop where
 ts:Rd w s.tv s.T.length (mQ s.T)
 vs:Rd w s.vv s.V.length (nK s.V)
 t:∀q∈s.T,nL w q
 v:∀q∈s.V,vM w q
theorem pK.below {w w' :World}{s:Sw}(h:pK w s) (hb:Below w.heap.size w w'):pK w' s:=
 ⟨h.ts.below hb,h.vs.below hb,fun q hq=>(h.t q hq).below hb,fun q hq=>(h.v q hq).below hb⟩
structure FE (t:Tb):Prop where
 name:t.name.size≤1000000
 id: -9223372036854775808≤t.id∧t.id≤9223372036854775807
 part:t.part.name.size≤1000000
 aY:t.aY.name.size≤1000000
 aD:∀q∈t.aD,q.name.size≤1000000
 n:t.aD.length≤900
structure abA (v:Vw):Prop where
 name:v.name.size≤1000000
 id: -9223372036854775808≤v.id∧v.id≤9223372036854775807
 n:v.aD.length≤900
structure FH (s:Sc):Prop where
 t:∀t∈s.ts,FE t
 v:∀v∈s.vs,abA v
 nt:s.ts.length≤100
 nv:s.vs.length≤100
theorem Tryz.Ac:FD prog 27 7:=⟨⟨_,underlying27,rfl⟩,by kernel_rfl⟩
theorem Tryz.Jf:FD prog 46 5:=⟨⟨_,underlying46,rfl⟩,by kernel_rfl⟩
theorem Tryz.rtS:FD prog 92 3:=⟨⟨_,underlying92,rfl⟩,by kernel_rfl⟩
theorem GA (s:ByteArray) (w:World) (hG:Gp w) (hs:s.size≤1000000):
 Calls prog 166 #[.string s] w fun e w' =>e= .returned (.bool (Zk s))∧Below w.heap.size w w' :=by
 have h1:=Uw s w hG.1 hs;have HF:Hid (∀w',Calls prog 246 #[.string s] w' fun e w'' =>e= .returned (.string (fold s))∧Below w'.heap.size w' w''):=fun w' =>Kk s w' hs
 have HR:Hid (∀w',Below w.heap.size w w' →Calls prog 247 #[.string s] w' fun e w'' =>e= .returned (.bool (tX s))∧Below w'.heap.size w' w''):=fun w' hb=>yZ s w' (hG.below hb)
 have hq:=bU (fold s) s;unfold Zk;obtain ⟨b1,e1⟩:∃b,name s=b:=⟨_,rfl⟩;obtain ⟨b2,e2⟩:∃b,fB (fold s) s=b:=⟨_,rfl⟩;obtain ⟨b3,e3⟩:∃b,tX s=b:=⟨_,rfl⟩;rw [e1]at h1⊢;rw [e2]at hq⊢;rw [e3]at HR⊢;generalize fold s=f at hq HF;clear e1 e2 e3 hG;go_enter func166,ntmps166;go_wp2_with fail;refine h1.mono ?_;rintro e w1 ⟨rfl,hb⟩;cases b1 with
 |false=>
  go_wp2_with fail;go_ret;exact ⟨rfl,hb⟩
 |true=>
  have h2:=HF.out w1;go_wp2_with fail;refine h2.mono ?_;rintro e w2 ⟨rfl,hb2⟩;have hB2:=hb.trans (hb2.mono hb.size);cases b2 with
  |false=>
   go_wp2_with fail;go_ret;exact ⟨rfl,hB2⟩
  |true=>
   have h3:=HR.out w2 hB2;go_wp2_with fail;refine h3.mono ?_;rintro e w3 ⟨rfl,hb3⟩;go_wp2_with fail;go_ret;exact ⟨rfl,hB2.trans (hb3.mono hB2.size)⟩
theorem GD (s:ByteArray) (w:World) (hG:Gp w) (hs:s.size≤1000000):
 Calls prog 167 #[.string s] w fun e w' =>e= .returned (.bool (snB s))∧Below w.heap.size w w' :=by
 have h1:=GA s w hG hs;unfold snB;obtain ⟨b1,e1⟩:∃b,Zk s=b:=⟨_,rfl⟩;rw [e1]at h1⊢
 have hq:decide ((s.size:Int)≤80)=decide (s.size≤80):=by
  rw [decide_eq_decide];omega
 obtain ⟨b2,e2⟩:∃b,decide (s.size≤80)=b:=⟨_,rfl⟩;rw [e2]at hq⊢;clear e1 e2 hG;go_enter func167,ntmps167;go_wp2_with fail;refine h1.mono ?_;rintro e w1 ⟨rfl,hb⟩;cases b1 with
 |false=>
  go_wp2_with fail;go_ret;exact ⟨rfl,hb⟩
 |true=>
  go_wp2_with fail;go_ret;exact ⟨rfl,hb⟩
theorem V9 {w:World}{q:Tw}(h:nL w q) (hn:q.t.aD.length≤900):
 Calls prog 106 #[.agg q.arr] w fun e w' =>∃a c,e= .returned (.slice a (2+q.t.aD.length) c)∧w'.ownsRow w.heap.size 24 2 (.slice a (2+q.t.aD.length) c) (2+q.t.aD.length) (gH (q.t.part::q.t.aY::q.t.aD))∧Below w.heap.size w w' :=by
 have hB1:=(Below.refl w.heap.size w).alloc (Nat.le_refl _) (.cells q.arr 27);have hb1:=aB w (.cells q.arr 27);have hr:=h.below hB1;obtain ⟨⟨nm,id,⟨pn,pt⟩,⟨cn,ct⟩,aD⟩,v⟩:=q;unfold Tw.arr at *;unfold nL at *
 dsimp only at *
 clear h;go_enter func106,ntmps106;go_upto_region 1 with (fail)
 generalize (w.alloc (.cells _ 27))=W at *;have k2:W.cell? ⟨w.heap.size,2,none⟩=some (.string pn):=by rw [aj hb1];rfl
 have k3:W.cell? ⟨w.heap.size,3,none⟩=some (.int .i64 pt):=by rw [aj hb1];rfl
 have k4:W.cell? ⟨w.heap.size,4,none⟩=some (.string cn):=by rw [aj hb1];rfl
 have k5:W.cell? ⟨w.heap.size,5,none⟩=some (.int .i64 ct):=by rw [aj hb1];rfl
 have k6:(W.alloc (.cells #[.string pn, .int .i64 pt, .string cn, .int .i64 ct] 24)).cell? ⟨w.heap.size,6,none⟩=some v:=by rw [aj (ay hb1 _)];rfl
 have hlit:=kR W [.string pn, .int .i64 pt, .string cn, .int .i64 ct] 24 2 2 w.heap.size rfl (by decide) hB1.size;have hB2:=hB1.alloc hB1.size (.cells #[.string pn, .int .i64 pt, .string cn, .int .i64 ct] 24);have hr2:=hr.below ((Below.refl W.heap.size W).alloc (Nat.le_refl _) (.cells #[.string pn, .int .i64 pt, .string cn, .int .i64 ct] 24));go_wp2_with (at_builtin;refine MN Tryz.KA rfl _ _ rfl w.heap.size _ _ _ rfl hlit _ _ _ rfl hr2 (qV _) (qU _) (by omega) hB2.size ?_;intro a6 c6 wq h6 EW);go_ret;exact ⟨a6,c6,rfl,h6,below_app hB2 hB2.size EW (fun g2 hg2=>(hlit.lt g2 hg2).1)⟩
theorem Sq {α:Type}{p:α→Bool}{L:List α}{j:Nat}{q:α}(h:L[j]? =some q):Kw p (L.drop j) j=if p q then (j:Int)else Kw p (L.drop (j+1)) (j+1):=by
 obtain ⟨hj,rfl⟩:=List.getElem?_eq_some_iff.1 h;rw [List.drop_eq_getElem_cons hj];rfl
theorem Wd {α:Type}{p:α→Bool}{L:List α}:Kw p (L.drop L.length) L.length= -1:=by rw [List.drop_length];rfl
theorem NM {w:World}(c:Cl) {b:Nat}{s:ByteArray}(hb:w.cell? ⟨b,0,none⟩=some (.string s)):
 Calls prog 146 #[.agg #[.string c.name, .int .i64 c.ty], .pointer (some ⟨b,0,none⟩)] w fun e w' =>e= .returned (.bool (fB c.name s))∧Below w.heap.size w w' :=by
 have hB:=(Below.refl w.heap.size w).alloc (Nat.le_refl _) (.cells #[.string c.name, .int .i64 c.ty] 24);have k0:(w.alloc (.cells #[.string c.name, .int .i64 c.ty] 24)).cell? ⟨b,0,none⟩=some (.string s):=aI ((Below.refl w.heap.size w).alloc (Nat.le_refl _) _) hb;go_enter func146,ntmps146;go_wp2_with fail;go_ret;exact ⟨aR (bU _ _),hB⟩
theorem Wh {w:World}{u:Value}{L:List Cl}{b:Nat}{s:ByteArray}(hl:L.length≤1000) (hr:Rd w u L.length (gH L)) (hb:w.cell? ⟨b,0,none⟩=some (.string s)):
 Calls prog 145 #[u, .func (.func 146) #[] #[.pointer (some ⟨b,0,none⟩)]] w fun e w' =>e= .returned (.int .i64 (lH L s))∧Below w.heap.size w w' :=by
 obtain ⟨a,cap,rfl,hx0⟩:=hr;have HA0:Hid (lH L s=Kw (fun x=>fB x.name s) (L.drop 0) 0):=by show _=_;rw [List.drop_zero];rfl
 obtain ⟨r,hr⟩:∃r,lH L s=r:=⟨_,rfl⟩;rw [hr]at HA0⊢;clear hr;go_enter func145,ntmps145;go_wp2_with fail
 go_loopw [8] (fun i wr=>∃j:Nat,i= .int .i64 j∧j≤L.length∧Below w.heap.size w wr∧Hid (r=Kw (fun x=>fB x.name s) (L.drop j) j)) (fun i _=>L.length - (intOf i).toNat)
 case atStart=>exact ⟨0,rfl,Nat.zero_le _,Below.refl _ _,HA0⟩
 case round=>
  clear HA0;obtain ⟨j,rfl,hj,hBr,HA⟩:=hrel;have hsz:=hBr.size;by_cases hjl:j<L.length
  · have p0:(j:Int)<(L.length:Int):=by omega
    have p1:(0:Int)≤(j:Int):=by omega
    have HJ:=Lib.hid (show j+1≤L.length from hjl);obtain ⟨g,o,rfl,hx⟩:=hx0 (by omega);obtain ⟨q,hq⟩:∃q,L[j]? =some q:=⟨_,List.getElem?_eq_getElem hjl⟩;have k0:wr.cell? ⟨g,o+j*2,none⟩=some (.string q.name):=aI hBr (hx (j*2) _ (by rw [show j*2=j*2+0 from rfl,iH hq 0 (by omega)];rfl));have k1:wr.cell? ⟨g,o+j*2+1,none⟩=some (.int .i64 q.ty):=aI hBr (hx (j*2+1) _ (by rw [iH hq 1 (by omega)];rfl));have hc:=NM q (aI hBr hb)
    have HT:Hid (r=if fB q.name s then (j:Int)else Kw (fun x=>fB x.name s) (L.drop (j+1)) (j+1)):=by
     show _=_;rw [HA.out,Sq hq]
    clear hq hx HA;obtain ⟨c,hcq⟩:∃c,fB q.name s=c:=⟨_,rfl⟩;rw [hcq]at hc HT;clear hcq;go_wp2_with fail;refine hc.mono ?_;rintro e w2 ⟨rfl,hb2⟩;have hB2:=hBr.trans (hb2.mono hsz);cases c with
    |false=>
     go_wp2_with fail;go_roundw
     case rel=>exact ⟨j+1,by go_num,HJ.out,hB2,HT⟩
     case measure=>have hjj:=HJ.out;simp [intOf];omega
    |true=>
     go_wp2_with fail;go_ret;exact ⟨j4 HT.out.symm,hB2⟩
  · have jV:j=L.length:=by omega
    subst jV;rw [Wd]at HA;go_wp2_with fail;go_ret;exact ⟨j4 HA.out.symm,hBr⟩
theorem Sr {w:World}{q:Tw}(h:nL w q) (hn:q.t.aD.length≤900) (s:ByteArray):
 Calls prog 77 #[.agg q.arr, .string s] w fun e w' =>e= .returned (.int .i64 (lH q.t.aD s))∧Below w.heap.size w w' :=by
 have hB1:=(Below.refl w.heap.size w).alloc (Nat.le_refl _) (.cells q.arr 27);have hb1:=aB w (.cells q.arr 27);have hs1:=av w (.cells q.arr 27);have hB2:=hB1.alloc hB1.size (.cells #[.string s] 9);have hb1' :=ay hb1 (.cells #[.string s] 9);have hb2:=aB (w.alloc (.cells q.arr 27)) (.cells #[.string s] 9);rw [hs1]at hb2;have hr:=h.below hB2;clear h hB1 hb1;obtain ⟨⟨nm,id,⟨pn,pt⟩,⟨cn,ct⟩,aD⟩,v⟩:=q;unfold Tw.arr at *
 dsimp only at *
 go_enter func77,ntmps77;go_upto_region 1 with (fail)
 generalize ((w.alloc (.cells _ 27)).alloc _)=W at *;have k6:W.cell? ⟨w.heap.size,6,none⟩=some v:=by rw [aj hb1'];rfl
 have ks:W.cell? ⟨w.heap.size+1,0,none⟩=some (.string s):=by rw [aj hb2];rfl
 have hc:=Wh (by omega) hr ks;go_wp2_with fail;refine hc.mono ?_;rintro e w2 ⟨rfl,hb3⟩;go_wp2_with fail;go_ret;exact ⟨rfl,hB2.trans (hb3.mono hB2.size)⟩
def Cy (l:List ByteArray):List Lit:=l.map fun s=> .string s.data.toList
theorem abC (s:ByteArray) (l:List ByteArray):Zl (.string s.data.toList) (Cy l)=lu s l:=by
 unfold Cy lu fB Zl;rw [Bool.eq_iff_iff,List.any_eq_true,List.any_eq_true];constructor
 · rintro ⟨y,hy,h⟩;obtain ⟨x,hx,rfl⟩:=List.mem_map.1 hy;refine ⟨x,hx,decide_eq_true ?_⟩;have h:=(WideAt.sameKey_iff (b:= .string s.data.toList) trivial).1 h;injection h with h
   exact (ByteArray.ext (Array.ext' h)).symm
 · rintro ⟨x,hx,h⟩;exact ⟨_,List.mem_map.2 ⟨x,hx,rfl⟩,by rw [of_decide_eq_true h];exact WideAt.sameKey_self trivial⟩
theorem Sv {L:List Cl}{j:Nat}{q:Cl}(h:L[j]? =some q) (seen:List ByteArray):AJ seen (L.drop j)=((Zk q.name&&((q.ty==1||q.ty==2)&& !lu q.name seen))&&AJ (q.name::seen) (L.drop (j+1))):=by
 obtain ⟨hj,rfl⟩:=List.getElem?_eq_some_iff.1 h;rw [List.drop_eq_getElem_cons hj];rfl
abbrev Sy (w:World) (b n:Nat) (l:List ByteArray):Prop:=nk prog 9 4 w b n (Cy l)
theorem Sy.look {w:World}{b n:Nat}{l:List ByteArray}(h:Sy w b n l) (s:ByteArray) (hs:s.size≤1000000):(Instr.lookup 247 (.map (some b)) (.string s) false).run prog w= .ok (.bool (lu s l)) w:=by
 have:=nk.look h (Go.Maps.string_keyed underlying9) underlying247 underlying4 (Tryz.zeroValue4 w) (OM underlying9 s (by omega)) trivial;rwa [abC]at this
theorem Rd.grown {w w' :World}{base:Nat}{e:TypeId}{size n b:Nat}{u:Value}{xs:List Value}(h:w.ownsRow base e size u n xs) (hg:w.grownBy w' (some b)) (hb:b<base):w'.ownsRow base e size u n xs:=
 h.kept hg (by
  cases hx:u.ownBlock with
  |none=>exact .inl rfl
  |some g=>exact .inr fun e=>by have:=(h.lt g hx).1;cases e;omega)
theorem Sz {L:List Cl}:∀seen,AJ seen (L.drop L.length)=true:=by
 intro seen;rw [List.drop_length];rfl
theorem bne_not (a b:Int):(a==b)= !(a !=b):=by unfold bne;rw [Bool.not_not]
theorem EM {L:List Cl}{j:Nat}{q:Cl}(h:L[j]? =some q):((L.take (j+1)).reverse.map Cl.name)=q.name::(L.take j).reverse.map Cl.name:=by
 obtain ⟨hj,rfl⟩:=List.getElem?_eq_some_iff.1 h;rw [List.take_succ_eq_append_getElem hj,List.reverse_append];rfl
theorem Wi {w:World}{q:Tw}(hG:Gp w) (h:nL w q) (hq:FE q.t):
 Calls prog 95 #[.agg q.arr] w fun e w' =>e= .returned (.bool (Ik q.t))∧Below w.heap.size w w' :=by
 have hB1:=(Below.refl w.heap.size w).alloc (Nat.le_refl _) (.cells q.arr 27);have hs1:=av w (.cells q.arr 27);have hb0:=aB w (.cells q.arr 27);have hB2:=hB1.alloc hB1.size (.map #[] 0);have hb1:=ay hb0 (.map #[] 0)
 have hset:Sy ((w.alloc (.cells q.arr 27)).alloc (.map #[] 0)) (w.heap.size+1) 0 []:=by
  have:=nk.made (P:=prog) (k:=9) (e:=4) (w.alloc (.cells q.arr 27));rw [hs1]at this;exact this
 have hsz2:((w.alloc (.cells q.arr 27)).alloc (.map #[] 0)).heap.size=w.heap.size+2:=by rw [av,hs1]
 have hin:=h.below hB2;have hG2:=hG.below hB2;have hnc:=hq.n
 have HN:Hid (q.t.name.size≤1000000∧∀x∈q.t.part::q.t.aY::q.t.aD,x.name.size≤1000000):=⟨hq.name,by
  intro x hx;rcases List.mem_cons.1 hx with rfl|hx
  · exact hq.part
  · rcases List.mem_cons.1 hx with rfl|hx
    · exact hq.aY
    · exact hq.aD x hx⟩
 have HG:=Lib.hid hG;clear h hG hB1 hs1 hb0 hq;obtain ⟨⟨nm,id,⟨pn,pt⟩,⟨cn,ct⟩,aD⟩,v⟩:=q;unfold Tw.arr at *;unfold Ik
 dsimp only at *
 have ha:=V9 (w:=(w.alloc (.cells #[.string nm, .int .i64 id, .string pn, .int .i64 pt, .string cn, .int .i64 ct,v] 27)).alloc (.map #[] 0)) (q:=⟨⟨nm,id,⟨pn,pt⟩,⟨cn,ct⟩,aD⟩,v⟩) hin hnc;unfold Tw.arr at ha
 dsimp only at ha
 obtain ⟨va,vc,rfl,_⟩:=hin;obtain ⟨L,hL⟩:∃L,(⟨pn,pt⟩:Cl)::⟨cn,ct⟩::aD=L:=⟨_,rfl⟩;have hln:L.length=2+aD.length:=by rw [←hL];simp;omega
 rw [hL]at ha HN⊢;clear hL;have hmk:= @run_makeMap prog;go_enter func95,ntmps95;go_upto_region 2 with (fail)
 clear hmk;generalize ((w.alloc (.cells _ 27)).alloc _)=W at *;go_wp2_with (refine cZ Tryz.Ac rfl _ rfl rfl rfl (dz hb1) ?_);refine ha.mono ?_;rintro e w3 ⟨a,cap,rfl,hrow,hb3⟩;have hB3:=hB2.trans (hb3.mono hB2.size);have adH:=nk.below hset hb3;have aaA:=aH hb3 hb1;rw [hsz2]at hrow;obtain ⟨n,hn⟩:∃n,2+aD.length=n:=⟨_,rfl⟩;rw [hn]at hrow hln⊢;have Hn0:=Lib.hid hn;have hn1:0<n:=by omega
 have hn2:n≤1000:=by omega
 clear ha hset hb1 hb3 hG2 hB2 hsz2 hn;obtain ⟨_,_,he0,hg0⟩:=aN hrow;obtain ⟨g,hga,_⟩:=hg0 hn1;cases he0;subst hga;go_wp2_with fail
 go_loopw [10] (fun i wr=>∃j:Nat,i= .int .i64 j∧j≤n∧Below w.heap.size w wr∧Sy wr (w.heap.size+1) j ((L.take j).reverse.map Cl.name)∧wr.ownsRow (w.heap.size+2) 24 2 (.slice (some ⟨g,0,none⟩) n cap) n (gH L)∧wr.heap[w.heap.size]? =some (.cells #[.string nm, .int .i64 id, .string pn, .int .i64 pt, .string cn, .int .i64 ct, .slice va aD.length vc] 27 (0,0))∧Hid (AJ [] L=AJ ((L.take j).reverse.map Cl.name) (L.drop j))) (fun i _=>n - (intOf i).toNat)
 case atStart=>exact ⟨0,rfl,Nat.zero_le _,hB3,adH,hrow,aaA,by show _=_;rw [List.drop_zero];rfl⟩
 case round=>
  obtain ⟨j,rfl,hj,hBr,hsr,hown,hbx,HT⟩:=hrel;have hsz:=hBr.size;by_cases hjl:j<n
  · have p0:(j:Int)<(n:Int):=by omega
    have p1:(0:Int)≤(j:Int):=by omega
    have HJ:=Lib.hid (show j+1≤n from hjl);obtain ⟨q,hq⟩:∃q,L[j]? =some q:=⟨_,List.getElem?_eq_getElem (by omega)⟩;have k0:wr.cell? ⟨g,j*2,none⟩=some (.string q.name):=aM hown _ _ (by rw [show j*2=j*2+0 from rfl,iH hq 0 (by omega)];rfl);have k1:wr.cell? ⟨g,j*2+1,none⟩=some (.int .i64 q.ty):=aM hown _ _ (by rw [iH hq 1 (by omega)];rfl);have hqs:=HN.out.2 q (List.mem_of_getElem? hq)
    have HT2:Hid (AJ [] L=((Zk q.name&&((q.ty==1||q.ty==2)&& !lu q.name ((L.take j).reverse.map Cl.name)))&&AJ ((L.take (j+1)).reverse.map Cl.name) (L.drop (j+1)))):=by
     show _=_;rw [HT.out,Sv hq,EM hq]
    have HS:Hid (∀w',nk prog 9 4 w' (w.heap.size+1) (j+1) (.string q.name.data.toList::Cy ((L.take j).reverse.map Cl.name))→Sy w' (w.heap.size+1) (j+1) ((L.take (j+1)).reverse.map Cl.name)):=fun w' h=>by
     rw [EM hq];exact h
    clear hq HT;have hB4:=(Below.refl wr.heap.size wr).alloc (Nat.le_refl _) (.cells #[.string q.name, .int .i64 q.ty] 24);have hb4:=aB wr (.cells #[.string q.name, .int .i64 q.ty] 24);have kU:=hBr.trans (hB4.mono hsz);have hc:=GA q.name (wr.alloc (.cells #[.string q.name, .int .i64 q.ty] 24)) (HG.out.below kU) hqs;have jd:=hown.alloc (.cells #[.string q.name, .int .i64 q.ty] 24);have hs4:=nk.below hsr hB4;have EN:=aH hB4 hbx;obtain ⟨seen,ZG⟩:∃l,(L.take j).reverse.map Cl.name=l:=⟨_,rfl⟩;rw [ZG]at HT2 HS hs4;rw [bne_not q.ty 1,bne_not q.ty 2]at HT2;obtain ⟨b1,e1⟩:∃b,Zk q.name=b:=⟨_,rfl⟩;rw [e1]at hc HT2;clear ZG e1 hsr hown hbx;go_wp2_with fail;refine hc.mono ?_;rintro e w5 ⟨rfl,hb5⟩;have uf:=kU.trans (hb5.mono kU.size);have hown5:=bP jd hb5;have hs5:=nk.below hs4 hb5;have SA:=aH hb5 EN;have hb6:=aH hb5 hb4;have m0:w5.cell? ⟨wr.heap.size,0,none⟩=some (.string q.name):=by rw [aj hb6];rfl
    have m1:w5.cell? ⟨wr.heap.size,1,none⟩=some (.int .i64 q.ty):=by rw [aj hb6];rfl
    have hlk:=Sy.look hs5 q.name hqs;obtain ⟨b3,e3⟩:∃b,lu q.name seen=b:=⟨_,rfl⟩;rw [e3]at hlk HT2;clear e3 hc hs4 jd EN;cases b1 with
    |false=>
     go_wp2_with fail;go_ret;exact ⟨aR (by rw [HT2.out];rfl),uf⟩
    |true=>
     have hT3:((q.ty !=1)=true∧(q.ty !=2)=true)∨((q.ty !=1)=false∨((q.ty !=1)=true∧(q.ty !=2)=false)):=by
      cases (q.ty !=1)<;>cases (q.ty !=2)<;>simp
     rcases hT3 with ⟨t1,t2⟩|hT3
     · have HT4:Hid (AJ [] L=false):=by
        show _=_;rw [HT2.out,t1,t2];simp
       go_wp2_with fail;go_ret;exact ⟨aR (by rw [HT4.out];rfl),uf⟩
     have HT4:Hid (AJ [] L=(!b3&&AJ ((L.take (j+1)).reverse.map Cl.name) (L.drop (j+1)))):=by
      show _=_;rw [HT2.out];rcases hT3 with h1|⟨h1,h2⟩
      · rw [h1];simp
      · rw [h1,h2];simp
     clear HT2;rcases hT3 with t1|⟨t1,t2⟩
     all_goals
      cases b3 with
      |true=>
       go_wp2_with fail;go_ret;exact ⟨aR (by rw [HT4.out];rfl),uf⟩
      |false=>
       go_wp2_with (at_mapUpdate;refine OL rfl _ _ _ rfl hs5 (Go.Maps.string_keyed underlying9) underlying247 underlying4 (by omega) rfl rfl rfl (OM underlying9 q.name (by omega)) trivial ?_;intro w7 hs7 hg7);go_roundw
       case rel=>exact ⟨j+1,by go_num,HJ.out,uf.grown hg7 uf.size (fun g hg=>by cases hg;omega),HS.out _ hs7,Rd.grown hown5 hg7 (by omega),(hg7.block _ (aG SA) (fun e=>by have:=Option.some.inj e;omega)).trans SA,by rw [HT4.out];rfl⟩
       case measure=>have hjj:=HJ.out;simp [intOf];omega
  · have jV:j=n:=by omega
    subst jV
    have HT5:Hid (AJ [] L=true):=by
     show _=_;rw [HT.out,←hln];exact Sz _
    have k0:wr.cell? ⟨w.heap.size,0,none⟩=some (.string nm):=by rw [aj hbx];rfl
    have hc:=GD nm wr (HG.out.below hBr) HN.out.1
    have hq:decide ((aD.length:Int)≤8)=decide (aD.length≤8):=by
     rw [decide_eq_decide];omega
    obtain ⟨b4,e4⟩:∃b,snB nm=b:=⟨_,rfl⟩;obtain ⟨b5,e5⟩:∃b,decide (aD.length≤8)=b:=⟨_,rfl⟩;rw [e4]at hc;rw [e5]at hq;have E4:=Lib.hid e4;have E5:=Lib.hid e5;clear e4 e5 HT;go_wp2_with fail;refine hc.mono ?_;rintro e w5 ⟨rfl,hb5⟩;have uf:=hBr.trans (hb5.mono hsz);have k6:w5.cell? ⟨w.heap.size,6,none⟩=some (.slice va aD.length vc):=by rw [aj (aH hb5 hbx)];rfl
    cases b4 with
    |false=>
     go_wp2_with fail;go_ret;exact ⟨aR (by rw [HT5.out,E4.out];rfl),uf⟩
    |true=>
     go_wp2_with fail;go_ret;exact ⟨aR (by rw [HT5.out,E4.out,E5.out];rfl),uf⟩
theorem NP {L:List Cl}{on:ByteArray}{C:List ByteArray}{j:Nat}{c:ByteArray}(h:C[j]? =some c) (l:Int):uO L on l (C.drop j)=((!decide (lH L c≤l)&& !fB c on)&&uO L on (lH L c) (C.drop (j+1))):=by
 obtain ⟨hj,rfl⟩:=List.getElem?_eq_some_iff.1 h;rw [List.drop_eq_getElem_cons hj];rfl
theorem NQ {L:List Cl}{on:ByteArray}{C:List ByteArray}(l:Int):uO L on l (C.drop C.length)=true:=by rw [List.drop_length];rfl
theorem YS {w:World}{q:Tw}{u:Vv}(hG:Gp w) (h:nL w q) (hn:q.t.aD.length≤900) (hv:vM w u) (hu:abA u.x):
 Calls prog 96 #[.agg q.arr, .agg u.arr] w fun e w' =>e= .returned (.bool (qj q.t.aD u.x))∧Below w.heap.size w w' :=by
 have hB1:=(Below.refl w.heap.size w).alloc (Nat.le_refl _) (.cells q.arr 27);have hs1:=av w (.cells q.arr 27);have hb0:=aB w (.cells q.arr 27);have hB2:=hB1.alloc hB1.size (.cells u.arr 46);have hb1:=ay hb0 (.cells u.arr 46);have hb2:=aB (w.alloc (.cells q.arr 27)) (.cells u.arr 46);rw [hs1]at hb2;have hvn:=hu.name;have hm:=hu.n;have HG:=Lib.hid hG;have HA:Hid (∀w' c,Below w.heap.size w w' →Calls prog 77 #[.agg q.arr, .string c] w' fun e w'' =>e= .returned (.int .i64 (lH q.t.aD c))∧Below w'.heap.size w' w''):=fun w' c hb=>Sr (h.below hb) hn c
 clear h hG hB1 hs1 hb0 hu;obtain ⟨t,v⟩:=q;obtain ⟨⟨nm,id,dA,on,C⟩,vv⟩:=u;unfold Vv.arr vM at *;unfold qj
 dsimp only at *
 obtain ⟨cs,hcs⟩:∃cs,t.aD=cs:=⟨_,rfl⟩;rw [hcs]at HA⊢;clear hcs hn;obtain ⟨va,vc,rfl,hx0⟩:=hv;go_enter func96,ntmps96;go_upto_region 2 with (fail)
 generalize ((w.alloc (.cells _ 27)).alloc _)=W at *;have k4:W.cell? ⟨w.heap.size+1,4,none⟩=some (.slice va C.length vc):=by rw [aj hb2];rfl
 have HV0:Hid (uO cs on (-1) C=uO cs on (-1) (C.drop 0)):=by show _=_;rw [List.drop_zero]
 go_wp2_with fail
 go_loopw [5,12] (fun la i wr=>∃(j:Nat) (l:Int),la= .int .i64 l∧i= .int .i64 j∧j≤C.length∧Below w.heap.size w wr∧Below W.heap.size W wr∧Hid (uO cs on (-1) C=uO cs on l (C.drop j))) (fun _ i _=>C.length - (intOf i).toNat)
 case atStart=>exact ⟨0, -1,rfl,rfl,Nat.zero_le _,hB2,Below.refl _ _,HV0⟩
 case round=>
  clear HV0 k4;obtain ⟨j,l,rfl,rfl,hj,hBr,hBw,HT⟩:=hrel;have hsz:=hBr.size;have ht1:=aH hBw hb1;have hv1:=aH hBw hb2;by_cases hjl:j<C.length
  · have p0:(j:Int)<(C.length:Int):=by omega
    have p1:(0:Int)≤(j:Int):=by omega
    have HJ:=Lib.hid (show j+1≤C.length from hjl);obtain ⟨g,o,rfl,hx⟩:=hx0 (by omega);obtain ⟨c,hq⟩:∃q,C[j]? =some q:=⟨_,List.getElem?_eq_getElem hjl⟩;have k0:wr.cell? ⟨g,o+j,none⟩=some (.string c):=aI hBr (hx j _ (by rw [List.getElem?_map,hq];rfl))
    have HT2:Hid (uO cs on (-1) C=((!decide (lH cs c≤l)&& !fB c on)&&uO cs on (lH cs c) (C.drop (j+1)))):=by
     show _=_;rw [HT.out,NP hq]
    have hc:=HA.out wr c hBr;have he:=bU c on;obtain ⟨r,hr⟩:∃r,lH cs c=r:=⟨_,rfl⟩;obtain ⟨b2,e2⟩:∃b,fB c on=b:=⟨_,rfl⟩;rw [hr]at hc HT2;rw [e2]at he HT2;clear hq HT hr e2 hx;go_wp2_with (refine cZ Tryz.Ac rfl _ rfl rfl rfl (dz ht1) ?_);refine hc.mono ?_;rintro e w5 ⟨rfl,hb5⟩;have uf:=hBr.trans (hb5.mono hBr.size);have af4:=hBw.trans (hb5.mono hBw.size);have k3:w5.cell? ⟨w.heap.size+1,3,none⟩=some (.string on):=by rw [aj (aH hb5 hv1)];rfl
    by_cases hl:r≤l
    · go_wp2_with fail;go_ret;exact ⟨aR (by rw [HT2.out,decide_eq_true hl];rfl),uf⟩
    · have hl2:decide (r≤l)=false:=decide_eq_false hl;rw [hl2]at HT2;cases b2 with
      |true=>
       go_wp2_with fail;go_ret;exact ⟨aR (by rw [HT2.out];rfl),uf⟩
      |false=>
       go_wp2_with fail;go_roundw
       case rel=>exact ⟨j+1,r,rfl,by go_num,HJ.out,uf,af4,by rw [HT2.out];rfl⟩
       case measure=>have hjj:=HJ.out;simp [intOf];omega
  · have jV:j=C.length:=by omega
    subst jV;rw [NQ]at HT;have k0:wr.cell? ⟨w.heap.size+1,0,none⟩=some (.string nm):=by rw [aj hv1];rfl
    have hc:=GD nm wr (HG.out.below hBr) hvn;obtain ⟨b4,e4⟩:∃b,snB nm=b:=⟨_,rfl⟩;rw [e4]at hc;have E4:=Lib.hid e4;clear e4;go_wp2_with fail;refine hc.mono ?_;rintro e w5 ⟨rfl,hb5⟩;have uf:=hBr.trans (hb5.mono hsz);cases b4 with
    |false=>
     go_wp2_with fail;go_ret;exact ⟨aR (by rw [HT.out,E4.out];rfl),uf⟩
    |true=>
     have ht5:=aH hb5 ht1;have k3:w5.cell? ⟨w.heap.size+1,3,none⟩=some (.string on):=by rw [aj (aH hb5 hv1)];rfl
     have hc2:=HA.out w5 on uf;obtain ⟨r,hr⟩:∃r,lH cs on=r:=⟨_,rfl⟩;rw [hr]at hc2;have HR:=Lib.hid hr;clear hr hc;go_wp2_with (refine cZ Tryz.Ac rfl _ rfl rfl rfl (dz ht5) ?_);refine hc2.mono ?_;rintro e w6 ⟨rfl,hb6⟩;go_wp2_with fail;go_ret;exact ⟨aR (by rw [HT.out,E4.out,HR.out];simp),uf.trans (hb6.mono uf.size)⟩
theorem NR {C:List ByteArray}{k:Nat}{a b:ByteArray}(h:C[k]? =some a) (h2:C[k+1]? =some b):l6 (C.drop k)=(ltB a b&&l6 (C.drop (k+1))):=by
 obtain ⟨hj,rfl⟩:=List.getElem?_eq_some_iff.1 h;obtain ⟨hj2,rfl⟩:=List.getElem?_eq_some_iff.1 h2;rw [List.drop_eq_getElem_cons hj,List.drop_eq_getElem_cons hj2];rfl
theorem SB {C:List ByteArray}{k:Nat}(h:C.length≤k+1):l6 (C.drop k)=true:=by
 have:(C.drop k).length≤1:=by rw [List.length_drop];omega
 match hd:C.drop k,this with
 | [],_=>rfl
 | [a],_=>rfl
theorem Lu {w:World}{u:Value}{C:List ByteArray}(hr:Rd w u C.length (C.map Value.string)) (hn:C.length≤1000):
 Calls prog 93 #[u] w fun e w' =>e= .returned (.bool (l6 C))∧Below w.heap.size w w' :=by
 obtain ⟨va,vc,rfl,hx0⟩:=hr;have HV0:Hid (l6 C=l6 (C.drop 0)):=by show _=_;rw [List.drop_zero]
 go_enter func93,ntmps93;go_wp2_with fail
 go_loopw [3] (fun i wr=>∃(k:Nat),i= .int .i64 ((k:Int)+1)∧(k≤C.length)∧Below w.heap.size w wr∧Hid (l6 C=l6 (C.drop k))) (fun i _=>C.length - (intOf i).toNat)
 case atStart=>exact ⟨0,rfl,Nat.zero_le _,Below.refl _ _,HV0⟩
 case round=>
  clear HV0;obtain ⟨k,rfl,hk,hBr,HT⟩:=hrel;by_cases hjl:k+1<C.length
  · have p0:(k:Int)+1<(C.length:Int):=by omega
    have p1:(0:Int)≤(k:Int):=by omega
    obtain ⟨g,o,rfl,hx⟩:=hx0 (by omega);obtain ⟨a,ha⟩:∃q,C[k]? =some q:=⟨_,List.getElem?_eq_getElem (by omega)⟩;obtain ⟨b,hb⟩:∃q,C[k+1]? =some q:=⟨_,List.getElem?_eq_getElem hjl⟩;have k0:wr.cell? ⟨g,o+k,none⟩=some (.string a):=aI hBr (hx k _ (by rw [List.getElem?_map,ha];rfl));have k1:wr.cell? ⟨g,o+(k+1),none⟩=some (.string b):=aI hBr (hx (k+1) _ (by rw [List.getElem?_map,hb];rfl))
    have HT2:Hid (l6 C=(ltB a b&&l6 (C.drop (k+1)))):=by
     show _=_;rw [HT.out,NR ha hb]
    unfold ltB at HT2;obtain ⟨c,hc⟩:∃c,Op.bytesLess a.toList b.toList=c:=⟨_,rfl⟩;rw [hc]at HT2;clear HT ha hb hx hx0;cases c with
    |false=>
     go_wp2_with fail;go_quiet (fail);go_wp2_with fail;go_ret;exact ⟨aR (by rw [HT2.out];rfl),aK.below_drewN hBr _⟩
    |true=>
     go_wp2_with fail;go_quiet (fail);go_wp2_with fail;go_roundw
     case rel=>exact ⟨k+1,rfl,by omega,aK.below_drewN hBr _,by rw [HT2.out];rfl⟩
     case measure=>simp [intOf];omega
  · have HT2:Hid (l6 C=true):=by
     show _=_;rw [HT.out];exact SB (by omega)
    clear HT;have p0:¬(k:Int)+1<(C.length:Int):=by omega
    go_wp2_with fail;go_ret;exact ⟨aR HT2.out.symm,hBr⟩
theorem GH {α β:Type}(f:α→β) {L:List α}{j:Nat}{q:α}(h:L[j]? =some q):(L.take (j+1)).map f=(L.take j).map f++ [f q]:=by
 obtain ⟨hj,rfl⟩:=List.getElem?_eq_some_iff.1 h;rw [List.take_succ_eq_append_getElem hj,List.map_append];rfl
theorem Tw.len (q:Tw):q.arr.toList.length=7:=rfl
theorem Vv.len (q:Vv):q.arr.toList.length=5:=rfl
theorem nL.one {w:World}{q:Tw}(h:nL w q):q.arr.toList.all (·.oneCell')=true:=by
 obtain ⟨a,c,e,_⟩:=h;unfold Tw.arr;rw [e];rfl
theorem vM.one {w:World}{q:Vv}(h:vM w q):q.arr.toList.all (·.oneCell')=true:=by
 obtain ⟨a,c,e,_⟩:=h;unfold Vv.arr;rw [e];rfl
theorem Below.own {w w' wq:World}{v:Value}{base n:Nat}{e:TypeId}{xs:List Value}{size:Nat}(hB:Below base w w') (hb:base≤w'.heap.size) (hg:w'.grownBy wq v.ownBlock) (ho:w'.ownsRow base e size v n xs):Below base w wq:=
 below_app hB hb hg fun g hg=>(ho.lt g hg).1
theorem SC {w:World}{s:Sw}(h:pK w s) (hT:s.T.length≤1000) (hV:s.V.length≤1000):
 Calls prog 92 #[.agg s.arr] w fun e w' =>∃u v,e= .returned (.tuple #[u,v])∧Rd w' u s.T.length ((s.T.map fun q=>q.t.name).map Value.string)∧Rd w' v s.V.length ((s.V.map fun q=>q.x.name).map Value.string)∧Below w.heap.size w w' :=by
 have hB1:=(Below.refl w.heap.size w).alloc (Nat.le_refl _) (.cells s.arr 92);have hb0:=aB w (.cells s.arr 92);have hi:=h.below hB1;have h1:Hid (∀q∈s.T,q.arr.toList.all (·.oneCell')=true):=fun q hq=>(h.t q hq).one
 have h2:Hid (∀q∈s.V,q.arr.toList.all (·.oneCell')=true):=fun q hq=>(h.v q hq).one
 clear h;obtain ⟨la,T,V,tv,vv⟩:=s;have hts:=hi.ts;have hvs:=hi.vs;clear hi;unfold Sw.arr at *
 dsimp only at *
 obtain ⟨ta,tc,rfl,htx⟩:=hts;obtain ⟨va,vc,rfl,LY⟩:=hvs;go_enter func92,ntmps92;go_upto_region 1 with (fail)
 generalize (w.alloc (.cells _ 92))=W at *;have k1:W.cell? ⟨w.heap.size,1,none⟩=some (.slice ta T.length tc):=by rw [aj hb0];rfl
 have HTX:=Lib.hid htx;have HVX:=Lib.hid LY;clear htx LY;go_wp2_with fail;clear k1
 go_loopw [2,12] (fun out i wr=>∃(j:Nat) (a3:Option Addr) (c3:Nat),out= .slice a3 j c3∧i= .int .i64 j∧j≤T.length∧Below W.heap.size W wr∧wr.ownsRow W.heap.size 9 1 (.slice a3 j c3) j (((T.take j).map fun q=>q.t.name).map Value.string)) (fun _ i _=>T.length - (intOf i).toNat)
 case atStart=>exact ⟨0,none,0,rfl,rfl,Nat.zero_le _,Below.refl _ _,World.ownsRow_nil _ _ _ _⟩
 case round=>
  obtain ⟨j,a3,c3,rfl,rfl,hj,hBr,hown⟩:=hrel;have hsz:=hBr.size;by_cases hjl:j<T.length
  · have p0:(j:Int)<(T.length:Int):=by omega
    have p1:(0:Int)≤(j:Int):=by omega
    have HJ:=Lib.hid (show j+1≤T.length from hjl);obtain ⟨g,o,rfl,hx⟩:=HTX.out (by omega);obtain ⟨q,hq⟩:∃q,T[j]? =some q:=⟨_,List.getElem?_eq_getElem hjl⟩;have hR:=lq Tw.len hx hq hBr;have ho1:=h1.out q (List.mem_of_getElem? hq)
    have HT:Hid (((T.take (j+1)).map fun q=>q.t.name).map Value.string=((T.take j).map fun q=>q.t.name).map Value.string++ [.string q.t.name]):=by
     show _=_;rw [GH _ hq,List.map_append];rfl
    have hb4:=aB wr (.cells q.arr 27);have k0:(wr.alloc (.cells q.arr 27)).cell? ⟨wr.heap.size,0,none⟩=some (.string q.t.name):=by rw [aj hb4];rfl
    have hB4:=hBr.alloc hsz (.cells q.arr 27);have jd:=hown.alloc (.cells q.arr 27);clear hq hx hb4;go_wp2_with (first|refine cZ Tryz.Ac rfl _ rfl rfl rfl hR ?_|refine fq Tryz.Ac rfl _ _ rfl rfl rfl rfl rfl rfl ho1 ?_|(at_builtin;refine app1 Tryz.tY rfl _ _ rfl W.heap.size _ _ _ rfl (jd.alloc _) _ _ [.string q.t.name] rfl rfl (ql _ _ _ _) (by intro u hu;rw [List.mem_singleton.1 hu];rfl) (by have:=HJ.out;omega) (by simp;omega) ?_;intro a5 c5 w5 h5 hg5 Ab));have kU:=Below.own (hB4.alloc hB4.size (.cells #[.string q.t.name] 9)) (hB4.alloc hB4.size (.cells #[.string q.t.name] 9)).size hg5 (jd.alloc _);go_roundw
    case rel=>exact ⟨j+1,a5,c5,rfl,by go_num,HJ.out,kU,by rw [HT.out];exact h5⟩
    case measure=>have hjj:=HJ.out;simp [intOf];omega
  · have jV:j=T.length:=by omega
    subst jV;rw [List.take_length]at hown
    rename World=>w1
    have k2:w1.cell? ⟨w.heap.size,2,none⟩=some (.slice va V.length vc):=by rw [aj (aH hBr hb0)];rfl
    have HR:=Lib.hid (Rd.own hown);clear hown;go_wp2_with fail;clear k2
    go_loopw [3,26] (fun out i wr=>∃(j:Nat) (a4:Option Addr) (c4:Nat),out= .slice a4 j c4∧i= .int .i64 j∧j≤V.length∧Below w1.heap.size w1 wr∧wr.ownsRow w1.heap.size 9 1 (.slice a4 j c4) j (((V.take j).map fun q=>q.x.name).map Value.string)) (fun _ i _=>V.length - (intOf i).toNat)
    case atStart=>exact ⟨0,none,0,rfl,rfl,Nat.zero_le _,Below.refl _ _,World.ownsRow_nil _ _ _ _⟩
    case round=>
     obtain ⟨j,a4,c4,rfl,rfl,hj,vI,hown⟩:=hrel;have af5:=vI.size;have hBw:=hBr.trans (vI.mono hsz);by_cases hjl:j<V.length
     · have p0:(j:Int)<(V.length:Int):=by omega
       have p1:(0:Int)≤(j:Int):=by omega
       have HJ:=Lib.hid (show j+1≤V.length from hjl);obtain ⟨g,o,rfl,hx⟩:=HVX.out (by omega);obtain ⟨q,hq⟩:∃q,V[j]? =some q:=⟨_,List.getElem?_eq_getElem hjl⟩;have hR:=lq Vv.len hx hq hBw;have ho1:=h2.out q (List.mem_of_getElem? hq)
       have HT:Hid (((V.take (j+1)).map fun q=>q.x.name).map Value.string=((V.take j).map fun q=>q.x.name).map Value.string++ [.string q.x.name]):=by
        show _=_;rw [GH _ hq,List.map_append];rfl
       have hb4:=aB wr (.cells q.arr 46);have k0:(wr.alloc (.cells q.arr 46)).cell? ⟨wr.heap.size,0,none⟩=some (.string q.x.name):=by rw [aj hb4];rfl
       have hB4:=vI.alloc af5 (.cells q.arr 46);have jd:=hown.alloc (.cells q.arr 46);clear hq hx hb4;go_wp2_with (first|refine cZ Tryz.Jf rfl _ rfl rfl rfl hR ?_|refine fq Tryz.Jf rfl _ _ rfl rfl rfl rfl rfl rfl ho1 ?_|(at_builtin;refine app1 Tryz.tY rfl _ _ rfl w1.heap.size _ _ _ rfl (jd.alloc _) _ _ [.string q.x.name] rfl rfl (ql _ _ _ _) (by intro u hu;rw [List.mem_singleton.1 hu];rfl) (by have:=HJ.out;omega) (by simp;omega) ?_;intro a5 c5 w5 h5 hg5 Ab));have kU:=Below.own (hB4.alloc hB4.size (.cells #[.string q.x.name] 9)) (hB4.alloc hB4.size (.cells #[.string q.x.name] 9)).size hg5 (jd.alloc _);go_roundw
       case rel=>exact ⟨j+1,a5,c5,rfl,by go_num,HJ.out,kU,by rw [HT.out];exact h5⟩
       case measure=>have hjj:=HJ.out;simp [intOf];omega
     · have jV:j=V.length:=by omega
       subst jV;rw [List.take_length]at hown;go_wp2_with fail
       go_ret2
       exact ⟨_,_,rfl,HR.out.below vI,Rd.own hown,hB1.trans (hBw.mono hB1.size)⟩
end Go.Proofs.YtnngbhpeeakfaaaGreatDoor
