/- Parts of a proof. -/
import Derived.Maps.OwnSet
import Derived.Test.YtnngbhpeeakfaaaGreatDoorB01
import Derived.Test.YtnngbhpeeakfaaaGreatDoorB04
import Derived.Test.YtnngbhpeeakfaaaGreatDoorB06
import Derived.Test.YtnngbhpeeakfaaaGreatDoorB07
import Derived.Test.YtnngbhpeeakfaaaGreatDoorB08
namespace Go.Proofs.YtnngbhpeeakfaaaGreatDoor
open Go.RowKit
namespace aK
structure Tb where
 name:ByteArray
 id:Int
 part:Cl
 aY:Cl
 aD:List Cl
structure Vw where
 name:ByteArray
 id:Int
 dA:ByteArray
 on:ByteArray
 aD:List ByteArray
structure Sc where
 last:Int
 ts:List Tb
 vs:List Vw
def Zk (s:ByteArray):Bool:=name s&&(fB (fold s) s&& !tX s)
def snB (s:ByteArray):Bool:=Zk s&&decide (s.size≤80)
def Kw {α:Type}(p:α→Bool):List α→Nat→Int
 | [],_=> -1
 |x::l,k=>if p x then k else Kw p l (k+1)
def lH (l:List Cl) (c:ByteArray):Int:=Kw (fun x=>fB x.name c) l 0
def AJ:List ByteArray→List Cl→Bool
 |_, []=>true
 |seen,c::l=>(Zk c.name&&((c.ty==1||c.ty==2)&& !lu c.name seen))&&AJ (c.name::seen) l
def Ik (t:Tb):Bool:=AJ [] (t.part::t.aY::t.aD)&&(snB t.name&&decide (t.aD.length≤8))
def uO (l:List Cl) (on:ByteArray):Int→List ByteArray→Bool
 |_, []=>true
 |last,c::r=>(!decide (lH l c≤last)&& !fB c on)&&uO l on (lH l c) r
def qj (l:List Cl) (v:Vw):Bool:=uO l v.on (-1) v.aD&&(snB v.name&&decide (0≤lH l v.on))
def ltB (a b:ByteArray):Bool:=Op.bytesLess a.toList b.toList
def l6:List ByteArray→Bool
 |a::b::l=>ltB a b&&l6 (b::l)
 |_=>true
def Jm (last:Int):List Int→List Int→Bool
 |_, []=>true
 |seen,i::l=>(decide (1≤i)&&(decide (i≤last)&& !seen.contains i))&&Jm last (i::seen) l
def jP (l:List Tb) (s:ByteArray):Option Tb:=l.find? fun t=>fB t.name s
def DI (l:List Vw) (s:ByteArray):Option Vw:=l.find? fun v=>fB v.name s
def Sc.check (s:Sc):Bool:=
 (decide (s.ts.length≤4)&&(decide (s.vs.length≤4)&&(decide (0≤s.last)&&(decide (s.last≤1099511627776)&&(l6 (s.ts.map Tb.name)&&(l6 (s.vs.map Vw.name)&&Jm s.last [] (s.ts.map Tb.id++s.vs.map Vw.id)))))))&&
 (s.ts.all (fun t=>Ik t&& !lu t.name (s.vs.map Vw.name))&&s.vs.all fun v=>match jP s.ts v.dA with|some t=>qj t.aD v|none=>false)
def Sc.there (s:Sc) (nm:ByteArray):Bool:=(jP s.ts nm).isSome||(DI s.vs nm).isSome
end aK
open Go.Maps (IsMap Keyed)
namespace aK
section
variable {P:Program}{t k e:TypeId}
def Zl (l:Lit) (ks:List Lit):Bool:=ks.any fun x=>x.sameKey l
def nk (P:Program) (k e:TypeId) (w:World) (b n:Nat) (ks:List Lit):Prop:=
 ∃D:DataW Unit,w.ownsMap P k (plainElem P e) b n D∧∀l,WideAt.IsKeyLit l→D.atKey l (.lit (.bool false))= .lit (.bool (Zl l ks))
theorem nk.made (w:World):nk P k e (w.alloc (.map #[] 0)) w.heap.size 0 []:=⟨_,World.ownsMap_made w P k _,fun _l _=>rfl⟩
theorem nk.lt {w:World}{b n:Nat}{ks:List Lit}(h:nk P k e w b n ks):b<w.heap.size:=by
 obtain ⟨D,h,_⟩:=h;exact h.lt
theorem nk.below {w w' :World}{b n:Nat}{ks:List Lit}(h:nk P k e w b n ks) (hb:Below w.heap.size w w'):nk P k e w' b n ks:=by
 have hlt:=h.lt;obtain ⟨D,⟨es,clock,h1,h2⟩,h3⟩:=h;exact ⟨D,⟨es,clock,(hb.block b hlt).trans h1,h2⟩,h3⟩
theorem nk.look {w:World}{b n:Nat}{ks:List Lit}(h:nk P k e w b n ks) (K:Keyed P k) (ht:P.underlying t=some (.map k e)) (he:P.underlying e=some .bool) (hz:(zeroValue e).run P w= .ok (.bool false) w) {key:Value}{l:Lit}(hkey:keyOf P k key=some l) (hl:WideAt.IsKeyLit l):
 (Instr.lookup t (.map (some b)) key false).run P w= .ok (.bool (Zl l ks)) w:=by
 obtain ⟨D,h1,h2⟩:=h;obtain ⟨v,ps,hr,hv⟩:=h1.lookup K ht hz (plainElem_bool he false) hkey;rw [h2 l hl]at hv;rw [hr];unfold plainElem at hv;rw [he]at hv;cases v<;>simp at hv;rw [hv.1]
theorem nk.put {w:World}{b n:Nat}{ks:List Lit}(h:nk P k e w b n ks) (K:Keyed P k) (ht:P.underlying t=some (.map k e)) (he:P.underlying e=some .bool) (hn:n<1000) {key:Value}{l:Lit}(hkey:keyOf P k key=some l) (hl:WideAt.IsKeyLit l):
 ∃w',(Instr.mapUpdate t (.map (some b)) key (.bool true)).run P w= .ok () w' ∧nk P k e w' b (n+1) (l::ks)∧w.grownBy w' (some b):=by
 obtain ⟨D,h1,h2⟩:=h;obtain ⟨w',hr,h3,h4⟩:=h1.update K ht (Nat.lt_trans hn (by decide)) hkey (plainElem_bool he true);refine ⟨w',hr,⟨_,h3,fun l' hl' => ?_⟩,h4⟩;by_cases hx:l' =l
 · subst hx;rw [Maps.atKey_put_same h1.isMap hl];unfold Zl;rw [List.any_cons,WideAt.sameKey_self hl];rfl
 · rw [Maps.atKey_put_other hx,h2 l' hl']
   have hn:l.sameKey l' =false:=by
    cases h:l.sameKey l' with
    |false=>rfl
    |true=>exact absurd ((WideAt.sameKey_iff hl').1 h).symm hx
   unfold Zl;rw [List.any_cons,hn,Bool.false_or]
theorem OL {w:World}{ops:Array Oper}{rest:List Oper}{o:Oper}{a:Act}{Q:Exit→Act→World→Prop}(hg:o.guard=none) (m x v:Operand) (hop:o.op=Op.mapUpdate t m x v) {b n:Nat}{ks:List Lit}(h:nk P k e w b n ks) (K:Keyed P k) (ht:P.underlying t=some (.map k e)) (he:P.underlying e=some .bool) (hn:n<1000)
 (hm:a.eval m= .map (some b)) {key:Value} {l:Lit} (hx:a.eval x=key) (hv:a.eval v= .bool true) (hkey:keyOf P k key=some l) (hl:WideAt.IsKeyLit l)
 (hK:∀w',nk P k e w' b (n+1) (l::ks)→w.grownBy w' (some b)→wpList P ops Q rest (a.put o.dst undef) w'):wpList P ops Q (o::rest) a w:=by
 refine wpList_plain hg fun K' hK' => ?_
 obtain ⟨w',hr,h1,h2⟩:=h.put K ht he hn hkey hl;unfold Oper.wp;simp [execOp,hop,hm,hx,hv,hr,Result.andThen];exact hK' _ _ (hK w' h1 h2)
theorem OM (hk:P.underlying k=some .string) (s:ByteArray) (hs:s.size≤1000000000):keyOf P k (.string s)=some (.string s.data.toList):=by
 simp [keyOf,hk,mapKey];try (unfold maxLen;omega)
theorem OO (hk:P.underlying k=some (.int .i64)) (a:Int) (h0: -9223372036854775808≤a) (h1:a≤9223372036854775807):keyOf P k (.int .i64 a)=some (.int .i64 a):=
 Maps.keyOf_int_mk hk (by simp [Lit.wf];exact ⟨h0,h1⟩)
end
theorem XY:∀n m,dec n=dec m→n=m:=by
 refine Cn (C:=fun n=>∀m,dec n=dec m→n=m) (fun n hn m h=> ?_) (fun n hn ih m h=> ?_)
 · rw [p8 hn]at h;by_cases hm:m<10
   · rw [p8 hm]at h;have:=congrArg UInt8.toNat (List.head_eq_of_cons_eq h);simp at this;omega
   · rw [oP (by omega)]at h;have h1:=congrArg List.length h;have h2:=List.length_pos_iff.2 (yK (m / 10)).2;simp only [List.length_append,List.length_cons,List.length_nil]at h1;omega
 · rw [oP hn]at h;by_cases hm:m<10
   · rw [p8 hm]at h;have h1:=congrArg List.length h;have h2:=List.length_pos_iff.2 (yK (n / 10)).2;simp only [List.length_append,List.length_cons,List.length_nil]at h1;omega
   · rw [oP (n:=m) (by omega)]at h;obtain ⟨h1,h2⟩:=List.append_inj' h rfl;have h3:=ih _ h1;have h4:=congrArg UInt8.toNat (List.head_eq_of_cons_eq h2);simp at h4;omega
theorem ML {A B D E:List UInt8}(hD:∀c∈D,c≠95) (hE:∀c∈E,c≠95) (h:A++95::D=B++95::E):A=B∧D=E:=by
 have key:∀(A D:List UInt8),(∀c∈D,c≠95)→((A++95::D).reverse.takeWhile fun c=>decide (c≠95))=D.reverse:=by
  intro A D hD;rw [List.reverse_append,List.reverse_cons,List.append_assoc,List.takeWhile_append_of_pos (by intro c hc;simpa using hD c (List.mem_reverse.1 hc))];simp
 have h1:=key A D hD;rw [h,key B E hE]at h1;have h2:D=E:=by simpa using congrArg List.reverse h1.symm
 subst h2;exact ⟨by simpa using h,rfl⟩
def lX (a:ByteArray) (x:Int):ByteArray:=a++⟨#[95]⟩++kr (if x<0 then 0 else x)
theorem Ky (a:ByteArray) (x:Int) (h:0≤x):(lX a x).data.toList=a.data.toList++95::dec x.toNat:=by
 unfold lX kr;rw [if_neg (by omega)];have e:(decide (x<0))=false:=decide_eq_false (by omega);have e2:x.natAbs=x.toNat:=by omega
 simp [e,e2,fT]
theorem Kz (n:Nat):∀c∈dec n,c≠95:=by
 intro c hc h;have:=List.all_eq_true.1 (yK n).1 c hc;rw [h]at this;exact absurd this (by decide)
theorem aal (a b:ByteArray) (x y:Int) (hx:0≤x) (hy:0≤y):lX a x=lX b y ↔ a=b∧x=y:=by
 refine ⟨fun h=> ?_,fun ⟨h1,h2⟩=>by rw [h1,h2]⟩;have h1:=congrArg (fun s:ByteArray=>s.data.toList) h;simp only [Ky a x hx,Ky b y hy]at h1;obtain ⟨h2,h3⟩:=ML (Kz _) (Kz _) h1;exact ⟨ByteArray.ext (Array.ext' h2),by have:=XY _ _ h3;omega⟩
theorem Uz (a:ByteArray) (x:Int):a.size+1<(lX a x).size:=by
 have h:0<(kr (if x<0 then 0 else x)).size:=by
  unfold kr;have:=List.length_pos_iff.2 (yK (if x<0 then 0 else x).natAbs).2;simp [ByteArray.size];omega
 unfold lX;rw [ByteArray.size_append,ByteArray.size_append];have:(⟨#[95]⟩:ah).size=1:=rfl;omega
theorem XZ (a:ByteArray) (x:Int):(lX a x).extract 0 a.size=a:=by
 unfold lX;rw [ByteArray.append_assoc];apply ByteArray.ext;apply Array.ext';rw [ByteArray.data_extract,ByteArray.data_append,Array.toList_extract,Array.toList_append,List.extract_eq_take_drop,List.drop_zero,Nat.sub_zero,show a.size=a.data.toList.length from rfl,List.take_left]
def awT:ByteArray:=(⟨#[99,114,101,97,116,101,32,116,97,98,108,101,32,116,32,40,112,32,116,101,120,116,44,32,107,32,105,110,116,44,32,97,32,116,101,120,116,44,32,112,114,105,109,97,114,121,32,107,101,121,32,40,112,44,32,107,41,41]⟩:ah)
def AL:Tb:=⟨(⟨#[116]⟩:ah),0,⟨(⟨#[112]⟩:ah),1⟩,⟨(⟨#[107]⟩:ah),2⟩, [⟨(⟨#[97]⟩:ah),1⟩]⟩
def awX:Sx:=⟨1,(⟨#[116]⟩:ah),⟨#[]⟩,⟨#[]⟩,(⟨#[116]⟩:ah),0,⟨(⟨#[112]⟩:ah),1⟩,⟨(⟨#[107]⟩:ah),2⟩, [⟨(⟨#[97]⟩:ah),1⟩], [], [], [],0,0,0⟩
theorem DJ:dJ awT=(⟨awX, []⟩,0,0):=by kernel_rfl
theorem aam:May ⟨awX, []⟩:=xB DJ
theorem QI:(⟨0, [], []⟩:Sc).check=true:=by decide+kernel
theorem Gf:(⟨1, [{AL with id:=1}], []⟩:Sc).check=true:=by decide+kernel
theorem QJ:(⟨0, [], []⟩:Sc).there (⟨#[116]⟩:ah)=false:=by decide+kernel
theorem QK:(⟨1, [{AL with id:=1}], []⟩:Sc).there (⟨#[116]⟩:ah)=true:=by decide+kernel
theorem X0:jP [{AL with id:=1}] (⟨#[116]⟩:ah)=some {AL with id:=1}:=by kernel_rfl
theorem UA:lX (⟨#[116]⟩:ah) 1=(⟨#[116,95,49]⟩:ah):=by decide+kernel
end aK
end Go.Proofs.YtnngbhpeeakfaaaGreatDoor
