/- Parts of a proof. -/
import Derived.OpenShut
import Derived.Deep.Upon
import Derived.Deep.WholeRow
import Derived.Deep.MidRow
import Derived.Test.YtnngbhpeeakfaaaGreatDoorB01
import Derived.Test.YtnngbhpeeakfaaaGreatDoorB08
import Derived.Test.YtnngbhpeeakfaaaGreatDoorB09
namespace Go.Proofs.YtnngbhpeeakfaaaGreatDoor
open Go.Proofs.Tryz
open Go.ChangeShapes Go.WideShapes Go.ChangeAt Go.RowKit Go.Shelf
open Go.ChangeMaps (open_string shut_string)
open Go.RowKit
open aK
theorem sI (a:World) (r:Option Nat):a.grownBy a r:=⟨rfl,rfl,rfl,Nat.le_refl _,fun _ _ _=>rfl⟩
theorem av (w:World) (o:Obj):(w.alloc o).heap.size=w.heap.size+1:=by simp
theorem bU (a b:ByteArray):(a.toList==b.toList)=fB a b:=by
 unfold fB;rw [Bool.eq_iff_iff,beq_iff_eq,decide_eq_true_eq];refine ⟨fun h=> ?_,fun h=>by rw [h]⟩;rw [ByteArray.toList_eq,ByteArray.toList_eq]at h;exact ByteArray.ext (Array.ext' h)
def mU (c:Cl):List Value:= [.string c.name, .int .i64 c.ty]
def gH (l:List Cl):List Value:=l.flatMap mU
theorem nu:∀(l:List Cl) (k j:Nat) (h:k<l.length) (_:j<2),(gH l)[k*2+j]? =(mU l[k])[j]?
 |p::l,0,j,_,hj=>by
  simp only [gH,List.flatMap_cons,Nat.zero_mul,Nat.zero_add,List.getElem_cons_zero];rw [List.getElem?_append_left (by simp [mU];omega)]
 |p::l,k+1,j,h,hj=>by
  have:=nu l k j (by simp at h;omega) hj;simp only [gH,List.flatMap_cons,List.getElem_cons_succ]at this⊢;rw [List.getElem?_append_right (by simp [mU];omega)];have e:(k+1)*2+j - (mU p).length=k*2+j:=by simp [mU];omega
  rw [e];exact this
theorem bP {w w' :World}{base:Nat}{e:TypeId}{size n:Nat}{u:Value}{xs:List Value}(h:w.ownsRow base e size u n xs) (hb:Below w.heap.size w w'):w'.ownsRow base e size u n xs:=by
 obtain ⟨h1,h2⟩:=h;refine ⟨h1, ?_⟩;rcases h2 with h2|⟨g,cap,cur,a,b,c,d⟩
 · exact .inl h2
 · refine .inr ⟨g,cap,cur,a,b, ?_,d⟩;rw [hb.block g (aG c)];exact c
theorem uP {w:World}{base bx:Nat}{e:TypeId}{size n:Nat}{u:Value}{xs:List Value}(h:w.ownsRow base e size u n xs) (hx:bx<base) (o:Nat) (v:Value):(w.setCell ⟨bx,o,none⟩ v).ownsRow base e size u n xs:=by
 obtain ⟨h1,h2⟩:=h;refine ⟨h1, ?_⟩;rcases h2 with h2|⟨g,cap,cur,a,b,c,d⟩
 · exact .inl h2
 · exact .inr ⟨g,cap,cur,a,b,bg c _ _ (by show g≠bx;omega),d⟩
theorem kR (w:World) (L:List Value) (T:TypeId) (n size base:Nat) (hl:L.length=n*size) (hn:n≤maxLen) (hb:base≤w.heap.size):(w.alloc (.cells L.toArray T)).ownsRow base T size (.slice (some ⟨w.heap.size,0,none⟩) n n) n L:=by
 refine ⟨hl, .inr ⟨w.heap.size,n,L.toArray,rfl,hb,aB w _,Nat.le_refl _,hn,by simp [hl], ?_⟩⟩;rw [←hl];simp
theorem Tryz.tY:QH prog 35 9 (.string ⟨#[]⟩) 1 16:=uN underlying35 (by kernel_rfl) rfl (by decide)
theorem Tryz.KA:QH prog 25 24 (.agg #[.string ⟨#[]⟩, .int .i64 0]) 2 24:=uN underlying25 (by kernel_rfl) rfl (by decide)
theorem ql (w:World) (o:Obj) (L:List Value) (t:TypeId):∀j u,L[j]? =some u→((w.alloc o).alloc (.cells L.toArray t)).cell? ⟨w.heap.size+1,j,none⟩=some u:=by
 intro j u hj;have:=bA (w.alloc o) L t j u hj;rw [av]at this;exact this
def Rd (w:World) (u:Value) (n:Nat) (xs:List Value):Prop:=
 ∃a cap,u= .slice a n cap∧(0<n→∃g o,a=some ⟨g,o,none⟩∧∀k v,xs[k]? =some v→w.cell? ⟨g,o+k,none⟩=some v)
theorem cell_of_block {w w' :World}{a:Addr}(h:w'.heap[a.block]? =w.heap[a.block]?):w'.cell? a=w.cell? a:=by
 unfold World.cell?;rw [h]
theorem aI {w w' :World}{a:Addr}{v:Value}(hb:Below w.heap.size w w') (h:w.cell? a=some v):w'.cell? a=some v:=by
 have:=eH h;rw [cell_of_block (hb.block _ this)];exact h
theorem Rd.below {w w' :World}{u:Value}{n:Nat}{xs:List Value}(h:Rd w u n xs) (hb:Below w.heap.size w w'):Rd w' u n xs:=by
 obtain ⟨a,cap,hu,hx⟩:=h;refine ⟨a,cap,hu,fun hn=> ?_⟩;obtain ⟨g,o,ha,hc⟩:=hx hn;exact ⟨g,o,ha,fun k v hk=>aI hb (hc k v hk)⟩
theorem Rd.own {w:World}{base:Nat}{e:TypeId}{size n:Nat}{u:Value}{xs:List Value}(h:w.ownsRow base e size u n xs):Rd w u n xs:=by
 obtain ⟨a,cap,hu,hx⟩:=aN h;refine ⟨a,cap,hu,fun hn=> ?_⟩;obtain ⟨g,ha,_⟩:=hx hn;subst ha;refine ⟨g,0,rfl,fun k v hk=> ?_⟩;rw [Nat.zero_add];exact aM (hu▸h) k v hk
theorem iH {L:List Cl}{j:Nat}{q:Cl}(h:L[j]? =some q) (i:Nat) (hi:i<2):(gH L)[j*2+i]? =(mU q)[i]? :=by
 obtain ⟨hj,rfl⟩:=List.getElem?_eq_some_iff.1 h;exact nu L j i hj hi
theorem jQ {w:World}{base:Nat}{e:TypeId}{size n:Nat}{u:Value}{xs:List Value}(h:w.ownsRow base e size u n xs):∀a c,u= .slice a n c→n≤c:=by
 intro a c hu;rcases h.2 with ⟨_,h0⟩|⟨g,cap,cur,rfl,_,_,hnc,_⟩
 · omega
 · cases hu;exact hnc
theorem MN {P:Program}{t e:TypeId}{z:Value}{size bytes:Nat}(E:QH P t e z size bytes) {w:World}{ops:Array Oper}{rest:List Oper}{o:Oper}{a:Act}{Q:Exit→Act→World→Prop}(hgd:o.guard=none) (s x:Operand)
 (ho:o.op= .call {callee:= .builtin .append,args:= #[s,x],argTypes:= #[t,t]})
 (base:Nat) (v:Value) (n:Nat) (xs:List Value) (hs:a.eval s=v) (hown:w.ownsRow base e size v n xs)
 (u:Value) (m:Nat) (ys:List Value) (hx:a.eval x=u) (hu:Rd w u m ys) (hl:ys.length=m*size) (h1:∀u∈ys,u.oneCell' =true)
 (hn:(n+m)*bytes≤140737488355328∧n+m<140737488355328) (hbase:base≤w.heap.size)
 (h:∀a' cap' w',w'.ownsRow base e size (.slice a' (n+m) cap') (n+m) (xs++ys)→w.grownBy w' v.ownBlock→wpList P ops Q rest (a.put o.dst (.slice a' (n+m) cap')) w'):wpList P ops Q (o::rest) a w:=by
 refine wpList_plain hgd fun K hK=> ?_
 obtain ⟨ua,uc,rfl,hug⟩:=hu
 have hrun:∃v' w',(Builtin.append_ #[t,t] o.type #[v, .slice ua m uc]).run P w= .ok v' w' ∧w'.ownsRow base e size v' (n+m) (xs++ys)∧w.grownBy w' v.ownBlock:=by
  by_cases hm:0<m
  · obtain ⟨g,off,rfl,hg⟩:=hug hm;obtain ⟨v',w',hr,h2,h3,_⟩:=OJ (P:=P) (ty:=o.type) E v n xs hown ⟨g,off,none⟩ m uc ys hl (fun j u hj=>by rw [Addr.add_mid];exact hg j u hj) h1 (by have:=hn.2;unfold maxLen;omega) hn.1 hbase hm;exact ⟨v',w',hr,h2,h3⟩
  · have hm0:m=0:=by omega
    subst hm0;have hys:ys= []:=by rw [Nat.zero_mul]at hl;exact List.length_eq_zero_iff.1 hl
    subst hys;obtain ⟨i,hi,hz,hsize,hby⟩:=E.info;obtain ⟨va,vc,rfl,_⟩:=aN hown;have hle:=jQ hown va vc rfl;refine ⟨.slice va n vc,w, ?_,by rw [List.append_nil];exact hown,sI _ _⟩;refine run_append_nothing w t t o.type e i E.und hi va n vc hle _ ?_;cases ua with
    |none=>exact Src.ofNil w E.und uc
    |some ad=>exact Src.ofSlice w E.und ad 0 uc [] (by simp) (fun j u hj=>by simp at hj) (by simp)
 obtain ⟨v',w',hr,h2,h3⟩:=hrun;obtain ⟨a',cap',rfl,_⟩:=aN h2;unfold Oper.wp execOp;simp only [ho,resolve,invoke,builtin,Sem.run_bind,Sem.run_pure,Result.andThen_ok,List.map_toArray,List.map_cons,List.map_nil,hs,hx,hr];exact hK _ _ (h a' cap' w' h2 h3)
theorem qU (L:List Cl):∀u∈gH L,u.oneCell' =true:=by
 intro u hu;obtain ⟨c,_,hc⟩:=List.mem_flatMap.1 hu;unfold mU at hc;simp only [List.mem_cons,List.not_mem_nil,or_false]at hc;rcases hc with rfl|rfl<;>rfl
theorem qV (L:List Cl):(gH L).length=L.length*2:=by
 induction L with
 |nil=>rfl
 |cons a l ih=>unfold gH at ih⊢;rw [List.flatMap_cons,List.length_append,ih];simp [mU];omega
theorem yT {α:Type}{L M:List α}(hl:L.length=M.length) (h:∀k,k<L.length→L[k]? =M[k]?):L=M:=by
 apply List.ext_getElem?;intro k;by_cases hk:k<L.length
 · exact h k hk
 · rw [List.getElem?_eq_none (by omega),List.getElem?_eq_none (by omega)]
theorem yU {α:Type}{L M:List α}{j:Nat}{q q' :α}(hq:L[j]? =some q) (hq' :M[j]? =some q') (h:∀k,k<j→L[k]? =M[k]?) (he:q=q'):∀k,k<j+1→L[k]? =M[k]? :=by
 intro k hk;by_cases hkj:k<j
 · exact h k hkj
 · have:k=j:=by omega
   subst this;rw [hq,hq',he]
theorem Il {α:Type}{L M:List α}{j:Nat}{q q' :α}(hq:L[j]? =some q) (hq' :M[j]? =some q') (hne:q≠q'):L≠M:=by
 rintro rfl;rw [hq]at hq';exact hne (by injection hq')
theorem acF {q q' :Cl}(h:q≠q'):(q.name.toList==q'.name.toList)=false∨(q.name=q'.name∧(q.ty==q'.ty)=false):=by
 obtain ⟨a,b⟩:=q;obtain ⟨a',b'⟩:=q';by_cases h1:a=a'
 · subst h1;refine Or.inr ⟨rfl,beq_eq_false_iff_ne.2 fun h2=>h ?_⟩;have h2' :b=b' :=h2;rw [h2']
 · exact Or.inl (by rw [bU];exact decide_eq_false h1)
theorem aH {w w' :World}{b:Nat}{o:Obj}(hb:Below w.heap.size w w') (h:w.heap[b]? =some o):w'.heap[b]? =some o:=by
 rw [hb.block _ (aG h)];exact h
theorem AO {w:World}{b:Nat}{o:Obj}(h:w.heap[b]? =some o) (o' :Obj):(w.alloc o').heap[b]? =some o:=
 aH ((Below.refl w.heap.size w).alloc (Nat.le_refl _) o') h
theorem bB (w:World) (a:Addr) (v:Value):(w.setCell a v).heap.size=w.heap.size:=by simp [World.setCell]
theorem oU (l:List Cl) (p:Cl):gH (l++ [p])=gH l++mU p:=by simp [gH]
theorem vW {α:Type}(f:α→List Value) (k:Nat) (hf:∀q,(f q).length=k):∀(L:List α) (i j:Nat) (q:α),L[i]? =some q→j<k→(L.flatMap f)[i*k+j]? =(f q)[j]?
 | [],i,j,q,h,_=>by simp at h
 |p::l,0,j,q,h,hj=>by
  obtain rfl:p=q:=by simpa using h
  rw [List.flatMap_cons,Nat.zero_mul,Nat.zero_add,List.getElem?_append_left (by rw [hf];exact hj)]
 |p::l,i+1,j,q,h,hj=>by
  have:=vW f k hf l i j q (by simpa using h) hj;rw [List.flatMap_cons,List.getElem?_append_right (by rw [hf,Nat.succ_mul];omega),hf,←this];congr 1;rw [Nat.succ_mul];omega
theorem oo {b:Nat}{T:TypeId}{fr:Nat×Nat}:∀(vs:List Value) (o:Nat) (w:World) (C:Array Value),w.heap[b]? =some (.cells C T fr)→
 ∃C',(w.setCells b o vs).heap[b]? =some (.cells C' T fr)∧C'.size=C.size
 | [],_,w,C,h=>⟨C,h,rfl⟩
 |v::vs,o,w,C,h=>by
  obtain ⟨C',h1,h2⟩:=oo vs (o+1) _ _ (bG h o v);exact ⟨C',h1,by rw [h2];simp⟩
theorem mV {b:Nat}:∀(vs:List Value) (o:Nat) (w:World),(∀k,k≠b→(w.setCells b o vs).heap[k]? =w.heap[k]?)∧(w.setCells b o vs).heap.size=w.heap.size∧∀B w0,Below B w0 w→B≤b→Below B w0 (w.setCells b o vs)
 | [],_,w=>⟨fun _ _=>rfl,rfl,fun _ _ h _=>h⟩
 |v::vs,o,w=>by
  obtain ⟨h1,h2,h3⟩:=mV (b:=b) vs (o+1) (w.setCell ⟨b,o,none⟩ v);refine ⟨fun k hk=>(h1 k hk).trans (Below.heap_setCell _ _ _ _ hk),h2.trans (bB _ _ _),fun B w0 h hB=>h3 B w0 (h.setCell hB v) hB⟩
structure Wrote (w:World) (b:Nat) (V:Array Value) (T:TypeId) (w' :World):Prop where
 blk:w'.heap[b]? =some (.cells V T (0,0))
 rest:∀k,k≠b→w'.heap[k]? =w.heap[k]?
 size:w'.heap.size=w.heap.size
 below:∀B w0,Below B w0 w→B≤b→Below B w0 w'
end Go.Proofs.YtnngbhpeeakfaaaGreatDoor
