/- Parts of a proof. -/
import Derived.Deep.Upon
import Derived.Test.YtcgadodckoalnaaGreatDoorB22
namespace Go.Proofs.YtcgadodckoalnaaGreatDoor
open Go.RowKit
open aN
theorem af0 {P:Program}{t e:TypeId}{z:Value}{size bytes:Nat}(E:X0 P t e z size bytes) {w:World}{ops:Array Oper}{rest:List Oper}{o:Oper}{a:Act}{Q:Exit→Act→World→Prop}(hgd:o.guard=none) (s x:Operand)
 (ho:o.op= .call {callee:= .builtin .append,args:= #[s,x],argTypes:= #[t,t]})
 (base:Nat) (v:Value) (n:Nat) (xs:List Value) (hs:a.eval s=v) (hown:w.ownsRow base e size v n xs)
 (u:Value) (m:Nat) (ys:List Value) (hx:a.eval x=u) (hu:Rd w u m ys) (hl:ys.length=m*size) (h1:∀u∈ys,u.oneCell' =true)
 (hn:(n+m)*bytes≤140737488355328∧n+m<140737488355328) (hbase:base≤w.heap.size)
 (h:∀a' cap' w',w'.ownsRow base e size (.slice a' (n+m) cap') (n+m) (xs++ys)→w.grownBy w' v.ownBlock→wpList P ops Q rest (a.put o.dst (.slice a' (n+m) cap')) w'):wpList P ops Q (o::rest) a w:=by
 refine wpList_plain hgd fun K hK=> ?_
 obtain ⟨ua,uc,rfl,hug⟩:=hu
 have hrun:∃v' w',(Builtin.append_ #[t,t] o.type #[v, .slice ua m uc]).run P w= .ok v' w' ∧w'.ownsRow base e size v' (n+m) (xs++ys)∧w.grownBy w' v.ownBlock:=by
  by_cases hm:0<m
  · obtain ⟨g,off,rfl,hg⟩:=hug hm;obtain ⟨v',w',hr,h2,h3,_⟩:=Sy (P:=P) (ty:=o.type) E v n xs hown ⟨g,off,none⟩ m uc ys hl (fun j u hj=>by rw [Addr.add_mid];exact hg j u hj) h1 (by have:=hn.2;unfold maxLen;omega) hn.1 hbase hm;exact ⟨v',w',hr,h2,h3⟩
  · have hm0:m=0:=by omega
    subst hm0;have hys:ys= []:=by rw [Nat.zero_mul]at hl;exact List.length_eq_zero_iff.1 hl
    subst hys;obtain ⟨i,hi,hz,hsize,hby⟩:=E.info;obtain ⟨va,vc,rfl,_⟩:=aY hown;have hle:=lH hown va vc rfl;refine ⟨.slice va n vc,w, ?_,by rw [List.append_nil];exact hown,vR _ _⟩;refine run_append_nothing w t t o.type e i E.und hi va n vc hle _ ?_;cases ua with
    |none=>exact Src.ofNil w E.und uc
    |some ad=>exact Src.ofSlice w E.und ad 0 uc [] (by simp) (fun j u hj=>by simp at hj) (by simp)
 obtain ⟨v',w',hr,h2,h3⟩:=hrun;obtain ⟨a',cap',rfl,_⟩:=aY h2;unfold Oper.wp execOp;simp only [ho,resolve,invoke,builtin,Sem.run_bind,Sem.run_pure,Result.andThen_ok,List.map_toArray,List.map_cons,List.map_nil,hs,hx,hr];exact hK _ _ (h a' cap' w' h2 h3)
theorem Vf (L:List Cl):∀u∈iO L,u.oneCell' =true:=by
 intro u hu;obtain ⟨c,_,hc⟩:=List.mem_flatMap.1 hu;unfold mJ at hc;simp only [List.mem_cons,List.not_mem_nil,or_false]at hc;rcases hc with rfl|rfl<;>rfl
theorem Vg (L:List Pr):∀u∈dI L,u.oneCell' =true:=by
 intro u hu;obtain ⟨c,_,hc⟩:=List.mem_flatMap.1 hu;unfold kI at hc;simp only [List.mem_cons,List.not_mem_nil,or_false]at hc;rcases hc with rfl|rfl|rfl|rfl<;>rfl
theorem Vh (L:List Cl):(iO L).length=L.length*2:=by
 induction L with
 |nil=>rfl
 |cons a l ih=>unfold iO at ih⊢;rw [List.flatMap_cons,List.length_append,ih];simp [mJ];omega
theorem Vi (L:List Pr):(dI L).length=L.length*4:=by
 induction L with
 |nil=>rfl
 |cons a l ih=>unfold dI at ih⊢;rw [List.flatMap_cons,List.length_append,ih];simp [kI];omega
theorem uW (q:Cl) (h:q.name.size≤2000000):(aF (dN q)).size≤2000010:=by
 unfold dN;split
 · have e:aF [.wd q.name, .bl, .wd (⟨#[84,69,88,84]⟩:ah)]=q.name++(⟨#[32,84,69,88,84]⟩:ah):=by apply ByteArray.ext;apply Array.ext';simp [aF,Pc.text]
   rw [e,ByteArray.size_append];show _+5≤_;omega
 · have e:aF [.wd q.name, .bl, .wd (⟨#[73,78,84]⟩:ah)]=q.name++(⟨#[32,73,78,84]⟩:ah):=by apply ByteArray.ext;apply Array.ext';simp [aF,Pc.text]
   rw [e,ByteArray.size_append];show _+4≤_;omega
end Go.Proofs.YtcgadodckoalnaaGreatDoor
