/- Parts of the proof, joined: LnD. -/
import Derived.Deep.Cut
import Derived.Test.YtfbgdjcnlnfoaaaGreatDoorB10
import Derived.Test.YtfbgdjcnlnfoaaaGreatDoorCPIj
import Derived.Test.YtfbgdjcnlnfoaaaGreatDoorRows
namespace Go.Proofs.YtfbgdjcnlnfoaaaGreatDoor
open Go.RowKit
open aH
abbrev oZ:Obj:= .cells #[.int .i64 0,.string ⟨#[]⟩,.string ⟨#[]⟩,.string ⟨#[]⟩,.string ⟨#[]⟩,.int .i64 0,.string ⟨#[]⟩,.int .i64 0,.string ⟨#[]⟩,.int .i64 0,.slice none 0 0,.slice none 0 0,.slice none 0 0,.slice none 0 0,.int .i64 0,.int .i64 0,.int .i64 0,.slice none 0 0] 31
abbrev oP (s:ByteArray):Obj:= .cells #[.string (⟨#[112]⟩:ByteArray),.int .i64 1,.string s,.int .i64 0] 61
abbrev oK (q:Int):Obj:= .cells #[.string (⟨#[107]⟩:ByteArray),.int .i64 2,.string ⟨#[]⟩,.int .i64 q] 61
abbrev oT:Obj:= .cells #[.int .i64 0,.string ⟨#[]⟩,.string (⟨#[116]⟩:ByteArray),.string ⟨#[]⟩,.string ⟨#[]⟩,.int .i64 0,.string ⟨#[]⟩,.int .i64 0,.string ⟨#[]⟩,.int .i64 0,.slice none 0 0,.slice none 0 0,.slice none 0 0,.slice none 0 0,.int .i64 0,.int .i64 0,.int .i64 0,.slice none 0 0] 31
def Ci (K:LK) (w:World):Ending→World→Prop:=fun e w' =>∃(x:Sx) (tc c s wv:Value),e= .returned (.agg (aF x tc c s wv ak))∧KG x∧gN w' w.heap.size x tc c s wv∧dM K w w'
def Ym (p:Nat):ByteArray:=((⟨#[109,110,111]⟩:ByteArray):ByteArray).extract p (p+1)
theorem yu {p:Nat}(h:p<3):Ym p∈yh:=by
 have:p=0∨p=1∨p=2:=by omega
 rcases this with rfl|rfl|rfl<;>exact (jI _ _).1 (by decide+kernel)
theorem yw (n:ByteArray) (ty:Int) (s:ByteArray) (m:Int) (w:World):(Instr.build 61 #[(0,.string n),(1,.agg #[.int .i64 ty,.string s,.int .i64 m])]).run Tryz.prog w= .ok (.agg #[.string n,.int .i64 ty,.string s,.int .i64 m]) w:=by kernel_rfl
theorem wX (w:World):(Instr.build 31 #[(2,.string (⟨#[116]⟩:ByteArray))]).run Tryz.prog w= .ok (.agg #[.int .i64 0,.string ⟨#[]⟩,.string (⟨#[116]⟩:ByteArray),.string ⟨#[]⟩,.string ⟨#[]⟩,.int .i64 0,.string ⟨#[]⟩,.int .i64 0,.string ⟨#[]⟩,.int .i64 0,.slice none 0 0,.slice none 0 0,.slice none 0 0,.slice none 0 0,.int .i64 0,.int .i64 0,.int .i64 0,.slice none 0 0]) w:=by kernel_rfl
theorem smn {s:ByteArray}(h:qI s mQ=true):s∈mQ:=(jI _ _).1 h
theorem Vy {s:ByteArray}(h:s∈yh):tu ⟨(⟨#[112]⟩:ByteArray),⟨1,s,0⟩⟩:=⟨smn (by decide+kernel:qI (⟨#[112]⟩:ByteArray) mQ=true),.inl ⟨rfl,h,rfl⟩⟩
theorem acy {n:Nat}(h:n<3):tu ⟨(⟨#[107]⟩:ByteArray),⟨2,⟨#[]⟩,n⟩⟩:=⟨smn (by decide+kernel:qI (⟨#[107]⟩:ByteArray) mQ=true),.inr ⟨rfl,rfl,by show (-2:Int)≤n;omega,by show (n:Int)≤4;omega⟩⟩
theorem cZ {w:World}{C:Array Value}{L:List Value}{T:TypeId}{n n' size base g:Nat}(hC:C=L.toArray) (hg:g=w.heap.size) (he:n' =n) (hl:L.length=n*size) (hn:n≤maxLen) (hb:base≤w.heap.size):(w.alloc (.cells C T)).ownsRow base T size (.slice (some ⟨g,0,none⟩) n n) n' L:=by
 subst hg;subst hC;subst he;exact ng w L T _ size base hl hn hb
theorem bT {w:World}{base:Nat}{e:TypeId}{size n:Nat}{u:Value}{xs:List Value}(h:w.ownsRow base e size u n xs) (o:Obj):(w.alloc o).ownsRow base e size u n xs:=h.alloc o
theorem dx {w:World}{base:Nat}{e:TypeId}{size n:Nat}{u:Value}{xs:List Value}(h:w.ownsRow base e size u n xs):w.drew.ownsRow base e size u n xs:=h
theorem D7 {P:Program}{t e:TypeId}{z:Value}{size bytes:Nat}(E:O5 P t e z size bytes) {w:World}{ops:Array Oper}{o:Oper}{a:Act}{K:Act→World→Prop}{Q:Exit→Act→World→Prop}{G:Prop}(hgd:o.guard=none) (s x:Operand)
 (ho:o.op= .call {callee:= .builtin .append,args:= #[s,x],argTypes:= #[t,t]})
 (base:Nat) (v:Value) (n:Nat) (xs:List Value) (hs:a.eval s=v) (hown:w.ownsRow base e size v n xs)
 (u:Value) (m:Nat) (ys:List Value) (hx:a.eval x=u) (hu:Rd w u m ys) (hl:ys.length=m*size) (h1:∀u∈ys,u.oneCell' =true)
 (hn:(n+m)*bytes≤140737488355328∧n+m<140737488355328) (hbase:base≤w.heap.size)
 (h:∀a' cap' w',w'.ownsRow base e size (.slice a' (n+m) cap') (n+m) (xs++ys)→w.grownBy w' v.ownBlock→K (a.put o.dst (.slice a' (n+m) cap')) w'):
 if Region.wanted o (yielded ops a.tmps)=true then Oper.wp P o a w K Q else G:=by
 obtain ⟨ua,uc,rfl,hug⟩:=hu
 have hrun:∃v' w',(Builtin.append_ #[t,t] o.type #[v,.slice ua m uc]).run P w= .ok v' w' ∧w'.ownsRow base e size v' (n+m) (xs++ys)∧w.grownBy w' v.ownBlock:=by
  by_cases hm:0<m
  · obtain ⟨g,off,rfl,hg⟩:=hug hm
    obtain ⟨v',w',hr,h2,h3,_⟩:=Ep (P:=P) (ty:=o.type) E v n xs hown ⟨g,off,none⟩ m uc ys hl (fun j u hj=>by rw [Addr.add_mid];exact hg j u hj) h1 (by have:=hn.2;unfold maxLen;omega) hn.1 hbase hm
    exact ⟨v',w',hr,h2,h3⟩
  · have hm0:m=0:=by omega
    subst hm0
    have hys:ys= []:=by rw [Nat.zero_mul]at hl;exact List.length_eq_zero_iff.1 hl
    subst hys
    obtain ⟨i,hi,hz,hsize,hby⟩:=E.info
    obtain ⟨va,vc,rfl,_⟩:=aY hown
    have hle:=iU hown va vc rfl
    refine ⟨.slice va n vc,w,?_,by rw [List.append_nil];exact hown,o8 _ _⟩
    refine run_append_nothing w t t o.type e i E.und hi va n vc hle _ ?_
    cases ua with
    |none=>exact Src.ofNil w E.und uc
    |some ad=>exact Src.ofSlice w E.und ad 0 uc [] (by simp) (fun j u hj=>by simp at hj) (by simp)
 obtain ⟨v',w',hr,h2,h3⟩:=hrun
 obtain ⟨a',cap',rfl,_⟩:=aY h2
 have hwn:Region.wanted o (yielded ops a.tmps)=true:=by unfold Region.wanted;rw [hgd]
 rw [if_pos hwn]
 unfold Oper.wp execOp
 simp only [ho,resolve,invoke,builtin,Sem.run_bind,Sem.run_pure,Result.andThen_ok,List.map_toArray,List.map_cons,List.map_nil,hs,hx,hr]
 exact h a' cap' w' h2 h3
theorem fu {G:Act→World→Prop}{a:Act}{W:World}{P:World→Prop}(h:P W) (k:∀W',P W' →G a W'):G a W:=k W h
theorem kr {ops:Array Oper}{rest:List Oper}{op:Oper}{a:Act}{w W:World}{b:Nat}{Q:Exit→Act→World→Prop}{V:Array Value}(hW:w.alloc (.cells V 31)=W) (hgd:op.guard=none) (x y:Operand) (ho:op.op= .store 31 x y)
 (hb:b=w.heap.size) (hx:a.eval x= .pointer (some ⟨b,0,none⟩)) (hy:a.eval y= .agg V) (hV:V.size=18) (h1' :V.toList.all (·.oneCell')=true) (h:wpList Tryz.prog ops Q rest (a.put op.dst undef) W):
 wpList Tryz.prog ops Q (op::rest) a (w.alloc (.cells #[.int .i64 0,.string ⟨#[]⟩,.string ⟨#[]⟩,.string ⟨#[]⟩,.string ⟨#[]⟩,.int .i64 0,.string ⟨#[]⟩,.int .i64 0,.string ⟨#[]⟩,.int .i64 0,.slice none 0 0,.slice none 0 0,.slice none 0 0,.slice none 0 0,.int .i64 0,.int .i64 0,.int .i64 0,.slice none 0 0] 31)):=by
 subst hW
 exact fZ hgd x y ho hb hx hy hV h1' h
theorem dM.wrote {K:LK}{w W W' :World}{r:Nat}{V:Array Value}{T:TypeId}(h:dM K w W) (hw:Wrote W r V T W') (hr:w.heap.size≤r):dM K w W' :=by
 have hs:=h.2.1.size
 have h2:=h.2.2
 have hL:=K.hL
 have hB:=K.hb
 refine ⟨h.1.keep (Nat.le_of_eq hw.size.symm) (hw.rest _ (by omega)) (hw.below _ _ h.1.2.1 (by omega)),⟨?_,?_,?_,by rw [hw.size];exact hs,fun i hi hne=>by rw [hw.rest i (by omega)];exact h.2.1.block i hi hne⟩,h2⟩
 · have:=hw.below _ _ (Below.refl W.heap.size W|>.mono (show 0≤W.heap.size by omega)) (by omega)
   exact this.os.trans h.2.1.os
 · have:=hw.below _ _ (Below.refl W.heap.size W|>.mono (show 0≤W.heap.size by omega)) (by omega)
   exact this.tape.trans h.2.1.tape
 · have:=hw.below _ _ (Below.refl W.heap.size W|>.mono (show 0≤W.heap.size by omega)) (by omega)
   exact this.output.trans h.2.1.output
theorem kS {W W' :World}{r:Nat}{C V:Array Value}{T e:TypeId}{base size n:Nat}{v:Value}{xs:List Value}(h:W.ownsRow base e size v n xs) (hr:W.heap[r]? =some (.cells C T (0,0))) (hw:Wrote W r V T W') (hne:e≠T):W'.ownsRow base e size v n xs:=by
 have hnb:=fG h hr hne
 obtain ⟨h1,h2⟩:=h
 refine ⟨h1,?_⟩
 rcases h2 with h2|⟨g,c,cur,e1,e2,e3,e4⟩
 · exact .inl h2
 · subst e1
   exact .inr ⟨g,c,cur,rfl,e2,by rw [hw.rest g (fun e=>hnb (by rw [e];rfl))];exact e3,e4⟩
theorem Cj {K:LK}{w W W' :World}{r:Nat}{C:Array Value}{x:Sx}{tc c s wv:Value}(hD:dM K w W) (hr:W.heap[r]? =some (.cells C 31 (0,0))) (hrr:w.heap.size≤r) (hw:Wrote W r (aF x tc c s wv ak) 31 W') (hx:KG x) (hR:gN W w.heap.size x tc c s wv):
 Ci K w (.returned (.agg (aF x tc c s wv ak))) W' :=
 ⟨x,tc,c,s,wv,rfl,hx,⟨kS hR.1 hr hw (by decide),kS hR.2.1 hr hw (by decide),kS hR.2.2.1 hr hw (by decide),kS hR.2.2.2 hr hw (by decide)⟩,hD.wrote hw hrr⟩
structure Env (K:LK) (w W:World) (bx:Nat) (R:List (Nat×Obj)) (x:Sx) (c sv wv:Value):Prop where
 did:dM K w W
 hr:W.heap[w.heap.size]? =some oZ
 hx:W.heap[bx]? =some (.cells (aF x ak c sv wv ak) 31 (0,0))
 lt:w.heap.size<bx
 rest:∀r∈R,w.heap.size≤r.1∧r.1≠bx∧W.heap[r.1]? =some r.2
section
variable {K:LK}{w W W' :World}{bx:Nat}{R:List (Nat×Obj)}{x:Sx}{c sv wv:Value}
theorem Env.base (h:Env K w W bx R x c sv wv):w.heap.size≤W.heap.size:=h.did.size
theorem Env.q (h:Env K w W bx R x c sv wv):LQ K W:=h.did.1
theorem Env.own (h:Env K w W bx R x c sv wv) (o:Nat) (v:Value) {x' :Sx}{c' sv' wv' :Value}(e:(aF x ak c sv wv ak).setIfInBounds o v=aF x' ak c' sv' wv' ak):Env K w (W.setCell ⟨bx,o,none⟩ v) bx R x' c' sv' wv' :=
 ⟨h.did.own (Nat.le_of_lt h.lt) o v,bN h.hr _ _ (by have:=h.lt;show w.heap.size≠bx;omega),by rw [bU h.hx o v,e],h.lt,fun r hr=>⟨(h.rest r hr).1,(h.rest r hr).2.1,bN (h.rest r hr).2.2 _ _ (h.rest r hr).2.1⟩⟩
theorem Env.kind (h:Env K w W bx R x c sv wv) (n:Int):Env K w (W.setCell ⟨bx,0,none⟩ (.int .i64 n)) bx R {x with kind:=n} c sv wv:=h.own 0 _ rfl
theorem Env.iK (h:Env K w W bx R x c sv wv) (n:ByteArray):Env K w (W.setCell ⟨bx,2,none⟩ (.string n)) bx R {x with bM:=n} c sv wv:=h.own 2 _ rfl
theorem Env.stamp (h:Env K w W bx R x c sv wv) (n:Int):Env K w (W.setCell ⟨bx,14,none⟩ (.int .i64 n)) bx R {x with stamp:=n} c sv wv:=h.own 14 _ rfl
theorem Env.ttl (h:Env K w W bx R x c sv wv) (n:Int):Env K w (W.setCell ⟨bx,15,none⟩ (.int .i64 n)) bx R {x with ttl:=n} c sv wv:=h.own 15 _ rfl
theorem Env.cO (h:Env K w W bx R x c sv wv) (v:Value):Env K w (W.setCell ⟨bx,11,none⟩ v) bx R x v sv wv:=h.own 11 _ rfl
theorem Env.cK (h:Env K w W bx R x c sv wv) (v:Value):Env K w (W.setCell ⟨bx,12,none⟩ v) bx R x c v wv:=h.own 12 _ rfl
theorem Env.setW (h:Env K w W bx R x c sv wv) (v:Value):Env K w (W.setCell ⟨bx,13,none⟩ v) bx R x c sv v:=h.own 13 _ rfl
theorem Env.cast (h:Env K w W bx R x c sv wv) {x' :Sx}(e:aF x ak c sv wv ak=aF x' ak c sv wv ak):Env K w W bx R x' c sv wv:=⟨h.did,h.hr,by rw [←e];exact h.hx,h.lt,h.rest⟩
theorem Env.keep (h:Env K w W bx R x c sv wv) (hb:Below W.heap.size W W'):Env K w W' bx R x c sv wv:=
 have k:∀{b:Nat} {o:Obj},W.heap[b]? =some o→W'.heap[b]? =some o:=fun hh=>by rw [hb.block _ (aC hh)];exact hh
 ⟨h.did.below hb,k h.hr,k h.hx,h.lt,fun r hr=>⟨(h.rest r hr).1,(h.rest r hr).2.1,k (h.rest r hr).2.2⟩⟩
theorem Env.alloc (h:Env K w W bx R x c sv wv) (o:Obj):Env K w (W.alloc o) bx R x c sv wv:=h.keep ((Below.refl _ _).alloc (Nat.le_refl _) o)
theorem Env.drew (h:Env K w W bx R x c sv wv):Env K w W.drew bx R x c sv wv:=h.keep (Below.refl _ _).drew
theorem Env.call (h:Env K w W bx R x c sv wv) (hd:dM K W W'):Env K w W' bx R x c sv wv:=
 have hL:=h.did.2.2
 have hl:=h.lt
 ⟨h.did.trans hd,hd.blk h.hr hL,hd.blk h.hx (by omega),h.lt,fun r hr=>⟨(h.rest r hr).1,(h.rest r hr).2.1,hd.blk (h.rest r hr).2.2 (by have:=(h.rest r hr).1;omega)⟩⟩
theorem Env.grown (h:Env K w W bx R x c sv wv) {e:TypeId}{size n:Nat}{v:Value}{xs:List Value}(hu:W.ownsRow w.heap.size e size v n xs) (hne:e≠31) (hg:W.grownBy W' v.ownBlock):Env K w W' bx [] x c sv wv:=
 have k:∀{b:Nat} {C:Array Value} {fr:Nat×Nat},W.heap[b]? =some (.cells C 31 fr)→W'.heap[b]? =some (.cells C 31 fr):=fun hh=>by rw [hg.block _ (aC hh) (fun e' =>fG hu hh hne e'.symm)];exact hh
 ⟨h.did.grown hg (fun g hg2=>(hu.lt g hg2).1),k h.hr,k h.hx,h.lt,fun r hr=>(List.not_mem_nil hr).elim⟩
theorem Env.cells (h:Env K w W bx R x c sv wv):bx<W.heap.size∧W.cell? ⟨bx,0,none⟩=some (.int .i64 x.kind)∧W.cell? ⟨bx,2,none⟩=some (.string x.bM)∧W.cell? ⟨bx,11,none⟩=some c∧W.cell? ⟨bx,12,none⟩=some sv∧W.cell? ⟨bx,13,none⟩=some wv∧W.cell? ⟨bx,14,none⟩=some (.int .i64 x.stamp)∧W.cell? ⟨bx,15,none⟩=some (.int .i64 x.ttl)∧∀o,W.frozen? ⟨bx,o,none⟩=false:=
 ⟨aC h.hx,by rw [aj h.hx];rfl,by rw [aj h.hx];rfl,by rw [aj h.hx];rfl,by rw [aj h.hx];rfl,by rw [aj h.hx];rfl,by rw [aj h.hx];rfl,by rw [aj h.hx];rfl,fun o=>ah h.hx o⟩
end
def Fin (Q:Sx→Prop) (K:LK) (w:World) (bx:Nat) (W:World):Prop:=∃x c sv wv,dM K w W∧W.heap[w.heap.size]? =some oZ∧W.heap[bx]? =some (.cells (aF x ak c sv wv ak) 31 (0,0))∧gN W w.heap.size x ak c sv wv∧Q x
theorem Env.fin {Q:Sx→Prop}{K:LK}{w W:World}{bx:Nat}{R:List (Nat×Obj)}{x:Sx}{c sv wv:Value}(h:Env K w W bx R x c sv wv) (C:List ByteArray) (S V:List Pr) (hc:W.ownsRow w.heap.size 9 1 c C.length (C.map Value.string)) (hs:W.ownsRow w.heap.size 61 4 sv S.length (bQ S)) (hv:W.ownsRow w.heap.size 61 4 wv V.length (bQ V)) (hx:x.aN= []) (hq:Q {x with aO:=C,sets:=S,aP:=V}):Fin Q K w bx W:=
 ⟨{x with aO:=C,sets:=S,aP:=V},c,sv,wv,h.did,h.hr,h.hx,⟨by show W.ownsRow _ _ _ _ x.aN.length (iM x.aN);rw [hx];exact World.ownsRow_nil _ _ _ _,hc,hs,hv⟩,hq⟩
def Mid (b:Bool) (K:LK) (w w1:World) (s:ByteArray) (q:Int) (W:World):Prop:=∃st tt:Int,(0≤st∧st≤9)∧(0≤tt∧tt≤9)∧(b=false→tt=0)∧Env K w W (w1.heap.size+1+1) [(w1.heap.size,oP s),(w1.heap.size+1,oK q)] {Sx.zero with bM:=(⟨#[116]⟩:ByteArray),stamp:=st,ttl:=tt} ak ak ak
theorem Yn (n:Nat):n=0∨n=1∨(((n:Int)==0)=false∧((n:Int)==1)=false):=by
 rcases Nat.lt_or_ge n 2 with h|h
 · omega
 · exact .inr (.inr ⟨beq_eq_false_iff_ne.2 (by omega),beq_eq_false_iff_ne.2 (by omega)⟩)
theorem Mf {m:List Pr}(h:(m.map Pr.name).Sublist D5):m.length≤4:=by
 have:=h.length_le
 simpa [D5]using this
theorem Sy {W:World}{base:Nat}{e:TypeId}{v:Value}{a b:Pr}{m:List Pr}(h:W.ownsRow base e 4 v (2+m.length) (bQ [a,b]++bQ m)):W.ownsRow base e 4 v ([a,b]++m).length (bQ ([a,b]++m)):=by
 have e1:([a,b]++m).length=2+m.length:=by simp;omega
 have e2:bQ ([a,b]++m)=bQ [a,b]++bQ m:=by simp [bQ]
 rw [e1,e2];exact h
theorem FP {s:ByteArray}{q:Nat}(hs:s∈yh) (hq:q<3):∀p∈ [(⟨(⟨#[112]⟩:ByteArray),⟨1,s,0⟩⟩:Pr),⟨(⟨#[107]⟩:ByteArray),⟨2,⟨#[]⟩,(q:Int)⟩⟩],tu p:=fun p hp=>by
 rcases List.mem_cons.1 hp with rfl|hp
 · exact Vy hs
 · rw [List.mem_singleton.1 hp];exact acy hq
end Go.Proofs.YtfbgdjcnlnfoaaaGreatDoor
