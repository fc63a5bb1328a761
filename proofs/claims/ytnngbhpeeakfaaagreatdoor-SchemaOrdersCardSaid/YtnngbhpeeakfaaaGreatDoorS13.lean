/- Plain: schemas of tables that bear one letter, made in any order. -/
import Derived.Test.YtnngbhpeeakfaaaGreatDoorB06
import Derived.Test.YtnngbhpeeakfaaaGreatDoorB09
namespace Go.Proofs.YtnngbhpeeakfaaaGreatDoor
namespace aK
def odN (k:Nat):ByteArray:=⟨#[UInt8.ofNat (112+k)]⟩
def odT (k:Nat) (i:Int):Tb:=⟨odN k,i,⟨(⟨#[97]⟩:ByteArray),1⟩,⟨(⟨#[98]⟩:ByteArray),2⟩, []⟩
def odF (q:List Nat) (k:Nat):Option Tb:=if q.contains k then some (odT k (q.idxOf k+1))else none
def odS (q:List Nat):Sc:=⟨q.length,(List.range 6).filterMap (odF q), []⟩
def apB:List Tb→Bool
 | []=>true
 |t::l=>l.all (fun u=>ltB t.name u.name&& !ltB u.name t.name)&&apB l
def odG (q:List Nat):Bool:=
 (odS q).check&&((odS q).ts.length==q.length&&(apB (odS q).ts&&(List.range 6).all fun k=>(odS q).there (odN k)==q.contains k&&match jP (odS q).ts (odN k)with|some t=>t.id==(q.idxOf k+1:Nat)|none=> !q.contains k))
theorem od_0:odG []=true:=by decide+kernel
theorem od_1:((List.range 6).all fun a=>odG [a])=true:=by decide+kernel
theorem od_2:((List.range 6).all fun a=>(List.range 6).all fun b=>a==b||odG [a,b])=true:=by decide+kernel
theorem od_3:((List.range 6).all fun a=>(List.range 6).all fun b=>a==b||(List.range 6).all fun c=>(a==c||b==c)||odG [a,b,c])=true:=by decide+kernel
theorem od_4:((List.range 6).all fun a=>(List.range 6).all fun b=>a==b||(List.range 6).all fun c=>(a==c||b==c)||(List.range 6).all fun d=>(a==d||(b==d||c==d))||odG [a,b,c,d])=true:=by decide+kernel
end aK
end Go.Proofs.YtnngbhpeeakfaaaGreatDoor
namespace Go.Proofs.YtnngbhpeeakfaaaGreatDoor
namespace aK
structure OdOK (q:List Nat):Prop where
 n:q.length≤4
 lt:∀k∈q,k<6
 nd:q.Nodup
theorem OdOK.nil:OdOK []:=⟨by decide,(fun _ h=>nomatch h),List.nodup_nil⟩
theorem OdOK.add {q:List Nat}{k:Nat}(h:OdOK q) (hn:q.length<4) (hk:k<6) (hm:¬k∈q):OdOK (q++ [k]):=by
 refine ⟨by simp;omega,fun j hj=> ?_, ?_⟩
 · rcases List.mem_append.1 hj with hj|hj
   · exact h.lt j hj
   · rw [List.mem_singleton.1 hj];exact hk
 · exact List.nodup_append.2 ⟨h.nd,by simp,fun a ha b hb e=>hm (by rw [List.mem_singleton.1 hb]at e;rw [←e];exact ha)⟩
theorem all_lt {n:Nat}{f:Nat→Bool}(h:(List.range n).all f=true) (k:Nat) (hk:k<n):f k=true:=List.all_eq_true.1 h k (List.mem_range.2 hk)
theorem or_ne {a b:Nat}{r:Bool}(h:(a==b||r)=true) (hn:¬a=b):r=true:=by simpa [hn]using h
theorem od_good {q:List Nat}(h:OdOK q):odG q=true:=by
 obtain ⟨hn,hl,hd⟩:=h
 match q,hn,hl,hd with
 | [],_,_,_=>exact od_0
 | [a],_,hl,_=>exact all_lt od_1 a (hl a (by simp))
 | [a,b],_,hl,hd=>
  simp at hd
  exact or_ne (all_lt (all_lt od_2 a (hl a (by simp))) b (hl b (by simp))) hd
 | [a,b,c],_,hl,hd=>
  simp at hd
  have h1:=all_lt (or_ne (all_lt (all_lt od_3 a (hl a (by simp))) b (hl b (by simp))) hd.1.1) c (hl c (by simp))
  simpa [hd.1.2,hd.2]using h1
 | [a,b,c,d],_,hl,hd=>
  simp at hd
  have h1:=all_lt (or_ne (all_lt (all_lt od_4 a (hl a (by simp))) b (hl b (by simp))) hd.1.1) c (hl c (by simp))
  have h2:((List.range 6).all fun d=>(a==d||(b==d||c==d))||odG [a,b,c,d])=true:=by simpa [hd.1.2.1,hd.2.1.1]using h1
  have h3:=all_lt h2 d (hl d (by simp))
  simpa [hd.1.2.2,hd.2.1.2,hd.2.2]using h3
 |_::_::_::_::_::_,hn,_,_=>exact absurd hn (by simp)
theorem od_facts {q:List Nat}(h:OdOK q):(odS q).check=true∧(odS q).ts.length=q.length∧apB (odS q).ts=true∧∀k,k<6→(odS q).there (odN k)=q.contains k∧∀t,jP (odS q).ts (odN k)=some t→t.id=(q.idxOf k+1:Nat):=by
 have hg:=od_good h
 unfold odG at hg
 simp only [Bool.and_eq_true,beq_iff_eq]at hg
 obtain ⟨h1,h2,h3,h4⟩:=hg
 refine ⟨h1,h2,h3,fun k hk=> ?_⟩
 have h5:=all_lt h4 k hk
 simp only [Bool.and_eq_true,beq_iff_eq]at h5
 refine ⟨h5.1,fun t ht=> ?_⟩
 have h6:=h5.2
 rw [ht]at h6
 simpa using h6
theorem filter_same {f g:Nat→Option Tb}:∀{l:List Nat},(∀j∈l,g j=f j)→l.filterMap g=l.filterMap f
 | [],_=>rfl
 |j::l,h=>by rw [List.filterMap_cons,List.filterMap_cons,h j List.mem_cons_self,filter_same fun i hi=>h i (List.mem_cons_of_mem _ hi)]
theorem filter_more {f g:Nat→Option Tb}{x:Tb}{k:Nat}(hf:f k=none) (hg:g k=some x) (he:∀j,¬j=k→g j=f j):∀l:List Nat,l.Nodup→k∈l→(l.filterMap g).Perm (l.filterMap f++ [x])
 | [],_,h=>nomatch h
 |j::l,hd,hm=>by
  by_cases hj:j=k
  · subst hj
    have hn:=(List.nodup_cons.1 hd).1
    have e:l.filterMap g=l.filterMap f:=filter_same fun a ha=>he a fun e=>hn (e▸ha)
    rw [List.filterMap_cons_none hf,List.filterMap_cons_some hg,e]
    exact (List.perm_append_singleton x _).symm
  · have ih:=filter_more hf hg he l (List.nodup_cons.1 hd).2 (List.mem_of_ne_of_mem (fun e=>hj e.symm) hm)
    cases hfj:f j with
    |none=>rw [List.filterMap_cons_none hfj,List.filterMap_cons_none ((he j hj).trans hfj)];exact ih
    |some y=>rw [List.filterMap_cons_some hfj,List.filterMap_cons_some ((he j hj).trans hfj)];exact ih.cons y
theorem od_perm {q:List Nat}{k:Nat}(hk:k<6) (hm:¬k∈q):(odS (q++ [k])).ts.Perm ((odS q).ts++ [odT k (q.length+1)]):=by
 refine filter_more (k:=k) ?_ ?_ (fun j hj=> ?_) (List.range 6) List.nodup_range (List.mem_range.2 hk)
 · unfold odF
   rw [if_neg];simpa using hm
 · unfold odF
   rw [if_pos (by simp),List.idxOf_append,if_neg hm]
   simp
 · unfold odF
   by_cases h:j∈q
   · rw [if_pos (by simp [h]),if_pos (by simpa using h),List.idxOf_append,if_pos h]
   · rw [if_neg (by simp [h,hj]),if_neg (by simpa using h)]
theorem ap_le:∀{l:List Tb},apB l=true→l.Pairwise fun a b=>ltB b.name a.name=false
 | [],_=> .nil
 |t::l,h=>by
  unfold apB at h
  rw [Bool.and_eq_true]at h
  refine .cons (fun u hu=> ?_) (ap_le h.2)
  have:=List.all_eq_true.1 h.1 u hu
  simp at this
  exact this.2
theorem ap_one:∀{l:List Tb},apB l=true→∀a∈l,∀b∈l,ltB b.name a.name=false→ltB a.name b.name=false→a=b
 | [],_,_,h,_,_,_,_=>nomatch h
 |t::l,h,a,ha,b,hb,h1,h2=>by
  unfold apB at h
  rw [Bool.and_eq_true]at h
  rcases List.mem_cons.1 ha with e|ha2
  · rcases List.mem_cons.1 hb with e2|hb2
    · rw [e,e2]
    · have:=List.all_eq_true.1 h.1 b hb2
      rw [←e,h2]at this
      exact absurd this (by simp)
  · rcases List.mem_cons.1 hb with e2|hb2
    · have:=List.all_eq_true.1 h.1 a ha2
      rw [←e2,h1]at this
      exact absurd this (by simp)
    · exact ap_one h.2 a ha2 b hb2 h1 h2
theorem od_sorted {q:List Nat}{k:Nat}(h:OdOK (q++ [k])) (hk:k<6) (hm:¬k∈q) {l:List Tb}(hp:l.Perm ((odS q).ts++ [odT k (q.length+1)])) (hs:l.Pairwise fun a b=>ltB b.name a.name=false):l=(odS (q++ [k])).ts:=by
 have ha:=(od_facts h).2.2.1
 have hp2:=hp.trans (od_perm hk hm).symm
 exact hp2.eq_of_pairwise (fun a b h1 h2 h3 h4=>ap_one ha a (hp2.mem_iff.1 h1) b h2 h3 h4) hs (ap_le ha)
end aK
end Go.Proofs.YtnngbhpeeakfaaaGreatDoor
namespace Go.Proofs.YtnngbhpeeakfaaaGreatDoor
namespace aK
def odX (k:Nat):Sx:=⟨1,odN k,⟨#[]⟩,⟨#[]⟩,odN k,0,⟨(⟨#[97]⟩:ByteArray),1⟩,⟨(⟨#[98]⟩:ByteArray),2⟩, [], [], [], [],0,0,0⟩
theorem od_parse0:dJ (⟨#[99,114,101,97,116,101,32,116,97,98,108,101,32,112,32,40,97,32,116,101,120,116,44,32,98,32,105,110,116,44,32,112,114,105,109,97,114,121,32,107,101,121,32,40,97,44,32,98,41,41]⟩:ByteArray)=(⟨odX 0, []⟩,0,0):=by kernel_rfl
theorem od_parse1:dJ (⟨#[99,114,101,97,116,101,32,116,97,98,108,101,32,113,32,40,97,32,116,101,120,116,44,32,98,32,105,110,116,44,32,112,114,105,109,97,114,121,32,107,101,121,32,40,97,44,32,98,41,41]⟩:ByteArray)=(⟨odX 1, []⟩,0,0):=by kernel_rfl
theorem od_parse2:dJ (⟨#[99,114,101,97,116,101,32,116,97,98,108,101,32,114,32,40,97,32,116,101,120,116,44,32,98,32,105,110,116,44,32,112,114,105,109,97,114,121,32,107,101,121,32,40,97,44,32,98,41,41]⟩:ByteArray)=(⟨odX 2, []⟩,0,0):=by kernel_rfl
theorem od_parse3:dJ (⟨#[99,114,101,97,116,101,32,116,97,98,108,101,32,115,32,40,97,32,116,101,120,116,44,32,98,32,105,110,116,44,32,112,114,105,109,97,114,121,32,107,101,121,32,40,97,44,32,98,41,41]⟩:ByteArray)=(⟨odX 3, []⟩,0,0):=by kernel_rfl
theorem od_parse4:dJ (⟨#[99,114,101,97,116,101,32,116,97,98,108,101,32,116,32,40,97,32,116,101,120,116,44,32,98,32,105,110,116,44,32,112,114,105,109,97,114,121,32,107,101,121,32,40,97,44,32,98,41,41]⟩:ByteArray)=(⟨odX 4, []⟩,0,0):=by kernel_rfl
theorem od_parse5:dJ (⟨#[99,114,101,97,116,101,32,116,97,98,108,101,32,117,32,40,97,32,116,101,120,116,44,32,98,32,105,110,116,44,32,112,114,105,109,97,114,121,32,107,101,121,32,40,97,44,32,98,41,41]⟩:ByteArray)=(⟨odX 5, []⟩,0,0):=by kernel_rfl
theorem od_may:∀k:Nat,k<6→May ⟨odX k, []⟩
 |0,_=>xB od_parse0
 |1,_=>xB od_parse1
 |2,_=>xB od_parse2
 |3,_=>xB od_parse3
 |4,_=>xB od_parse4
 |5,_=>xB od_parse5
 |k+6,h=>absurd h (by omega)
theorem od_cut:∀k:Nat,k<6→(⟨#[112,113,114,115,116,117]⟩:ByteArray).extract k (k+1)=odN k:=by decide+kernel
theorem od_size (k:Nat):(odN k).size=1:=rfl
theorem ap_rise:∀{l:List Tb}{i:Nat}{a b:Tb},apB l=true→l[i]? =some a→l[i+1]? =some b→ltB a.name b.name=true
 | [],_,_,_,_,h,_=>nomatch h
 |t::l,0,a,b,h,h1,h2=>by
  unfold apB at h
  rw [Bool.and_eq_true]at h
  have hb:b∈l:=List.mem_of_getElem? (by simpa using h2)
  have:=List.all_eq_true.1 h.1 b hb
  obtain rfl:t=a:=by simpa using h1
  simp at this
  exact this.1
 |t::l,i+1,a,b,h,h1,h2=>by
  unfold apB at h
  rw [Bool.and_eq_true]at h
  exact ap_rise (i:=i) h.2 (by simpa using h1) (by simpa using h2)
theorem od_ts {q:List Nat}{t:Tb}(h:t∈(odS q).ts):∃k,k<6∧k∈q∧t=odT k (q.idxOf k+1):=by
 obtain ⟨k,hk,he⟩:=List.mem_filterMap.1 h
 unfold odF at he
 by_cases hc:q.contains k
 · rw [if_pos hc]at he
   exact ⟨k,List.mem_range.1 hk,by simpa using hc,(Option.some.inj he).symm⟩
 · rw [if_neg hc]at he;exact nomatch he
end aK
end Go.Proofs.YtnngbhpeeakfaaaGreatDoor
