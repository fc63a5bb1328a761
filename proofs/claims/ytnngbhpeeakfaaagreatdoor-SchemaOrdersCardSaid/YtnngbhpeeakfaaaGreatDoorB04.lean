/- Parts of a proof. -/
import Derived.WalkKit
import Derived.Test.YtnngbhpeeakfaaaGreatDoorB02
import Derived.Test.YtnngbhpeeakfaaaGreatDoorB03
namespace Go.Proofs.YtnngbhpeeakfaaaGreatDoor
namespace aK
theorem uI (n b0 b1 b2 b3 c1 c2 c3 w:Nat) (hw:(Lib.decodeN n b0 b1 b2 b3).2=w) (h1:1<w→c1=b1) (h2:2<w→c2=b2) (h3:3<w→c3=b3)
 (hok:(Lib.decodeN n b0 b1 b2 b3).1≠65533∨1<(Lib.decodeN n b0 b1 b2 b3).2):Lib.decodeN w b0 c1 c2 c3=Lib.decodeN n b0 b1 b2 b3:=by
 unfold Lib.decodeN at hok hw⊢;by_cases a1:b0<128
 · rw [if_pos a1,if_pos a1]
 · rw [if_neg a1]at hok hw;rw [if_neg a1,if_neg a1];by_cases a2:b0 / 32=6∧(1<n∧b1 / 64=2)
   · rw [if_pos a2]at hok hw;by_cases q:b0 % 32*64+b1 % 64≥128
     · rw [if_pos q]at hw;simp only at hw;obtain rfl:=h1 (by omega);rw [if_pos a2,if_pos ⟨a2.1,by omega,a2.2.2⟩]
     · rw [if_neg q]at hok;simp at hok
   · rw [if_neg a2]at hok hw;by_cases a3:b0 / 16=14∧(1<n∧b1 / 64=2)∧(2<n∧b2 / 64=2)
     · rw [if_pos a3]at hok hw;by_cases q:b0 % 16*4096+b1 % 64*64+b2 % 64≥2048∧(b0 % 16*4096+b1 % 64*64+b2 % 64<55296∨(57344≤b0 % 16*4096+b1 % 64*64+b2 % 64∧b0 % 16*4096+b1 % 64*64+b2 % 64≤1114111))
       · rw [if_pos q]at hw;simp only at hw;obtain rfl:=h1 (by omega);obtain rfl:=h2 (by omega);rw [if_neg a2,if_pos a3,if_neg (by omega),if_pos ⟨a3.1,⟨by omega,a3.2.1.2⟩,⟨by omega,a3.2.2.2⟩⟩]
       · rw [if_neg q]at hok;simp at hok
     · rw [if_neg a3]at hok hw;by_cases a4:b0 / 8=30∧(1<n∧b1 / 64=2)∧(2<n∧b2 / 64=2)∧(3<n∧b3 / 64=2)
       · rw [if_pos a4]at hok hw;by_cases q:b0 % 8*262144+b1 % 64*4096+b2 % 64*64+b3 % 64≥65536∧(b0 % 8*262144+b1 % 64*4096+b2 % 64*64+b3 % 64<55296∨(57344≤b0 % 8*262144+b1 % 64*4096+b2 % 64*64+b3 % 64∧b0 % 8*262144+b1 % 64*4096+b2 % 64*64+b3 % 64≤1114111))
         · rw [if_pos q]at hw;simp only at hw;obtain rfl:=h1 (by omega);obtain rfl:=h2 (by omega);obtain rfl:=h3 (by omega);rw [if_neg a2,if_neg a3,if_pos a4,if_neg (by omega),if_neg (by omega),if_pos ⟨a4.1,⟨by omega,a4.2.1.2⟩,⟨by omega,a4.2.2.1.2⟩,⟨by omega,a4.2.2.2.2⟩⟩]
         · rw [if_neg q]at hok;simp at hok
       · rw [if_neg a4]at hok;simp at hok
theorem yI (s:ByteArray) (n k:Nat) (hk:k<n) (hn:n≤s.size):bY (s.extract 0 n) k=bY s k:=by
 have h1:k<(s.extract 0 n).size:=by rw [ByteArray.size_extract];omega
 rw [←jk _ k h1,←jk s k (by omega)];congr 1;rw [ByteArray.getElem_extract];simp
theorem Dc (s:ByteArray) (n:Nat) (_hn:n≤s.size):s=s.extract 0 n++s.extract n s.size:=by
 apply ByteArray.ext;apply Array.ext';simp only [ByteArray.data_extract,ByteArray.data_append,Array.toList_extract,Array.toList_append,List.extract_eq_take_drop,List.drop_zero,Nat.sub_zero];rw [List.take_of_length_le (l:=s.data.toList.drop n) (by simp)];exact (List.take_append_drop n _).symm
theorem Qd {C:ByteArray→Prop}(nil:C ⟨#[]⟩)
 (cons:∀c t,valid c=true→(pts c).length=1→((∃b:UInt8,c=⟨#[b]⟩∧b.toNat<128)∨(∀b∈c.data.toList,128≤b.toNat))→valid t=true→C t→C (c++t)):
 ∀(n:Nat) (s:ByteArray),s.size≤n→valid s=true→C s:=by
 intro n
 induction n with
 |zero=>
  intro s hs _
  have:s=⟨#[]⟩:=by
   apply ByteArray.ext;exact Array.eq_empty_of_size_eq_zero (by show s.size=0;omega)
  rw [this];exact nil
 |succ n ih=>
  intro s hs hv;by_cases h0:s.size=0
  · exact ih s (by omega) hv
  · have hlt:0<s.size:=by omega
    have hw:=width_pos s 0 hlt;have hl:=width_le s 0 hlt;have hall:(dD s 0).all Pt.ok=true:=by rw [←iD];exact hv
    rw [bq s 0 hlt,List.all_cons,Bool.and_eq_true]at hall;have hok:=(Td s 0).1 hall.1;obtain ⟨w,hwd⟩:∃w,(Utf8.decode s 0).2=w:=⟨_,rfl⟩;rw [hwd]at hw hl;rw [Nat.zero_add]at hl;have hcs:(s.extract 0 w).size=w:=by rw [ByteArray.size_extract];omega
    have hf:=PS s 0 hlt
    have hbd:(Utf8.decode s 0).2≤4:=by
     rw [iV];rcases iW (s.size - 0) (bY s 0) (bY s (0+1)) (bY s (0+2)) (bY s (0+3)) (by omega)with h1|⟨_,_,_,h4,_⟩<;>omega
    have hdec:Utf8.decode (s.extract 0 w) 0=Utf8.decode s 0:=by
     rw [iV,iV s 0,hcs,Nat.sub_zero];rw [iV]at hok hwd;rw [yI s w 0 (by omega) (by omega)];exact uI (s.size - 0) (bY s 0) (bY s (0+1)) (bY s (0+2)) (bY s (0+3)) _ _ _ w hwd (fun h=>yI s w 1 (by omega) (by omega)) (fun h=>yI s w 2 (by omega) (by omega)) (fun h=>yI s w 3 (by omega) (by omega)) hok
    have hpc:pts (s.extract 0 w)= [⟨(Utf8.decode s 0).1,0,w⟩]:=by
     rw [iD,bq _ 0 (by omega),hdec,hwd,bI _ _ (by omega)]
    have hvc:valid (s.extract 0 w)=true:=by
     unfold valid;rw [hpc];have:=hall.1;rw [hwd]at this;simp [this]
    have hvt:valid (s.extract w s.size)=true:=by
     have:=qD (s.extract 0 w) (s.extract w s.size) hvc;rw [←Dc s w (by omega),hv]at this;exact this.symm
    have hcases:(∃b:UInt8,s.extract 0 w=⟨#[b]⟩∧b.toNat<128)∨(∀b∈(s.extract 0 w).data.toList,128≤b.toNat):=by
     rcases hf with ⟨h1,h2⟩|⟨h1,h2,h3⟩
     · left;have hw1:w=1:=by omega
       subst hw1;refine ⟨s[0],JA s 0 hlt, ?_⟩;rw [jk s 0 hlt];rcases h2 with h2|h2
       · exact h2.2
       · rw [h1]at hok;rcases hok with hok|hok
         · exact absurd h2 hok
         · omega
     · right;intro b hb;obtain ⟨k,hk,rfl⟩:=List.getElem_of_mem hb;have hk' :k<(s.extract 0 w).size:=hk;have:(s.extract 0 w).data.toList[k]=(s.extract 0 w)[k]:=rfl;rw [this,jk _ k hk',yI s w k (by omega) (by omega)];by_cases hk0:k=0
       · subst hk0;exact h1
       · have:=h3 k (by omega) (by omega);rw [Nat.zero_add]at this;omega
    rw [Dc s w (by omega)];exact cons _ _ hvc (by rw [hpc];rfl) hcases hvt (ih _ (by rw [ByteArray.size_extract];omega) hvt)
theorem Xj (a b:ByteArray):(⟨((a++b).data.toList.flatMap tQ).toArray⟩:ah)=⟨(a.data.toList.flatMap tQ).toArray⟩++⟨(b.data.toList.flatMap tQ).toArray⟩:=by
 apply ByteArray.ext;apply Array.ext';simp
theorem TJ:∀(l:List UInt8),(∀b∈l,128≤b.toNat)→l.flatMap tQ=l:=by
 intro l
 induction l with
 |nil=>intro _;rfl
 |cons c l ih=>
  intro h;have hc:c≠39:=fun e=>by have:=h c (List.mem_cons_self);rw [e]at this;exact absurd this (by decide)
  rw [List.flatMap_cons,ih (fun b hb=>h b (List.mem_cons_of_mem _ hb))];simp [tQ,hc]
theorem Qe (s:ByteArray) (h:valid s=true):valid ⟨(s.data.toList.flatMap tQ).toArray⟩=true:=by
 refine Qd (C:=fun s=>valid ⟨(s.data.toList.flatMap tQ).toArray⟩=true) rfl ?_ s.size s (Nat.le_refl _) h;intro c t hc _ hcs _ ht;rw [Xj]
 have hvc:valid ⟨(c.data.toList.flatMap tQ).toArray⟩=true:=by
  rcases hcs with ⟨b,rfl,hb⟩|hhi
  · by_cases Xk:b=39
    · subst Xk;decide+kernel
    · have e:(⟨((⟨#[b]⟩:ah).data.toList.flatMap tQ).toArray⟩:ah)=⟨#[b]⟩:=by
       apply ByteArray.ext;apply Array.ext';simp [tQ,Xk]
      rw [e];exact oC b hb
  · rw [TJ _ hhi];exact hc
 rw [qD _ _ hvc];exact ht
theorem uJ (s:ByteArray):quote s=⟨#[39]⟩++(⟨(s.data.toList.flatMap tQ).toArray⟩++⟨#[39]⟩):=by
 rw [Ad];apply ByteArray.ext;apply Array.ext';simp
theorem Bp (s:ByteArray) (h:valid s=true):valid (quote s)=true:=by
 rw [uJ,qD _ _ (oC 39 (by decide)),qD _ _ (Qe s h)];exact oC 39 (by decide)
def Z0 (t:ByteArray):Prop:=t.data.toList.head? ≠some 39
theorem Oq (c:UInt8) (hc:c≠39) (t:ByteArray):Z0 (⟨#[c]⟩++t):=by
 unfold Z0;rw [ByteArray.data_append,Array.toList_append];simp [hc]
theorem Ho (v t:ByteArray) (ht:Z0 t):bV (quote v++t) 0=some (v,(((quote v).size:Nat):Int)):=by
 have hd:(quote v++t).data.toList=39::(v.data.toList.flatMap tQ++39::t.data.toList):=by
  rw [ByteArray.data_append,Array.toList_append,CG];simp
 have hsz:(quote v++t).size=(quote v).size+t.size:=by rw [ByteArray.size_append]
 have hq:=wU v;unfold bV;rw [if_pos ⟨by omega,by omega,by rw [hd];rfl⟩,hd];simp only [Int.toNat_zero,Nat.zero_add,List.drop_succ_cons,List.drop_zero];rw [Od t.data.toList ht v.data.toList];simp only [Option.map_some,Option.some.injEq,Prod.mk.injEq];refine ⟨trivial, ?_⟩;rw [hq];omega
theorem TK (s:ByteArray):∀n pos,s.size - pos≤n→∀p∈dD s pos,p.at_<s.size:=by
 intro n
 induction n with
 |zero=>intro pos h p hp;rw [bI s pos (by omega)]at hp;cases hp
 |succ n ih=>
  intro pos h p hp;by_cases hlt:pos<s.size
  · have hw:=width_pos s pos hlt;rw [bq s pos hlt]at hp;rcases List.mem_cons.1 hp with rfl|hp
    · exact hlt
    · exact ih _ (by omega) p hp
  · rw [bI s pos hlt]at hp;cases hp
theorem aci (s:ByteArray) (k:Nat) (h:k<(pts s).length):(pts s)[k].at_<s.size:=
 TK s s.size 0 (by omega) _ (by rw [←iD];exact List.getElem_mem h)
theorem TL {v t:ByteArray}(hv:valid v=true) (hs:v.size≤100) (ht:Z0 t):dw (quote v++t) (pts (quote v++t)) 0=(⟨3,v,0,0⟩,true,(pts (quote v)).length)∧skip (pts (quote v++t)) 0=0∧pts (quote v)≠ []:=by
 have hvq:=Bp v hv;have hcut:=Cut.uD (quote v) t hvq;have hlen:=hcut.len;have e1:quote v++t=⟨#[39]⟩++((⟨(v.data.toList.flatMap tQ).toArray⟩++⟨#[39]⟩)++t):=by rw [uJ,jZ]
 have hst:Stop (quote v++t):=by rw [e1];exact uE 39 (by decide) _
 have hB:∀c,fE (pts (quote v++t)) 0 c=((39:Int)==c):=fun c=>by rw [e1];exact iF 39 (by decide) _ c
 have hq:=wU v
 have hne:pts (quote v)≠ []:=by
  rw [uJ,(rQ 39 (by decide) _).pts];simp
 have hend:bF (pts (quote v++t)) (((quote v).size:Nat):Int) 0=(pts (quote v)).length:=by
  refine FR (by rw [hlen];omega) (fun j hj=> ?_) ?_
  · simp only [Cm (quote v) t hvq j hj,List.getElem?_eq_getElem hj];exact decide_eq_true (by have:=aci (quote v) j hj;omega)
  · have:=hcut.get 0;rw [Nat.add_zero]at this;simp only [this];cases hp:(pts t)[0]? with
    |none=>rfl
    |some p=>
     simp only [Option.map_some];exact decide_eq_false (by show¬(((p.at_+(quote v).size:Nat):Int)<_);omega)
 refine ⟨?_, ?_,hne⟩
 · unfold dw;rw [hst.1,hst.2,hB,hB];show jm (quote v++t) (pts (quote v++t)) 0=_;unfold jm;rw [pX];show (match bV (quote v++t) 0 with|some x=>_|none=>_)=_;rw [Ho v t ht];simp only [];rw [hend,hv,decide_eq_true hs];rfl
 · refine gK ?_ ?_
   · unfold dL;rw [hB,hB,hB,hB];rfl
   · unfold iK;rw [hB];rfl
theorem Lx.text {v t:ByteArray}{l:List Tk}(hv:valid v=true) (hs:v.size≤100) (ht:Z0 t) (h:Lx t l):Lx (quote v++t) (⟨3,v,0,0⟩::l.map (Tk.on (pts (quote v)).length)):=by
 obtain ⟨h1,h2,h3⟩:=TL hv hs ht;exact Lx.tok (Bp v hv) h3 h2 h1 h
def su:List UInt8→Int→Bool→Int×Bool
 | [],v,ok=>(v,ok)
 |c::l,v,ok=>su l (min (v*10+((c.toNat:Int) - 48)) 1099511627776) (ok&&decide (v*10+((c.toNat:Int) - 48)≤1099511627776))
def EZ (l:List UInt8):Bool:=l.all fun c=>decide (48≤c.toNat)&&decide (c.toNat≤57)
theorem yJ (c:UInt8) (l:List UInt8):(⟨(c::l).toArray⟩:ah)=⟨#[c]⟩++⟨l.toArray⟩:=by
 apply ByteArray.ext;apply Array.ext';simp
theorem JR:∀l:List UInt8,(∀c∈l,c.toNat<128)→valid ⟨l.toArray⟩=true∧(pts ⟨l.toArray⟩).length=l.length:=by
 intro l
 induction l with
 |nil=>intro _;exact ⟨rfl,rfl⟩
 |cons c l ih=>
  intro h;have hc:=h c (List.mem_cons_self);obtain ⟨h1,h2⟩:=ih (fun b hb=>h b (List.mem_cons_of_mem _ hb));rw [yJ];refine ⟨by rw [qD _ _ (oC c hc)];exact h1, ?_⟩;rw [(rQ c hc _).len,h2];simp;omega
theorem Mh (t:ByteArray) (ht:bT (pts t) 0=false):∀(l:List UInt8),EZ l=true→∀v ok,
 num (pts (⟨l.toArray⟩++t)) 0 v ok=((su l v ok).1,(su l v ok).2,l.length):=by
 intro l
 induction l with
 |nil=>
  intro _ v ok;have e:(⟨([]:List UInt8).toArray⟩:ah)++t=t:=by apply ByteArray.ext;simp
  rw [e,jI ht];rfl
 |cons c l ih=>
  intro h v ok;simp only [EZ,List.all_cons,Bool.and_eq_true,decide_eq_true_eq]at h;have hlt:c.toNat<128:=by omega
  have ih' :=ih (by unfold EZ;exact h.2);rw [yJ,jZ];have hcut:=rQ c hlt (⟨l.toArray⟩++t)
  have hd:bT (pts (⟨#[c]⟩++(⟨l.toArray⟩++t))) 0=true:=by
   unfold bT;rw [rR c hlt];simp only [iw,Bool.and_eq_true,decide_eq_true_eq];omega
  have hr:jl (pts (⟨#[c]⟩++(⟨l.toArray⟩++t))) 0=(c.toNat:Int):=by unfold jl;rw [rR c hlt]
  rw [oI hd,hr];have:=hcut.num 0 (min (v*10+((c.toNat:Int) - 48)) 1099511627776) (ok&&decide (v*10+((c.toNat:Int) - 48)≤1099511627776));rw [Nat.add_zero]at this;show num _ ([(⟨c.toNat,0,1⟩:Pt)].length) _ _=_;rw [this,ih'];simp only [su,List.length_cons,List.length_nil];rw [Nat.add_comm]
def fT (neg:Bool):List UInt8:=if neg then [45]else []
theorem JU (neg:Bool) (l:List UInt8) (hl:EZ l=true) (hne:l≠ []) (t:ByteArray) (ht:bT (pts t) 0=false) (V:Int) (ok:Bool) (hV:su l 0 true=(V,ok)):
 dw (⟨(fT neg++l).toArray⟩++t) (pts (⟨(fT neg++l).toArray⟩++t)) 0=(⟨2,⟨#[]⟩,if neg then -V else V,0⟩,ok&& !dn (pts t) 0,(fT neg++l).length)∧skip (pts (⟨(fT neg++l).toArray⟩++t)) 0=0∧valid ⟨(fT neg++l).toArray⟩=true∧(pts ⟨(fT neg++l).toArray⟩).length=(fT neg++l).length:=by
 have hall:∀c∈fT neg++l,c.toNat<128:=by
  intro c hc;rcases List.mem_append.1 hc with hc|hc
  · unfold fT at hc;split at hc
    · rw [List.mem_singleton.1 hc];decide
    · cases hc
  · have:=List.all_eq_true.1 hl c hc;simp only [Bool.and_eq_true,decide_eq_true_eq]at this;omega
 obtain ⟨hv,hlen⟩:=JR _ hall;obtain ⟨d,l',rfl⟩:∃d l',l=d::l' :=by cases l with|nil=>exact absurd rfl hne|cons d l' =>exact ⟨d,l',rfl⟩
 have hdd:48≤d.toNat∧d.toNat≤57:=by
  have:=List.all_eq_true.1 hl d (List.mem_cons_self);simp only [Bool.and_eq_true,decide_eq_true_eq]at this;exact this
 have Z4:d.toNat<128:=by omega
 have acj:=Mh t ht (d::l') hl;have hds:∀r,(⟨(d::l').toArray⟩:ah)++r=⟨#[d]⟩++(⟨l'.toArray⟩++r):=fun r=>by rw [yJ,jZ]
 have hdig:bT (pts (⟨(d::l').toArray⟩++t)) 0=true:=by
  rw [hds];unfold bT;rw [rR d Z4];simp only [iw,Bool.and_eq_true,decide_eq_true_eq];omega
 have hend:dn (pts (⟨(fT neg++(d::l')).toArray⟩++t)) (fT neg++(d::l')).length=dn (pts t) 0:=by
  have hcut:=Cut.uD _ t hv;have:=hcut.dn 0;rw [Nat.add_zero,hlen]at this;exact this
 have hnb:∀x:Int,(x=32∨x=9∨x=10∨x=13∨x=39∨x=45)→fE (pts (⟨(d::l').toArray⟩++t)) 0 x=false:=by
  intro x hx;rw [hds,iF d Z4,beq_eq_false_iff_ne];omega
 have hnl:dn (pts (⟨(d::l').toArray⟩++t)) 0=false:=by
  rw [hds];unfold dn;rw [rR d Z4];simp only [dV];rw [Bool.and_eq_false_iff];right;simp only [Bool.or_eq_false_iff,Bool.and_eq_false_iff,beq_eq_false_iff_ne,decide_eq_false_iff_not];omega
 cases neg with
 |false=>
  have e0:fT false++(d::l')=d::l' :=rfl;rw [e0]at hend hv hlen⊢;refine ⟨?_, ?_,hv,hlen⟩
  · unfold dw;rw [hnl,hdig];show bR _ 0=_;unfold bR fV bJ;rw [hnb 45 (by omega)];simp only [Bool.false_eq_true,if_false];rw [hdig,acj 0 true,hV];simp only [];rw [hend];try rfl
  · refine gK ?_ ?_
    · unfold dL;rw [hnb 32 (by omega),hnb 9 (by omega),hnb 10 (by omega),hnb 13 (by omega)];rfl
    · unfold iK;rw [hnb 45 (by omega)];rfl
 |true=>
  have e0:fT true++(d::l')=45::(d::l'):=rfl;rw [e0]at hend hv hlen⊢;have e1:(⟨(45::(d::l')).toArray⟩:ah)++t=⟨#[45]⟩++(⟨(d::l').toArray⟩++t):=by rw [yJ,jZ]
  have hcut:=rQ 45 (by decide) (⟨(d::l').toArray⟩++t);have hB:∀x,fE (pts (⟨#[45]⟩++(⟨(d::l').toArray⟩++t))) 0 x=((45:Int)==x):=fun x=>iF 45 (by decide) _ x
  have hst:=uE 45 (by decide) (⟨(d::l').toArray⟩++t)
  have hd1:bT (pts (⟨#[45]⟩++(⟨(d::l').toArray⟩++t))) 1=true:=by
   have:=hcut.bT 0;rw [Nat.add_zero]at this;exact this.trans hdig
  have hn1:=hcut.num 0 0 true;rw [Nat.add_zero,acj 0 true,hV]at hn1;rw [e1]at hend⊢;refine ⟨?_, ?_,hv,hlen⟩
  · unfold dw;rw [hst.1,hst.2,hB];show bR _ 0=_;unfold bR fV bJ;rw [hB];show ((⟨2,⟨#[]⟩, -(num _ (0+1) 0 (bT _ (0+1))).1,0⟩,(num _ (0+1) 0 (bT _ (0+1))).2.1&& !dn _ (num _ (0+1) 0 (bT _ (0+1))).2.2,(num _ (0+1) 0 (bT _ (0+1))).2.2):Tk×Bool×Nat)=_;rw [hd1]
    have hn2:num (pts (⟨#[45]⟩++(⟨(d::l').toArray⟩++t))) (0+1) 0 true=(V,ok,(45::(d::l')).length):=by
     refine hn1.trans ?_;simp;omega
    rw [hn2];simp only [];rw [hend];try rfl
  · refine gK ?_ ?_
    · unfold dL;rw [hB,hB,hB,hB];rfl
    · unfold iK;have:=hcut.fE 0 45;rw [Nat.add_zero]at this;rw [show (0+1:Nat)= [(⟨(45:UInt8).toNat,0,1⟩:Pt)].length from rfl,this,hnb 45 (by omega),Bool.and_false]
theorem Mi (neg:Bool) (l:List UInt8) (hl:EZ l=true) (hne:l≠ []) (t:ByteArray) (ht:Stop t) (V:Int) (hV:su l 0 true=(V,true)):
 dw (⟨(fT neg++l).toArray⟩++t) (pts (⟨(fT neg++l).toArray⟩++t)) 0=(⟨2,⟨#[]⟩,if neg then -V else V,0⟩,true,(fT neg++l).length)∧skip (pts (⟨(fT neg++l).toArray⟩++t)) 0=0∧valid ⟨(fT neg++l).toArray⟩=true∧(pts ⟨(fT neg++l).toArray⟩).length=(fT neg++l).length:=by
 have h:=JU neg l hl hne t ht.2 V true hV;rw [ht.1]at h;exact h
theorem Lx.number (neg:Bool) (l:List UInt8) (hl:EZ l=true) (hne:l≠ []) {t:ByteArray}(ht:Stop t) (V:Int) (hV:su l 0 true=(V,true)) {k:List Tk}(h:Lx t k):
 Lx (⟨(fT neg++l).toArray⟩++t) (⟨2,⟨#[]⟩,if neg then -V else V,0⟩::k.map (Tk.on (fT neg++l).length)):=by
 obtain ⟨h1,h2,h3,h4⟩:=Mi neg l hl hne t ht V hV;have:=Lx.tok (l:=k) h3 (by intro e;rw [e]at h4;simp at h4;exact hne (List.eq_nil_of_length_eq_zero (by omega))) h2 (by rw [h1,h4]) h;rw [h4]at this;exact this
def JV:Nat→Nat→List UInt8
 |0,_=> []
 |f+1,n=>if n<10 then [UInt8.ofNat (48+n)]else JV f (n / 10)++ [UInt8.ofNat (48+n % 10)]
def dec (n:Nat):List UInt8:=JV (n+1) n
theorem Qf:∀f g n,n<f→n<g→JV f n=JV g n:=by
 intro f
 induction f with
 |zero=>intro g n h;omega
 |succ f ih=>
  intro g n h1 h2;cases g with
  |zero=>omega
  |succ g=>
   rw [JV,JV];split
   · rfl
   · rw [ih g (n / 10) (by omega) (by omega)]
theorem p8 {n:Nat}(h:n<10):dec n= [UInt8.ofNat (48+n)]:=by unfold dec;rw [JV,if_pos h]
theorem oP {n:Nat}(h:10≤n):dec n=dec (n / 10)++ [UInt8.ofNat (48+n % 10)]:=by
 unfold dec;rw [JV,if_neg (by omega),Qf n (n / 10+1) (n / 10) (by omega) (by omega)]
theorem vS (k:Nat) (h:k<10):(UInt8.ofNat (48+k)).toNat=48+k:=by
 rw [UInt8.toNat_ofNat'];omega
theorem Cn {C:Nat→Prop}(one:∀n,n<10→C n) (more:∀n,10≤n→C (n / 10)→C n):∀n,C n:=by
 intro n
 induction n using Nat.strongRecOn with
 |_ n ih=>
  by_cases h:n<10
  · exact one n h
  · exact more n (by omega) (ih (n / 10) (by omega))
theorem yK (n:Nat):EZ (dec n)=true∧dec n≠ []:=by
 refine Cn (C:=fun n=>EZ (dec n)=true∧dec n≠ []) (fun n h=> ?_) (fun n h ih=> ?_) n
 · rw [p8 h];refine ⟨?_,by simp⟩;simp only [EZ,List.all_cons,List.all_nil,Bool.and_true,Bool.and_eq_true,decide_eq_true_eq];rw [vS n h];omega
 · rw [oP h];refine ⟨?_,by simp⟩;have:=vS (n % 10) (by omega);unfold EZ at ih⊢;rw [List.all_append,ih.1];simp only [Bool.true_and,List.all_cons,List.all_nil,Bool.and_true,Bool.and_eq_true,decide_eq_true_eq];omega
theorem TM:∀(l:List UInt8) (m:List UInt8) v ok,su (l++m) v ok=su m (su l v ok).1 (su l v ok).2:=by
 intro l
 induction l with
 |nil=>intro m v ok;rfl
 |cons c l ih=>intro m v ok;rw [List.cons_append,su,ih,su]
theorem TN (n:Nat) (h:n≤1099511627776):su (dec n) 0 true=((n:Int),true):=by
 revert h;refine Cn (C:=fun n=>n≤1099511627776→su (dec n) 0 true=((n:Int),true)) (fun n h hn=> ?_) (fun n h ih hn=> ?_) n
 · rw [p8 h,su,su,vS n h];simp only [Prod.mk.injEq,Bool.true_and,decide_eq_true_eq];omega
 · rw [oP h,TM,ih (by omega),su,su,vS (n % 10) (by omega)];simp only [Prod.mk.injEq,Bool.true_and,decide_eq_true_eq];omega
def Ht (t:ByteArray) (a:Nat):Prop:=dP t (pts t) ((pts t).length+1) 0= .error a
theorem Ht.aX {t:ByteArray}{a:Nat}(h:Ht t a) (hs:t.size≤1000):aX t=([],a,3):=by
 unfold Ht at h;unfold aK.aX;rw [if_neg (by omega),h]
theorem Ht.here {t:ByteArray}(hne:pts t≠ []) (hsk:skip (pts t) 0=0) (hb:(dw t (pts t) 0).2.1=false):Ht t 0:=by
 unfold Ht;rw [CO (by rw [hsk];exact List.length_pos_iff.2 hne) (by rw [hsk];exact hb),hsk]
theorem Ht.blank (c:UInt8) (hc:c=32∨c=9∨c=10∨c=13) {t:ByteArray}{a:Nat}(h:Ht t a):Ht (⟨#[c]⟩++t) (1+a):=by
 have hlt:c.toNat<128:=by rcases hc with rfl|rfl|rfl|rfl<;>decide
 have hcut:=rQ c hlt t;have hlen:=hcut.len
 have hb:dL (pts (⟨#[c]⟩++t)) 0=true:=by
  unfold dL;rw [iF c hlt,iF c hlt,iF c hlt,iF c hlt];rcases hc with rfl|rfl|rfl|rfl<;>rfl
 have hsk:skip (pts (⟨#[c]⟩++t)) 0=skip (pts (⟨#[c]⟩++t)) 1:=gu (by rw [hlen];show 0<1+_;omega) hb;have hx:=hcut.dP ((pts (⟨#[c]⟩++t)).length+1) 0;rw [Nat.add_zero,Ai t (pts t) _ ((pts t).length+1) 0 (by rw [hlen];show _<1+_+1+0;omega) (by omega),h]at hx;refine Eq.trans ?_ hx;show _=dP _ _ _ 1;rw [dP,dP,hsk]
open Go.RowKit
def Zd (a b c d:ByteArray) (j:Nat):ByteArray:=if j=0 then a else if j=1 then b else if j=2 then c else d
def kr (n:Int):ByteArray:=⟨(fT (decide (n<0))++dec n.natAbs).toArray⟩
def wT (v:Nat):ByteArray:=
 if v % 4=0 then Zd ⟨#[97]⟩ ⟨#[115,101,108,101,99,116]⟩ ⟨#[95,57,120]⟩ ⟨#[116,116]⟩ (v / 4 % 4)
 else if v % 4=1 then ⟨#[]⟩
 else if v % 4=2 then Zd ⟨#[]⟩ ⟨#[97,39,98]⟩ ⟨#[45,45]⟩ ⟨#[65,32,98]⟩ (v / 4 % 4)
 else (⟨#[40,41,44,59,61,42]⟩:ah).extract (v / 4 % 6) (v / 4 % 6+1)
inductive Pc where
 |wd (s:ByteArray)
 |sg (c:UInt8)
 |tx (v:ByteArray)
 |nm (v:Int)
 |bl
def Pc.text:Pc→ByteArray
 | .wd s=>s
 | .sg c=>⟨#[c]⟩
 | .tx v=>quote v
 | .nm v=>kr v
 | .bl=>⟨#[32]⟩
def Pc.toks:Pc→List To
 | .wd s=> [(1,fold s,0)]
 | .sg c=> [(4,⟨#[c]⟩,0)]
 | .tx v=> [(3,v,0)]
 | .nm v=> [(2,⟨#[]⟩,v)]
 | .bl=> []
def Pc.ok:Pc→Prop
 | .wd s=>lZ s=true∧s.size≤100
 | .sg c=>c=40∨c=41∨c=44∨c=59∨c=61∨c=42
 | .tx v=>valid v=true∧v.size≤100
 | .nm v=> -1099511627776≤v∧v≤1099511627776
 | .bl=>True
def Pc.hard:Pc→Bool
 | .wd _=>true
 | .sg _=>false
 | .tx _=>true
 | .nm _=>true
 | .bl=>false
def aW:List Pc→ByteArray
 | []=>⟨#[]⟩
 |p::l=>p.text++aW l
def eG (l:List Pc):List To:=l.flatMap Pc.toks
def nb:Bool→List Pc→Bool
 |_, []=>true
 |h,p::l=> !(h&&p.hard)&&nb p.hard l
theorem bM (a b:List Pc):aW (a++b)=aW a++aW b:=by
 induction a with
 |nil=>show aW b=_;apply ByteArray.ext;simp [aW]
 |cons p a ih=>simp only [List.cons_append,aW,ih];rw [jZ]
theorem gy (a b:List Pc):eG (a++b)=eG a++eG b:=by simp [eG]
theorem bN (p:Pc) (l:List Pc):eG (p::l)=p.toks++eG l:=by simp [eG]
def LxF (t:ByteArray) (L:List To):Prop:=∃T,Lx t T∧T.map Tk.fo=L
theorem JW (m:Nat) (T:List Tk):(T.map (Tk.on m)).map Tk.fo=T.map Tk.fo:=by
 rw [List.map_map];rfl
theorem Aq {l:List Pc}(hok:∀p∈l,p.ok) (h:nb true l=true):Stop (aW l)∧Z0 (aW l):=by
 cases l with
 |nil=>exact ⟨Tp,by unfold Z0;simp [aW]⟩
 |cons p l=>
  unfold nb at h;cases p with
  |wd s=>exact absurd h (by simp [Pc.hard])
  |tx v=>exact absurd h (by simp [Pc.hard])
  |nm v=>exact absurd h (by simp [Pc.hard])
  |bl=>exact ⟨uE 32 (by decide) _,Oq 32 (by decide) _⟩
  |sg c=>
   have hc:=hok (.sg c) (List.mem_cons_self ..);unfold Pc.ok at hc;simp only at hc;refine ⟨uE c ?_ _,Oq c ?_ _⟩
   · rcases hc with rfl|rfl|rfl|rfl|rfl|rfl<;>decide
   · rcases hc with rfl|rfl|rfl|rfl|rfl|rfl<;>decide
theorem Co (h:Bool) (l:List Pc) (hn:nb h l=true):nb false l=true:=by
 cases l with
 |nil=>rfl
 |cons p l=>unfold nb at hn⊢;simp at hn⊢;exact hn.2
theorem Ot:∀(l:List Pc) (h:Bool),(∀p∈l,p.ok)→nb h l=true→LxF (aW l) (eG l)
 | [],_,_,_=>⟨[],Lx.nil,rfl⟩
 |p::l,h,hok,hn=>by
  have hok2:∀p∈l,p.ok:=fun q hq=>hok q (List.mem_cons_of_mem _ hq)
  have hp:=hok p (List.mem_cons_self ..);have hn2:nb p.hard l=true:=by unfold nb at hn;simp at hn;exact hn.2
  obtain ⟨T,hT,hF⟩:=Ot l p.hard hok2 hn2;rw [bN,←hF];cases p with
  |bl=>exact ⟨_,Lx.blank 32 (by decide) hT,by rw [JW];rfl⟩
  |sg c=>exact ⟨_,Lx.sign c hp hT,by rw [List.map_cons,JW];rfl⟩
  |wd s=>
   obtain ⟨h1,h2⟩:=Aq hok2 hn2;exact ⟨_,Lx.word hp.1 h1 hp.2 hT,by rw [List.map_cons,JW];rfl⟩
  |tx v=>
   obtain ⟨h1,h2⟩:=Aq hok2 hn2;exact ⟨_,Lx.text hp.1 hp.2 h2 hT,by rw [List.map_cons,JW];rfl⟩
  |nm v=>
   obtain ⟨h1,h2⟩:=Aq hok2 hn2;obtain ⟨g1,g2⟩:=yK v.natAbs;unfold Pc.ok at hp;simp only at hp;have hv:=TN v.natAbs (by omega);have:=Lx.number (decide (v<0)) _ g1 g2 h1 _ hv hT;refine ⟨_,this, ?_⟩;rw [List.map_cons,JW];show ((_::_:List To))= [((2:Int),(⟨#[]⟩:ah),v)]++_;rw [List.singleton_append];congr 1;unfold Tk.fo;simp only [Prod.mk.injEq,true_and];by_cases hneg:v<0
   · simp [hneg];omega
   · simp [hneg];omega
def gG (sep:List Pc):List (List Pc)→List Pc
 | []=> []
 |a::l=>a++l.flatMap fun b=>sep++b
theorem Mj (h:Bool) (a b:List Pc) (ha:nb h a=true) (hb:nb true b=true):nb h (a++b)=true:=by
 induction a generalizing h with
 |nil=>
  cases h with
  |true=>exact hb
  |false=>exact Co true b hb
 |cons p a ih=>
  unfold nb at ha⊢;rw [List.cons_append];simp only [Bool.and_eq_true]at ha⊢;exact ⟨ha.1,ih p.hard ha.2⟩
theorem Ou (sep:List Pc) (hs:∀b,nb false b=true→nb true (sep++b)=true):∀(l:List (List Pc)) (r:List Pc),(∀a∈l,nb false a=true)→nb true r=true→nb true ((l.flatMap fun b=>sep++b)++r)=true
 | [],_,_,hr=>hr
 |a::l,r,hl,hr=>by
  rw [List.flatMap_cons,List.append_assoc,List.append_assoc];exact hs _ (Mj _ _ _ (hl a (List.mem_cons_self ..)) (Ou sep hs l r (fun x hx=>hl x (List.mem_cons_of_mem _ hx)) hr))
theorem Df (sep:List Pc) (hs:∀b,nb false b=true→nb true (sep++b)=true) (l:List (List Pc)) (r:List Pc) (hl:∀a∈l,nb false a=true) (hr:nb true r=true):nb false (gG sep l++r)=true:=by
 cases l with
 |nil=>exact Co true r hr
 |cons a l=>
  unfold gG;rw [List.append_assoc];exact Mj _ _ _ (hl a (List.mem_cons_self ..)) (Ou sep hs l r (fun x hx=>hl x (List.mem_cons_of_mem _ hx)) hr)
theorem Dg {sep:List Pc}(hs:∀p∈sep,p.ok) {l:List (List Pc)}(hl:∀a∈l,∀p∈a,p.ok):∀p∈gG sep l,p.ok:=by
 intro p hp;cases l with
 |nil=>exact absurd hp (by simp [gG])
 |cons a l=>
  unfold gG at hp;rcases List.mem_append.1 hp with hp|hp
  · exact hl a (List.mem_cons_self ..) p hp
  · obtain ⟨b,hb,hp⟩:=List.mem_flatMap.1 hp;rcases List.mem_append.1 hp with hp|hp
    · exact hs p hp
    · exact hl b (List.mem_cons_of_mem _ hb) p hp
def gP (t:Tm):Pc:=if t.ty=1 then .tx t.s else .nm t.n
def dx:List Pc:= [.sg 44, .bl]
def Mk:List Pc:= [.bl, .wd (⟨#[65,78,68]⟩:ah), .bl]
def dB (c:Cl):List Pc:= [.wd c.name, .bl, .wd (if c.ty=1 then (⟨#[84,69,88,84]⟩:ah)else (⟨#[73,78,84]⟩:ah))]
def eU (p:Pr):List Pc:= [.wd p.name, .bl, .sg 61, .bl,gP p.t]
def jo (l:List ByteArray):List Pc:=if l= []then [.sg 42]else gG dx (l.map fun s=> [.wd s])
def eX (l:List Pr):List Pc:= [.bl, .wd (⟨#[87,72,69,82,69]⟩:ah), .bl]++gG Mk (l.map eU)
def dQ (stamp ttl:Int):List Pc:=
 if stamp=0 then (if ttl=0 then []else [.bl, .wd (⟨#[85,83,73,78,71]⟩:ah), .bl, .wd (⟨#[84,84,76]⟩:ah), .bl, .nm ttl])
 else if ttl=0 then [.bl, .wd (⟨#[85,83,73,78,71]⟩:ah), .bl, .wd (⟨#[84,73,77,69,83,84,65,77,80]⟩:ah), .bl, .nm stamp]
 else [.bl, .wd (⟨#[85,83,73,78,71]⟩:ah), .bl, .wd (⟨#[84,73,77,69,83,84,65,77,80]⟩:ah), .bl, .nm stamp, .bl, .wd (⟨#[65,78,68]⟩:ah), .bl, .wd (⟨#[84,84,76]⟩:ah), .bl, .nm ttl]
def qw (x:Sx):List Pc:= [.wd (⟨#[67,82,69,65,84,69]⟩:ah), .bl, .wd (⟨#[84,65,66,76,69]⟩:ah), .bl, .wd x.name, .bl, .sg 40]++gG dx ((x.part::x.aY::x.aF).map dB)++ [.sg 44, .bl, .wd (⟨#[80,82,73,77,65,82,89]⟩:ah), .bl, .wd (⟨#[75,69,89]⟩:ah), .bl, .sg 40, .wd x.part.name, .sg 44, .bl, .wd x.aY.name, .sg 41, .sg 41]
def Bq (x:Sx):List Pc:= [.wd (⟨#[67,82,69,65,84,69]⟩:ah), .bl, .wd (⟨#[77,65,84,69,82,73,65,76,73,90,69,68]⟩:ah), .bl, .wd (⟨#[86,73,69,87]⟩:ah), .bl, .wd x.name, .bl, .wd (⟨#[65,83]⟩:ah), .bl, .wd (⟨#[83,69,76,69,67,84]⟩:ah), .bl]++jo x.aD++ [.bl, .wd (⟨#[70,82,79,77]⟩:ah), .bl, .wd x.dA, .bl, .wd (⟨#[87,72,69,82,69]⟩:ah), .bl, .wd x.on, .bl, .wd (⟨#[73,83]⟩:ah), .bl, .wd (⟨#[78,79,84]⟩:ah), .bl, .wd (⟨#[78,85,76,76]⟩:ah), .bl, .wd (⟨#[80,82,73,77,65,82,89]⟩:ah), .bl, .wd (⟨#[75,69,89]⟩:ah), .bl, .sg 40]++gG dx ((x.on::x.aO.map Pr.name).map fun s=> [.wd s])++ [.sg 41]
def Ar (x:Sx):List Pc:= [.wd (⟨#[67,82,69,65,84,69]⟩:ah), .bl, .wd (⟨#[73,78,68,69,88]⟩:ah), .bl, .wd x.name, .bl, .wd (⟨#[79,78]⟩:ah), .bl, .wd x.dA, .bl, .sg 40, .wd x.on, .sg 41]
def F4 (x:Sx):List Pc:= [.wd (⟨#[68,82,79,80]⟩:ah), .bl, .wd x.name]
def vT (x:Sx):List Pc:= [.wd (⟨#[73,78,83,69,82,84]⟩:ah), .bl, .wd (⟨#[73,78,84,79]⟩:ah), .bl, .wd x.dA, .bl, .sg 40]++gG dx (x.sets.map fun p=> [.wd p.name])++ [.sg 41, .bl, .wd (⟨#[86,65,76,85,69,83]⟩:ah), .bl, .sg 40]++gG dx (x.sets.map fun p=> [gP p.t])++ [.sg 41]++dQ x.stamp x.ttl
def vU (x:Sx):List Pc:= [.wd (⟨#[85,80,68,65,84,69]⟩:ah), .bl, .wd x.dA]++dQ x.stamp x.ttl++ [.bl, .wd (⟨#[83,69,84]⟩:ah), .bl]++gG dx (x.sets.map eU)++eX x.aO
def om (x:Sx):List Pc:= [.wd (⟨#[68,69,76,69,84,69]⟩:ah), .bl]++(if x.aD= []then []else jo x.aD++ [.bl])++ [.wd (⟨#[70,82,79,77]⟩:ah), .bl, .wd x.dA]++dQ x.stamp x.ttl++eX x.aO
def Hu (x:Sx):List Pc:= [.wd (⟨#[83,69,76,69,67,84]⟩:ah), .bl]++jo x.aD++ [.bl, .wd (⟨#[70,82,79,77]⟩:ah), .bl, .wd x.dA]++eX x.aO++(if x.limit=0 then []else [.bl, .wd (⟨#[76,73,77,73,84]⟩:ah), .bl, .nm x.limit])
def Au (l:List (List Pc)):List Pc:= [.wd (⟨#[66,69,71,73,78]⟩:ah), .bl, .wd (⟨#[66,65,84,67,72]⟩:ah), .bl]++(l.flatMap fun a=>a++ [.sg 59, .bl])++ [.wd (⟨#[65,80,80,76,89]⟩:ah), .bl, .wd (⟨#[66,65,84,67,72]⟩:ah)]
def stP (x:Sx):List Pc:=
 if x.kind=1 then qw x else if x.kind=2 then Bq x else if x.kind=3 then Ar x else if x.kind=4 then F4 x
 else if x.kind=5 then vT x else if x.kind=6 then vU x else if x.kind=7 then om x else if x.kind=8 then Hu x
 else if x.kind=9 then Au []else []
structure ni where
 x:Sx
 parts:List Sx
def Ml (z:ni):List Pc:=if z.x.kind=9 then Au (z.parts.map stP)else stP z.x
def iA (z:ni):ByteArray:=aW (Ml z)
theorem jL {α β:Type}{f g:α→List β}:∀(l:List α),(∀a∈l,f a=g a)→l.flatMap f=l.flatMap g
 | [],_=>rfl
 |a::l,h=>by rw [List.flatMap_cons,List.flatMap_cons,h a (List.mem_cons_self ..),jL l fun x hx=>h x (List.mem_cons_of_mem _ hx)]
theorem wF {u l:ByteArray}(h:fold u=l) (h2:lu l yB=false):(Pc.wd u).toks= [aU l]:=by
 show [((1:Int),fold u,(0:Int))]=_;rw [h];unfold aU;rw [h2];rfl
theorem fH:(Pc.wd (⟨#[67,82,69,65,84,69]⟩:ah)).toks= [aU (⟨#[99,114,101,97,116,101]⟩:ah)]:=wF (by decide+kernel) (by decide+kernel)
theorem gQ:(Pc.wd (⟨#[84,65,66,76,69]⟩:ah)).toks= [aU (⟨#[116,97,98,108,101]⟩:ah)]:=wF (by decide+kernel) (by decide+kernel)
theorem eB:(Pc.wd (⟨#[80,82,73,77,65,82,89]⟩:ah)).toks= [aU (⟨#[112,114,105,109,97,114,121]⟩:ah)]:=wF (by decide+kernel) (by decide+kernel)
theorem kD:(Pc.wd (⟨#[75,69,89]⟩:ah)).toks= [aU (⟨#[107,101,121]⟩:ah)]:=wF (by decide+kernel) (by decide+kernel)
theorem bQ:(Pc.wd (⟨#[77,65,84,69,82,73,65,76,73,90,69,68]⟩:ah)).toks= [aU (⟨#[109,97,116,101,114,105,97,108,105,122,101,100]⟩:ah)]:=wF (by decide+kernel) (by decide+kernel)
theorem je:(Pc.wd (⟨#[86,73,69,87]⟩:ah)).toks= [aU (⟨#[118,105,101,119]⟩:ah)]:=wF (by decide+kernel) (by decide+kernel)
theorem nM:(Pc.wd (⟨#[65,83]⟩:ah)).toks= [aU (⟨#[97,115]⟩:ah)]:=wF (by decide+kernel) (by decide+kernel)
theorem fI:(Pc.wd (⟨#[83,69,76,69,67,84]⟩:ah)).toks= [aU (⟨#[115,101,108,101,99,116]⟩:ah)]:=wF (by decide+kernel) (by decide+kernel)
theorem jf:(Pc.wd (⟨#[70,82,79,77]⟩:ah)).toks= [aU (⟨#[102,114,111,109]⟩:ah)]:=wF (by decide+kernel) (by decide+kernel)
theorem gT:(Pc.wd (⟨#[87,72,69,82,69]⟩:ah)).toks= [aU (⟨#[119,104,101,114,101]⟩:ah)]:=wF (by decide+kernel) (by decide+kernel)
theorem nN:(Pc.wd (⟨#[73,83]⟩:ah)).toks= [aU (⟨#[105,115]⟩:ah)]:=wF (by decide+kernel) (by decide+kernel)
theorem kE:(Pc.wd (⟨#[78,79,84]⟩:ah)).toks= [aU (⟨#[110,111,116]⟩:ah)]:=wF (by decide+kernel) (by decide+kernel)
theorem jg:(Pc.wd (⟨#[78,85,76,76]⟩:ah)).toks= [aU (⟨#[110,117,108,108]⟩:ah)]:=wF (by decide+kernel) (by decide+kernel)
theorem gU:(Pc.wd (⟨#[73,78,68,69,88]⟩:ah)).toks= [aU (⟨#[105,110,100,101,120]⟩:ah)]:=wF (by decide+kernel) (by decide+kernel)
theorem nO:(Pc.wd (⟨#[79,78]⟩:ah)).toks= [aU (⟨#[111,110]⟩:ah)]:=wF (by decide+kernel) (by decide+kernel)
theorem jh:(Pc.wd (⟨#[68,82,79,80]⟩:ah)).toks= [aU (⟨#[100,114,111,112]⟩:ah)]:=wF (by decide+kernel) (by decide+kernel)
theorem fJ:(Pc.wd (⟨#[73,78,83,69,82,84]⟩:ah)).toks= [aU (⟨#[105,110,115,101,114,116]⟩:ah)]:=wF (by decide+kernel) (by decide+kernel)
theorem ji:(Pc.wd (⟨#[73,78,84,79]⟩:ah)).toks= [aU (⟨#[105,110,116,111]⟩:ah)]:=wF (by decide+kernel) (by decide+kernel)
theorem fK:(Pc.wd (⟨#[86,65,76,85,69,83]⟩:ah)).toks= [aU (⟨#[118,97,108,117,101,115]⟩:ah)]:=wF (by decide+kernel) (by decide+kernel)
theorem gV:(Pc.wd (⟨#[85,83,73,78,71]⟩:ah)).toks= [aU (⟨#[117,115,105,110,103]⟩:ah)]:=wF (by decide+kernel) (by decide+kernel)
theorem fM:(Pc.wd (⟨#[85,80,68,65,84,69]⟩:ah)).toks= [aU (⟨#[117,112,100,97,116,101]⟩:ah)]:=wF (by decide+kernel) (by decide+kernel)
theorem kF:(Pc.wd (⟨#[83,69,84]⟩:ah)).toks= [aU (⟨#[115,101,116]⟩:ah)]:=wF (by decide+kernel) (by decide+kernel)
theorem kG:(Pc.wd (⟨#[65,78,68]⟩:ah)).toks= [aU (⟨#[97,110,100]⟩:ah)]:=wF (by decide+kernel) (by decide+kernel)
theorem fO:(Pc.wd (⟨#[68,69,76,69,84,69]⟩:ah)).toks= [aU (⟨#[100,101,108,101,116,101]⟩:ah)]:=wF (by decide+kernel) (by decide+kernel)
theorem dG:(Pc.wd (⟨#[84,73,77,69,83,84,65,77,80]⟩:ah)).toks= [aU (⟨#[116,105,109,101,115,116,97,109,112]⟩:ah)]:=wF (by decide+kernel) (by decide+kernel)
theorem gW:(Pc.wd (⟨#[76,73,77,73,84]⟩:ah)).toks= [aU (⟨#[108,105,109,105,116]⟩:ah)]:=wF (by decide+kernel) (by decide+kernel)
theorem gX:(Pc.wd (⟨#[66,69,71,73,78]⟩:ah)).toks= [aU (⟨#[98,101,103,105,110]⟩:ah)]:=wF (by decide+kernel) (by decide+kernel)
theorem gY:(Pc.wd (⟨#[66,65,84,67,72]⟩:ah)).toks= [aU (⟨#[98,97,116,99,104]⟩:ah)]:=wF (by decide+kernel) (by decide+kernel)
theorem gZ:(Pc.wd (⟨#[65,80,80,76,89]⟩:ah)).toks= [aU (⟨#[97,112,112,108,121]⟩:ah)]:=wF (by decide+kernel) (by decide+kernel)
theorem kH:(Pc.wd (⟨#[84,84,76]⟩:ah)).toks= [aU (⟨#[116,116,108]⟩:ah)]:=wF (by decide+kernel) (by decide+kernel)
theorem iO:(Pc.wd (⟨#[84,69,88,84]⟩:ah)).toks= [aU (⟨#[116,101,120,116]⟩:ah)]:=wF (by decide+kernel) (by decide+kernel)
theorem jM:(Pc.wd (⟨#[73,78,84]⟩:ah)).toks= [aU (⟨#[105,110,116]⟩:ah)]:=wF (by decide+kernel) (by decide+kernel)
theorem nP:(Pc.sg 40).toks= [aU (⟨#[40]⟩:ah)]:=by decide+kernel
theorem nQ:(Pc.sg 41).toks= [aU (⟨#[41]⟩:ah)]:=by decide+kernel
theorem nR:(Pc.sg 44).toks= [aU (⟨#[44]⟩:ah)]:=by decide+kernel
theorem nS:(Pc.sg 59).toks= [aU (⟨#[59]⟩:ah)]:=by decide+kernel
theorem nU:(Pc.sg 61).toks= [aU (⟨#[61]⟩:ah)]:=by decide+kernel
theorem nW:(Pc.sg 42).toks= [aU (⟨#[42]⟩:ah)]:=by decide+kernel
theorem nX:Pc.bl.toks= []:=rfl
theorem nY (n:Int):(Pc.nm n).toks= [Ak n]:=rfl
theorem fP:eG []= []:=rfl
theorem yL (b:List Pc) (h:nb false b=true):nb true (dx++b)=true:=by
 unfold dx;simp only [List.cons_append,List.nil_append,nb,Pc.hard];simpa using h
theorem Z5 (b:List Pc) (h:nb false b=true):nb true (Mk++b)=true:=by
 unfold Mk;simp only [List.cons_append,List.nil_append,nb,Pc.hard];simpa using h
theorem yM:∀p∈dx,p.ok:=by
 intro p hp;unfold dx at hp;simp only [List.mem_cons,List.not_mem_nil,or_false]at hp;rcases hp with rfl|rfl
 · show (44:UInt8)=40∨_;decide
 · trivial
theorem ig {s:ByteArray}(h:lZ s=true) (h2:s.size≤100):(Pc.wd s).ok:=⟨h,h2⟩
theorem Z6:∀p∈Mk,p.ok:=by
 intro p hp;unfold Mk at hp;simp only [List.mem_cons,List.not_mem_nil,or_false]at hp;rcases hp with rfl|rfl|rfl
 · trivial
 · exact ig (by decide+kernel) (by decide)
 · trivial
theorem gL {s:ByteArray}(h:cB s):(Pc.wd s).ok:=⟨h.1,h.2.2.1⟩
theorem Ov {t:Tm}(h:rT t):(gP t).ok:=by
 unfold gP;rcases h with ⟨h1,h2,h3,_⟩|⟨h1,_,h3,h4⟩
 · rw [if_pos h1];exact ⟨h2,h3⟩
 · rw [if_neg (by rw [h1];decide)];exact ⟨h3,h4⟩
theorem yN {n:Int}(h:kN n):(Pc.nm n).ok:=⟨by have:=h.1;omega,h.2⟩
theorem F5 (t:Tm):(gP t).toks= [qH t]:=by
 unfold gP qH;by_cases h:t.ty=1<;>simp [h,Pc.toks]
theorem dR {s:ByteArray}(h:cB s):(Pc.wd s).toks= [fu s]:=by
 show [((1:Int),fold s,(0:Int))]=_;rw [h.2.1];rfl
theorem uK (sep:List Pc):∀(l:List (List Pc)),eG (gG sep l)=match l with| []=> []|a::l=>eG a++l.flatMap fun b=>eG sep++eG b
 | []=>rfl
 |a::l=>by
  unfold gG;rw [gy];congr 1
  induction l with
  |nil=>rfl
  |cons b l ih=>rw [List.flatMap_cons,gy,gy,ih,List.flatMap_cons]
theorem qb:eG dx= [aU (⟨#[44]⟩:ah)]:=by decide+kernel
theorem Qg:eG Mk= [aU (⟨#[97,110,100]⟩:ah)]:=by decide+kernel
theorem F6 {l:List ByteArray}(h:∀s∈l,cB s):eG (gG dx (l.map fun s=> [.wd s]))=qL l:=by
 rw [uK];cases l with
 |nil=>rfl
 |cons a l=>
  simp only [List.map_cons,qL];have h1:eG [Pc.wd a]= [fu a]:=by rw [bN,dR (h a (List.mem_cons_self ..))];rfl
  rw [h1,qb,List.flatMap_map,List.singleton_append];congr 1;unfold oM;refine jL _ fun s hs=> ?_
  rw [bN,dR (h s (List.mem_cons_of_mem _ hs))];rfl
theorem Qh (l:List Tm):eG (gG dx (l.map fun s=> [gP s]))=JK l:=by
 rw [uK];cases l with
 |nil=>rfl
 |cons a l=>
  simp only [List.map_cons,JK];have h1:∀a:Tm,eG [gP a]= [qH a]:=fun a=>by rw [bN,F5];rfl
  rw [h1,qb,List.flatMap_map,List.singleton_append];congr 1;unfold qp;refine jL _ fun s _=> ?_
  rw [h1];rfl
theorem sw {p:Pr}(h:mq p):eG (eU p)=pairT p:=by
 unfold eU pairT;rw [bN,dR h.1,bN,bN,bN,bN,F5];rfl
theorem Qi {l:List Pr}(h:∀p∈l,mq p):eG (gG dx (l.map eU))=qN l:=by
 rw [uK];cases l with
 |nil=>rfl
 |cons a l=>
  simp only [List.map_cons,qN];rw [sw (h a (List.mem_cons_self ..)),qb,List.flatMap_map];congr 1;refine jL _ fun s hs=> ?_
  rw [sw (h s (List.mem_cons_of_mem _ hs))];rfl
theorem xk {l:List Pr}(h:∀p∈l,mq p):eG (eX l)=iZ l:=by
 unfold eX iZ;rw [gy,uK];rw [show eG [.bl, .wd (⟨#[87,72,69,82,69]⟩:ah), .bl]= [aU (⟨#[119,104,101,114,101]⟩:ah)]by decide+kernel,List.singleton_append];congr 1;cases l with
 |nil=>rfl
 |cons a l=>
  simp only [List.map_cons];rw [sw (h a (List.mem_cons_self ..)),Qg,List.flatMap_map];congr 1;refine jL _ fun s hs=> ?_
  rw [sw (h s (List.mem_cons_of_mem _ hs))];rfl
theorem Av {l:List ByteArray}(h:∀s∈l,cB s):eG (jo l)=tH l:=by
 unfold jo tH;by_cases hl:l= []
 · rw [if_pos hl,if_pos hl];rfl
 · rw [if_neg hl,if_neg hl,F6 h]
theorem xq (stamp ttl:Int):eG (dQ stamp ttl)=kC stamp ttl:=by
 unfold dQ kC;by_cases h1:stamp=0
 · by_cases h2:ttl=0
   · rw [if_pos h1,if_pos h2,if_pos h1,if_pos h2];rfl
   · rw [if_pos h1,if_neg h2,if_pos h1,if_neg h2];simp only [gV,kH,nX,nY,fP,bN,List.nil_append,List.cons_append]
 · by_cases h2:ttl=0
   · rw [if_neg h1,if_pos h2,if_neg h1,if_pos h2];simp only [gV,dG,nX,nY,fP,bN,List.nil_append,List.cons_append]
   · rw [if_neg h1,if_neg h2,if_neg h1,if_neg h2];simp only [gV,kG,dG,kH,nX,nY,fP,bN,List.nil_append,List.cons_append]
theorem bO {a b:List Pc}(ha:∀p∈a,p.ok) (hb:∀p∈b,p.ok):∀p∈a++b,p.ok:=by
 intro p hp;rcases List.mem_append.1 hp with h|h
 · exact ha p h
 · exact hb p h
theorem eY:∀p∈([]:List Pc),p.ok:=by simp
theorem aA {q:Pc}{l:List Pc}(hq:q.ok) (hl:∀p∈l,p.ok):∀p∈q::l,p.ok:=by
 intro p hp;rcases List.mem_cons.1 hp with rfl|h
 · exact hq
 · exact hl p h
theorem bX:Pc.bl.ok:=trivial
theorem lF {c:UInt8}(h:c=40∨c=41∨c=44∨c=59∨c=61∨c=42):(Pc.sg c).ok:=h
theorem Aw:(Pc.wd (⟨#[67,82,69,65,84,69]⟩:ah)).ok:=ig (by decide+kernel) (by decide)
theorem TP:(Pc.wd (⟨#[84,65,66,76,69]⟩:ah)).ok:=ig (by decide+kernel) (by decide)
theorem Dh:(Pc.wd (⟨#[80,82,73,77,65,82,89]⟩:ah)).ok:=ig (by decide+kernel) (by decide)
theorem TQ:(Pc.wd (⟨#[75,69,89]⟩:ah)).ok:=ig (by decide+kernel) (by decide)
theorem BU:(Pc.wd (⟨#[77,65,84,69,82,73,65,76,73,90,69,68]⟩:ah)).ok:=ig (by decide+kernel) (by decide)
theorem Xl:(Pc.wd (⟨#[86,73,69,87]⟩:ah)).ok:=ig (by decide+kernel) (by decide)
theorem acn:(Pc.wd (⟨#[65,83]⟩:ah)).ok:=ig (by decide+kernel) (by decide)
theorem F7:(Pc.wd (⟨#[83,69,76,69,67,84]⟩:ah)).ok:=ig (by decide+kernel) (by decide)
theorem Hw:(Pc.wd (⟨#[70,82,79,77]⟩:ah)).ok:=ig (by decide+kernel) (by decide)
theorem JX:(Pc.wd (⟨#[87,72,69,82,69]⟩:ah)).ok:=ig (by decide+kernel) (by decide)
theorem aco:(Pc.wd (⟨#[73,83]⟩:ah)).ok:=ig (by decide+kernel) (by decide)
theorem Z7:(Pc.wd (⟨#[78,79,84]⟩:ah)).ok:=ig (by decide+kernel) (by decide)
theorem Xm:(Pc.wd (⟨#[78,85,76,76]⟩:ah)).ok:=ig (by decide+kernel) (by decide)
theorem TR:(Pc.wd (⟨#[73,78,68,69,88]⟩:ah)).ok:=ig (by decide+kernel) (by decide)
theorem acp:(Pc.wd (⟨#[79,78]⟩:ah)).ok:=ig (by decide+kernel) (by decide)
theorem Xn:(Pc.wd (⟨#[68,82,79,80]⟩:ah)).ok:=ig (by decide+kernel) (by decide)
theorem Qj:(Pc.wd (⟨#[73,78,83,69,82,84]⟩:ah)).ok:=ig (by decide+kernel) (by decide)
theorem Xo:(Pc.wd (⟨#[73,78,84,79]⟩:ah)).ok:=ig (by decide+kernel) (by decide)
theorem Qk:(Pc.wd (⟨#[86,65,76,85,69,83]⟩:ah)).ok:=ig (by decide+kernel) (by decide)
theorem Di:(Pc.wd (⟨#[85,83,73,78,71]⟩:ah)).ok:=ig (by decide+kernel) (by decide)
theorem Ql:(Pc.wd (⟨#[85,80,68,65,84,69]⟩:ah)).ok:=ig (by decide+kernel) (by decide)
theorem Z8:(Pc.wd (⟨#[83,69,84]⟩:ah)).ok:=ig (by decide+kernel) (by decide)
theorem Z9:(Pc.wd (⟨#[65,78,68]⟩:ah)).ok:=ig (by decide+kernel) (by decide)
theorem Qm:(Pc.wd (⟨#[68,69,76,69,84,69]⟩:ah)).ok:=ig (by decide+kernel) (by decide)
theorem yO:(Pc.wd (⟨#[84,73,77,69,83,84,65,77,80]⟩:ah)).ok:=ig (by decide+kernel) (by decide)
theorem TS:(Pc.wd (⟨#[76,73,77,73,84]⟩:ah)).ok:=ig (by decide+kernel) (by decide)
theorem TU:(Pc.wd (⟨#[66,69,71,73,78]⟩:ah)).ok:=ig (by decide+kernel) (by decide)
theorem JY:(Pc.wd (⟨#[66,65,84,67,72]⟩:ah)).ok:=ig (by decide+kernel) (by decide)
theorem TV:(Pc.wd (⟨#[65,80,80,76,89]⟩:ah)).ok:=ig (by decide+kernel) (by decide)
theorem TW:(Pc.wd (⟨#[84,84,76]⟩:ah)).ok:=ig (by decide+kernel) (by decide)
theorem Xp:(Pc.wd (⟨#[84,69,88,84]⟩:ah)).ok:=ig (by decide+kernel) (by decide)
theorem aac:(Pc.wd (⟨#[73,78,84]⟩:ah)).ok:=ig (by decide+kernel) (by decide)
theorem TY {c:Cl}(h:CY c):∀p∈dB c,p.ok:=by
 unfold dB;refine aA (gL h.1) (aA bX (aA ?_ eY));split
 · exact Xp
 · exact aac
theorem JZ {q:Pr}(h:mq q):∀p∈eU q,p.ok:=by
 unfold eU;exact aA (gL h.1) (aA bX (aA (lF (by decide)) (aA bX (aA (Ov h.2) eY))))
theorem Ow {l:List ByteArray}(h:∀s∈l,cB s):∀p∈gG dx (l.map fun s=> [Pc.wd s]),p.ok:=by
 refine Dg yM fun a ha=> ?_
 obtain ⟨s,hs,rfl⟩:=List.mem_map.1 ha;exact aA (gL (h s hs)) eY
theorem Hy {l:List ByteArray}(h:∀s∈l,cB s):∀p∈jo l,p.ok:=by
 unfold jo;split
 · exact aA (lF (by decide)) eY
 · exact Ow h
theorem Dj {l:List Pr}(h:∀p∈l,mq p):∀p∈eX l,p.ok:=by
 unfold eX;refine bO (aA bX (aA JX (aA bX eY))) (Dg Z6 fun a ha=> ?_);obtain ⟨s,hs,rfl⟩:=List.mem_map.1 ha;exact JZ (h s hs)
theorem Xq {l:List Pr}(h:∀p∈l,mq p):∀p∈gG dx (l.map eU),p.ok:=by
 refine Dg yM fun a ha=> ?_
 obtain ⟨s,hs,rfl⟩:=List.mem_map.1 ha;exact JZ (h s hs)
theorem Dk {b:Bool}{stamp ttl:Int}(h:rU b stamp ttl):∀p∈dQ stamp ttl,p.ok:=by
 obtain ⟨h1,h2⟩:=h;unfold dQ;by_cases e1:stamp=0
 · by_cases e2:ttl=0
   · rw [if_pos e1,if_pos e2];exact eY
   · have:=yN (h2.resolve_left e2).2;rw [if_pos e1,if_neg e2];exact aA bX (aA Di (aA bX (aA TW (aA bX (aA this eY)))))
 · have g1:=yN (h1.resolve_left e1);by_cases e2:ttl=0
   · rw [if_neg e1,if_pos e2];exact aA bX (aA Di (aA bX (aA yO (aA bX (aA g1 eY)))))
   · have:=yN (h2.resolve_left e2).2;rw [if_neg e1,if_neg e2];exact aA bX (aA Di (aA bX (aA yO (aA bX (aA g1 (aA bX (aA Z9 (aA bX (aA TW (aA bX (aA this eY)))))))))))
theorem Ua (c:Cl):nb false (dB c)=true:=rfl
theorem J2 (p:Pr):nb false (eU p)=true:=by
 unfold eU;simp only [nb,Pc.hard,Bool.and_false,Bool.and_true,Bool.false_and,Bool.not_false]
theorem Ox (l:List ByteArray) (r:List Pc) (hr:nb true r=true):nb false (gG dx (l.map fun s=> [Pc.wd s])++r)=true:=
 Df _ yL _ _ (fun a ha=>by obtain ⟨s,_,rfl⟩:=List.mem_map.1 ha;rfl) hr
theorem Ub (l:List Pr) (r:List Pc) (hr:nb true r=true):nb false (gG dx (l.map fun p=> [gP p.t])++r)=true:=
 Df _ yL _ _ (fun a ha=>by obtain ⟨s,_,rfl⟩:=List.mem_map.1 ha;simp [nb]) hr
theorem Hz (l:List ByteArray) (r:List Pc) (hr:nb true r=true):nb false (jo l++r)=true:=by
 unfold jo;split
 · show nb false (Pc.sg 42::r)=true;simp only [nb,Pc.hard,Bool.false_and,Bool.not_false,Bool.true_and];exact Co true r hr
 · exact Ox l r hr
theorem Xr (l:List Pr) (r:List Pc) (hr:nb true r=true):nb false (gG dx (l.map eU)++r)=true:=
 Df _ yL _ _ (fun a ha=>by obtain ⟨s,_,rfl⟩:=List.mem_map.1 ha;exact J2 s) hr
theorem Dl (l:List Pr) (r:List Pc) (hr:nb true r=true):nb true (eX l++r)=true:=by
 unfold eX;rw [List.append_assoc];show nb true (Pc.bl::Pc.wd (⟨#[87,72,69,82,69]⟩:ah)::Pc.bl::_)=true;simp only [nb,Pc.hard,Bool.and_false,Bool.false_and,Bool.not_false,Bool.true_and];exact Df _ Z5 _ _ (fun a ha=>by obtain ⟨s,_,rfl⟩:=List.mem_map.1 ha;exact J2 s) hr
theorem Dm (stamp ttl:Int) (r:List Pc) (hr:nb true r=true):nb true (dQ stamp ttl++r)=true:=by
 unfold dQ;split
 · split
   · exact hr
   · simpa [nb,Pc.hard]using hr
 · split
   · simpa [nb,Pc.hard]using hr
   · simpa [nb,Pc.hard]using hr
structure qQ (l:List Pc):Prop where
 ok:∀p∈l,p.ok
 nb:aK.nb false l=true
theorem qQ.lex {l:List Pc}(h:qQ l):LxF (aW l) (eG l):=Ot l false h.ok h.nb
theorem xw (pk ck:ByteArray) (hpc:ck≠pk):∀(C:List Cl) (x:Sx),
 (C.foldl (fun x c=>Tx.place x pk ck c) x)={x with
  part:=((C.filter fun c=>fB c.name pk).getLast?).getD x.part,
  aY:=((C.filter fun c=>fB c.name ck).getLast?).getD x.aY,
  aF:=x.aF++C.filter fun c=> !fB c.name pk&& !fB c.name ck}
 | [],x=>by simp
 |c::C,x=>by
  rw [List.foldl_cons,xw pk ck hpc C];unfold Tx.place;cases h1:fB c.name pk with
  |true=>
   have e:=dY.1 h1
   have h2:fB c.name ck=false:=by
    cases h2:fB c.name ck with
    |false=>rfl
    |true=>exact absurd ((dY.1 h2).symm.trans e) hpc
   simp [h1,h2,List.getLast?_cons]
  |false=>
   cases h2:fB c.name ck with
   |true=>
    simp [h1,h2,List.getLast?_cons]
   |false=>simp [h1,h2]
theorem Ay:∀(r l:List ByteArray),qI l r ↔ (∀a∈r,a ∉ l)∧r.Nodup
 | [],l=>by simp [qI]
 |a::r,l=>by
  unfold qI;rw [Ay r (l++ [a]),List.nodup_cons];constructor
  · rintro ⟨h1,h2,h3⟩;have ha:a ∉ l:=fun h=>by rw [oh.2 h]at h1;exact absurd h1 (by decide)
    refine ⟨fun x hx=> ?_,fun h=>h2 a h (by simp),h3⟩;rcases List.mem_cons.1 hx with rfl|hx
    · exact ha
    · exact fun h=>h2 x hx (by simp [h])
  · rintro ⟨h1,h2,h3⟩;refine ⟨?_,fun x hx h=> ?_,h3⟩
    · cases hb:lu a l with
      |false=>rfl
      |true=>exact absurd (oh.1 hb) (h1 a (List.mem_cons_self ..))
    · rcases List.mem_append.1 h with h|h
      · exact h1 x (List.mem_cons_of_mem _ hx) h
      · simp at h;subst h;exact h2 hx
theorem uL (pk:ByteArray):∀(C:List Cl),pk∈C.map Cl.name→(C.filter fun c=> !fB c.name pk).length+1≤C.length
 | [],h=>absurd h (by simp)
 |c::C,h=>by
  cases hb:fB c.name pk with
  |true=>
   simp only [List.filter_cons,hb,Bool.not_true,Bool.false_eq_true,if_false,List.length_cons];have:=List.length_filter_le (fun c:Cl=> !fB c.name pk) C;omega
  |false=>
   rw [List.map_cons,List.mem_cons]at h;have h2:=h.resolve_left fun e=>by rw [e]at hb;rw [dY.2 rfl]at hb;exact absurd hb (by decide)
   have:=uL pk C h2;simp only [List.filter_cons,hb,Bool.not_false,if_true,List.length_cons];omega
theorem xA {a b:ByteArray}(h:a≠b):fB a b=false:=by
 cases hb:fB a b with
 |false=>rfl
 |true=>exact absurd (dY.1 hb) h
theorem qd {nm:ByteArray}{C:List Cl}{pk ck:ByteArray}(h:rV nm C pk ck):
 ∃p c D,p.name=pk∧c.name=ck∧mD nm C pk ck={Sx.zero with kind:=1,name:=nm,bW:=nm,part:=p,aY:=c,aF:=D}∧mD nm (p::c::D) pk ck=mD nm C pk ck∧rV nm (p::c::D) pk ck:=by
 obtain ⟨h1,h2,h3,h4,h5,h6,h7⟩:=h
 have key:∀k,k∈C.map Cl.name→∃p,(C.filter fun c=>fB c.name k).getLast? =some p∧p.name=k∧p∈C:=by
  intro k hk;obtain ⟨c,hc,rfl⟩:=List.mem_map.1 hk;have hm:c∈C.filter fun d=>fB d.name c.name:=List.mem_filter.2 ⟨hc,dY.2 rfl⟩
  have hne:(C.filter fun d=>fB d.name c.name)≠ []:=fun e=>by rw [e]at hm;exact absurd hm (by simp)
  have hl:=List.getLast_mem hne;obtain ⟨hl1,hl2⟩:=List.mem_filter.1 hl;exact ⟨_,List.getLast?_eq_some_getLast hne,dY.1 hl2,hl1⟩
 obtain ⟨p,p1,p2,p3⟩:=key pk h5;obtain ⟨c,c1,c2,c3⟩:=key ck h6
 have e0:mD nm C pk ck={Sx.zero with kind:=1,name:=nm,bW:=nm,part:=p,aY:=c,aF:=C.filter fun c=> !fB c.name pk&& !fB c.name ck}:=by
  unfold mD;rw [xw pk ck h7,p1,c1];rfl
 have hD:∀d∈C.filter (fun c=> !fB c.name pk&& !fB c.name ck),d∈C∧fB d.name pk=false∧fB d.name ck=false:=by
  intro d hd;obtain ⟨hd1,hd2⟩:=List.mem_filter.1 hd;simp only [Bool.and_eq_true,Bool.not_eq_true']at hd2;exact ⟨hd1,hd2⟩
 refine ⟨p,c,C.filter fun c=> !fB c.name pk&& !fB c.name ck,p2,c2,e0, ?_,h1, ?_, ?_, ?_,by simp [p2],by simp [c2],h7⟩
 · rw [e0];have f1:(C.filter fun c=> !fB c.name pk&& !fB c.name ck).filter (fun c=>fB c.name pk)= []:=List.filter_eq_nil_iff.2 fun d hd=>by rw [(hD d hd).2.1];decide
   have f2:(C.filter fun c=> !fB c.name pk&& !fB c.name ck).filter (fun c=>fB c.name ck)= []:=List.filter_eq_nil_iff.2 fun d hd=>by rw [(hD d hd).2.2];decide
   have f3:(C.filter fun c=> !fB c.name pk&& !fB c.name ck).filter (fun c=> !fB c.name pk&& !fB c.name ck)=C.filter fun c=> !fB c.name pk&& !fB c.name ck:=List.filter_eq_self.2 fun d hd=>by rw [(hD d hd).2.1,(hD d hd).2.2];decide
   have g1:fB p.name pk=true:=dY.2 p2;have g2:fB c.name ck=true:=dY.2 c2;have g3:fB c.name pk=false:=xA (by rw [c2];exact h7);have g4:fB p.name ck=false:=xA (by rw [p2];exact h7.symm);unfold mD;rw [xw pk ck h7];simp only [List.filter_cons,g1,g2,g3,g4,f1,f2,f3,if_true,Bool.false_eq_true,if_false,Bool.not_true,Bool.not_false,Bool.false_and,Bool.and_false];rfl
 · intro d hd;rcases List.mem_cons.1 hd with rfl|hd
   · exact h2 _ p3
   · rcases List.mem_cons.1 hd with rfl|hd
     · exact h2 _ c3
     · exact h2 _ (hD d hd).1
 · have hn:=((Ay _ _).1 h3).2;refine (Ay _ _).2 ⟨by simp, ?_⟩;rw [List.map_cons,List.map_cons,List.nodup_cons,List.nodup_cons,p2,c2];refine ⟨?_, ?_, ?_⟩
   · intro hm;rcases List.mem_cons.1 hm with hm|hm
     · exact h7 hm.symm
     · obtain ⟨d,hd,he⟩:=List.mem_map.1 hm;have:=(hD d hd).2.1;rw [dY.2 he]at this;exact absurd this (by decide)
   · intro hm;obtain ⟨d,hd,he⟩:=List.mem_map.1 hm;have:=(hD d hd).2.2;rw [dY.2 he]at this;exact absurd this (by decide)
   · exact List.Nodup.sublist (List.Sublist.map _ List.filter_sublist) hn
 · have l1:=uL pk C h5
   have m2:ck∈(C.filter fun c=> !fB c.name pk).map Cl.name:=by
    refine List.mem_map.2 ⟨c,List.mem_filter.2 ⟨c3, ?_⟩,c2⟩;rw [xA (by rw [c2];exact h7)];rfl
   have l2:=uL ck _ m2;rw [List.filter_filter]at l2;have e:(C.filter fun a=>(!fB a.name ck)&& !fB a.name pk)=C.filter fun c=> !fB c.name pk&& !fB c.name ck:=List.filter_congr fun d _=>Bool.and_comm _ _
   rw [e]at l2;simp only [List.length_cons];omega
end aK
end Go.Proofs.YtnngbhpeeakfaaaGreatDoor
