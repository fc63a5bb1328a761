/- Parts of a proof. -/
import Derived.WalkKit
import Derived.Test.YtcgadodckoalnaaGreatDoorB02
import Derived.Test.YtcgadodckoalnaaGreatDoorB03
namespace Go.Proofs.YtcgadodckoalnaaGreatDoor
namespace aN
theorem xH (n b0 b1 b2 b3 c1 c2 c3 w:Nat) (hw:(Lib.decodeN n b0 b1 b2 b3).2=w) (h1:1<w→c1=b1) (h2:2<w→c2=b2) (h3:3<w→c3=b3)
 (hok:(Lib.decodeN n b0 b1 b2 b3).1≠65533∨1<(Lib.decodeN n b0 b1 b2 b3).2):Lib.decodeN w b0 c1 c2 c3=Lib.decodeN n b0 b1 b2 b3:=by
 unfold Lib.decodeN at hok hw⊢;by_cases a1:b0<128
 · rw [if_pos a1,if_pos a1]
 · rw [if_neg a1]at hok hw;rw [if_neg a1,if_neg a1];by_cases a2:b0 / 32=6∧(1<n∧b1 / 64=2)
   · rw [if_pos a2]at hok hw;by_cases q:b0 % 32*64+b1 % 64≥128
     · rw [if_pos q]at hw;simp only at hw;obtain rfl:=h1 (by omega);rw [if_pos a2,if_pos ⟨a2.1,by omega,a2.2.2⟩]
     · rw [if_neg q]at hok;simp at hok
   · rw [if_neg a2]at hok hw;by_cases a3:b0 / 16=14∧(1<n∧b1 / 64=2)∧(2<n∧b2 / 64=2)
     · rw [if_pos a3]at hok hw;by_cases q:b0 % 16*4096+b1 % 64*64+b2 % 64≥2048∧(b0 % 16*4096+b1 % 64*64+b2 % 64<55296∨(57344≤b0 % 16*4096+b1 % 64*64+b2 % 64∧b0 % 16*4096+b1 % 64*64+b2 % 64≤1114111))
       · rw [if_pos q]at hw;simp only at hw;obtain rfl:=h1 (by omega);obtain rfl:=h2 (by omega);rw [if_neg a2,if_pos a3,if_neg (by omega),if_pos ⟨a3.1,⟨by omega,a3.2.1.2⟩,⟨by omega,a3.2.2.2⟩⟩]
       · rw [if_neg q]at hok;simp at hok
     · rw [if_neg a3]at hok hw;by_cases a4:b0 / 8=30∧(1<n∧b1 / 64=2)∧(2<n∧b2 / 64=2)∧(3<n∧b3 / 64=2)
       · rw [if_pos a4]at hok hw;by_cases q:b0 % 8*262144+b1 % 64*4096+b2 % 64*64+b3 % 64≥65536∧(b0 % 8*262144+b1 % 64*4096+b2 % 64*64+b3 % 64<55296∨(57344≤b0 % 8*262144+b1 % 64*4096+b2 % 64*64+b3 % 64∧b0 % 8*262144+b1 % 64*4096+b2 % 64*64+b3 % 64≤1114111))
         · rw [if_pos q]at hw;simp only at hw;obtain rfl:=h1 (by omega);obtain rfl:=h2 (by omega);obtain rfl:=h3 (by omega);rw [if_neg a2,if_neg a3,if_pos a4,if_neg (by omega),if_neg (by omega),if_pos ⟨a4.1,⟨by omega,a4.2.1.2⟩,⟨by omega,a4.2.2.1.2⟩,⟨by omega,a4.2.2.2.2⟩⟩]
         · rw [if_neg q]at hok;simp at hok
       · rw [if_neg a4]at hok;simp at hok
theorem Bw (s:ByteArray) (n k:Nat) (hk:k<n) (hn:n≤s.size):bY (s.extract 0 n) k=bY s k:=by
 have h1:k<(s.extract 0 n).size:=by rw [ByteArray.size_extract];omega
 rw [←jZ _ k h1,←jZ s k (by omega)];congr 1;rw [ByteArray.getElem_extract];simp
theorem Gd (s:ByteArray) (n:Nat) (_hn:n≤s.size):s=s.extract 0 n++s.extract n s.size:=by
 apply ByteArray.ext;apply Array.ext';simp only [ByteArray.data_extract,ByteArray.data_append,Array.toList_extract,Array.toList_append,List.extract_eq_take_drop,List.drop_zero,Nat.sub_zero];rw [List.take_of_length_le (l:=s.data.toList.drop n) (by simp)];exact (List.take_append_drop n _).symm
theorem TM {C:ByteArray→Prop}(nil:C ⟨#[]⟩)
 (cons:∀c t,valid c=true→(pts c).length=1→((∃b:UInt8,c=⟨#[b]⟩∧b.toNat<128)∨(∀b∈c.data.toList,128≤b.toNat))→valid t=true→C t→C (c++t)):
 ∀(n:Nat) (s:ByteArray),s.size≤n→valid s=true→C s:=by
 intro n
 induction n with
 |zero=>
  intro s hs _
  have:s=⟨#[]⟩:=by
   apply ByteArray.ext;exact Array.eq_empty_of_size_eq_zero (by show s.size=0;omega)
  rw [this];exact nil
 |succ n ih=>
  intro s hs hv;by_cases h0:s.size=0
  · exact ih s (by omega) hv
  · have hlt:0<s.size:=by omega
    have hw:=width_pos s 0 hlt;have hl:=width_le s 0 hlt;have hall:(dS s 0).all Pt.ok=true:=by rw [←ji];exact hv
    rw [bM s 0 hlt,List.all_cons,Bool.and_eq_true]at hall;have hok:=(WE s 0).1 hall.1;obtain ⟨w,hwd⟩:∃w,(Utf8.decode s 0).2=w:=⟨_,rfl⟩;rw [hwd]at hw hl;rw [Nat.zero_add]at hl;have hcs:(s.extract 0 w).size=w:=by rw [ByteArray.size_extract];omega
    have hf:=Tv s 0 hlt
    have hbd:(Utf8.decode s 0).2≤4:=by
     rw [jK];rcases jL (s.size - 0) (bY s 0) (bY s (0+1)) (bY s (0+2)) (bY s (0+3)) (by omega)with h1|⟨_,_,_,h4,_⟩<;>omega
    have hdec:Utf8.decode (s.extract 0 w) 0=Utf8.decode s 0:=by
     rw [jK,jK s 0,hcs,Nat.sub_zero];rw [jK]at hok hwd;rw [Bw s w 0 (by omega) (by omega)];exact xH (s.size - 0) (bY s 0) (bY s (0+1)) (bY s (0+2)) (bY s (0+3)) _ _ _ w hwd (fun h=>Bw s w 1 (by omega) (by omega)) (fun h=>Bw s w 2 (by omega) (by omega)) (fun h=>Bw s w 3 (by omega) (by omega)) hok
    have hpc:pts (s.extract 0 w)= [⟨(Utf8.decode s 0).1,0,w⟩]:=by
     rw [ji,bM _ 0 (by omega),hdec,hwd,bR _ _ (by omega)]
    have hvc:valid (s.extract 0 w)=true:=by
     unfold valid;rw [hpc];have:=hall.1;rw [hwd]at this;simp [this]
    have hvt:valid (s.extract w s.size)=true:=by
     have:=uf (s.extract 0 w) (s.extract w s.size) hvc;rw [←Gd s w (by omega),hv]at this;exact this.symm
    have hcases:(∃b:UInt8,s.extract 0 w=⟨#[b]⟩∧b.toNat<128)∨(∀b∈(s.extract 0 w).data.toList,128≤b.toNat):=by
     rcases hf with ⟨h1,h2⟩|⟨h1,h2,h3⟩
     · left;have hw1:w=1:=by omega
       subst hw1;refine ⟨s[0],FQ s 0 hlt, ?_⟩;rw [jZ s 0 hlt];rcases h2 with h2|h2
       · exact h2.2
       · rw [h1]at hok;rcases hok with hok|hok
         · exact absurd h2 hok
         · omega
     · right;intro b hb;obtain ⟨k,hk,rfl⟩:=List.getElem_of_mem hb;have hk' :k<(s.extract 0 w).size:=hk;have:(s.extract 0 w).data.toList[k]=(s.extract 0 w)[k]:=rfl;rw [this,jZ _ k hk',Bw s w k (by omega) (by omega)];by_cases hk0:k=0
       · subst hk0;exact h1
       · have:=h3 k (by omega) (by omega);rw [Nat.zero_add]at this;omega
    rw [Gd s w (by omega)];exact cons _ _ hvc (by rw [hpc];rfl) hcases hvt (ih _ (by rw [ByteArray.size_extract];omega) hvt)
theorem aar (a b:ByteArray):(⟨((a++b).data.toList.flatMap rW).toArray⟩:ah)=⟨(a.data.toList.flatMap rW).toArray⟩++⟨(b.data.toList.flatMap rW).toArray⟩:=by
 apply ByteArray.ext;apply Array.ext';simp
theorem W9:∀(l:List UInt8),(∀b∈l,128≤b.toNat)→l.flatMap rW=l:=by
 intro l
 induction l with
 |nil=>intro _;rfl
 |cons c l ih=>
  intro h;have hc:c≠39:=fun e=>by have:=h c (List.mem_cons_self);rw [e]at this;exact absurd this (by decide)
  rw [List.flatMap_cons,ih (fun b hb=>h b (List.mem_cons_of_mem _ hb))];simp [rW,hc]
theorem TN (s:ByteArray) (h:valid s=true):valid ⟨(s.data.toList.flatMap rW).toArray⟩=true:=by
 refine TM (C:=fun s=>valid ⟨(s.data.toList.flatMap rW).toArray⟩=true) rfl ?_ s.size s (Nat.le_refl _) h;intro c t hc _ hcs _ ht;rw [aar]
 have hvc:valid ⟨(c.data.toList.flatMap rW).toArray⟩=true:=by
  rcases hcs with ⟨b,rfl,hb⟩|hhi
  · by_cases h39:b=39
    · subst h39;decide+kernel
    · have e:(⟨((⟨#[b]⟩:ah).data.toList.flatMap rW).toArray⟩:ah)=⟨#[b]⟩:=by
       apply ByteArray.ext;apply Array.ext';simp [rW,h39]
      rw [e];exact qN b hb
  · rw [W9 _ hhi];exact hc
 rw [uf _ _ hvc];exact ht
theorem xI (s:ByteArray):quote s=⟨#[39]⟩++(⟨(s.data.toList.flatMap rW).toArray⟩++⟨#[39]⟩):=by
 rw [yO];apply ByteArray.ext;apply Array.ext';simp
theorem El (s:ByteArray) (h:valid s=true):valid (quote s)=true:=by
 rw [xI,uf _ _ (qN 39 (by decide)),uf _ _ (TN s h)];exact qN 39 (by decide)
def NoQ (t:ByteArray):Prop:=t.data.toList.head? ≠some 39
theorem R5 (c:UInt8) (hc:c≠39) (t:ByteArray):NoQ (⟨#[c]⟩++t):=by
 unfold NoQ;rw [ByteArray.data_append,Array.toList_append];simp [hc]
theorem K5 (v t:ByteArray) (ht:NoQ t):dn (quote v++t) 0=some (v,(((quote v).size:Nat):Int)):=by
 have hd:(quote v++t).data.toList=39::(v.data.toList.flatMap rW++39::t.data.toList):=by
  rw [ByteArray.data_append,Array.toList_append,FR];simp
 have hsz:(quote v++t).size=(quote v).size+t.size:=by rw [ByteArray.size_append]
 have hq:=zW v;unfold dn;rw [if_pos ⟨by omega,by omega,by rw [hd];rfl⟩,hd];simp only [Int.toNat_zero,Nat.zero_add,List.drop_succ_cons,List.drop_zero];rw [RN t.data.toList ht v.data.toList];simp only [Option.map_some,Option.some.injEq,Prod.mk.injEq];refine ⟨trivial, ?_⟩;rw [hq];omega
theorem Xa (s:ByteArray):∀n pos,s.size - pos≤n→∀p∈dS s pos,p.at_<s.size:=by
 intro n
 induction n with
 |zero=>intro pos h p hp;rw [bR s pos (by omega)]at hp;cases hp
 |succ n ih=>
  intro pos h p hp;by_cases hlt:pos<s.size
  · have hw:=width_pos s pos hlt;rw [bM s pos hlt]at hp;rcases List.mem_cons.1 hp with rfl|hp
    · exact hlt
    · exact ih _ (by omega) p hp
  · rw [bR s pos hlt]at hp;cases hp
theorem afb (s:ByteArray) (k:Nat) (h:k<(pts s).length):(pts s)[k].at_<s.size:=
 Xa s s.size 0 (by omega) _ (by rw [←ji];exact List.getElem_mem h)
theorem Xb {v t:ByteArray}(hv:valid v=true) (hs:v.size≤100) (ht:NoQ t):dK (quote v++t) (pts (quote v++t)) 0=(⟨3,v,0,0⟩,true,(pts (quote v)).length)∧skip (pts (quote v++t)) 0=0∧pts (quote v)≠ []:=by
 have hvq:=El v hv;have hcut:=Cut.xC (quote v) t hvq;have hlen:=hcut.len;have e1:quote v++t=⟨#[39]⟩++((⟨(v.data.toList.flatMap rW).toArray⟩++⟨#[39]⟩)++t):=by rw [xI,fV]
 have hst:Stop (quote v++t):=by rw [e1];exact xD 39 (by decide) _
 have hB:∀c,gG (pts (quote v++t)) 0 c=((39:Int)==c):=fun c=>by rw [e1];exact jo 39 (by decide) _ c
 have hq:=zW v
 have hne:pts (quote v)≠ []:=by
  rw [xI,(vw 39 (by decide) _).pts];simp
 have hend:bP (pts (quote v++t)) (((quote v).size:Nat):Int) 0=(pts (quote v)).length:=by
  refine JM (by rw [hlen];omega) (fun j hj=> ?_) ?_
  · simp only [Fj (quote v) t hvq j hj,List.getElem?_eq_getElem hj];exact decide_eq_true (by have:=afb (quote v) j hj;omega)
  · have:=hcut.get 0;rw [Nat.add_zero]at this;simp only [this];cases hp:(pts t)[0]? with
    |none=>rfl
    |some p=>
     simp only [Option.map_some];exact decide_eq_false (by show¬(((p.at_+(quote v).size:Nat):Int)<_);omega)
 refine ⟨?_, ?_,hne⟩
 · unfold dK;rw [hst.1,hst.2,hB,hB];show j5 (quote v++t) (pts (quote v++t)) 0=_;unfold j5;rw [sG];show (match dn (quote v++t) 0 with|some x=>_|none=>_)=_;rw [K5 v t ht];simp only [];rw [hend,hv,decide_eq_true hs];rfl
 · refine iL ?_ ?_
   · unfold eu;rw [hB,hB,hB,hB];rfl
   · unfold jC;rw [hB];rfl
theorem Lx.text {v t:ByteArray}{l:List Tk}(hv:valid v=true) (hs:v.size≤100) (ht:NoQ t) (h:Lx t l):Lx (quote v++t) (⟨3,v,0,0⟩::l.map (Tk.on (pts (quote v)).length)):=by
 obtain ⟨h1,h2,h3⟩:=Xb hv hs ht;exact Lx.tok (El v hv) h3 h2 h1 h
def vK:List UInt8→Int→Bool→Int×Bool
 | [],v,ok=>(v,ok)
 |c::l,v,ok=>vK l (min (v*10+((c.toNat:Int) - 48)) 1099511627776) (ok&&decide (v*10+((c.toNat:Int) - 48)≤1099511627776))
def Jb (l:List UInt8):Bool:=l.all fun c=>decide (48≤c.toNat)&&decide (c.toNat≤57)
theorem Bz (c:UInt8) (l:List UInt8):(⟨(c::l).toArray⟩:ah)=⟨#[c]⟩++⟨l.toArray⟩:=by
 apply ByteArray.ext;apply Array.ext';simp
theorem M0:∀l:List UInt8,(∀c∈l,c.toNat<128)→valid ⟨l.toArray⟩=true∧(pts ⟨l.toArray⟩).length=l.length:=by
 intro l
 induction l with
 |nil=>intro _;exact ⟨rfl,rfl⟩
 |cons c l ih=>
  intro h;have hc:=h c (List.mem_cons_self);obtain ⟨h1,h2⟩:=ih (fun b hb=>h b (List.mem_cons_of_mem _ hb));rw [Bz];refine ⟨by rw [uf _ _ (qN c hc)];exact h1, ?_⟩;rw [(vw c hc _).len,h2];simp;omega
theorem PI (t:ByteArray) (ht:dh (pts t) 0=false):∀(l:List UInt8),Jb l=true→∀v ok,
 num (pts (⟨l.toArray⟩++t)) 0 v ok=((vK l v ok).1,(vK l v ok).2,l.length):=by
 intro l
 induction l with
 |nil=>
  intro _ v ok;have e:(⟨([]:List UInt8).toArray⟩:ah)++t=t:=by apply ByteArray.ext;simp
  rw [e,kS ht];rfl
 |cons c l ih=>
  intro h v ok;simp only [Jb,List.all_cons,Bool.and_eq_true,decide_eq_true_eq]at h;have hlt:c.toNat<128:=by omega
  have ih' :=ih (by unfold Jb;exact h.2);rw [Bz,fV];have hcut:=vw c hlt (⟨l.toArray⟩++t)
  have hd:dh (pts (⟨#[c]⟩++(⟨l.toArray⟩++t))) 0=true:=by
   unfold dh;rw [vB c hlt];simp only [kG,Bool.and_eq_true,decide_eq_true_eq];omega
  have hr:j4 (pts (⟨#[c]⟩++(⟨l.toArray⟩++t))) 0=(c.toNat:Int):=by unfold j4;rw [vB c hlt]
  rw [qV hd,hr];have:=hcut.num 0 (min (v*10+((c.toNat:Int) - 48)) 1099511627776) (ok&&decide (v*10+((c.toNat:Int) - 48)≤1099511627776));rw [Nat.add_zero]at this;show num _ ([(⟨c.toNat,0,1⟩:Pt)].length) _ _=_;rw [this,ih'];simp only [vK,List.length_cons,List.length_nil];rw [Nat.add_comm]
def gJ (neg:Bool):List UInt8:=if neg then [45]else []
theorem M4 (neg:Bool) (l:List UInt8) (hl:Jb l=true) (hne:l≠ []) (t:ByteArray) (ht:dh (pts t) 0=false) (V:Int) (ok:Bool) (hV:vK l 0 true=(V,ok)):
 dK (⟨(gJ neg++l).toArray⟩++t) (pts (⟨(gJ neg++l).toArray⟩++t)) 0=(⟨2,⟨#[]⟩,if neg then -V else V,0⟩,ok&& !dJ (pts t) 0,(gJ neg++l).length)∧skip (pts (⟨(gJ neg++l).toArray⟩++t)) 0=0∧valid ⟨(gJ neg++l).toArray⟩=true∧(pts ⟨(gJ neg++l).toArray⟩).length=(gJ neg++l).length:=by
 have hall:∀c∈gJ neg++l,c.toNat<128:=by
  intro c hc;rcases List.mem_append.1 hc with hc|hc
  · unfold gJ at hc;split at hc
    · rw [List.mem_singleton.1 hc];decide
    · cases hc
  · have:=List.all_eq_true.1 hl c hc;simp only [Bool.and_eq_true,decide_eq_true_eq]at this;omega
 obtain ⟨hv,hlen⟩:=M0 _ hall;obtain ⟨d,l',rfl⟩:∃d l',l=d::l' :=by cases l with|nil=>exact absurd rfl hne|cons d l' =>exact ⟨d,l',rfl⟩
 have hdd:48≤d.toNat∧d.toNat≤57:=by
  have:=List.all_eq_true.1 hl d (List.mem_cons_self);simp only [Bool.and_eq_true,decide_eq_true_eq]at this;exact this
 have acK:d.toNat<128:=by omega
 have afc:=PI t ht (d::l') hl;have hds:∀r,(⟨(d::l').toArray⟩:ah)++r=⟨#[d]⟩++(⟨l'.toArray⟩++r):=fun r=>by rw [Bz,fV]
 have hdig:dh (pts (⟨(d::l').toArray⟩++t)) 0=true:=by
  rw [hds];unfold dh;rw [vB d acK];simp only [kG,Bool.and_eq_true,decide_eq_true_eq];omega
 have hend:dJ (pts (⟨(gJ neg++(d::l')).toArray⟩++t)) (gJ neg++(d::l')).length=dJ (pts t) 0:=by
  have hcut:=Cut.xC _ t hv;have:=hcut.dJ 0;rw [Nat.add_zero,hlen]at this;exact this
 have hnb:∀x:Int,(x=32∨x=9∨x=10∨x=13∨x=39∨x=45)→gG (pts (⟨(d::l').toArray⟩++t)) 0 x=false:=by
  intro x hx;rw [hds,jo d acK,beq_eq_false_iff_ne];omega
 have hnl:dJ (pts (⟨(d::l').toArray⟩++t)) 0=false:=by
  rw [hds];unfold dJ;rw [vB d acK];simp only [gD];rw [Bool.and_eq_false_iff];right;simp only [Bool.or_eq_false_iff,Bool.and_eq_false_iff,beq_eq_false_iff_ne,decide_eq_false_iff_not];omega
 cases neg with
 |false=>
  have e0:gJ false++(d::l')=d::l' :=rfl;rw [e0]at hend hv hlen⊢;refine ⟨?_, ?_,hv,hlen⟩
  · unfold dK;rw [hnl,hdig];show cO _ 0=_;unfold cO iq bS;rw [hnb 45 (by omega)];simp only [Bool.false_eq_true,if_false];rw [hdig,afc 0 true,hV];simp only [];rw [hend];try rfl
  · refine iL ?_ ?_
    · unfold eu;rw [hnb 32 (by omega),hnb 9 (by omega),hnb 10 (by omega),hnb 13 (by omega)];rfl
    · unfold jC;rw [hnb 45 (by omega)];rfl
 |true=>
  have e0:gJ true++(d::l')=45::(d::l'):=rfl;rw [e0]at hend hv hlen⊢;have e1:(⟨(45::(d::l')).toArray⟩:ah)++t=⟨#[45]⟩++(⟨(d::l').toArray⟩++t):=by rw [Bz,fV]
  have hcut:=vw 45 (by decide) (⟨(d::l').toArray⟩++t);have hB:∀x,gG (pts (⟨#[45]⟩++(⟨(d::l').toArray⟩++t))) 0 x=((45:Int)==x):=fun x=>jo 45 (by decide) _ x
  have hst:=xD 45 (by decide) (⟨(d::l').toArray⟩++t)
  have hd1:dh (pts (⟨#[45]⟩++(⟨(d::l').toArray⟩++t))) 1=true:=by
   have:=hcut.dh 0;rw [Nat.add_zero]at this;exact this.trans hdig
  have hn1:=hcut.num 0 0 true;rw [Nat.add_zero,afc 0 true,hV]at hn1;rw [e1]at hend⊢;refine ⟨?_, ?_,hv,hlen⟩
  · unfold dK;rw [hst.1,hst.2,hB];show cO _ 0=_;unfold cO iq bS;rw [hB];show ((⟨2,⟨#[]⟩, -(num _ (0+1) 0 (dh _ (0+1))).1,0⟩,(num _ (0+1) 0 (dh _ (0+1))).2.1&& !dJ _ (num _ (0+1) 0 (dh _ (0+1))).2.2,(num _ (0+1) 0 (dh _ (0+1))).2.2):Tk×Bool×Nat)=_;rw [hd1]
    have hn2:num (pts (⟨#[45]⟩++(⟨(d::l').toArray⟩++t))) (0+1) 0 true=(V,ok,(45::(d::l')).length):=by
     refine hn1.trans ?_;simp;omega
    rw [hn2];simp only [];rw [hend];try rfl
  · refine iL ?_ ?_
    · unfold eu;rw [hB,hB,hB,hB];rfl
    · unfold jC;have:=hcut.gG 0 45;rw [Nat.add_zero]at this;rw [show (0+1:Nat)= [(⟨(45:UInt8).toNat,0,1⟩:Pt)].length from rfl,this,hnb 45 (by omega),Bool.and_false]
theorem PL (neg:Bool) (l:List UInt8) (hl:Jb l=true) (hne:l≠ []) (t:ByteArray) (ht:Stop t) (V:Int) (hV:vK l 0 true=(V,true)):
 dK (⟨(gJ neg++l).toArray⟩++t) (pts (⟨(gJ neg++l).toArray⟩++t)) 0=(⟨2,⟨#[]⟩,if neg then -V else V,0⟩,true,(gJ neg++l).length)∧skip (pts (⟨(gJ neg++l).toArray⟩++t)) 0=0∧valid ⟨(gJ neg++l).toArray⟩=true∧(pts ⟨(gJ neg++l).toArray⟩).length=(gJ neg++l).length:=by
 have h:=M4 neg l hl hne t ht.2 V true hV;rw [ht.1]at h;exact h
theorem Lx.number (neg:Bool) (l:List UInt8) (hl:Jb l=true) (hne:l≠ []) {t:ByteArray}(ht:Stop t) (V:Int) (hV:vK l 0 true=(V,true)) {k:List Tk}(h:Lx t k):
 Lx (⟨(gJ neg++l).toArray⟩++t) (⟨2,⟨#[]⟩,if neg then -V else V,0⟩::k.map (Tk.on (gJ neg++l).length)):=by
 obtain ⟨h1,h2,h3,h4⟩:=PL neg l hl hne t ht V hV;have:=Lx.tok (l:=k) h3 (by intro e;rw [e]at h4;simp at h4;exact hne (List.eq_nil_of_length_eq_zero (by omega))) h2 (by rw [h1,h4]) h;rw [h4]at this;exact this
def M5:Nat→Nat→List UInt8
 |0,_=> []
 |f+1,n=>if n<10 then [UInt8.ofNat (48+n)]else M5 f (n / 10)++ [UInt8.ofNat (48+n % 10)]
def dec (n:Nat):List UInt8:=M5 (n+1) n
theorem TP:∀f g n,n<f→n<g→M5 f n=M5 g n:=by
 intro f
 induction f with
 |zero=>intro g n h;omega
 |succ f ih=>
  intro g n h1 h2;cases g with
  |zero=>omega
  |succ g=>
   rw [M5,M5];split
   · rfl
   · rw [ih g (n / 10) (by omega) (by omega)]
theorem yU {n:Nat}(h:n<10):dec n= [UInt8.ofNat (48+n)]:=by unfold dec;rw [M5,if_pos h]
theorem xJ {n:Nat}(h:10≤n):dec n=dec (n / 10)++ [UInt8.ofNat (48+n % 10)]:=by
 unfold dec;rw [M5,if_neg (by omega),TP n (n / 10+1) (n / 10) (by omega) (by omega)]
theorem yV (k:Nat) (h:k<10):(UInt8.ofNat (48+k)).toNat=48+k:=by
 rw [UInt8.toNat_ofNat'];omega
theorem K6 {C:Nat→Prop}(one:∀n,n<10→C n) (more:∀n,10≤n→C (n / 10)→C n):∀n,C n:=by
 intro n
 induction n using Nat.strongRecOn with
 |_ n ih=>
  by_cases h:n<10
  · exact one n h
  · exact more n (by omega) (ih (n / 10) (by omega))
theorem aat (n:Nat):Jb (dec n)=true∧dec n≠ []:=by
 refine K6 (C:=fun n=>Jb (dec n)=true∧dec n≠ []) (fun n h=> ?_) (fun n h ih=> ?_) n
 · rw [yU h];refine ⟨?_,by simp⟩;simp only [Jb,List.all_cons,List.all_nil,Bool.and_true,Bool.and_eq_true,decide_eq_true_eq];rw [yV n h];omega
 · rw [xJ h];refine ⟨?_,by simp⟩;have:=yV (n % 10) (by omega);unfold Jb at ih⊢;rw [List.all_append,ih.1];simp only [Bool.true_and,List.all_cons,List.all_nil,Bool.and_true,Bool.and_eq_true,decide_eq_true_eq];omega
theorem Xc:∀(l:List UInt8) (m:List UInt8) v ok,vK (l++m) v ok=vK m (vK l v ok).1 (vK l v ok).2:=by
 intro l
 induction l with
 |nil=>intro m v ok;rfl
 |cons c l ih=>intro m v ok;rw [List.cons_append,vK,ih,vK]
theorem Xd (n:Nat) (h:n≤1099511627776):vK (dec n) 0 true=((n:Int),true):=by
 revert h;refine K6 (C:=fun n=>n≤1099511627776→vK (dec n) 0 true=((n:Int),true)) (fun n h hn=> ?_) (fun n h ih hn=> ?_) n
 · rw [yU h,vK,vK,yV n h];simp only [Prod.mk.injEq,Bool.true_and,decide_eq_true_eq];omega
 · rw [xJ h,Xc,ih (by omega),vK,vK,yV (n % 10) (by omega)];simp only [Prod.mk.injEq,Bool.true_and,decide_eq_true_eq];omega
def K7 (t:ByteArray) (a:Nat):Prop:=eU t (pts t) ((pts t).length+1) 0= .error a
theorem K7.aP {t:ByteArray}{a:Nat}(h:K7 t a) (hs:t.size≤1000):aP t=([],a,3):=by
 unfold K7 at h;unfold aN.aP;rw [if_neg (by omega),h]
theorem K7.here {t:ByteArray}(hne:pts t≠ []) (hsk:skip (pts t) 0=0) (hb:(dK t (pts t) 0).2.1=false):K7 t 0:=by
 unfold K7;rw [FV (by rw [hsk];exact List.length_pos_iff.2 hne) (by rw [hsk];exact hb),hsk]
theorem K7.blank (c:UInt8) (hc:c=32∨c=9∨c=10∨c=13) {t:ByteArray}{a:Nat}(h:K7 t a):K7 (⟨#[c]⟩++t) (1+a):=by
 have hlt:c.toNat<128:=by rcases hc with rfl|rfl|rfl|rfl<;>decide
 have hcut:=vw c hlt t;have hlen:=hcut.len
 have hb:eu (pts (⟨#[c]⟩++t)) 0=true:=by
  unfold eu;rw [jo c hlt,jo c hlt,jo c hlt,jo c hlt];rcases hc with rfl|rfl|rfl|rfl<;>rfl
 have hsk:skip (pts (⟨#[c]⟩++t)) 0=skip (pts (⟨#[c]⟩++t)) 1:=iE (by rw [hlen];show 0<1+_;omega) hb;have hx:=hcut.eU ((pts (⟨#[c]⟩++t)).length+1) 0;rw [Nat.add_zero,Dh t (pts t) _ ((pts t).length+1) 0 (by rw [hlen];show _<1+_+1+0;omega) (by omega),h]at hx;refine Eq.trans ?_ hx;show _=eU _ _ _ 1;rw [eU,eU,hsk]
open Go.RowKit
def gY (n:Int):ByteArray:=⟨(gJ (decide (n<0))++dec n.natAbs).toArray⟩
inductive Pc where
 |wd (s:ByteArray)
 |sg (c:UInt8)
 |tx (v:ByteArray)
 |nm (v:Int)
 |bl
def Pc.text:Pc→ByteArray
 | .wd s=>s
 | .sg c=>⟨#[c]⟩
 | .tx v=>quote v
 | .nm v=>gY v
 | .bl=>⟨#[32]⟩
def Pc.toks:Pc→List To
 | .wd s=> [(1,fold s,0)]
 | .sg c=> [(4,⟨#[c]⟩,0)]
 | .tx v=> [(3,v,0)]
 | .nm v=> [(2,⟨#[]⟩,v)]
 | .bl=> []
def Pc.ok:Pc→Prop
 | .wd s=>nP s=true∧s.size≤100
 | .sg c=>c=40∨c=41∨c=44∨c=59∨c=61∨c=42
 | .tx v=>valid v=true∧v.size≤100
 | .nm v=> -1099511627776≤v∧v≤1099511627776
 | .bl=>True
def Pc.hard:Pc→Bool
 | .wd _=>true
 | .sg _=>false
 | .tx _=>true
 | .nm _=>true
 | .bl=>false
def aF:List Pc→ByteArray
 | []=>⟨#[]⟩
 |p::l=>p.text++aF l
def fH (l:List Pc):List To:=l.flatMap Pc.toks
def nb:Bool→List Pc→Bool
 |_, []=>true
 |h,p::l=> !(h&&p.hard)&&nb p.hard l
theorem bq (a b:List Pc):aF (a++b)=aF a++aF b:=by
 induction a with
 |nil=>show aF b=_;apply ByteArray.ext;simp [aF]
 |cons p a ih=>simp only [List.cons_append,aF,ih];rw [fV]
theorem iF (a b:List Pc):fH (a++b)=fH a++fH b:=by simp [fH]
theorem bX (p:Pc) (l:List Pc):fH (p::l)=p.toks++fH l:=by simp [fH]
def LxF (t:ByteArray) (L:List To):Prop:=∃T,Lx t T∧T.map Tk.fo=L
theorem M6 (m:Nat) (T:List Tk):(T.map (Tk.on m)).map Tk.fo=T.map Tk.fo:=by
 rw [List.map_map];rfl
theorem Dq {l:List Pc}(hok:∀p∈l,p.ok) (h:nb true l=true):Stop (aF l)∧NoQ (aF l):=by
 cases l with
 |nil=>exact ⟨WM,by unfold NoQ;simp [aF]⟩
 |cons p l=>
  unfold nb at h;cases p with
  |wd s=>exact absurd h (by simp [Pc.hard])
  |tx v=>exact absurd h (by simp [Pc.hard])
  |nm v=>exact absurd h (by simp [Pc.hard])
  |bl=>exact ⟨xD 32 (by decide) _,R5 32 (by decide) _⟩
  |sg c=>
   have hc:=hok (.sg c) (List.mem_cons_self ..);unfold Pc.ok at hc;simp only at hc;refine ⟨xD c ?_ _,R5 c ?_ _⟩
   · rcases hc with rfl|rfl|rfl|rfl|rfl|rfl<;>decide
   · rcases hc with rfl|rfl|rfl|rfl|rfl|rfl<;>decide
theorem Fp (h:Bool) (l:List Pc) (hn:nb h l=true):nb false l=true:=by
 cases l with
 |nil=>rfl
 |cons p l=>unfold nb at hn⊢;simp at hn⊢;exact hn.2
theorem R6:∀(l:List Pc) (h:Bool),(∀p∈l,p.ok)→nb h l=true→LxF (aF l) (fH l)
 | [],_,_,_=>⟨[],Lx.nil,rfl⟩
 |p::l,h,hok,hn=>by
  have hok2:∀p∈l,p.ok:=fun q hq=>hok q (List.mem_cons_of_mem _ hq)
  have hp:=hok p (List.mem_cons_self ..);have hn2:nb p.hard l=true:=by unfold nb at hn;simp at hn;exact hn.2
  obtain ⟨T,hT,hF⟩:=R6 l p.hard hok2 hn2;rw [bX,←hF];cases p with
  |bl=>exact ⟨_,Lx.blank 32 (by decide) hT,by rw [M6];rfl⟩
  |sg c=>exact ⟨_,Lx.sign c hp hT,by rw [List.map_cons,M6];rfl⟩
  |wd s=>
   obtain ⟨h1,h2⟩:=Dq hok2 hn2;exact ⟨_,Lx.word hp.1 h1 hp.2 hT,by rw [List.map_cons,M6];rfl⟩
  |tx v=>
   obtain ⟨h1,h2⟩:=Dq hok2 hn2;exact ⟨_,Lx.text hp.1 hp.2 h2 hT,by rw [List.map_cons,M6];rfl⟩
  |nm v=>
   obtain ⟨h1,h2⟩:=Dq hok2 hn2;obtain ⟨g1,g2⟩:=aat v.natAbs;unfold Pc.ok at hp;simp only at hp;have hv:=Xd v.natAbs (by omega);have:=Lx.number (decide (v<0)) _ g1 g2 h1 _ hv hT;refine ⟨_,this, ?_⟩;rw [List.map_cons,M6];show ((_::_:List To))= [((2:Int),(⟨#[]⟩:ah),v)]++_;rw [List.singleton_append];congr 1;unfold Tk.fo;simp only [Prod.mk.injEq,true_and];by_cases hneg:v<0
   · simp [hneg];omega
   · simp [hneg];omega
def eB (sep:List Pc):List (List Pc)→List Pc
 | []=> []
 |a::l=>a++l.flatMap fun b=>sep++b
theorem PN (h:Bool) (a b:List Pc) (ha:nb h a=true) (hb:nb true b=true):nb h (a++b)=true:=by
 induction a generalizing h with
 |nil=>
  cases h with
  |true=>exact hb
  |false=>exact Fp true b hb
 |cons p a ih=>
  unfold nb at ha⊢;rw [List.cons_append];simp only [Bool.and_eq_true]at ha⊢;exact ⟨ha.1,ih p.hard ha.2⟩
theorem R7 (sep:List Pc) (hs:∀b,nb false b=true→nb true (sep++b)=true):∀(l:List (List Pc)) (r:List Pc),(∀a∈l,nb false a=true)→nb true r=true→nb true ((l.flatMap fun b=>sep++b)++r)=true
 | [],_,_,hr=>hr
 |a::l,r,hl,hr=>by
  rw [List.flatMap_cons,List.append_assoc,List.append_assoc];exact hs _ (PN _ _ _ (hl a (List.mem_cons_self ..)) (R7 sep hs l r (fun x hx=>hl x (List.mem_cons_of_mem _ hx)) hr))
theorem Gf (sep:List Pc) (hs:∀b,nb false b=true→nb true (sep++b)=true) (l:List (List Pc)) (r:List Pc) (hl:∀a∈l,nb false a=true) (hr:nb true r=true):nb false (eB sep l++r)=true:=by
 cases l with
 |nil=>exact Fp true r hr
 |cons a l=>
  unfold eB;rw [List.append_assoc];exact PN _ _ _ (hl a (List.mem_cons_self ..)) (R7 sep hs l r (fun x hx=>hl x (List.mem_cons_of_mem _ hx)) hr)
theorem Gg {sep:List Pc}(hs:∀p∈sep,p.ok) {l:List (List Pc)}(hl:∀a∈l,∀p∈a,p.ok):∀p∈eB sep l,p.ok:=by
 intro p hp;cases l with
 |nil=>exact absurd hp (by simp [eB])
 |cons a l=>
  unfold eB at hp;rcases List.mem_append.1 hp with hp|hp
  · exact hl a (List.mem_cons_self ..) p hp
  · obtain ⟨b,hb,hp⟩:=List.mem_flatMap.1 hp;rcases List.mem_append.1 hp with hp|hp
    · exact hs p hp
    · exact hl b (List.mem_cons_of_mem _ hb) p hp
def dM (t:Tm):Pc:=if t.ty=1 then .tx t.s else .nm t.n
def bA:List Pc:= [.sg 44, .bl]
def rY:List Pc:= [.bl, .wd (⟨#[65,78,68]⟩:ah), .bl]
def dN (c:Cl):List Pc:= [.wd c.name, .bl, .wd (if c.ty=1 then (⟨#[84,69,88,84]⟩:ah)else (⟨#[73,78,84]⟩:ah))]
def bJ (p:Pr):List Pc:= [.wd p.name, .bl, .sg 61, .bl,dM p.t]
def fZ (l:List ByteArray):List Pc:=if l= []then [.sg 42]else eB bA (l.map fun s=> [.wd s])
def eF (l:List Pr):List Pc:= [.bl, .wd (⟨#[87,72,69,82,69]⟩:ah), .bl]++eB rY (l.map bJ)
def dA (stamp ttl:Int):List Pc:=
 if stamp=0 then (if ttl=0 then []else [.bl, .wd (⟨#[85,83,73,78,71]⟩:ah), .bl, .wd (⟨#[84,84,76]⟩:ah), .bl, .nm ttl])
 else if ttl=0 then [.bl, .wd (⟨#[85,83,73,78,71]⟩:ah), .bl, .wd (⟨#[84,73,77,69,83,84,65,77,80]⟩:ah), .bl, .nm stamp]
 else [.bl, .wd (⟨#[85,83,73,78,71]⟩:ah), .bl, .wd (⟨#[84,73,77,69,83,84,65,77,80]⟩:ah), .bl, .nm stamp, .bl, .wd (⟨#[65,78,68]⟩:ah), .bl, .wd (⟨#[84,84,76]⟩:ah), .bl, .nm ttl]
def tJ (x:Sx):List Pc:= [.wd (⟨#[67,82,69,65,84,69]⟩:ah), .bl, .wd (⟨#[84,65,66,76,69]⟩:ah), .bl, .wd x.name, .bl, .sg 40]++eB bA ((x.part::x.aX::x.aB).map dN)++ [.sg 44, .bl, .wd (⟨#[80,82,73,77,65,82,89]⟩:ah), .bl, .wd (⟨#[75,69,89]⟩:ah), .bl, .sg 40, .wd x.part.name, .sg 44, .bl, .wd x.aX.name, .sg 41, .sg 41]
def uH (x:Sx):List Pc:= [.wd (⟨#[67,82,69,65,84,69]⟩:ah), .bl, .wd (⟨#[77,65,84,69,82,73,65,76,73,90,69,68]⟩:ah), .bl, .wd (⟨#[86,73,69,87]⟩:ah), .bl, .wd x.name, .bl, .wd (⟨#[65,83]⟩:ah), .bl, .wd (⟨#[83,69,76,69,67,84]⟩:ah), .bl]++fZ x.aI++ [.bl, .wd (⟨#[70,82,79,77]⟩:ah), .bl, .wd x.bT, .bl, .wd (⟨#[87,72,69,82,69]⟩:ah), .bl, .wd x.on, .bl, .wd (⟨#[73,83]⟩:ah), .bl, .wd (⟨#[78,79,84]⟩:ah), .bl, .wd (⟨#[78,85,76,76]⟩:ah), .bl, .wd (⟨#[80,82,73,77,65,82,89]⟩:ah), .bl, .wd (⟨#[75,69,89]⟩:ah), .bl, .sg 40]++eB bA ((x.on::x.aH.map Pr.name).map fun s=> [.wd s])++ [.sg 41]
def tK (x:Sx):List Pc:= [.wd (⟨#[67,82,69,65,84,69]⟩:ah), .bl, .wd (⟨#[73,78,68,69,88]⟩:ah), .bl, .wd x.name, .bl, .wd (⟨#[79,78]⟩:ah), .bl, .wd x.bT, .bl, .sg 40, .wd x.on, .sg 41]
def zF (x:Sx):List Pc:= [.wd (⟨#[68,82,79,80]⟩:ah), .bl, .wd x.name]
def oD (x:Sx):List Pc:= [.wd (⟨#[73,78,83,69,82,84]⟩:ah), .bl, .wd (⟨#[73,78,84,79]⟩:ah), .bl, .wd x.bT, .bl, .sg 40]++eB bA (x.sets.map fun p=> [.wd p.name])++ [.sg 41, .bl, .wd (⟨#[86,65,76,85,69,83]⟩:ah), .bl, .sg 40]++eB bA (x.sets.map fun p=> [dM p.t])++ [.sg 41]++dA x.stamp x.ttl
def oF (x:Sx):List Pc:= [.wd (⟨#[85,80,68,65,84,69]⟩:ah), .bl, .wd x.bT]++dA x.stamp x.ttl++ [.bl, .wd (⟨#[83,69,84]⟩:ah), .bl]++eB bA (x.sets.map bJ)++eF x.aH
def jT (x:Sx):List Pc:= [.wd (⟨#[68,69,76,69,84,69]⟩:ah), .bl]++(if x.aI= []then []else fZ x.aI++ [.bl])++ [.wd (⟨#[70,82,79,77]⟩:ah), .bl, .wd x.bT]++dA x.stamp x.ttl++eF x.aH
def zx (x:Sx):List Pc:= [.wd (⟨#[83,69,76,69,67,84]⟩:ah), .bl]++fZ x.aI++ [.bl, .wd (⟨#[70,82,79,77]⟩:ah), .bl, .wd x.bT]++eF x.aH++(if x.limit=0 then []else [.bl, .wd (⟨#[76,73,77,73,84]⟩:ah), .bl, .nm x.limit])
def nk (l:List (List Pc)):List Pc:= [.wd (⟨#[66,69,71,73,78]⟩:ah), .bl, .wd (⟨#[66,65,84,67,72]⟩:ah), .bl]++(l.flatMap fun a=>a++ [.sg 59, .bl])++ [.wd (⟨#[65,80,80,76,89]⟩:ah), .bl, .wd (⟨#[66,65,84,67,72]⟩:ah)]
def stP (x:Sx):List Pc:=
 if x.kind=1 then tJ x else if x.kind=2 then uH x else if x.kind=3 then tK x else if x.kind=4 then zF x
 else if x.kind=5 then oD x else if x.kind=6 then oF x else if x.kind=7 then jT x else if x.kind=8 then zx x
 else if x.kind=9 then nk []else []
structure kD where
 x:Sx
 parts:List Sx
def K8 (z:kD):List Pc:=if z.x.kind=9 then nk (z.parts.map stP)else stP z.x
def eO (z:kD):ByteArray:=aF (K8 z)
theorem kV {α β:Type}{f g:α→List β}:∀(l:List α),(∀a∈l,f a=g a)→l.flatMap f=l.flatMap g
 | [],_=>rfl
 |a::l,h=>by rw [List.flatMap_cons,List.flatMap_cons,h a (List.mem_cons_self ..),kV l fun x hx=>h x (List.mem_cons_of_mem _ hx)]
theorem zG {u l:ByteArray}(h:fold u=l) (h2:pW l um=false):(Pc.wd u).toks= [aW l]:=by
 show [((1:Int),fold u,(0:Int))]=_;rw [h];unfold aW;rw [h2];rfl
theorem gL:(Pc.wd (⟨#[67,82,69,65,84,69]⟩:ah)).toks= [aW (⟨#[99,114,101,97,116,101]⟩:ah)]:=zG (by decide+kernel) (by decide+kernel)
theorem iT:(Pc.wd (⟨#[84,65,66,76,69]⟩:ah)).toks= [aW (⟨#[116,97,98,108,101]⟩:ah)]:=zG (by decide+kernel) (by decide+kernel)
theorem fF:(Pc.wd (⟨#[80,82,73,77,65,82,89]⟩:ah)).toks= [aW (⟨#[112,114,105,109,97,114,121]⟩:ah)]:=zG (by decide+kernel) (by decide+kernel)
theorem mg:(Pc.wd (⟨#[75,69,89]⟩:ah)).toks= [aW (⟨#[107,101,121]⟩:ah)]:=zG (by decide+kernel) (by decide+kernel)
theorem cK:(Pc.wd (⟨#[77,65,84,69,82,73,65,76,73,90,69,68]⟩:ah)).toks= [aW (⟨#[109,97,116,101,114,105,97,108,105,122,101,100]⟩:ah)]:=zG (by decide+kernel) (by decide+kernel)
theorem jU:(Pc.wd (⟨#[86,73,69,87]⟩:ah)).toks= [aW (⟨#[118,105,101,119]⟩:ah)]:=zG (by decide+kernel) (by decide+kernel)
theorem qd:(Pc.wd (⟨#[65,83]⟩:ah)).toks= [aW (⟨#[97,115]⟩:ah)]:=zG (by decide+kernel) (by decide+kernel)
theorem gM:(Pc.wd (⟨#[83,69,76,69,67,84]⟩:ah)).toks= [aW (⟨#[115,101,108,101,99,116]⟩:ah)]:=zG (by decide+kernel) (by decide+kernel)
theorem jV:(Pc.wd (⟨#[70,82,79,77]⟩:ah)).toks= [aW (⟨#[102,114,111,109]⟩:ah)]:=zG (by decide+kernel) (by decide+kernel)
theorem iU:(Pc.wd (⟨#[87,72,69,82,69]⟩:ah)).toks= [aW (⟨#[119,104,101,114,101]⟩:ah)]:=zG (by decide+kernel) (by decide+kernel)
theorem qg:(Pc.wd (⟨#[73,83]⟩:ah)).toks= [aW (⟨#[105,115]⟩:ah)]:=zG (by decide+kernel) (by decide+kernel)
theorem mh:(Pc.wd (⟨#[78,79,84]⟩:ah)).toks= [aW (⟨#[110,111,116]⟩:ah)]:=zG (by decide+kernel) (by decide+kernel)
theorem jW:(Pc.wd (⟨#[78,85,76,76]⟩:ah)).toks= [aW (⟨#[110,117,108,108]⟩:ah)]:=zG (by decide+kernel) (by decide+kernel)
theorem iV:(Pc.wd (⟨#[73,78,68,69,88]⟩:ah)).toks= [aW (⟨#[105,110,100,101,120]⟩:ah)]:=zG (by decide+kernel) (by decide+kernel)
theorem qh:(Pc.wd (⟨#[79,78]⟩:ah)).toks= [aW (⟨#[111,110]⟩:ah)]:=zG (by decide+kernel) (by decide+kernel)
theorem jX:(Pc.wd (⟨#[68,82,79,80]⟩:ah)).toks= [aW (⟨#[100,114,111,112]⟩:ah)]:=zG (by decide+kernel) (by decide+kernel)
theorem gN:(Pc.wd (⟨#[73,78,83,69,82,84]⟩:ah)).toks= [aW (⟨#[105,110,115,101,114,116]⟩:ah)]:=zG (by decide+kernel) (by decide+kernel)
theorem jY:(Pc.wd (⟨#[73,78,84,79]⟩:ah)).toks= [aW (⟨#[105,110,116,111]⟩:ah)]:=zG (by decide+kernel) (by decide+kernel)
theorem gP:(Pc.wd (⟨#[86,65,76,85,69,83]⟩:ah)).toks= [aW (⟨#[118,97,108,117,101,115]⟩:ah)]:=zG (by decide+kernel) (by decide+kernel)
theorem iW:(Pc.wd (⟨#[85,83,73,78,71]⟩:ah)).toks= [aW (⟨#[117,115,105,110,103]⟩:ah)]:=zG (by decide+kernel) (by decide+kernel)
theorem gQ:(Pc.wd (⟨#[85,80,68,65,84,69]⟩:ah)).toks= [aW (⟨#[117,112,100,97,116,101]⟩:ah)]:=zG (by decide+kernel) (by decide+kernel)
theorem mo:(Pc.wd (⟨#[83,69,84]⟩:ah)).toks= [aW (⟨#[115,101,116]⟩:ah)]:=zG (by decide+kernel) (by decide+kernel)
theorem mq:(Pc.wd (⟨#[65,78,68]⟩:ah)).toks= [aW (⟨#[97,110,100]⟩:ah)]:=zG (by decide+kernel) (by decide+kernel)
theorem gT:(Pc.wd (⟨#[68,69,76,69,84,69]⟩:ah)).toks= [aW (⟨#[100,101,108,101,116,101]⟩:ah)]:=zG (by decide+kernel) (by decide+kernel)
theorem dP:(Pc.wd (⟨#[84,73,77,69,83,84,65,77,80]⟩:ah)).toks= [aW (⟨#[116,105,109,101,115,116,97,109,112]⟩:ah)]:=zG (by decide+kernel) (by decide+kernel)
theorem iX:(Pc.wd (⟨#[76,73,77,73,84]⟩:ah)).toks= [aW (⟨#[108,105,109,105,116]⟩:ah)]:=zG (by decide+kernel) (by decide+kernel)
theorem iY:(Pc.wd (⟨#[66,69,71,73,78]⟩:ah)).toks= [aW (⟨#[98,101,103,105,110]⟩:ah)]:=zG (by decide+kernel) (by decide+kernel)
theorem iZ:(Pc.wd (⟨#[66,65,84,67,72]⟩:ah)).toks= [aW (⟨#[98,97,116,99,104]⟩:ah)]:=zG (by decide+kernel) (by decide+kernel)
theorem jc:(Pc.wd (⟨#[65,80,80,76,89]⟩:ah)).toks= [aW (⟨#[97,112,112,108,121]⟩:ah)]:=zG (by decide+kernel) (by decide+kernel)
theorem mD:(Pc.wd (⟨#[84,84,76]⟩:ah)).toks= [aW (⟨#[116,116,108]⟩:ah)]:=zG (by decide+kernel) (by decide+kernel)
theorem jG:(Pc.wd (⟨#[84,69,88,84]⟩:ah)).toks= [aW (⟨#[116,101,120,116]⟩:ah)]:=zG (by decide+kernel) (by decide+kernel)
theorem kW:(Pc.wd (⟨#[73,78,84]⟩:ah)).toks= [aW (⟨#[105,110,116]⟩:ah)]:=zG (by decide+kernel) (by decide+kernel)
theorem qj:(Pc.sg 40).toks= [aW (⟨#[40]⟩:ah)]:=by decide+kernel
theorem ql:(Pc.sg 41).toks= [aW (⟨#[41]⟩:ah)]:=by decide+kernel
theorem qm:(Pc.sg 44).toks= [aW (⟨#[44]⟩:ah)]:=by decide+kernel
theorem qo:(Pc.sg 59).toks= [aW (⟨#[59]⟩:ah)]:=by decide+kernel
theorem qp:(Pc.sg 61).toks= [aW (⟨#[61]⟩:ah)]:=by decide+kernel
theorem qw:(Pc.sg 42).toks= [aW (⟨#[42]⟩:ah)]:=by decide+kernel
theorem qy:Pc.bl.toks= []:=rfl
theorem qz (n:Int):(Pc.nm n).toks= [Dj n]:=rfl
theorem gU:fH []= []:=rfl
theorem BA (b:List Pc) (h:nb false b=true):nb true (bA++b)=true:=by
 unfold bA;simp only [List.cons_append,List.nil_append,nb,Pc.hard];simpa using h
theorem acL (b:List Pc) (h:nb false b=true):nb true (rY++b)=true:=by
 unfold rY;simp only [List.cons_append,List.nil_append,nb,Pc.hard];simpa using h
theorem BD:∀p∈bA,p.ok:=by
 intro p hp;unfold bA at hp;simp only [List.mem_cons,List.not_mem_nil,or_false]at hp;rcases hp with rfl|rfl
 · show (44:UInt8)=40∨_;decide
 · trivial
theorem jd {s:ByteArray}(h:nP s=true) (h2:s.size≤100):(Pc.wd s).ok:=⟨h,h2⟩
theorem acM:∀p∈rY,p.ok:=by
 intro p hp;unfold rY at hp;simp only [List.mem_cons,List.not_mem_nil,or_false]at hp;rcases hp with rfl|rfl|rfl
 · trivial
 · exact jd (by decide+kernel) (by decide)
 · trivial
theorem iM {s:ByteArray}(h:dz s):(Pc.wd s).ok:=⟨h.1,h.2.2.1⟩
theorem R8 {t:Tm}(h:nT t):(dM t).ok:=by
 unfold dM;rcases h with ⟨h1,h2,h3,_⟩|⟨h1,_,h3,h4⟩
 · rw [if_pos h1];exact ⟨h2,h3⟩
 · rw [if_neg (by rw [h1];decide)];exact ⟨h3,h4⟩
theorem BF {n:Int}(h:jR n):(Pc.nm n).ok:=⟨by have:=h.1;omega,h.2⟩
theorem JX (t:Tm):(dM t).toks= [uo t]:=by
 unfold dM uo;by_cases h:t.ty=1<;>simp [h,Pc.toks]
theorem eY {s:ByteArray}(h:dz s):(Pc.wd s).toks= [fP s]:=by
 show [((1:Int),fold s,(0:Int))]=_;rw [h.2.1];rfl
theorem xK (sep:List Pc):∀(l:List (List Pc)),fH (eB sep l)=match l with| []=> []|a::l=>fH a++l.flatMap fun b=>fH sep++fH b
 | []=>rfl
 |a::l=>by
  unfold eB;rw [iF];congr 1
  induction l with
  |nil=>rfl
  |cons b l ih=>rw [List.flatMap_cons,iF,iF,ih,List.flatMap_cons]
theorem sH:fH bA= [aW (⟨#[44]⟩:ah)]:=by decide+kernel
theorem TQ:fH rY= [aW (⟨#[97,110,100]⟩:ah)]:=by decide+kernel
theorem JY {l:List ByteArray}(h:∀s∈l,dz s):fH (eB bA (l.map fun s=> [.wd s]))=uz l:=by
 rw [xK];cases l with
 |nil=>rfl
 |cons a l=>
  simp only [List.map_cons,uz];have h1:fH [Pc.wd a]= [fP a]:=by rw [bX,eY (h a (List.mem_cons_self ..))];rfl
  rw [h1,sH,List.flatMap_map,List.singleton_append];congr 1;unfold qY;refine kV _ fun s hs=> ?_
  rw [bX,eY (h s (List.mem_cons_of_mem _ hs))];rfl
theorem TR (l:List Tm):fH (eB bA (l.map fun s=> [dM s]))=MS l:=by
 rw [xK];cases l with
 |nil=>rfl
 |cons a l=>
  simp only [List.map_cons,MS];have h1:∀a:Tm,fH [dM a]= [uo a]:=fun a=>by rw [bX,JX];rfl
  rw [h1,sH,List.flatMap_map,List.singleton_append];congr 1;unfold tH;refine kV _ fun s _=> ?_
  rw [h1];rfl
theorem vL {p:Pr}(h:nW p):fH (bJ p)=pairT p:=by
 unfold bJ pairT;rw [bX,eY h.1,bX,bX,bX,bX,JX];rfl
theorem TS {l:List Pr}(h:∀p∈l,nW p):fH (eB bA (l.map bJ))=uE l:=by
 rw [xK];cases l with
 |nil=>rfl
 |cons a l=>
  simp only [List.map_cons,uE];rw [vL (h a (List.mem_cons_self ..)),sH,List.flatMap_map];congr 1;refine kV _ fun s hs=> ?_
  rw [vL (h s (List.mem_cons_of_mem _ hs))];rfl
theorem Ad {l:List Pr}(h:∀p∈l,nW p):fH (eF l)=jN l:=by
 unfold eF jN;rw [iF,xK];rw [show fH [.bl, .wd (⟨#[87,72,69,82,69]⟩:ah), .bl]= [aW (⟨#[119,104,101,114,101]⟩:ah)]by decide+kernel,List.singleton_append];congr 1;cases l with
 |nil=>rfl
 |cons a l=>
  simp only [List.map_cons];rw [vL (h a (List.mem_cons_self ..)),TQ,List.flatMap_map];congr 1;refine kV _ fun s hs=> ?_
  rw [vL (h s (List.mem_cons_of_mem _ hs))];rfl
theorem Dr {l:List ByteArray}(h:∀s∈l,dz s):fH (fZ l)=wJ l:=by
 unfold fZ wJ;by_cases hl:l= []
 · rw [if_pos hl,if_pos hl];rfl
 · rw [if_neg hl,if_neg hl,JY h]
theorem Ae (stamp ttl:Int):fH (dA stamp ttl)=lZ stamp ttl:=by
 unfold dA lZ;by_cases h1:stamp=0
 · by_cases h2:ttl=0
   · rw [if_pos h1,if_pos h2,if_pos h1,if_pos h2];rfl
   · rw [if_pos h1,if_neg h2,if_pos h1,if_neg h2];simp only [iW,mD,qy,qz,gU,bX,List.nil_append,List.cons_append]
 · by_cases h2:ttl=0
   · rw [if_neg h1,if_pos h2,if_neg h1,if_pos h2];simp only [iW,dP,qy,qz,gU,bX,List.nil_append,List.cons_append]
   · rw [if_neg h1,if_neg h2,if_neg h1,if_neg h2];simp only [iW,mq,dP,mD,qy,qz,gU,bX,List.nil_append,List.cons_append]
theorem bZ {a b:List Pc}(ha:∀p∈a,p.ok) (hb:∀p∈b,p.ok):∀p∈a++b,p.ok:=by
 intro p hp;rcases List.mem_append.1 hp with h|h
 · exact ha p h
 · exact hb p h
theorem fJ:∀p∈([]:List Pc),p.ok:=by simp
theorem ay {q:Pc}{l:List Pc}(hq:q.ok) (hl:∀p∈l,p.ok):∀p∈q::l,p.ok:=by
 intro p hp;rcases List.mem_cons.1 hp with rfl|h
 · exact hq
 · exact hl p h
theorem dw:Pc.bl.ok:=trivial
theorem nu {c:UInt8}(h:c=40∨c=41∨c=44∨c=59∨c=61∨c=42):(Pc.sg c).ok:=h
theorem Dt:(Pc.wd (⟨#[67,82,69,65,84,69]⟩:ah)).ok:=jd (by decide+kernel) (by decide)
theorem Xe:(Pc.wd (⟨#[84,65,66,76,69]⟩:ah)).ok:=jd (by decide+kernel) (by decide)
theorem Gh:(Pc.wd (⟨#[80,82,73,77,65,82,89]⟩:ah)).ok:=jd (by decide+kernel) (by decide)
theorem Xf:(Pc.wd (⟨#[75,69,89]⟩:ah)).ok:=jd (by decide+kernel) (by decide)
theorem ES:(Pc.wd (⟨#[77,65,84,69,82,73,65,76,73,90,69,68]⟩:ah)).ok:=jd (by decide+kernel) (by decide)
theorem aau:(Pc.wd (⟨#[86,73,69,87]⟩:ah)).ok:=jd (by decide+kernel) (by decide)
theorem afd:(Pc.wd (⟨#[65,83]⟩:ah)).ok:=jd (by decide+kernel) (by decide)
theorem JZ:(Pc.wd (⟨#[83,69,76,69,67,84]⟩:ah)).ok:=jd (by decide+kernel) (by decide)
theorem K9:(Pc.wd (⟨#[70,82,79,77]⟩:ah)).ok:=jd (by decide+kernel) (by decide)
theorem M7:(Pc.wd (⟨#[87,72,69,82,69]⟩:ah)).ok:=jd (by decide+kernel) (by decide)
theorem afe:(Pc.wd (⟨#[73,83]⟩:ah)).ok:=jd (by decide+kernel) (by decide)
theorem acN:(Pc.wd (⟨#[78,79,84]⟩:ah)).ok:=jd (by decide+kernel) (by decide)
theorem aav:(Pc.wd (⟨#[78,85,76,76]⟩:ah)).ok:=jd (by decide+kernel) (by decide)
theorem Xg:(Pc.wd (⟨#[73,78,68,69,88]⟩:ah)).ok:=jd (by decide+kernel) (by decide)
theorem aff:(Pc.wd (⟨#[79,78]⟩:ah)).ok:=jd (by decide+kernel) (by decide)
theorem aaw:(Pc.wd (⟨#[68,82,79,80]⟩:ah)).ok:=jd (by decide+kernel) (by decide)
theorem TT:(Pc.wd (⟨#[73,78,83,69,82,84]⟩:ah)).ok:=jd (by decide+kernel) (by decide)
theorem aax:(Pc.wd (⟨#[73,78,84,79]⟩:ah)).ok:=jd (by decide+kernel) (by decide)
theorem TU:(Pc.wd (⟨#[86,65,76,85,69,83]⟩:ah)).ok:=jd (by decide+kernel) (by decide)
theorem Gi:(Pc.wd (⟨#[85,83,73,78,71]⟩:ah)).ok:=jd (by decide+kernel) (by decide)
theorem TV:(Pc.wd (⟨#[85,80,68,65,84,69]⟩:ah)).ok:=jd (by decide+kernel) (by decide)
theorem acO:(Pc.wd (⟨#[83,69,84]⟩:ah)).ok:=jd (by decide+kernel) (by decide)
theorem acP:(Pc.wd (⟨#[65,78,68]⟩:ah)).ok:=jd (by decide+kernel) (by decide)
theorem TW:(Pc.wd (⟨#[68,69,76,69,84,69]⟩:ah)).ok:=jd (by decide+kernel) (by decide)
theorem BG:(Pc.wd (⟨#[84,73,77,69,83,84,65,77,80]⟩:ah)).ok:=jd (by decide+kernel) (by decide)
theorem Xh:(Pc.wd (⟨#[76,73,77,73,84]⟩:ah)).ok:=jd (by decide+kernel) (by decide)
theorem Xi:(Pc.wd (⟨#[66,69,71,73,78]⟩:ah)).ok:=jd (by decide+kernel) (by decide)
theorem M8:(Pc.wd (⟨#[66,65,84,67,72]⟩:ah)).ok:=jd (by decide+kernel) (by decide)
theorem Xj:(Pc.wd (⟨#[65,80,80,76,89]⟩:ah)).ok:=jd (by decide+kernel) (by decide)
theorem Xk:(Pc.wd (⟨#[84,84,76]⟩:ah)).ok:=jd (by decide+kernel) (by decide)
theorem aay:(Pc.wd (⟨#[84,69,88,84]⟩:ah)).ok:=jd (by decide+kernel) (by decide)
theorem acQ:(Pc.wd (⟨#[73,78,84]⟩:ah)).ok:=jd (by decide+kernel) (by decide)
theorem Xl {c:Cl}(h:F5 c):∀p∈dN c,p.ok:=by
 unfold dN;refine ay (iM h.1) (ay dw (ay ?_ fJ));split
 · exact aay
 · exact acQ
theorem M9 {q:Pr}(h:nW q):∀p∈bJ q,p.ok:=by
 unfold bJ;exact ay (iM h.1) (ay dw (ay (nu (by decide)) (ay dw (ay (R8 h.2) fJ))))
theorem R9 {l:List ByteArray}(h:∀s∈l,dz s):∀p∈eB bA (l.map fun s=> [Pc.wd s]),p.ok:=by
 refine Gg BD fun a ha=> ?_
 obtain ⟨s,hs,rfl⟩:=List.mem_map.1 ha;exact ay (iM (h s hs)) fJ
theorem La {l:List ByteArray}(h:∀s∈l,dz s):∀p∈fZ l,p.ok:=by
 unfold fZ;split
 · exact ay (nu (by decide)) fJ
 · exact R9 h
theorem Gj {l:List Pr}(h:∀p∈l,nW p):∀p∈eF l,p.ok:=by
 unfold eF;refine bZ (ay dw (ay M7 (ay dw fJ))) (Gg acM fun a ha=> ?_);obtain ⟨s,hs,rfl⟩:=List.mem_map.1 ha;exact M9 (h s hs)
theorem aaz {l:List Pr}(h:∀p∈l,nW p):∀p∈eB bA (l.map bJ),p.ok:=by
 refine Gg BD fun a ha=> ?_
 obtain ⟨s,hs,rfl⟩:=List.mem_map.1 ha;exact M9 (h s hs)
theorem Gl {b:Bool}{stamp ttl:Int}(h:vC b stamp ttl):∀p∈dA stamp ttl,p.ok:=by
 obtain ⟨h1,h2⟩:=h;unfold dA;by_cases e1:stamp=0
 · by_cases e2:ttl=0
   · rw [if_pos e1,if_pos e2];exact fJ
   · have:=BF (h2.resolve_left e2).2;rw [if_pos e1,if_neg e2];exact ay dw (ay Gi (ay dw (ay Xk (ay dw (ay this fJ)))))
 · have g1:=BF (h1.resolve_left e1);by_cases e2:ttl=0
   · rw [if_neg e1,if_pos e2];exact ay dw (ay Gi (ay dw (ay BG (ay dw (ay g1 fJ)))))
   · have:=BF (h2.resolve_left e2).2;rw [if_neg e1,if_neg e2];exact ay dw (ay Gi (ay dw (ay BG (ay dw (ay g1 (ay dw (ay acP (ay dw (ay Xk (ay dw (ay this fJ)))))))))))
theorem Xm (c:Cl):nb false (dN c)=true:=rfl
theorem Na (p:Pr):nb false (bJ p)=true:=by
 unfold bJ;simp only [nb,Pc.hard,Bool.and_false,Bool.and_true,Bool.false_and,Bool.not_false]
theorem Sb (l:List ByteArray) (r:List Pc) (hr:nb true r=true):nb false (eB bA (l.map fun s=> [Pc.wd s])++r)=true:=
 Gf _ BA _ _ (fun a ha=>by obtain ⟨s,_,rfl⟩:=List.mem_map.1 ha;rfl) hr
theorem Xn (l:List Pr) (r:List Pc) (hr:nb true r=true):nb false (eB bA (l.map fun p=> [dM p.t])++r)=true:=
 Gf _ BA _ _ (fun a ha=>by obtain ⟨s,_,rfl⟩:=List.mem_map.1 ha;simp [nb]) hr
theorem Lb (l:List ByteArray) (r:List Pc) (hr:nb true r=true):nb false (fZ l++r)=true:=by
 unfold fZ;split
 · show nb false (Pc.sg 42::r)=true;simp only [nb,Pc.hard,Bool.false_and,Bool.not_false,Bool.true_and];exact Fp true r hr
 · exact Sb l r hr
theorem aaA (l:List Pr) (r:List Pc) (hr:nb true r=true):nb false (eB bA (l.map bJ)++r)=true:=
 Gf _ BA _ _ (fun a ha=>by obtain ⟨s,_,rfl⟩:=List.mem_map.1 ha;exact Na s) hr
theorem Gm (l:List Pr) (r:List Pc) (hr:nb true r=true):nb true (eF l++r)=true:=by
 unfold eF;rw [List.append_assoc];show nb true (Pc.bl::Pc.wd (⟨#[87,72,69,82,69]⟩:ah)::Pc.bl::_)=true;simp only [nb,Pc.hard,Bool.and_false,Bool.false_and,Bool.not_false,Bool.true_and];exact Gf _ acL _ _ (fun a ha=>by obtain ⟨s,_,rfl⟩:=List.mem_map.1 ha;exact Na s) hr
theorem Gn (stamp ttl:Int) (r:List Pc) (hr:nb true r=true):nb true (dA stamp ttl++r)=true:=by
 unfold dA;split
 · split
   · exact hr
   · simpa [nb,Pc.hard]using hr
 · split
   · simpa [nb,Pc.hard]using hr
   · simpa [nb,Pc.hard]using hr
structure uI (l:List Pc):Prop where
 ok:∀p∈l,p.ok
 nb:aN.nb false l=true
theorem uI.lex {l:List Pc}(h:uI l):LxF (aF l) (fH l):=R6 l false h.ok h.nb
theorem Af (pk ck:ByteArray) (hpc:ck≠pk):∀(C:List Cl) (x:Sx),
 (C.foldl (fun x c=>Tx.place x pk ck c) x)={x with
  part:=((C.filter fun c=>jf c.name pk).getLast?).getD x.part,
  aX:=((C.filter fun c=>jf c.name ck).getLast?).getD x.aX,
  aB:=x.aB++C.filter fun c=> !jf c.name pk&& !jf c.name ck}
 | [],x=>by simp
 |c::C,x=>by
  rw [List.foldl_cons,Af pk ck hpc C];unfold Tx.place;cases h1:jf c.name pk with
  |true=>
   have e:=eD.1 h1
   have h2:jf c.name ck=false:=by
    cases h2:jf c.name ck with
    |false=>rfl
    |true=>exact absurd ((eD.1 h2).symm.trans e) hpc
   simp [h1,h2,List.getLast?_cons]
  |false=>
   cases h2:jf c.name ck with
   |true=>
    simp [h1,h2,List.getLast?_cons]
   |false=>simp [h1,h2]
theorem Du:∀(r l:List ByteArray),uq l r ↔ (∀a∈r,a ∉ l)∧r.Nodup
 | [],l=>by simp [uq]
 |a::r,l=>by
  unfold uq;rw [Du r (l++ [a]),List.nodup_cons];constructor
  · rintro ⟨h1,h2,h3⟩;have ha:a ∉ l:=fun h=>by rw [qF.2 h]at h1;exact absurd h1 (by decide)
    refine ⟨fun x hx=> ?_,fun h=>h2 a h (by simp),h3⟩;rcases List.mem_cons.1 hx with rfl|hx
    · exact ha
    · exact fun h=>h2 x hx (by simp [h])
  · rintro ⟨h1,h2,h3⟩;refine ⟨?_,fun x hx h=> ?_,h3⟩
    · cases hb:pW a l with
      |false=>rfl
      |true=>exact absurd (qF.1 hb) (h1 a (List.mem_cons_self ..))
    · rcases List.mem_append.1 h with h|h
      · exact h1 x (List.mem_cons_of_mem _ hx) h
      · simp at h;subst h;exact h2 hx
theorem xL (pk:ByteArray):∀(C:List Cl),pk∈C.map Cl.name→(C.filter fun c=> !jf c.name pk).length+1≤C.length
 | [],h=>absurd h (by simp)
 |c::C,h=>by
  cases hb:jf c.name pk with
  |true=>
   simp only [List.filter_cons,hb,Bool.not_true,Bool.false_eq_true,if_false,List.length_cons];have:=List.length_filter_le (fun c:Cl=> !jf c.name pk) C;omega
  |false=>
   rw [List.map_cons,List.mem_cons]at h;have h2:=h.resolve_left fun e=>by rw [e]at hb;rw [eD.2 rfl]at hb;exact absurd hb (by decide)
   have:=xL pk C h2;simp only [List.filter_cons,hb,Bool.not_false,if_true,List.length_cons];omega
theorem xM {a b:ByteArray}(h:a≠b):jf a b=false:=by
 cases hb:jf a b with
 |false=>rfl
 |true=>exact absurd (eD.1 hb) h
theorem kX {nm:ByteArray}{C:List Cl}{pk ck:ByteArray}(h:vD nm C pk ck):
 ∃p c D,p.name=pk∧c.name=ck∧nX nm C pk ck={Sx.zero with kind:=1,name:=nm,bG:=nm,part:=p,aX:=c,aB:=D}∧nX nm (p::c::D) pk ck=nX nm C pk ck∧vD nm (p::c::D) pk ck:=by
 obtain ⟨h1,h2,h3,h4,h5,h6,h7⟩:=h
 have key:∀k,k∈C.map Cl.name→∃p,(C.filter fun c=>jf c.name k).getLast? =some p∧p.name=k∧p∈C:=by
  intro k hk;obtain ⟨c,hc,rfl⟩:=List.mem_map.1 hk;have hm:c∈C.filter fun d=>jf d.name c.name:=List.mem_filter.2 ⟨hc,eD.2 rfl⟩
  have hne:(C.filter fun d=>jf d.name c.name)≠ []:=fun e=>by rw [e]at hm;exact absurd hm (by simp)
  have hl:=List.getLast_mem hne;obtain ⟨hl1,hl2⟩:=List.mem_filter.1 hl;exact ⟨_,List.getLast?_eq_some_getLast hne,eD.1 hl2,hl1⟩
 obtain ⟨p,p1,p2,p3⟩:=key pk h5;obtain ⟨c,c1,c2,c3⟩:=key ck h6
 have e0:nX nm C pk ck={Sx.zero with kind:=1,name:=nm,bG:=nm,part:=p,aX:=c,aB:=C.filter fun c=> !jf c.name pk&& !jf c.name ck}:=by
  unfold nX;rw [Af pk ck h7,p1,c1];rfl
 have hD:∀d∈C.filter (fun c=> !jf c.name pk&& !jf c.name ck),d∈C∧jf d.name pk=false∧jf d.name ck=false:=by
  intro d hd;obtain ⟨hd1,hd2⟩:=List.mem_filter.1 hd;simp only [Bool.and_eq_true,Bool.not_eq_true']at hd2;exact ⟨hd1,hd2⟩
 refine ⟨p,c,C.filter fun c=> !jf c.name pk&& !jf c.name ck,p2,c2,e0, ?_,h1, ?_, ?_, ?_,by simp [p2],by simp [c2],h7⟩
 · rw [e0];have f1:(C.filter fun c=> !jf c.name pk&& !jf c.name ck).filter (fun c=>jf c.name pk)= []:=List.filter_eq_nil_iff.2 fun d hd=>by rw [(hD d hd).2.1];decide
   have f2:(C.filter fun c=> !jf c.name pk&& !jf c.name ck).filter (fun c=>jf c.name ck)= []:=List.filter_eq_nil_iff.2 fun d hd=>by rw [(hD d hd).2.2];decide
   have f3:(C.filter fun c=> !jf c.name pk&& !jf c.name ck).filter (fun c=> !jf c.name pk&& !jf c.name ck)=C.filter fun c=> !jf c.name pk&& !jf c.name ck:=List.filter_eq_self.2 fun d hd=>by rw [(hD d hd).2.1,(hD d hd).2.2];decide
   have g1:jf p.name pk=true:=eD.2 p2;have g2:jf c.name ck=true:=eD.2 c2;have g3:jf c.name pk=false:=xM (by rw [c2];exact h7);have g4:jf p.name ck=false:=xM (by rw [p2];exact h7.symm);unfold nX;rw [Af pk ck h7];simp only [List.filter_cons,g1,g2,g3,g4,f1,f2,f3,if_true,Bool.false_eq_true,if_false,Bool.not_true,Bool.not_false,Bool.false_and,Bool.and_false];rfl
 · intro d hd;rcases List.mem_cons.1 hd with rfl|hd
   · exact h2 _ p3
   · rcases List.mem_cons.1 hd with rfl|hd
     · exact h2 _ c3
     · exact h2 _ (hD d hd).1
 · have hn:=((Du _ _).1 h3).2;refine (Du _ _).2 ⟨by simp, ?_⟩;rw [List.map_cons,List.map_cons,List.nodup_cons,List.nodup_cons,p2,c2];refine ⟨?_, ?_, ?_⟩
   · intro hm;rcases List.mem_cons.1 hm with hm|hm
     · exact h7 hm.symm
     · obtain ⟨d,hd,he⟩:=List.mem_map.1 hm;have:=(hD d hd).2.1;rw [eD.2 he]at this;exact absurd this (by decide)
   · intro hm;obtain ⟨d,hd,he⟩:=List.mem_map.1 hm;have:=(hD d hd).2.2;rw [eD.2 he]at this;exact absurd this (by decide)
   · exact List.Nodup.sublist (List.Sublist.map _ List.filter_sublist) hn
 · have l1:=xL pk C h5
   have m2:ck∈(C.filter fun c=> !jf c.name pk).map Cl.name:=by
    refine List.mem_map.2 ⟨c,List.mem_filter.2 ⟨c3, ?_⟩,c2⟩;rw [xM (by rw [c2];exact h7)];rfl
   have l2:=xL ck _ m2;rw [List.filter_filter]at l2;have e:(C.filter fun a=>(!jf a.name ck)&& !jf a.name pk)=C.filter fun c=> !jf c.name pk&& !jf c.name ck:=List.filter_congr fun d _=>Bool.and_comm _ _
   rw [e]at l2;simp only [List.length_cons];omega
end aN
end Go.Proofs.YtcgadodckoalnaaGreatDoor
