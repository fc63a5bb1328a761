/- Parts of a proof. -/
import Derived.Test.YtcgadodckoalnaaGreatDoorB01
namespace Go.Proofs.YtcgadodckoalnaaGreatDoor
namespace aN
def Le (σ σ' :Ps):Prop:=σ.i≤σ'.i∧(σ'.bad=none→σ.bad=none)
theorem Le.refl (σ:Ps):Le σ σ:=⟨Nat.le_refl _,id⟩
theorem Le.trans {σ σ1 σ2:Ps}(h:Le σ σ1) (h' :Le σ1 σ2):Le σ σ2:=⟨Nat.le_trans h.1 h'.1,fun hb=>h.2 (h'.2 hb)⟩
theorem qW (σ:Ps) (a:Nat):Le σ (σ.wrong a):=by
 unfold Ps.wrong;cases hb:σ.bad with
 |none=>exact ⟨Nat.le_refl _,fun _=>hb⟩
 |some b=>exact Le.refl σ
theorem le_step (σ:Ps):Le σ σ.step:=⟨Nat.le_succ _,id⟩
theorem FY {c:Prop} [Decidable c] {σ σ1 σ2:Ps}(h1:Le σ σ1) (h2:Le σ σ2):Le σ (if c then σ1 else σ2):=by
 split
 · exact h1
 · exact h2
section
variable (X:Tx)
theorem yQ (σ:Ps):Le σ (X.fail σ):=qW _ _
theorem WK (σ:Ps) (s:ByteArray):Le σ (X.bC σ s):=FY (le_step _) (yQ X _)
theorem dx:∀(l:List ByteArray) (σ:Ps),Le σ (X.must σ l)
 | [],σ=>Le.refl σ
 |s::l,σ=>(WK X σ s).trans (dx l (X.bC σ s))
theorem jE (σ:Ps):Le σ (X.name σ).2:=by
 unfold Tx.name;split
 · split
   · exact yQ X _
   · exact le_step _
 · exact yQ X _
theorem xB (σ:Ps):Le σ (X.value σ).2:=by
 unfold Tx.value;split
 · exact le_step _
 · split
   · exact le_step _
   · exact yQ X _
theorem count_le (σ:Ps):Le σ (X.count σ).2:=(xB X σ).trans (FY (qW _ _) (Le.refl _))
theorem yR (σ:Ps) (l:List ByteArray) (most:Nat):Le σ (X.column σ l most).2:=by
 unfold Tx.column;have h1:Le σ (if most≤l.length then σ.wrong (X.here σ)else σ):=FY (qW _ _) (Le.refl _);exact (h1.trans (jE X _)).trans (FY (qW _ _) (Le.refl _))
theorem Ef (most:Nat):∀n σ l,Le σ (X.dD most n σ l).2
 |0,σ,l=>Le.refl σ
 |n+1,σ,l=>by
  rw [Tx.dD];split
  · exact ((le_step σ).trans (yR X _ _ _)).trans (Ef most n _ _)
  · exact Le.refl σ
theorem zY (σ:Ps) (most:Nat):Le σ (X.columns σ most).2:=(yR X σ [] most).trans (Ef X most _ _ _)
theorem lN (σ:Ps):Le σ (X.some_ σ).2:=by
 unfold Tx.some_;split
 · exact le_step _
 · exact zY X _ _
theorem oU (σ:Ps):Le σ (X.equal σ).2:=((jE X σ).trans (dx X _ _)).trans (xB X _)
theorem KW (σ:Ps) (b:Bool):Le σ (X.aH σ b).2:=by
 have h0:=(dx X [(⟨#[119,104,101,114,101]⟩:ah)] σ).trans (oU X _);unfold Tx.aH;simp only;split
 · exact (h0.trans (dx X _ _)).trans (oU X _)
 · split
   · exact (h0.trans (le_step _)).trans (oU X _)
   · exact h0
theorem jl (σ:Ps) (b:Bool) (x:Sx):Le σ (X.using_ σ b x).2:=by
 unfold Tx.using_;split
 · simp only;split
   · exact ((le_step σ).trans (le_step _)).trans (count_le X _)
   · have h0:=((le_step σ).trans (dx X [(⟨#[116,105,109,101,115,116,97,109,112]⟩:ah)] _)).trans (count_le X _);split
     · exact ((h0.trans (le_step _)).trans (dx X _ _)).trans (count_le X _)
     · exact h0
 · exact Le.refl σ
theorem one_le (σ:Ps) (l:List ByteArray) (but:ByteArray):Le σ (X.one σ l but).2:=(jE X σ).trans (FY (qW _ _) (Le.refl _))
theorem aag (σ:Ps):Le σ (X.kind σ).2:=by
 unfold Tx.kind;split
 · exact le_step _
 · exact dx X _ _
theorem JL:∀n σ l C,Le σ (X.gI n σ l C).2.2
 |0,σ,l,C=>Le.refl σ
 |n+1,σ,l,C=>by
  rw [Tx.gI];split
  · exact Le.refl σ
  · split
    · exact le_step σ
    · exact (((yR X σ l 10).trans (aag X _)).trans (dx X _ _)).trans (JL n _ _ _)
theorem WL (σ:Ps):Le σ (X.table σ).2:=
 (((((((jE X σ).trans (dx X _ _)).trans (JL X _ _ _ _)).trans (dx X _ _)).trans (one_le X _ _ _)).trans (dx X _ _)).trans (one_le X _ _ _)).trans (dx X _ _)
theorem aah (σ:Ps):Le σ (X.view σ).2:=
 ((((((((((((((dx X _ σ).trans (jE X _)).trans (dx X _ _)).trans (lN X _)).trans (dx X _ _)).trans (jE X _)).trans (dx X _ _)).trans (jE X _)).trans (dx X _ _)).trans (one_le X _ _ _)).trans (dx X _ _)).trans (jE X _)).trans (dx X _ _)).trans (jE X _)).trans (dx X _ _)
theorem index_le (σ:Ps):Le σ (X.index σ).2:=
 ((((((dx X _ σ).trans (jE X _)).trans (dx X _ _)).trans (jE X _)).trans (dx X _ _)).trans (jE X _)).trans (dx X _ _)
theorem FZ:∀n σ l,Le σ (X.dY n σ l).2
 |0,σ,l=>Le.refl σ
 |n+1,σ,l=>by
  rw [Tx.dY];split
  · exact ((le_step σ).trans (xB X _)).trans (FZ n _ _)
  · exact Le.refl σ
theorem TA (σ:Ps):Le σ (X.insert σ).2:=
 (((((((((dx X _ σ).trans (jE X _)).trans (dx X _ _)).trans (zY X _ _)).trans (dx X _ _)).trans (xB X _)).trans (FZ X _ _ _)).trans (FY (yQ X _) (Le.refl _))).trans (dx X _ _)).trans (jl X _ _ _)
theorem MN:∀n σ l Z,Le σ (X.kU n σ l Z).2
 |0,σ,l,Z=>Le.refl σ
 |n+1,σ,l,Z=>by
  have h0:=((yR X σ l 8).trans (dx X [(⟨#[61]⟩:ah)] _)).trans (xB X _);rw [Tx.kU];try simp only
  split
  · exact (h0.trans (le_step _)).trans (MN n _ _ _)
  · exact h0
theorem TB (σ:Ps):Le σ (X.update σ).2:=
 ((((jE X σ).trans (jl X _ _ _)).trans (dx X _ _)).trans (MN X _ _ _ _)).trans (KW X _ _)
theorem TD (σ:Ps):Le σ (X.remove σ).2:=by
 unfold Tx.remove
 have h0:Le σ (if X.sees σ (⟨#[102,114,111,109]⟩:ah)=true then ([],σ)else X.columns σ 8).2:=by
  split
  · exact Le.refl σ
  · exact zY X _ _
 exact (((h0.trans (dx X _ _)).trans (jE X _)).trans (jl X _ _ _)).trans (KW X _ _)
theorem acE (σ:Ps):Le σ (X.ask σ).2:=by
 have h0:=(((lN X σ).trans (dx X [(⟨#[102,114,111,109]⟩:ah)] _)).trans (jE X _)).trans (KW X _ false);unfold Tx.ask;simp only;split
 · exact (h0.trans (le_step _)).trans (count_le X _)
 · exact h0
theorem MO {st:Ps→Tx.Nd×Ps}(hst:∀σ,Le σ (st σ).2):∀n σ l,Le σ (X.jk st n σ l).2
 |0,σ,l=>Le.refl σ
 |n+1,σ,l=>by
  rw [Tx.jk];split
  · exact Le.refl σ
  · split
    · exact le_step σ
    · simp only;have h1:Le σ (st (if 8≤l.length then σ.wrong (X.here σ)else σ)).2:=(FY (qW _ _) (Le.refl _)).trans (hst _);split
      · exact (h1.trans (dx X _ _)).trans (MO hst n _ _)
      · exact ⟨h1.1,fun h=>absurd h (by simp)⟩
theorem KX:∀n σ,Le σ (X.jh n σ).2
 |0,σ=>Le.refl σ
 |n+1,σ=>by
  rw [Tx.jh];split
  · exact (le_step σ).trans (TA X _)
  split
  · exact (le_step σ).trans (TB X _)
  split
  · exact (le_step σ).trans (TD X _)
  split
  · exact (le_step σ).trans (acE X _)
  split
  · exact (((le_step σ).trans (dx X _ _)).trans (MO X (KX n) _ _ _)).trans (dx X _ _)
  split
  · exact (le_step σ).trans (jE X _)
  split
  · split
    · exact ((le_step σ).trans (le_step _)).trans (WL X _)
    split
    · exact ((le_step σ).trans (le_step _)).trans (aah X _)
    · exact (le_step σ).trans (index_le X _)
  · exact yQ X _
end
structure Cut (s t:ByteArray) (A:List Pt) (d:Nat):Prop where
 bytes:s.data.toList.drop d=t.data.toList
 size:s.size=d+t.size
 pts:pts s=A++(pts t).map (Pt.shift d)
theorem aai (m:Nat) (f g:Nat→Bool) (hfg:∀j,f (m+j)=g j):∀n k,Bh f n (m+k)=m+Bh g n k:=by
 intro n
 induction n with
 |zero=>intro k;rfl
 |succ n ih=>
  intro k;rw [Bh,Bh,hfg k];split
  · exact ih (k+1)
  · rfl
section
variable {s t:ByteArray}{A:List Pt}{d:Nat}(h:Cut s t A d)
include h
theorem Cut.len:(aN.pts s).length=A.length+(aN.pts t).length:=by rw [h.pts];simp
theorem Cut.get (k:Nat):(aN.pts s)[A.length+k]? =((aN.pts t)[k]?).map (Pt.shift d):=by
 rw [h.pts,List.getElem?_append_right (by omega),List.getElem?_map];rw [show A.length+k - A.length=k by omega]
theorem Cut.gG (k:Nat) (r:Int):aN.gG (aN.pts s) (A.length+k) r=aN.gG (aN.pts t) k r:=by
 unfold aN.gG;rw [h.get k];cases (aN.pts t)[k]? <;>rfl
theorem Cut.dJ (k:Nat):aN.dJ (aN.pts s) (A.length+k)=aN.dJ (aN.pts t) k:=by
 unfold aN.dJ;rw [h.get k];cases (aN.pts t)[k]? <;>rfl
theorem Cut.dh (k:Nat):aN.dh (aN.pts s) (A.length+k)=aN.dh (aN.pts t) k:=by
 unfold aN.dh;rw [h.get k];cases (aN.pts t)[k]? <;>rfl
theorem Cut.j4 (k:Nat):aN.j4 (aN.pts s) (A.length+k)=aN.j4 (aN.pts t) k:=by
 unfold aN.j4;rw [h.get k];cases (aN.pts t)[k]? <;>rfl
theorem Cut.aQ (k:Nat):aN.aQ s (aN.pts s) (A.length+k)=d+aN.aQ t (aN.pts t) k:=by
 unfold aN.aQ;rw [h.get k];cases (aN.pts t)[k]? with
 |none=>exact h.size
 |some p=>exact Nat.add_comm _ _
theorem Cut.dO (f g:Nat→Bool) (hfg:∀j,f (A.length+j)=g j) (k:Nat):aN.dO f (aN.pts s).length (A.length+k)=A.length+aN.dO g (aN.pts t).length k:=by
 unfold aN.dO;rw [h.len,show A.length+(aN.pts t).length - (A.length+k)=(aN.pts t).length - k by omega];exact aai A.length f g hfg _ _
theorem Cut.lineEnd (k:Nat):aN.lineEnd (aN.pts s) (A.length+k)=A.length+aN.lineEnd (aN.pts t) k:=
 h.dO _ _ (fun j=>by rw [h.gG]) k
theorem Cut.jD:∀n k,aN.jD (aN.pts s) n (A.length+k)=A.length+aN.jD (aN.pts t) n k:=by
 intro n
 induction n with
 |zero=>intro k;rfl
 |succ n ih=>
  intro k;rw [aN.jD,aN.jD,h.len];unfold eu jC;rw [h.gG,h.gG,h.gG,h.gG,h.gG,Nat.add_assoc,h.gG,h.lineEnd];by_cases h1:(aN.pts t).length≤k
  · rw [if_pos (by omega),if_pos h1]
  · rw [if_neg (by omega),if_neg h1];split
    · exact ih (k+1)
    · split
      · exact ih _
      · rfl
theorem Cut.skip (k:Nat):aN.skip (aN.pts s) (A.length+k)=A.length+aN.skip (aN.pts t) k:=by
 unfold aN.skip;rw [h.len,show A.length+(aN.pts t).length - (A.length+k)=(aN.pts t).length - k by omega];exact h.jD _ _
theorem Cut.ug:∀n k v ok,aN.ug (aN.pts s) n (A.length+k) v ok=((aN.ug (aN.pts t) n k v ok).1,(aN.ug (aN.pts t) n k v ok).2.1,A.length+(aN.ug (aN.pts t) n k v ok).2.2):=by
 intro n
 induction n with
 |zero=>intro k v ok;rfl
 |succ n ih=>
  intro k v ok;rw [aN.ug,aN.ug,h.dh,h.j4];split
  · exact ih (k+1) _ _
  · rfl
theorem Cut.num (k:Nat) (v:Int) (ok:Bool):aN.num (aN.pts s) (A.length+k) v ok=((aN.num (aN.pts t) k v ok).1,(aN.num (aN.pts t) k v ok).2.1,A.length+(aN.num (aN.pts t) k v ok).2.2):=by
 unfold aN.num;rw [h.len,show A.length+(aN.pts t).length - (A.length+k)=(aN.pts t).length - k by omega];exact h.ug _ _ _ _
theorem Cut.extract (a b:Nat):s.extract (d+a) (d+b)=t.extract a b:=by
 apply ByteArray.ext;apply Array.ext';simp only [ByteArray.data_extract,Array.toList_extract,List.extract_eq_take_drop];rw [←List.drop_drop,h.bytes,show d+b - (d+a)=b - a by omega]
theorem Cut.fq (k:Nat):aN.fq (aN.pts s) (A.length+k)=A.length+aN.fq (aN.pts t) k:=
 h.dO _ _ (fun j=>by rw [h.dJ,h.dh]) k
theorem Cut.ng (k:Nat):aN.ng s (aN.pts s) (A.length+k)=aN.ng t (aN.pts t) k:=by
 unfold aN.ng;rw [h.fq,h.aQ,h.aQ,h.extract]
def Tk.on (m:Nat) (x:Tk):Tk:=⟨x.kind,x.s,x.n,x.at_+m⟩
theorem Cut.kJ (k:Nat):aN.kJ s (aN.pts s) (A.length+k)=((aN.kJ t (aN.pts t) k).1.on A.length,(aN.kJ t (aN.pts t) k).2.1,A.length+(aN.kJ t (aN.pts t) k).2.2):=by
 unfold aN.kJ;rw [h.ng,h.fq,Nat.add_comm A.length k];rfl
theorem Cut.bS (k:Nat):aN.bS (aN.pts s) (A.length+k)=A.length+aN.bS (aN.pts t) k:=by
 unfold aN.bS;rw [h.gG];split<;>omega
theorem Cut.iq (k:Nat):aN.iq (aN.pts s) (A.length+k)=((aN.iq (aN.pts t) k).1,(aN.iq (aN.pts t) k).2.1,A.length+(aN.iq (aN.pts t) k).2.2):=by
 unfold aN.iq;rw [h.bS,h.num,h.dh]
theorem Cut.cO (k:Nat):aN.cO (aN.pts s) (A.length+k)=((aN.cO (aN.pts t) k).1.on A.length,(aN.cO (aN.pts t) k).2.1,A.length+(aN.cO (aN.pts t) k).2.2):=by
 unfold aN.cO;rw [h.iq,h.gG];simp only [h.dJ,Tk.on];rw [Nat.add_comm k]
theorem Cut.dn (a:Nat):aN.dn s ((d+a:Nat):Int)=(aN.dn t a).map fun x=>(x.1,x.2+(d:Int)):=by
 unfold aN.dn;have hb:s.data.toList[d+a]? =t.data.toList[a]? :=by rw [←h.bytes,List.getElem?_drop]
 have hs:=h.size;simp only [Int.toNat_natCast];rw [hb];by_cases hc:a<t.size∧t.data.toList[a]? =some 39
 · rw [if_pos ⟨by omega,by omega,hc.2⟩,if_pos ⟨by omega,by omega,hc.2⟩];rw [show s.data.toList.drop (d+a+1)=t.data.toList.drop (a+1)by rw [←h.bytes,List.drop_drop,Nat.add_assoc]];cases nM (t.data.toList.drop (a+1))with
   |none=>rfl
   |some x=>simp only [Option.map_some,Option.some.injEq,Prod.mk.injEq,true_and];omega
 · rw [if_neg (fun h=>hc ⟨by omega,h.2.2⟩),if_neg (fun h=>hc ⟨by omega,h.2.2⟩)];rfl
theorem Cut.bP (next:Int) (k:Nat):aN.bP (aN.pts s) (next+d) (A.length+k)=A.length+aN.bP (aN.pts t) next k:=by
 refine h.dO _ _ (fun j=> ?_) k;rw [h.get j];cases (aN.pts t)[j]? with
 |none=>rfl
 |some p=>
  show decide (((p.at_+d:Nat):Int)<next+d)=decide ((p.at_:Int)<next);rw [decide_eq_decide];omega
theorem Cut.j5 (k:Nat):aN.j5 s (aN.pts s) (A.length+k)=((aN.j5 t (aN.pts t) k).1.on A.length,(aN.j5 t (aN.pts t) k).2.1,A.length+(aN.j5 t (aN.pts t) k).2.2):=by
 unfold aN.j5;rw [h.aQ,h.dn];cases aN.dn t (aN.aQ t (aN.pts t) k)with
 |none=>simp only [Option.map_none,Tk.on];rw [Nat.add_comm k]
 |some x=>simp only [Option.map_some,Tk.on];rw [h.bP,Nat.add_comm k]
theorem Cut.dK (k:Nat) (hok:(aN.dK t (aN.pts t) k).2.1=true):aN.dK s (aN.pts s) (A.length+k)=((aN.dK t (aN.pts t) k).1.on A.length,true,A.length+(aN.dK t (aN.pts t) k).2.2):=by
 rw [←hok];unfold aN.dK at hok⊢;rw [h.dJ,h.dh,h.gG,h.gG,h.j4];split
 · exact h.kJ k
 · rename_i h1;rw [if_neg h1]at hok;split
   · exact h.cO k
   · rename_i h2;rw [if_neg h2]at hok;split
     · exact h.j5 k
     · rename_i h3;rw [if_neg h3]at hok;split
       · simp only [Tk.on];rw [Nat.add_comm k];rfl
       · rename_i h4;rw [if_neg h4]at hok;cases hok
theorem Cut.afa (k:Nat):(aN.dK s (aN.pts s) (A.length+k)).2.1=(aN.dK t (aN.pts t) k).2.1:=by
 unfold aN.dK;rw [h.dJ,h.dh,h.gG,h.gG,h.j4];split
 · rw [h.kJ k]
 · split
   · rw [h.cO k]
   · split
     · rw [h.j5 k]
     · split<;>rfl
def abU (m:Nat):Except Nat (List Tk)→Except Nat (List Tk)
 | .ok l=> .ok (l.map (Tk.on m))
 | .error a=> .error (m+a)
theorem Cut.eU:∀n k,aN.eU s (aN.pts s) n (A.length+k)=abU A.length (aN.eU t (aN.pts t) n k):=by
 intro n
 induction n with
 |zero=>intro k;rfl
 |succ n ih=>
  intro k;rw [aN.eU,aN.eU,h.skip,h.len,h.afa];by_cases h1:(aN.pts t).length≤aN.skip (aN.pts t) k
  · rw [if_pos (by omega),if_pos h1];rfl
  · rw [if_neg (by omega),if_neg h1];by_cases h2:(aN.dK t (aN.pts t) (aN.skip (aN.pts t) k)).2.1=true
    · rw [if_pos h2,if_pos h2,h.dK _ h2];simp only [];rw [ih];cases aN.eU t (aN.pts t) n (aN.dK t (aN.pts t) (aN.skip (aN.pts t) k)).2.2<;>rfl
    · rw [if_neg h2,if_neg h2];rfl
end
theorem Cut.xC (s t:ByteArray) (hs:valid s=true):Cut (s++t) t (aN.pts s) s.size where
 bytes:=by rw [ByteArray.data_append,Array.toList_append,List.drop_append_of_le_length (by show s.size≤s.data.toList.length;exact Nat.le_refl _),List.drop_eq_nil_of_le (by show s.data.toList.length≤s.size;exact Nat.le_refl _),List.nil_append]
 size:=by rw [ByteArray.size_append]
 pts:=KQ s t hs
theorem Dh (s:ByteArray) (P:List Pt):∀n m i,P.length<n+i→P.length<m+i→eU s P n i=eU s P m i:=by
 intro n
 induction n with
 |zero=>
  intro m i h1 h2;cases m with
  |zero=>rfl
  |succ m=>rw [xw (by have:=lM P i;omega)];rfl
 |succ n ih=>
  intro m i h1 h2;have hs:=lM P i;cases m with
  |zero=>rw [xw (by omega)];rfl
  |succ m=>
   rw [eU,eU];by_cases h3:P.length≤skip P i
   · rw [if_pos h3,if_pos h3]
   · rw [if_neg h3,if_neg h3];by_cases h4:(dK s P (skip P i)).2.1=true
     · rw [if_pos h4,if_pos h4];have hg:=Bn (s:=s) (P:=P) (i:=skip P i) (by omega) h4;rw [ih m _ (by omega) (by omega)]
     · rw [if_neg h4,if_neg h4]
def Lx (t:ByteArray) (l:List Tk):Prop:=eU t (pts t) ((pts t).length+1) 0= .ok l
theorem Lx.aP {t:ByteArray}{l:List Tk}(h:Lx t l) (hs:t.size≤1000):aP t=(l,0,0):=by
 unfold Lx at h;unfold aN.aP;rw [if_neg (by omega),h]
theorem Lx.nil:Lx ⟨#[]⟩ []:=rfl
theorem fV (a b c:ByteArray):(a++b)++c=a++(b++c):=by
 apply ByteArray.ext;simp
theorem Bo (a:ByteArray):a++(⟨#[]⟩:ah)=a:=by
 apply ByteArray.ext;simp
theorem Fh (c:UInt8) (hc:c.toNat<128):pts ⟨#[c]⟩= [⟨c.toNat,0,1⟩]:=by
 have h:(0:Nat)<(⟨#[c]⟩:ah).size:=Nat.zero_lt_one;have hd:=yP ⟨#[c]⟩ 0 h (by rw [←jZ ⟨#[c]⟩ 0 h];exact hc);have e:bY ⟨#[c]⟩ 0=c.toNat:=by rw [←jZ ⟨#[c]⟩ 0 h];rfl
 rw [ji,bM _ 0 h,hd,bR _ _ (by show¬(0+1<1);omega),e]
theorem qN (c:UInt8) (hc:c.toNat<128):valid ⟨#[c]⟩=true:=by
 unfold valid;rw [Fh c hc];simp [Pt.ok];omega
theorem vw (c:UInt8) (hc:c.toNat<128) (r:ByteArray):Cut (⟨#[c]⟩++r) r [⟨c.toNat,0,1⟩] 1:=by
 have:=Cut.xC ⟨#[c]⟩ r (qN c hc);rw [Fh c hc]at this;exact this
theorem vB (c:UInt8) (hc:c.toNat<128) (r:ByteArray):(pts (⟨#[c]⟩++r))[0]? =some ⟨c.toNat,0,1⟩:=by
 rw [(vw c hc r).pts];rfl
theorem jo (c:UInt8) (hc:c.toNat<128) (r:ByteArray) (x:Int):gG (pts (⟨#[c]⟩++r)) 0 x=((c.toNat:Int)==x):=by
 unfold gG;rw [vB c hc r]
theorem Lx.cons {s t:ByteArray}{A:List Pt}{d:Nat}(hc:Cut s t A d) {l:List Tk}(h:Lx t l) (n:Nat) (hn:(pts t).length<n):eU s (pts s) n A.length= .ok (l.map (Tk.on A.length)):=by
 have:=hc.eU n 0;rw [Nat.add_zero]at this;rw [this,Dh t (pts t) n ((pts t).length+1) 0 (by omega) (by omega),h];rfl
theorem Lx.blank (c:UInt8) (hc:c=32∨c=9∨c=10∨c=13) {t:ByteArray}{l:List Tk}(h:Lx t l):Lx (⟨#[c]⟩++t) (l.map (Tk.on 1)):=by
 have hlt:c.toNat<128:=by rcases hc with rfl|rfl|rfl|rfl<;>decide
 have hcut:=vw c hlt t;have hlen:=hcut.len
 have hb:eu (pts (⟨#[c]⟩++t)) 0=true:=by
  unfold eu;rw [jo c hlt,jo c hlt,jo c hlt,jo c hlt];rcases hc with rfl|rfl|rfl|rfl<;>rfl
 have hsk:skip (pts (⟨#[c]⟩++t)) 0=skip (pts (⟨#[c]⟩++t)) 1:=iE (by rw [hlen];show 0<1+_;omega) hb;have hx:=h.cons hcut ((pts (⟨#[c]⟩++t)).length+1) (by rw [hlen];omega);refine Eq.trans ?_ hx;show _=eU _ _ _ 1;rw [eU,eU,hsk]
theorem Lx.tok {p t:ByteArray}{l:List Tk}{x:Tk}(hp:valid p=true) (hne:pts p≠ []) (hsk:skip (pts (p++t)) 0=0) (htk:dK (p++t) (pts (p++t)) 0=(x,true,(pts p).length)) (h:Lx t l):
 Lx (p++t) (x::l.map (Tk.on (pts p).length)):=by
 have hcut:=Cut.xC p t hp;have hlen:=hcut.len;have hpl:0<(pts p).length:=List.length_pos_iff.2 hne;have hx:=h.cons hcut (pts (p++t)).length (by rw [hlen];omega);unfold Lx;rw [KV (by rw [hsk,hlen];omega) (by rw [hsk,htk]),hsk,htk];simp only [];rw [hx];rfl
def Stop (t:ByteArray):Prop:=dJ (pts t) 0=false∧dh (pts t) 0=false
theorem WM:Stop ⟨#[]⟩:=⟨rfl,rfl⟩
theorem xD (c:UInt8) (hc:c.toNat<48∨(58≤c.toNat∧c.toNat<65)) (t:ByteArray):Stop (⟨#[c]⟩++t):=by
 have hlt:c.toNat<128:=by omega
 unfold Stop dJ dh;rw [vB c hlt t];simp only [gD,kG];constructor
 · rw [Bool.and_eq_false_iff];right;simp only [Bool.or_eq_false_iff,Bool.and_eq_false_iff,beq_eq_false_iff_ne,decide_eq_false_iff_not];omega
 · simp only [Bool.and_eq_false_iff,decide_eq_false_iff_not];omega
theorem JM {f:Nat→Bool}{len m:Nat}(hm:m≤len) (hall:∀j,j<m→f j=true) (hst:f m=false):dO f len 0=m:=by
 have h:∀k,k≤m→dO f len 0=dO f len k:=by
  intro k
  induction k with
  |zero=>intro _;rfl
  |succ k ih=>
   intro hk;rw [ih (by omega),gH (by omega) (hall k (by omega))]
 rw [h m (Nat.le_refl _)];exact fE hst
theorem sG (s:ByteArray):aQ s (pts s) 0=0:=kT s 0 (Nat.zero_le _)
def nP (w:ByteArray):Bool:=dJ (pts w) 0&&((List.range (pts w).length).all fun k=>dJ (pts w) k||dh (pts w) k)&&valid w
theorem Fj (p t:ByteArray) (hp:valid p=true) (k:Nat) (hk:k<(pts p).length):(pts (p++t))[k]? =(pts p)[k]? :=by
 rw [KQ p t hp,List.getElem?_append_left hk]
theorem MP (p t:ByteArray):(p++t).extract 0 p.size=p:=by
 apply ByteArray.ext;apply Array.ext';simp only [ByteArray.data_extract,ByteArray.data_append,Array.toList_extract,Array.toList_append,List.extract_eq_take_drop,List.drop_zero,Nat.sub_zero];rw [List.take_append_of_le_length (by show p.size≤p.data.toList.length;exact Nat.le_refl _)];exact List.take_of_length_le (by show p.data.toList.length≤p.size;exact Nat.le_refl _)
theorem WO {w t:ByteArray}(hw:nP w=true) (ht:Stop t) (hs:w.size≤100):dK (w++t) (pts (w++t)) 0=(⟨1,fold w,0,0⟩,true,(pts w).length)∧skip (pts (w++t)) 0=0∧pts w≠ []∧valid w=true:=by
 unfold nP at hw;simp only [Bool.and_eq_true]at hw;obtain ⟨⟨h0,hall⟩,hv⟩:=hw;have hlt:=Bj h0;have hne:pts w≠ []:=by intro e;rw [e]at hlt;exact absurd hlt (by simp)
 have hcut:=Cut.xC w t hv;have hlen:=hcut.len;have hL:∀k,k<(pts w).length→dJ (pts (w++t)) k=dJ (pts w) k:=fun k hk=>by unfold dJ;rw [Fj w t hv k hk]
 have hD:∀k,k<(pts w).length→dh (pts (w++t)) k=dh (pts w) k:=fun k hk=>by unfold dh;rw [Fj w t hv k hk]
 have hB:∀c,gG (pts (w++t)) 0 c=gG (pts w) 0 c:=fun c=>by unfold gG;rw [Fj w t hv 0 hlt]
 have hend:fq (pts (w++t)) 0=(pts w).length:=by
  refine JM (by rw [hlen];omega) (fun j hj=> ?_) ?_
  · rw [hL j hj,hD j hj];exact List.all_eq_true.1 hall j (List.mem_range.2 hj)
  · have h1:=hcut.dJ 0;have h2:=hcut.dh 0;rw [Nat.add_zero]at h1 h2;rw [h1,h2,ht.1,ht.2];rfl
 have hbe:aQ (w++t) (pts (w++t)) (pts w).length=w.size:=by
  have:=hcut.aQ 0;rw [Nat.add_zero,sG t]at this;exact this
 have hwt:ng (w++t) (pts (w++t)) 0=w:=by
  unfold ng;rw [hend,sG,hbe,MP]
 have hno:∀c:Int,(c=32∨c=9∨c=10∨c=13∨c=45)→gG (pts w) 0 c=false:=by
  intro c hc;unfold dJ at h0;unfold gG;rw [List.getElem?_eq_getElem hlt]at h0⊢;simp only [gD,Bool.and_eq_true,Bool.or_eq_true,beq_iff_eq,decide_eq_true_eq]at h0;rw [beq_eq_false_iff_ne];omega
 refine ⟨?_, ?_,hne,hv⟩
 · unfold dK;rw [hL 0 hlt,if_pos h0];unfold kJ;rw [hwt,hend,decide_eq_true hs]
 · refine iL ?_ ?_
   · unfold eu;rw [hB,hB,hB,hB,hno 32 (by omega),hno 9 (by omega),hno 10 (by omega),hno 13 (by omega)];rfl
   · unfold jC;rw [hB,hno 45 (by omega),Bool.false_and]
theorem Lx.word {w t:ByteArray}{l:List Tk}(hw:nP w=true) (ht:Stop t) (hs:w.size≤100) (h:Lx t l):Lx (w++t) (⟨1,fold w,0,0⟩::l.map (Tk.on (pts w).length)):=by
 obtain ⟨h1,h2,h3,h4⟩:=WO hw ht hs;exact Lx.tok h4 h3 h2 h1 h
theorem WQ (c:UInt8) (hc:c=40∨c=41∨c=44∨c=59∨c=61∨c=42) (t:ByteArray):dK (⟨#[c]⟩++t) (pts (⟨#[c]⟩++t)) 0=(⟨4,⟨#[c]⟩,0,0⟩,true,1)∧skip (pts (⟨#[c]⟩++t)) 0=0:=by
 have hlt:c.toNat<128:=by rcases hc with rfl|rfl|rfl|rfl|rfl|rfl<;>decide
 have hst:Stop (⟨#[c]⟩++t):=xD c (by rcases hc with rfl|rfl|rfl|rfl|rfl|rfl<;>decide) t;have hr:j4 (pts (⟨#[c]⟩++t)) 0=(c.toNat:Int):=by unfold j4;rw [vB c hlt]
 constructor
 · unfold dK;rw [hst.1,hst.2,jo c hlt,jo c hlt,hr];rcases hc with rfl|rfl|rfl|rfl|rfl|rfl<;>rfl
 · refine iL ?_ ?_
   · unfold eu;rw [jo c hlt,jo c hlt,jo c hlt,jo c hlt];rcases hc with rfl|rfl|rfl|rfl|rfl|rfl<;>rfl
   · unfold jC;rw [jo c hlt];rcases hc with rfl|rfl|rfl|rfl|rfl|rfl<;>rfl
theorem Lx.sign (c:UInt8) (hc:c=40∨c=41∨c=44∨c=59∨c=61∨c=42) {t:ByteArray}{l:List Tk}(h:Lx t l):Lx (⟨#[c]⟩++t) (⟨4,⟨#[c]⟩,0,0⟩::l.map (Tk.on 1)):=by
 have hlt:c.toNat<128:=by rcases hc with rfl|rfl|rfl|rfl|rfl|rfl<;>decide
 obtain ⟨h1,h2⟩:=WQ c hc t;have e:(pts ⟨#[c]⟩).length=1:=by rw [Fh c hlt];rfl
 have:=Lx.tok (p:=⟨#[c]⟩) (qN c hlt) (by rw [Fh c hlt];simp) h2 (by rw [h1,e]) h;rw [e]at this;exact this
abbrev To:=Int×ByteArray×Int
def Tk.fo (t:Tk):To:=(t.kind,t.s,t.n)
def Tx.F (X:Tx):List To:=X.T.map Tk.fo
def um:List ByteArray:= [(⟨#[40]⟩:ah),(⟨#[41]⟩:ah),(⟨#[44]⟩:ah),(⟨#[59]⟩:ah),(⟨#[61]⟩:ah),(⟨#[42]⟩:ah)]
def aW (s:ByteArray):To:=(if pW s um then 4 else 1,s,0)
def fP (s:ByteArray):To:=(1,s,0)
def uo (t:Tm):To:=if t.ty=1 then (3,t.s,0)else (2,⟨#[]⟩,t.n)
def KY (t:To):Prop:=(t.1=1∧nP t.2.1=true∧fold t.2.1=t.2.1∧t.2.1.size≤100∧t.2.2=0)∨(t.1=2∧t.2.1=⟨#[]⟩∧ -1099511627776≤t.2.2∧t.2.2≤1099511627776)∨(t.1=3∧valid t.2.1=true∧t.2.1.size≤100∧t.2.2=0)∨(t.1=4∧pW t.2.1 um=true∧t.2.2=0)
def Tx.Ok (X:Tx):Prop:=∀t∈X.F,KY t
def dz (s:ByteArray):Prop:=nP s=true∧fold s=s∧s.size≤100∧zX s=false
def nT (t:Tm):Prop:=(t.ty=1∧valid t.s=true∧t.s.size≤100∧t.n=0)∨(t.ty=2∧t.s=⟨#[]⟩∧ -1099511627776≤t.n∧t.n≤1099511627776)
def jR (n:Int):Prop:=1≤n∧n≤1099511627776
def uq:List ByteArray→List ByteArray→Prop
 |_, []=>True
 |l,a::r=>pW a l=false∧uq (l++ [a]) r
theorem eD {a b:ByteArray}:jf a b=true ↔ a=b:=by unfold jf;exact decide_eq_true_iff
theorem qF {x:ByteArray}{l:List ByteArray}:pW x l=true ↔ x∈l:=by
 unfold pW;rw [List.any_eq_true];constructor
 · rintro ⟨y,hy,h⟩;rw [eD.1 h];exact hy
 · intro h;exact ⟨x,h,eD.2 rfl⟩
theorem zZ {s:ByteArray}(h:nP s=true):pW s um=false:=by
 cases hs:pW s um with
 |false=>rfl
 |true=>
  exfalso;have:=qF.1 hs;unfold um at this;simp only [List.mem_cons,List.not_mem_nil,or_false]at this;rcases this with rfl|rfl|rfl|rfl|rfl|rfl<;>exact absurd h (by decide+kernel)
section
variable {X:Tx}
theorem Di {i:Nat}{t:Tk}(h:X.T[i]? =some t):X.F.drop i=t.fo::X.F.drop (i+1):=by
 obtain ⟨hi,rfl⟩:=List.getElem?_eq_some_iff.1 h;unfold Tx.F;rw [List.drop_eq_getElem_cons (by simpa using hi)];simp
theorem JN {i:Nat}(h:X.T[i]? =none):X.F.drop i= []:=by
 unfold Tx.F;exact List.drop_eq_nil_of_le (by simpa using List.getElem?_eq_none_iff.1 h)
def mO (L:List To) (s:ByteArray):Bool:=match L with| []=>false|t::_=>(t.1==1||t.1==4)&&jf t.2.1 s
theorem WR {σ:Ps}(h:σ.bad=none) (s:ByteArray):X.sees σ s=mO (X.F.drop σ.i) s:=by
 unfold Tx.sees Tx.next;rw [h];cases hx:X.T[σ.i]? with
 |none=>rw [JN hx];rfl
 |some t=>
  rw [Di hx];obtain ⟨k,x,n,a⟩:=t;simp only [mO,Tk.fo];by_cases h1:k=1
  · subst h1;simp
  · by_cases h4:k=4
    · subst h4;simp
    · simp [h1,h4]
theorem WS {σ:Ps}{a:Nat}(h:σ.bad=some a) (s:ByteArray):X.sees σ s=false:=by unfold Tx.sees Tx.next;rw [h];rfl
theorem nU {σ:Ps}{s:ByteArray}(h:X.sees σ s=true):σ.bad=none:=by
 cases hb:σ.bad with
 |none=>rfl
 |some a=>rw [WS hb]at h;exact absurd h (by decide)
theorem RV {i:Nat}{t:To}{L:List To}(h:X.F.drop i=t::L):t∈X.F:=List.mem_of_mem_drop (by rw [h];exact List.mem_cons_self ..)
theorem JO {i:Nat}{t:To}{L:List To}(h:X.F.drop i=t::L):X.F.drop (i+1)=L:=by
 rw [←List.drop_drop,h];rfl
theorem MQ (hX:X.Ok) {σ:Ps}{s:ByteArray}(h:X.sees σ s=true):X.F.drop σ.i=aW s::X.F.drop (σ.i+1):=by
 rw [WR (nU h)]at h;cases hd:X.F.drop σ.i with
 |nil=>rw [hd]at h;exact absurd h (by simp [mO])
 |cons t L=>
  rw [hd]at h;rw [JO hd];have ht:=hX t (RV hd);obtain ⟨k,x,n⟩:=t;simp only [mO,Bool.and_eq_true,Bool.or_eq_true,beq_iff_eq]at h;obtain ⟨hk,hs⟩:=h;have hs:=eD.1 hs;subst hs;unfold KY at ht;simp only at ht;congr 1;unfold aW;rcases ht with ⟨h1,h2,_,_,h5⟩|⟨h1,_⟩|⟨h1,_⟩|⟨h1,h2,h3⟩
  · rw [zZ h2,h1,h5];rfl
  · rcases hk with hk|hk<;>rw [h1]at hk<;>exact absurd hk (by decide)
  · rcases hk with hk|hk<;>rw [h1]at hk<;>exact absurd hk (by decide)
  · rw [h2,h1,h3];rfl
def qX (X:Tx) (σ:Ps) (L:List To) (σ' :Ps):Prop:=σ.bad=none∧X.F.drop σ.i=L++X.F.drop σ'.i
theorem qX.trans {σ σ1 σ2:Ps}{L M:List To}(h:qX X σ L σ1) (h' :qX X σ1 M σ2):qX X σ (L++M) σ2:=⟨h.1,by rw [h.2,h'.2,List.append_assoc]⟩
theorem qX.refl {σ:Ps}(h:σ.bad=none):qX X σ [] σ:=⟨h,rfl⟩
theorem mP {σ:Ps}{a:Nat}:(σ.wrong a).bad≠none:=by
 unfold Ps.wrong;cases hb:σ.bad with
 |none=>simp
 |some b=>rw [hb];simp
theorem uw {c:Prop} [Decidable c] {σ:Ps}{a:Nat}(h:(if c then σ.wrong a else σ).bad=none):¬c∧(if c then σ.wrong a else σ)=σ:=by
 by_cases hc:c
 · rw [if_pos hc]at h;exact absurd h mP
 · exact ⟨hc,if_neg hc⟩
theorem fG (hX:X.Ok) {σ:Ps}{s:ByteArray}(h:X.sees σ s=true):qX X σ [aW s] σ.step:=⟨nU h,MQ hX h⟩
theorem TF (hX:X.Ok) {σ:Ps}{s:ByteArray}(h:(X.bC σ s).bad=none):qX X σ [aW s] (X.bC σ s):=by
 unfold Tx.bC at h⊢;split at h
 · rename_i hs;rw [if_pos hs];exact fG hX hs
 · exact absurd h mP
theorem bW (hX:X.Ok):∀(l:List ByteArray) {σ:Ps}(_:(X.must σ l).bad=none),qX X σ (l.map aW) (X.must σ l)
 | [],σ,h=>qX.refl h
 |s::l,σ,h=>by
  have h2:=bW hX l (σ:=X.bC σ s) h;exact (TF hX h2.1).trans h2
theorem F3 {σ:Ps}{k:Int}{t:Tk}(h:X.next σ k=some t):σ.bad=none∧t.kind=k∧X.F.drop σ.i=t.fo::X.F.drop (σ.i+1):=by
 unfold Tx.next at h;cases hb:σ.bad with
 |some a=>rw [hb]at h;exact absurd h (by simp)
 |none=>
  rw [hb]at h;cases hx:X.T[σ.i]? with
  |none=>rw [hx]at h;exact absurd h (by simp)
  |some u=>
   rw [hx]at h;simp only at h;split at h
   · rename_i hk;cases h;exact ⟨rfl,hk,Di hx⟩
   · exact absurd h (by simp)
theorem iw (hX:X.Ok) {σ:Ps}(h:(X.name σ).2.bad=none):qX X σ [fP (X.name σ).1] (X.name σ).2∧dz (X.name σ).1:=by
 unfold Tx.name at h⊢;cases hx:X.next σ 1 with
 |none=>rw [hx]at h;exact absurd h mP
 |some t=>
  rw [hx]at h;simp only at h⊢;split at h
  · exact absurd h mP
  · rename_i hr;rw [if_neg hr];obtain ⟨h1,h2,h3⟩:=F3 hx;have ho:=hX _ (RV h3);have hr:zX t.s=false:=by cases hb:zX t.s with|false=>rfl|true=>exact absurd hb hr
    unfold KY Tk.fo at ho;simp only [h2]at ho;rcases ho with ⟨_,a,b,c,d⟩|⟨e,_⟩|⟨e,_⟩|⟨e,_⟩
    · refine ⟨⟨h1, ?_⟩,a,b,c,hr⟩;show X.F.drop σ.i=fP t.s::X.F.drop (σ.i+1);rw [h3];unfold Tk.fo fP;rw [h2,d]
    · exact absurd e (by decide)
    · exact absurd e (by decide)
    · exact absurd e (by decide)
theorem qO (hX:X.Ok) {σ:Ps}(h:(X.value σ).2.bad=none):qX X σ [uo (X.value σ).1] (X.value σ).2∧nT (X.value σ).1:=by
 unfold Tx.value at h⊢;cases hx:X.next σ 3 with
 |some t=>
  simp only;obtain ⟨h1,h2,h3⟩:=F3 hx;have ho:=hX _ (RV h3);unfold KY Tk.fo at ho;simp only [h2]at ho;rcases ho with ⟨e,_⟩|⟨e,_⟩|⟨_,a,b,c⟩|⟨e,_⟩
  · exact absurd e (by decide)
  · exact absurd e (by decide)
  · refine ⟨⟨h1, ?_⟩, .inl ⟨rfl,a,b,rfl⟩⟩;show X.F.drop σ.i=uo ⟨1,t.s,0⟩::X.F.drop (σ.i+1);rw [h3];unfold Tk.fo uo;rw [h2,c,if_pos rfl]
  · exact absurd e (by decide)
 |none=>
  rw [hx]at h;simp only at h⊢;cases hy:X.next σ 2 with
  |none=>rw [hy]at h;exact absurd h mP
  |some t=>
   simp only;obtain ⟨h1,h2,h3⟩:=F3 hy;have ho:=hX _ (RV h3);unfold KY Tk.fo at ho;simp only [h2]at ho;rcases ho with ⟨e,_⟩|⟨_,a,b,c⟩|⟨e,_⟩|⟨e,_⟩
   · exact absurd e (by decide)
   · refine ⟨⟨h1, ?_⟩, .inr ⟨rfl,rfl,b,c⟩⟩;show X.F.drop σ.i=uo ⟨2,⟨#[]⟩,t.n⟩::X.F.drop (σ.i+1);rw [h3];unfold Tk.fo uo;rw [h2,a,if_neg (show¬((2:Int)=1)by decide)]
   · exact absurd e (by decide)
   · exact absurd e (by decide)
def Dj (n:Int):To:=(2,⟨#[]⟩,n)
theorem uy (hX:X.Ok) {σ:Ps}(h:(X.count σ).2.bad=none):qX X σ [Dj (X.count σ).1] (X.count σ).2∧jR (X.count σ).1:=by
 unfold Tx.count at h⊢;simp only at h⊢;obtain ⟨h1,h2⟩:=uw h;rw [h2]at h⊢;obtain ⟨h3,_⟩:=qO hX h;simp only [not_or,Decidable.not_not,Int.not_lt]at h1;refine ⟨?_,h1.2.1,h1.2.2⟩;unfold uo at h3;rw [if_neg (by rw [h1.1];decide)]at h3;exact h3
theorem nV (hX:X.Ok) {σ:Ps}{l:List ByteArray}{most:Nat}(h:(X.column σ l most).2.bad=none):
 ∃s,(X.column σ l most).1=l++ [s]∧qX X σ [fP s] (X.column σ l most).2∧dz s∧pW s l=false∧l.length<most:=by
 unfold Tx.column at h⊢;simp only at h⊢;obtain ⟨h1,h2⟩:=uw h;rw [h2]at h⊢;obtain ⟨h3,h4⟩:=iw hX h;obtain ⟨h5,h6⟩:=uw h3.1;rw [h6]at h3 h4 h1⊢;exact ⟨_,rfl,h3,h4,by simpa using h1,by omega⟩
def qY (l:List ByteArray):List To:=l.flatMap fun b=> [aW (⟨#[44]⟩:ah),fP b]
def uz:List ByteArray→List To
 | []=> []
 |a::l=>fP a::qY l
theorem Bp (hX:X.Ok) (most:Nat):∀n σ l,l.length≤most→(X.dD most n σ l).2.bad=none→
 ∃r,(X.dD most n σ l).1=l++r∧qX X σ (qY r) (X.dD most n σ l).2∧(∀s∈r,dz s)∧uq l r∧(l++r).length≤most
 |0,σ,l,hl,h=>⟨[],by simp [Tx.dD],qX.refl h,by simp,trivial,by simpa using hl⟩
 |n+1,σ,l,hl,h=>by
  rw [Tx.dD]at h⊢;split at h
  · rename_i hs;rw [if_pos hs];simp only at h⊢;obtain ⟨⟨l1,σ1⟩,hc⟩:∃r,X.column σ.step l most=r:=⟨_,rfl⟩;rw [hc]at h⊢;simp only at h⊢;by_cases hl1:l1.length≤most
    · obtain ⟨r,h1,h2,h3,h4,h5⟩:=Bp hX most n σ1 l1 hl1 h;have hcb:(X.column σ.step l most).2.bad=none:=by rw [hc];exact h2.1
      obtain ⟨s,g1,g2,g3,g4,g5⟩:=nV hX hcb;rw [hc]at g1 g2;simp only at g1 g2;subst g1;refine ⟨s::r,by rw [h1];simp, ?_, ?_,⟨g4,h4⟩,by simpa using h5⟩
      · have:=((fG hX hs).trans g2).trans h2;exact this
      · intro x hx;rcases List.mem_cons.1 hx with rfl|hx
        · exact g3
        · exact h3 x hx
    · exfalso
      have hcon:∀m σ' l',most<l'.length→(X.dD most m σ' l').2.bad=none→σ'.bad=none:=by
       intro m
       induction m with
       |zero=>intro σ' l' _ hh;exact hh
       |succ m ih=>
        intro σ' l' hl' hh;rw [Tx.dD]at hh;split at hh
        · rename_i hss;exact nU hss
        · exact hh
      have hb:=hcon n σ1 l1 (by omega) h;have hcb:(X.column σ.step l most).2.bad=none:=by rw [hc];exact hb
      obtain ⟨s,g1,_,_,_,g5⟩:=nV hX hcb;rw [hc]at g1;simp only at g1;subst g1;simp at hl1;omega
  · rename_i hs;rw [if_neg hs];exact ⟨[],by simp,qX.refl h,by simp,trivial,by simpa using hl⟩
def qZ (most:Nat) (l:List ByteArray):Prop:=(∀s∈l,dz s)∧uq [] l∧l.length≤most
theorem xE (hX:X.Ok) {σ:Ps}{most:Nat}(h:(X.columns σ most).2.bad=none):
 (X.columns σ most).1≠ []∧qX X σ (uz (X.columns σ most).1) (X.columns σ most).2∧qZ most (X.columns σ most).1:=by
 unfold Tx.columns at h⊢;simp only at h⊢;obtain ⟨⟨l1,σ1⟩,hc⟩:∃r,X.column σ [] most=r:=⟨_,rfl⟩;rw [hc]at h⊢;simp only at h⊢
 have hcon:∀m σ' l',(X.dD most m σ' l').2.bad=none→σ'.bad=none:=by
  intro m
  induction m with
  |zero=>intro σ' l' hh;exact hh
  |succ m ih=>
   intro σ' l' hh;rw [Tx.dD]at hh;split at hh
   · rename_i hss;exact nU hss
   · exact hh
 have hcb:(X.column σ [] most).2.bad=none:=by rw [hc];exact hcon _ _ _ h
 obtain ⟨s,g1,g2,g3,g4,g5⟩:=nV hX hcb;rw [hc]at g1 g2;simp only at g1 g2;subst g1;obtain ⟨r,h1,h2,h3,h4,h5⟩:=Bp hX most _ σ1 _ (by simp at g5⊢;omega) h;rw [h1];refine ⟨by simp,g2.trans h2, ?_,⟨rfl,h4⟩,by simpa using h5⟩;intro x hx;simp only [List.nil_append,List.cons_append,List.mem_cons]at hx;rcases hx with rfl|hx
 · exact g3
 · exact h3 x hx
def wJ (l:List ByteArray):List To:=if l= []then [aW (⟨#[42]⟩:ah)]else uz l
theorem MR (hX:X.Ok) {σ:Ps}(h:(X.some_ σ).2.bad=none):qX X σ (wJ (X.some_ σ).1) (X.some_ σ).2∧qZ 8 (X.some_ σ).1:=by
 unfold Tx.some_ at h⊢;split at h
 · rename_i hs;rw [if_pos hs];exact ⟨fG hX hs,by simp,trivial,by simp⟩
 · rename_i hs;rw [if_neg hs];obtain ⟨h1,h2,h3⟩:=xE hX h;unfold wJ;rw [if_neg h1];exact ⟨h2,h3⟩
def pairT (p:Pr):List To:= [fP p.name,aW (⟨#[61]⟩:ah),uo p.t]
def nW (p:Pr):Prop:=dz p.name∧nT p.t
theorem uD (hX:X.Ok) {σ:Ps}(h:(X.equal σ).2.bad=none):qX X σ (pairT (X.equal σ).1) (X.equal σ).2∧nW (X.equal σ).1:=by
 unfold Tx.equal at h⊢;simp only at h⊢;obtain ⟨h1,h2⟩:=qO hX h;have h3:=bW hX _ h1.1;obtain ⟨h4,h5⟩:=iw hX h3.1;exact ⟨(h4.trans h3).trans h1,h5,h2⟩
def jN (l:List Pr):List To:=aW (⟨#[119,104,101,114,101]⟩:ah)::match l with| []=> []|p::l=>pairT p++l.flatMap fun q=>aW (⟨#[97,110,100]⟩:ah)::pairT q
def yS (both:Bool) (l:List Pr):Prop:=(∀p∈l,nW p)∧(l.length=2∨(both=false∧l.length=1))
theorem Dk (hX:X.Ok) {σ:Ps}{both:Bool}(h:(X.aH σ both).2.bad=none):qX X σ (jN (X.aH σ both).1) (X.aH σ both).2∧yS both (X.aH σ both).1:=by
 unfold Tx.aH at h⊢;simp only at h⊢;split at h
 · rename_i hb;rw [if_pos hb];simp only at h⊢;obtain ⟨h1,h2⟩:=uD hX h;have h3:=bW hX _ h1.1;obtain ⟨h4,h5⟩:=uD hX h3.1;have h6:=bW hX _ h4.1;refine ⟨?_, ?_, .inl rfl⟩
   · have:=((h6.trans h4).trans h3).trans h1;simpa [jN]using this
   · intro p hp;simp only [List.mem_cons,List.not_mem_nil,or_false]at hp;rcases hp with rfl|rfl
     · exact h5
     · exact h2
 · rename_i hb;rw [if_neg hb];have hb:both=false:=by cases both with|false=>rfl|true=>exact absurd rfl hb
   split at h
   · rename_i hs;rw [if_pos hs];simp only at h⊢;obtain ⟨h1,h2⟩:=uD hX h;have h3:=fG hX hs;obtain ⟨h4,h5⟩:=uD hX h3.1;have h6:=bW hX _ h4.1;refine ⟨?_, ?_, .inl rfl⟩
     · have:=((h6.trans h4).trans h3).trans h1;simpa [jN]using this
     · intro p hp;simp only [List.mem_cons,List.not_mem_nil,or_false]at hp;rcases hp with rfl|rfl
       · exact h5
       · exact h2
   · rename_i hs;rw [if_neg hs];simp only at h⊢;obtain ⟨h4,h5⟩:=uD hX h;have h6:=bW hX _ h4.1;refine ⟨?_, ?_, .inr ⟨hb,rfl⟩⟩
     · have:=h6.trans h4;simpa [jN]using this
     · intro p hp;simp only [List.mem_cons,List.not_mem_nil,or_false]at hp;subst hp;exact h5
def lZ (stamp ttl:Int):List To:=
 if stamp=0 then (if ttl=0 then []else [aW (⟨#[117,115,105,110,103]⟩:ah),aW (⟨#[116,116,108]⟩:ah),Dj ttl])
 else if ttl=0 then [aW (⟨#[117,115,105,110,103]⟩:ah),aW (⟨#[116,105,109,101,115,116,97,109,112]⟩:ah),Dj stamp]
 else [aW (⟨#[117,115,105,110,103]⟩:ah),aW (⟨#[116,105,109,101,115,116,97,109,112]⟩:ah),Dj stamp,aW (⟨#[97,110,100]⟩:ah),aW (⟨#[116,116,108]⟩:ah),Dj ttl]
def vC (b:Bool) (stamp ttl:Int):Prop:=(stamp=0∨jR stamp)∧(ttl=0∨(b=true∧jR ttl))
theorem ru {n:Int}(h:jR n):n≠0:=by have:=h.1;omega
theorem Dl (hX:X.Ok) {σ:Ps}{b:Bool}{x:Sx}(hx:x.stamp=0∧x.ttl=0) (h:(X.using_ σ b x).2.bad=none):
 ∃stamp ttl,(X.using_ σ b x).1={x with stamp:=stamp,ttl:=ttl}∧qX X σ (lZ stamp ttl) (X.using_ σ b x).2∧vC b stamp ttl:=by
 unfold Tx.using_ at h⊢;simp only at h⊢;split at h
 · rename_i hu;rw [if_pos hu];split at h
   · rename_i ht;rw [if_pos ht];simp only [Bool.and_eq_true]at ht;simp only at h⊢;obtain ⟨h1,h2⟩:=uy hX h;refine ⟨0,_,by rw [←hx.1], ?_, .inl rfl, .inr ⟨ht.1,h2⟩⟩;unfold lZ;rw [if_pos rfl,if_neg (ru h2)];exact ((fG hX hu).trans (fG hX ht.2)).trans h1
   · rename_i ht;rw [if_neg ht];split at h
     · rename_i ha;rw [if_pos ha];simp only [Bool.and_eq_true]at ha;simp only at h⊢;obtain ⟨h1,h2⟩:=uy hX h;have h3:=bW hX _ h1.1;have h4:=fG hX ha.2;obtain ⟨h5,h6⟩:=uy hX h4.1;have h7:=bW hX _ h5.1;refine ⟨_,_,rfl, ?_, .inr h6, .inr ⟨ha.1,h2⟩⟩;unfold lZ;rw [if_neg (ru h6),if_neg (ru h2)];exact (((((fG hX hu).trans h7).trans h5).trans h4).trans h3).trans h1
     · rename_i ha;rw [if_neg ha];simp only at h⊢;obtain ⟨h5,h6⟩:=uy hX h;have h7:=bW hX _ h5.1;refine ⟨_,0,by rw [←hx.2], ?_, .inr h6, .inl rfl⟩;unfold lZ;rw [if_neg (ru h6),if_pos rfl];exact ((fG hX hu).trans h7).trans h5
 · rename_i hu;rw [if_neg hu];refine ⟨0,0, ?_,qX.refl h, .inl rfl, .inl rfl⟩;have h1:=hx.1;have h2:=hx.2;cases x;simp only at h1 h2;subst h1 h2;rfl
theorem KZ (hX:X.Ok) {σ:Ps}{l:List ByteArray}{but:ByteArray}(h:(X.one σ l but).2.bad=none):
 qX X σ [fP (X.one σ l but).1] (X.one σ l but).2∧dz (X.one σ l but).1∧(X.one σ l but).1∈l∧(X.one σ l but).1≠but:=by
 unfold Tx.one at h⊢;simp only at h⊢;obtain ⟨h1,h2⟩:=uw h;rw [h2]at h⊢;obtain ⟨h3,h4⟩:=iw hX h;simp only [Bool.or_eq_true,Bool.not_eq_true',not_or,Bool.not_eq_false]at h1;exact ⟨h3,h4,qF.1 h1.1,fun e=>h1.2 (eD.2 e)⟩
def Eh (ty:Int):To:=if ty=1 then aW (⟨#[116,101,120,116]⟩:ah)else aW (⟨#[105,110,116]⟩:ah)
theorem WT (hX:X.Ok) {σ:Ps}(h:(X.kind σ).2.bad=none):qX X σ [Eh (X.kind σ).1] (X.kind σ).2∧((X.kind σ).1=1∨(X.kind σ).1=2):=by
 unfold Tx.kind at h⊢;split at h
 · rename_i hs;rw [if_pos hs];exact ⟨fG hX hs, .inl rfl⟩
 · rename_i hs;rw [if_neg hs];exact ⟨bW hX [(⟨#[105,110,116]⟩:ah)] h, .inr rfl⟩
end
end aN
end Go.Proofs.YtcgadodckoalnaaGreatDoor
