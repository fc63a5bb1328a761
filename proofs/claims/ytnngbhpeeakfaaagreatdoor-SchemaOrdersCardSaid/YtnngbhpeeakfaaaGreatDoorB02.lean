/- Parts of a proof. -/
import Derived.Test.YtnngbhpeeakfaaaGreatDoorB01
namespace Go.Proofs.YtnngbhpeeakfaaaGreatDoor
namespace aK
def Le (σ σ' :Ps):Prop:=σ.i≤σ'.i∧(σ'.bad=none→σ.bad=none)
theorem Le.refl (σ:Ps):Le σ σ:=⟨Nat.le_refl _,id⟩
theorem Le.trans {σ σ1 σ2:Ps}(h:Le σ σ1) (h' :Le σ1 σ2):Le σ σ2:=⟨Nat.le_trans h.1 h'.1,fun hb=>h.2 (h'.2 hb)⟩
theorem oJ (σ:Ps) (a:Nat):Le σ (σ.wrong a):=by
 unfold Ps.wrong;cases hb:σ.bad with
 |none=>exact ⟨Nat.le_refl _,fun _=>hb⟩
 |some b=>exact Le.refl σ
theorem le_step (σ:Ps):Le σ σ.step:=⟨Nat.le_succ _,id⟩
theorem CS {c:Prop} [Decidable c] {σ σ1 σ2:Ps}(h1:Le σ σ1) (h2:Le σ σ2):Le σ (if c then σ1 else σ2):=by
 split
 · exact h1
 · exact h2
section
variable (X:Tx)
theorem vP (σ:Ps):Le σ (X.fail σ):=oJ _ _
theorem Tj (σ:Ps) (s:ByteArray):Le σ (X.bS σ s):=CS (le_step _) (vP X _)
theorem bZ:∀(l:List ByteArray) (σ:Ps),Le σ (X.must σ l)
 | [],σ=>Le.refl σ
 |s::l,σ=>(Tj X σ s).trans (bZ l (X.bS σ s))
theorem iM (σ:Ps):Le σ (X.name σ).2:=by
 unfold Tx.name;split
 · split
   · exact vP X _
   · exact le_step _
 · exact vP X _
theorem uz (σ:Ps):Le σ (X.value σ).2:=by
 unfold Tx.value;split
 · exact le_step _
 · split
   · exact le_step _
   · exact vP X _
theorem count_le (σ:Ps):Le σ (X.count σ).2:=(uz X σ).trans (CS (oJ _ _) (Le.refl _))
theorem vQ (σ:Ps) (l:List ByteArray) (most:Nat):Le σ (X.column σ l most).2:=by
 unfold Tx.column;have h1:Le σ (if most≤l.length then σ.wrong (X.here σ)else σ):=CS (oJ _ _) (Le.refl _);exact (h1.trans (iM X _)).trans (CS (oJ _ _) (Le.refl _))
theorem Bh (most:Nat):∀n σ l,Le σ (X.dH most n σ l).2
 |0,σ,l=>Le.refl σ
 |n+1,σ,l=>by
  rw [Tx.dH];split
  · exact ((le_step σ).trans (vQ X _ _ _)).trans (Bh most n _ _)
  · exact Le.refl σ
theorem wW (σ:Ps) (most:Nat):Le σ (X.columns σ most).2:=(vQ X σ [] most).trans (Bh X most _ _ _)
theorem mR (σ:Ps):Le σ (X.some_ σ).2:=by
 unfold Tx.some_;split
 · exact le_step _
 · exact wW X _ _
theorem oK (σ:Ps):Le σ (X.equal σ).2:=((iM X σ).trans (bZ X _ _)).trans (uz X _)
theorem G8 (σ:Ps) (b:Bool):Le σ (X.aO σ b).2:=by
 have h0:=(bZ X [(⟨#[119,104,101,114,101]⟩:ah)] σ).trans (oK X _);unfold Tx.aO;simp only;split
 · exact (h0.trans (bZ X _ _)).trans (oK X _)
 · split
   · exact (h0.trans (le_step _)).trans (oK X _)
   · exact h0
theorem jK (σ:Ps) (b:Bool) (x:Sx):Le σ (X.using_ σ b x).2:=by
 unfold Tx.using_;split
 · simp only;split
   · exact ((le_step σ).trans (le_step _)).trans (count_le X _)
   · have h0:=((le_step σ).trans (bZ X [(⟨#[116,105,109,101,115,116,97,109,112]⟩:ah)] _)).trans (count_le X _);split
     · exact ((h0.trans (le_step _)).trans (bZ X _ _)).trans (count_le X _)
     · exact h0
 · exact Le.refl σ
theorem one_le (σ:Ps) (l:List ByteArray) (but:ByteArray):Le σ (X.one σ l but).2:=(iM X σ).trans (CS (oJ _ _) (Le.refl _))
theorem WZ (σ:Ps):Le σ (X.kind σ).2:=by
 unfold Tx.kind;split
 · exact le_step _
 · exact bZ X _ _
theorem FQ:∀n σ l C,Le σ (X.iE n σ l C).2.2
 |0,σ,l,C=>Le.refl σ
 |n+1,σ,l,C=>by
  rw [Tx.iE];split
  · exact Le.refl σ
  · split
    · exact le_step σ
    · exact (((vQ X σ l 10).trans (WZ X _)).trans (bZ X _ _)).trans (FQ n _ _ _)
theorem Tn (σ:Ps):Le σ (X.table σ).2:=
 (((((((iM X σ).trans (bZ X _ _)).trans (FQ X _ _ _ _)).trans (bZ X _ _)).trans (one_le X _ _ _)).trans (bZ X _ _)).trans (one_le X _ _ _)).trans (bZ X _ _)
theorem W9 (σ:Ps):Le σ (X.view σ).2:=
 ((((((((((((((bZ X _ σ).trans (iM X _)).trans (bZ X _ _)).trans (mR X _)).trans (bZ X _ _)).trans (iM X _)).trans (bZ X _ _)).trans (iM X _)).trans (bZ X _ _)).trans (one_le X _ _ _)).trans (bZ X _ _)).trans (iM X _)).trans (bZ X _ _)).trans (iM X _)).trans (bZ X _ _)
theorem index_le (σ:Ps):Le σ (X.index σ).2:=
 ((((((bZ X _ σ).trans (iM X _)).trans (bZ X _ _)).trans (iM X _)).trans (bZ X _ _)).trans (iM X _)).trans (bZ X _ _)
theorem CU:∀n σ l,Le σ (X.fC n σ l).2
 |0,σ,l=>Le.refl σ
 |n+1,σ,l=>by
  rw [Tx.fC];split
  · exact ((le_step σ).trans (uz X _)).trans (CU n _ _)
  · exact Le.refl σ
theorem PW (σ:Ps):Le σ (X.insert σ).2:=
 (((((((((bZ X _ σ).trans (iM X _)).trans (bZ X _ _)).trans (wW X _ _)).trans (bZ X _ _)).trans (uz X _)).trans (CU X _ _ _)).trans (CS (vP X _) (Le.refl _))).trans (bZ X _ _)).trans (jK X _ _ _)
theorem JE:∀n σ l Z,Le σ (X.lY n σ l Z).2
 |0,σ,l,Z=>Le.refl σ
 |n+1,σ,l,Z=>by
  have h0:=((vQ X σ l 8).trans (bZ X [(⟨#[61]⟩:ah)] _)).trans (uz X _);rw [Tx.lY];try simp only
  split
  · exact (h0.trans (le_step _)).trans (JE n _ _ _)
  · exact h0
theorem PX (σ:Ps):Le σ (X.update σ).2:=
 ((((iM X σ).trans (jK X _ _ _)).trans (bZ X _ _)).trans (JE X _ _ _ _)).trans (G8 X _ _)
theorem PY (σ:Ps):Le σ (X.remove σ).2:=by
 unfold Tx.remove
 have h0:Le σ (if X.sees σ (⟨#[102,114,111,109]⟩:ah)=true then ([],σ)else X.columns σ 8).2:=by
  split
  · exact Le.refl σ
  · exact wW X _ _
 exact (((h0.trans (bZ X _ _)).trans (iM X _)).trans (jK X _ _ _)).trans (G8 X _ _)
theorem ZU (σ:Ps):Le σ (X.ask σ).2:=by
 have h0:=(((mR X σ).trans (bZ X [(⟨#[102,114,111,109]⟩:ah)] _)).trans (iM X _)).trans (G8 X _ false);unfold Tx.ask;simp only;split
 · exact (h0.trans (le_step _)).trans (count_le X _)
 · exact h0
theorem JF {st:Ps→Tx.Nd×Ps}(hst:∀σ,Le σ (st σ).2):∀n σ l,Le σ (X.jB st n σ l).2
 |0,σ,l=>Le.refl σ
 |n+1,σ,l=>by
  rw [Tx.jB];split
  · exact Le.refl σ
  · split
    · exact le_step σ
    · simp only;have h1:Le σ (st (if 8≤l.length then σ.wrong (X.here σ)else σ)).2:=(CS (oJ _ _) (Le.refl _)).trans (hst _);split
      · exact (h1.trans (bZ X _ _)).trans (JF hst n _ _)
      · exact ⟨h1.1,fun h=>absurd h (by simp)⟩
theorem G9:∀n σ,Le σ (X.iY n σ).2
 |0,σ=>Le.refl σ
 |n+1,σ=>by
  rw [Tx.iY];split
  · exact (le_step σ).trans (PW X _)
  split
  · exact (le_step σ).trans (PX X _)
  split
  · exact (le_step σ).trans (PY X _)
  split
  · exact (le_step σ).trans (ZU X _)
  split
  · exact (((le_step σ).trans (bZ X _ _)).trans (JF X (G9 n) _ _ _)).trans (bZ X _ _)
  split
  · exact (le_step σ).trans (iM X _)
  split
  · split
    · exact ((le_step σ).trans (le_step _)).trans (Tn X _)
    split
    · exact ((le_step σ).trans (le_step _)).trans (W9 X _)
    · exact (le_step σ).trans (index_le X _)
  · exact vP X _
end
structure Cut (s t:ByteArray) (A:List Pt) (d:Nat):Prop where
 bytes:s.data.toList.drop d=t.data.toList
 size:s.size=d+t.size
 pts:pts s=A++(pts t).map (Pt.shift d)
theorem Xa (m:Nat) (f g:Nat→Bool) (hfg:∀j,f (m+j)=g j):∀n k,yu f n (m+k)=m+yu g n k:=by
 intro n
 induction n with
 |zero=>intro k;rfl
 |succ n ih=>
  intro k;rw [yu,yu,hfg k];split
  · exact ih (k+1)
  · rfl
section
variable {s t:ByteArray}{A:List Pt}{d:Nat}(h:Cut s t A d)
include h
theorem Cut.len:(aK.pts s).length=A.length+(aK.pts t).length:=by rw [h.pts];simp
theorem Cut.get (k:Nat):(aK.pts s)[A.length+k]? =((aK.pts t)[k]?).map (Pt.shift d):=by
 rw [h.pts,List.getElem?_append_right (by omega),List.getElem?_map];rw [show A.length+k - A.length=k by omega]
theorem Cut.fE (k:Nat) (r:Int):aK.fE (aK.pts s) (A.length+k) r=aK.fE (aK.pts t) k r:=by
 unfold aK.fE;rw [h.get k];cases (aK.pts t)[k]? <;>rfl
theorem Cut.dn (k:Nat):aK.dn (aK.pts s) (A.length+k)=aK.dn (aK.pts t) k:=by
 unfold aK.dn;rw [h.get k];cases (aK.pts t)[k]? <;>rfl
theorem Cut.bT (k:Nat):aK.bT (aK.pts s) (A.length+k)=aK.bT (aK.pts t) k:=by
 unfold aK.bT;rw [h.get k];cases (aK.pts t)[k]? <;>rfl
theorem Cut.jl (k:Nat):aK.jl (aK.pts s) (A.length+k)=aK.jl (aK.pts t) k:=by
 unfold aK.jl;rw [h.get k];cases (aK.pts t)[k]? <;>rfl
theorem Cut.aL (k:Nat):aK.aL s (aK.pts s) (A.length+k)=d+aK.aL t (aK.pts t) k:=by
 unfold aK.aL;rw [h.get k];cases (aK.pts t)[k]? with
 |none=>exact h.size
 |some p=>exact Nat.add_comm _ _
theorem Cut.dF (f g:Nat→Bool) (hfg:∀j,f (A.length+j)=g j) (k:Nat):aK.dF f (aK.pts s).length (A.length+k)=A.length+aK.dF g (aK.pts t).length k:=by
 unfold aK.dF;rw [h.len,show A.length+(aK.pts t).length - (A.length+k)=(aK.pts t).length - k by omega];exact Xa A.length f g hfg _ _
theorem Cut.lineEnd (k:Nat):aK.lineEnd (aK.pts s) (A.length+k)=A.length+aK.lineEnd (aK.pts t) k:=
 h.dF _ _ (fun j=>by rw [h.fE]) k
theorem Cut.iL:∀n k,aK.iL (aK.pts s) n (A.length+k)=A.length+aK.iL (aK.pts t) n k:=by
 intro n
 induction n with
 |zero=>intro k;rfl
 |succ n ih=>
  intro k;rw [aK.iL,aK.iL,h.len];unfold dL iK;rw [h.fE,h.fE,h.fE,h.fE,h.fE,Nat.add_assoc,h.fE,h.lineEnd];by_cases h1:(aK.pts t).length≤k
  · rw [if_pos (by omega),if_pos h1]
  · rw [if_neg (by omega),if_neg h1];split
    · exact ih (k+1)
    · split
      · exact ih _
      · rfl
theorem Cut.skip (k:Nat):aK.skip (aK.pts s) (A.length+k)=A.length+aK.skip (aK.pts t) k:=by
 unfold aK.skip;rw [h.len,show A.length+(aK.pts t).length - (A.length+k)=(aK.pts t).length - k by omega];exact h.iL _ _
theorem Cut.qE:∀n k v ok,aK.qE (aK.pts s) n (A.length+k) v ok=((aK.qE (aK.pts t) n k v ok).1,(aK.qE (aK.pts t) n k v ok).2.1,A.length+(aK.qE (aK.pts t) n k v ok).2.2):=by
 intro n
 induction n with
 |zero=>intro k v ok;rfl
 |succ n ih=>
  intro k v ok;rw [aK.qE,aK.qE,h.bT,h.jl];split
  · exact ih (k+1) _ _
  · rfl
theorem Cut.num (k:Nat) (v:Int) (ok:Bool):aK.num (aK.pts s) (A.length+k) v ok=((aK.num (aK.pts t) k v ok).1,(aK.num (aK.pts t) k v ok).2.1,A.length+(aK.num (aK.pts t) k v ok).2.2):=by
 unfold aK.num;rw [h.len,show A.length+(aK.pts t).length - (A.length+k)=(aK.pts t).length - k by omega];exact h.qE _ _ _ _
theorem Cut.extract (a b:Nat):s.extract (d+a) (d+b)=t.extract a b:=by
 apply ByteArray.ext;apply Array.ext';simp only [ByteArray.data_extract,Array.toList_extract,List.extract_eq_take_drop];rw [←List.drop_drop,h.bytes,show d+b - (d+a)=b - a by omega]
theorem Cut.dW (k:Nat):aK.dW (aK.pts s) (A.length+k)=A.length+aK.dW (aK.pts t) k:=
 h.dF _ _ (fun j=>by rw [h.dn,h.bT]) k
theorem Cut.lD (k:Nat):aK.lD s (aK.pts s) (A.length+k)=aK.lD t (aK.pts t) k:=by
 unfold aK.lD;rw [h.dW,h.aL,h.aL,h.extract]
def Tk.on (m:Nat) (x:Tk):Tk:=⟨x.kind,x.s,x.n,x.at_+m⟩
theorem Cut.jD (k:Nat):aK.jD s (aK.pts s) (A.length+k)=((aK.jD t (aK.pts t) k).1.on A.length,(aK.jD t (aK.pts t) k).2.1,A.length+(aK.jD t (aK.pts t) k).2.2):=by
 unfold aK.jD;rw [h.lD,h.dW,Nat.add_comm A.length k];rfl
theorem Cut.bJ (k:Nat):aK.bJ (aK.pts s) (A.length+k)=A.length+aK.bJ (aK.pts t) k:=by
 unfold aK.bJ;rw [h.fE];split<;>omega
theorem Cut.fV (k:Nat):aK.fV (aK.pts s) (A.length+k)=((aK.fV (aK.pts t) k).1,(aK.fV (aK.pts t) k).2.1,A.length+(aK.fV (aK.pts t) k).2.2):=by
 unfold aK.fV;rw [h.bJ,h.num,h.bT]
theorem Cut.bR (k:Nat):aK.bR (aK.pts s) (A.length+k)=((aK.bR (aK.pts t) k).1.on A.length,(aK.bR (aK.pts t) k).2.1,A.length+(aK.bR (aK.pts t) k).2.2):=by
 unfold aK.bR;rw [h.fV,h.fE];simp only [h.dn,Tk.on];rw [Nat.add_comm k]
theorem Cut.bV (a:Nat):aK.bV s ((d+a:Nat):Int)=(aK.bV t a).map fun x=>(x.1,x.2+(d:Int)):=by
 unfold aK.bV;have hb:s.data.toList[d+a]? =t.data.toList[a]? :=by rw [←h.bytes,List.getElem?_drop]
 have hs:=h.size;simp only [Int.toNat_natCast];rw [hb];by_cases hc:a<t.size∧t.data.toList[a]? =some 39
 · rw [if_pos ⟨by omega,by omega,hc.2⟩,if_pos ⟨by omega,by omega,hc.2⟩];rw [show s.data.toList.drop (d+a+1)=t.data.toList.drop (a+1)by rw [←h.bytes,List.drop_drop,Nat.add_assoc]];cases lW (t.data.toList.drop (a+1))with
   |none=>rfl
   |some x=>simp only [Option.map_some,Option.some.injEq,Prod.mk.injEq,true_and];omega
 · rw [if_neg (fun h=>hc ⟨by omega,h.2.2⟩),if_neg (fun h=>hc ⟨by omega,h.2.2⟩)];rfl
theorem Cut.bF (next:Int) (k:Nat):aK.bF (aK.pts s) (next+d) (A.length+k)=A.length+aK.bF (aK.pts t) next k:=by
 refine h.dF _ _ (fun j=> ?_) k;rw [h.get j];cases (aK.pts t)[j]? with
 |none=>rfl
 |some p=>
  show decide (((p.at_+d:Nat):Int)<next+d)=decide ((p.at_:Int)<next);rw [decide_eq_decide];omega
theorem Cut.jm (k:Nat):aK.jm s (aK.pts s) (A.length+k)=((aK.jm t (aK.pts t) k).1.on A.length,(aK.jm t (aK.pts t) k).2.1,A.length+(aK.jm t (aK.pts t) k).2.2):=by
 unfold aK.jm;rw [h.aL,h.bV];cases aK.bV t (aK.aL t (aK.pts t) k)with
 |none=>simp only [Option.map_none,Tk.on];rw [Nat.add_comm k]
 |some x=>simp only [Option.map_some,Tk.on];rw [h.bF,Nat.add_comm k]
theorem Cut.dw (k:Nat) (hok:(aK.dw t (aK.pts t) k).2.1=true):aK.dw s (aK.pts s) (A.length+k)=((aK.dw t (aK.pts t) k).1.on A.length,true,A.length+(aK.dw t (aK.pts t) k).2.2):=by
 rw [←hok];unfold aK.dw at hok⊢;rw [h.dn,h.bT,h.fE,h.fE,h.jl];split
 · exact h.jD k
 · rename_i h1;rw [if_neg h1]at hok;split
   · exact h.bR k
   · rename_i h2;rw [if_neg h2]at hok;split
     · exact h.jm k
     · rename_i h3;rw [if_neg h3]at hok;split
       · simp only [Tk.on];rw [Nat.add_comm k];rfl
       · rename_i h4;rw [if_neg h4]at hok;cases hok
theorem Cut.ach (k:Nat):(aK.dw s (aK.pts s) (A.length+k)).2.1=(aK.dw t (aK.pts t) k).2.1:=by
 unfold aK.dw;rw [h.dn,h.bT,h.fE,h.fE,h.jl];split
 · rw [h.jD k]
 · split
   · rw [h.bR k]
   · split
     · rw [h.jm k]
     · split<;>rfl
def Zb (m:Nat):Except Nat (List Tk)→Except Nat (List Tk)
 | .ok l=> .ok (l.map (Tk.on m))
 | .error a=> .error (m+a)
theorem Cut.dP:∀n k,aK.dP s (aK.pts s) n (A.length+k)=Zb A.length (aK.dP t (aK.pts t) n k):=by
 intro n
 induction n with
 |zero=>intro k;rfl
 |succ n ih=>
  intro k;rw [aK.dP,aK.dP,h.skip,h.len,h.ach];by_cases h1:(aK.pts t).length≤aK.skip (aK.pts t) k
  · rw [if_pos (by omega),if_pos h1];rfl
  · rw [if_neg (by omega),if_neg h1];by_cases h2:(aK.dw t (aK.pts t) (aK.skip (aK.pts t) k)).2.1=true
    · rw [if_pos h2,if_pos h2,h.dw _ h2];simp only [];rw [ih];cases aK.dP t (aK.pts t) n (aK.dw t (aK.pts t) (aK.skip (aK.pts t) k)).2.2<;>rfl
    · rw [if_neg h2,if_neg h2];rfl
end
theorem Cut.uD (s t:ByteArray) (hs:valid s=true):Cut (s++t) t (aK.pts s) s.size where
 bytes:=by rw [ByteArray.data_append,Array.toList_append,List.drop_append_of_le_length (by show s.size≤s.data.toList.length;exact Nat.le_refl _),List.drop_eq_nil_of_le (by show s.data.toList.length≤s.size;exact Nat.le_refl _),List.nil_append]
 size:=by rw [ByteArray.size_append]
 pts:=GX s t hs
theorem Ai (s:ByteArray) (P:List Pt):∀n m i,P.length<n+i→P.length<m+i→dP s P n i=dP s P m i:=by
 intro n
 induction n with
 |zero=>
  intro m i h1 h2;cases m with
  |zero=>rfl
  |succ m=>rw [uw (by have:=jY P i;omega)];rfl
 |succ n ih=>
  intro m i h1 h2;have hs:=jY P i;cases m with
  |zero=>rw [uw (by omega)];rfl
  |succ m=>
   rw [dP,dP];by_cases h3:P.length≤skip P i
   · rw [if_pos h3,if_pos h3]
   · rw [if_neg h3,if_neg h3];by_cases h4:(dw s P (skip P i)).2.1=true
     · rw [if_pos h4,if_pos h4];have hg:=yA (s:=s) (P:=P) (i:=skip P i) (by omega) h4;rw [ih m _ (by omega) (by omega)]
     · rw [if_neg h4,if_neg h4]
def Lx (t:ByteArray) (l:List Tk):Prop:=dP t (pts t) ((pts t).length+1) 0= .ok l
theorem Lx.aX {t:ByteArray}{l:List Tk}(h:Lx t l) (hs:t.size≤1000):aX t=(l,0,0):=by
 unfold Lx at h;unfold aK.aX;rw [if_neg (by omega),h]
theorem Lx.nil:Lx ⟨#[]⟩ []:=rfl
theorem jZ (a b c:ByteArray):(a++b)++c=a++(b++c):=by
 apply ByteArray.ext;simp
theorem He (a:ByteArray):a++(⟨#[]⟩:ah)=a:=by
 apply ByteArray.ext;simp
theorem Ck (c:UInt8) (hc:c.toNat<128):pts ⟨#[c]⟩= [⟨c.toNat,0,1⟩]:=by
 have h:(0:Nat)<(⟨#[c]⟩:ah).size:=Nat.zero_lt_one;have hd:=vO ⟨#[c]⟩ 0 h (by rw [←jk ⟨#[c]⟩ 0 h];exact hc);have e:bY ⟨#[c]⟩ 0=c.toNat:=by rw [←jk ⟨#[c]⟩ 0 h];rfl
 rw [iD,bq _ 0 h,hd,bI _ _ (by show¬(0+1<1);omega),e]
theorem oC (c:UInt8) (hc:c.toNat<128):valid ⟨#[c]⟩=true:=by
 unfold valid;rw [Ck c hc];simp [Pt.ok];omega
theorem rQ (c:UInt8) (hc:c.toNat<128) (r:ByteArray):Cut (⟨#[c]⟩++r) r [⟨c.toNat,0,1⟩] 1:=by
 have:=Cut.uD ⟨#[c]⟩ r (oC c hc);rw [Ck c hc]at this;exact this
theorem rR (c:UInt8) (hc:c.toNat<128) (r:ByteArray):(pts (⟨#[c]⟩++r))[0]? =some ⟨c.toNat,0,1⟩:=by
 rw [(rQ c hc r).pts];rfl
theorem iF (c:UInt8) (hc:c.toNat<128) (r:ByteArray) (x:Int):fE (pts (⟨#[c]⟩++r)) 0 x=((c.toNat:Int)==x):=by
 unfold fE;rw [rR c hc r]
theorem Lx.cons {s t:ByteArray}{A:List Pt}{d:Nat}(hc:Cut s t A d) {l:List Tk}(h:Lx t l) (n:Nat) (hn:(pts t).length<n):dP s (pts s) n A.length= .ok (l.map (Tk.on A.length)):=by
 have:=hc.dP n 0;rw [Nat.add_zero]at this;rw [this,Ai t (pts t) n ((pts t).length+1) 0 (by omega) (by omega),h];rfl
theorem Lx.blank (c:UInt8) (hc:c=32∨c=9∨c=10∨c=13) {t:ByteArray}{l:List Tk}(h:Lx t l):Lx (⟨#[c]⟩++t) (l.map (Tk.on 1)):=by
 have hlt:c.toNat<128:=by rcases hc with rfl|rfl|rfl|rfl<;>decide
 have hcut:=rQ c hlt t;have hlen:=hcut.len
 have hb:dL (pts (⟨#[c]⟩++t)) 0=true:=by
  unfold dL;rw [iF c hlt,iF c hlt,iF c hlt,iF c hlt];rcases hc with rfl|rfl|rfl|rfl<;>rfl
 have hsk:skip (pts (⟨#[c]⟩++t)) 0=skip (pts (⟨#[c]⟩++t)) 1:=gu (by rw [hlen];show 0<1+_;omega) hb;have hx:=h.cons hcut ((pts (⟨#[c]⟩++t)).length+1) (by rw [hlen];omega);refine Eq.trans ?_ hx;show _=dP _ _ _ 1;rw [dP,dP,hsk]
theorem Lx.tok {p t:ByteArray}{l:List Tk}{x:Tk}(hp:valid p=true) (hne:pts p≠ []) (hsk:skip (pts (p++t)) 0=0) (htk:dw (p++t) (pts (p++t)) 0=(x,true,(pts p).length)) (h:Lx t l):
 Lx (p++t) (x::l.map (Tk.on (pts p).length)):=by
 have hcut:=Cut.uD p t hp;have hlen:=hcut.len;have hpl:0<(pts p).length:=List.length_pos_iff.2 hne;have hx:=h.cons hcut (pts (p++t)).length (by rw [hlen];omega);unfold Lx;rw [G7 (by rw [hsk,hlen];omega) (by rw [hsk,htk]),hsk,htk];simp only [];rw [hx];rfl
def Stop (t:ByteArray):Prop:=dn (pts t) 0=false∧bT (pts t) 0=false
theorem Tp:Stop ⟨#[]⟩:=⟨rfl,rfl⟩
theorem uE (c:UInt8) (hc:c.toNat<48∨(58≤c.toNat∧c.toNat<65)) (t:ByteArray):Stop (⟨#[c]⟩++t):=by
 have hlt:c.toNat<128:=by omega
 unfold Stop dn bT;rw [rR c hlt t];simp only [dV,iw];constructor
 · rw [Bool.and_eq_false_iff];right;simp only [Bool.or_eq_false_iff,Bool.and_eq_false_iff,beq_eq_false_iff_ne,decide_eq_false_iff_not];omega
 · simp only [Bool.and_eq_false_iff,decide_eq_false_iff_not];omega
theorem FR {f:Nat→Bool}{len m:Nat}(hm:m≤len) (hall:∀j,j<m→f j=true) (hst:f m=false):dF f len 0=m:=by
 have h:∀k,k≤m→dF f len 0=dF f len k:=by
  intro k
  induction k with
  |zero=>intro _;rfl
  |succ k ih=>
   intro hk;rw [ih (by omega),fF (by omega) (hall k (by omega))]
 rw [h m (Nat.le_refl _)];exact eu hst
theorem pX (s:ByteArray):aL s (pts s) 0=0:=jJ s 0 (Nat.zero_le _)
def lZ (w:ByteArray):Bool:=dn (pts w) 0&&((List.range (pts w).length).all fun k=>dn (pts w) k||bT (pts w) k)&&valid w
theorem Cm (p t:ByteArray) (hp:valid p=true) (k:Nat) (hk:k<(pts p).length):(pts (p++t))[k]? =(pts p)[k]? :=by
 rw [GX p t hp,List.getElem?_append_left hk]
theorem JG (p t:ByteArray):(p++t).extract 0 p.size=p:=by
 apply ByteArray.ext;apply Array.ext';simp only [ByteArray.data_extract,ByteArray.data_append,Array.toList_extract,Array.toList_append,List.extract_eq_take_drop,List.drop_zero,Nat.sub_zero];rw [List.take_append_of_le_length (by show p.size≤p.data.toList.length;exact Nat.le_refl _)];exact List.take_of_length_le (by show p.data.toList.length≤p.size;exact Nat.le_refl _)
theorem Tq {w t:ByteArray}(hw:lZ w=true) (ht:Stop t) (hs:w.size≤100):dw (w++t) (pts (w++t)) 0=(⟨1,fold w,0,0⟩,true,(pts w).length)∧skip (pts (w++t)) 0=0∧pts w≠ []∧valid w=true:=by
 unfold lZ at hw;simp only [Bool.and_eq_true]at hw;obtain ⟨⟨h0,hall⟩,hv⟩:=hw;have hlt:=yw h0;have hne:pts w≠ []:=by intro e;rw [e]at hlt;exact absurd hlt (by simp)
 have hcut:=Cut.uD w t hv;have hlen:=hcut.len;have hL:∀k,k<(pts w).length→dn (pts (w++t)) k=dn (pts w) k:=fun k hk=>by unfold dn;rw [Cm w t hv k hk]
 have hD:∀k,k<(pts w).length→bT (pts (w++t)) k=bT (pts w) k:=fun k hk=>by unfold bT;rw [Cm w t hv k hk]
 have hB:∀c,fE (pts (w++t)) 0 c=fE (pts w) 0 c:=fun c=>by unfold fE;rw [Cm w t hv 0 hlt]
 have hend:dW (pts (w++t)) 0=(pts w).length:=by
  refine FR (by rw [hlen];omega) (fun j hj=> ?_) ?_
  · rw [hL j hj,hD j hj];exact List.all_eq_true.1 hall j (List.mem_range.2 hj)
  · have h1:=hcut.dn 0;have h2:=hcut.bT 0;rw [Nat.add_zero]at h1 h2;rw [h1,h2,ht.1,ht.2];rfl
 have hbe:aL (w++t) (pts (w++t)) (pts w).length=w.size:=by
  have:=hcut.aL 0;rw [Nat.add_zero,pX t]at this;exact this
 have hwt:lD (w++t) (pts (w++t)) 0=w:=by
  unfold lD;rw [hend,pX,hbe,JG]
 have hno:∀c:Int,(c=32∨c=9∨c=10∨c=13∨c=45)→fE (pts w) 0 c=false:=by
  intro c hc;unfold dn at h0;unfold fE;rw [List.getElem?_eq_getElem hlt]at h0⊢;simp only [dV,Bool.and_eq_true,Bool.or_eq_true,beq_iff_eq,decide_eq_true_eq]at h0;rw [beq_eq_false_iff_ne];omega
 refine ⟨?_, ?_,hne,hv⟩
 · unfold dw;rw [hL 0 hlt,if_pos h0];unfold jD;rw [hwt,hend,decide_eq_true hs]
 · refine gK ?_ ?_
   · unfold dL;rw [hB,hB,hB,hB,hno 32 (by omega),hno 9 (by omega),hno 10 (by omega),hno 13 (by omega)];rfl
   · unfold iK;rw [hB,hno 45 (by omega),Bool.false_and]
theorem Lx.word {w t:ByteArray}{l:List Tk}(hw:lZ w=true) (ht:Stop t) (hs:w.size≤100) (h:Lx t l):Lx (w++t) (⟨1,fold w,0,0⟩::l.map (Tk.on (pts w).length)):=by
 obtain ⟨h1,h2,h3,h4⟩:=Tq hw ht hs;exact Lx.tok h4 h3 h2 h1 h
theorem Tt (c:UInt8) (hc:c=40∨c=41∨c=44∨c=59∨c=61∨c=42) (t:ByteArray):dw (⟨#[c]⟩++t) (pts (⟨#[c]⟩++t)) 0=(⟨4,⟨#[c]⟩,0,0⟩,true,1)∧skip (pts (⟨#[c]⟩++t)) 0=0:=by
 have hlt:c.toNat<128:=by rcases hc with rfl|rfl|rfl|rfl|rfl|rfl<;>decide
 have hst:Stop (⟨#[c]⟩++t):=uE c (by rcases hc with rfl|rfl|rfl|rfl|rfl|rfl<;>decide) t;have hr:jl (pts (⟨#[c]⟩++t)) 0=(c.toNat:Int):=by unfold jl;rw [rR c hlt]
 constructor
 · unfold dw;rw [hst.1,hst.2,iF c hlt,iF c hlt,hr];rcases hc with rfl|rfl|rfl|rfl|rfl|rfl<;>rfl
 · refine gK ?_ ?_
   · unfold dL;rw [iF c hlt,iF c hlt,iF c hlt,iF c hlt];rcases hc with rfl|rfl|rfl|rfl|rfl|rfl<;>rfl
   · unfold iK;rw [iF c hlt];rcases hc with rfl|rfl|rfl|rfl|rfl|rfl<;>rfl
theorem Lx.sign (c:UInt8) (hc:c=40∨c=41∨c=44∨c=59∨c=61∨c=42) {t:ByteArray}{l:List Tk}(h:Lx t l):Lx (⟨#[c]⟩++t) (⟨4,⟨#[c]⟩,0,0⟩::l.map (Tk.on 1)):=by
 have hlt:c.toNat<128:=by rcases hc with rfl|rfl|rfl|rfl|rfl|rfl<;>decide
 obtain ⟨h1,h2⟩:=Tt c hc t;have e:(pts ⟨#[c]⟩).length=1:=by rw [Ck c hlt];rfl
 have:=Lx.tok (p:=⟨#[c]⟩) (oC c hlt) (by rw [Ck c hlt];simp) h2 (by rw [h1,e]) h;rw [e]at this;exact this
abbrev To:=Int×ByteArray×Int
def Tk.fo (t:Tk):To:=(t.kind,t.s,t.n)
def Tx.F (X:Tx):List To:=X.T.map Tk.fo
def yB:List ByteArray:= [(⟨#[40]⟩:ah),(⟨#[41]⟩:ah),(⟨#[44]⟩:ah),(⟨#[59]⟩:ah),(⟨#[61]⟩:ah),(⟨#[42]⟩:ah)]
def aU (s:ByteArray):To:=(if lu s yB then 4 else 1,s,0)
def fu (s:ByteArray):To:=(1,s,0)
def qH (t:Tm):To:=if t.ty=1 then (3,t.s,0)else (2,⟨#[]⟩,t.n)
def JH (t:To):Prop:=(t.1=1∧lZ t.2.1=true∧fold t.2.1=t.2.1∧t.2.1.size≤100∧t.2.2=0)∨(t.1=2∧t.2.1=⟨#[]⟩∧ -1099511627776≤t.2.2∧t.2.2≤1099511627776)∨(t.1=3∧valid t.2.1=true∧t.2.1.size≤100∧t.2.2=0)∨(t.1=4∧lu t.2.1 yB=true∧t.2.2=0)
def Tx.Ok (X:Tx):Prop:=∀t∈X.F,JH t
def cB (s:ByteArray):Prop:=lZ s=true∧fold s=s∧s.size≤100∧tX s=false
def rT (t:Tm):Prop:=(t.ty=1∧valid t.s=true∧t.s.size≤100∧t.n=0)∨(t.ty=2∧t.s=⟨#[]⟩∧ -1099511627776≤t.n∧t.n≤1099511627776)
def kN (n:Int):Prop:=1≤n∧n≤1099511627776
def qI:List ByteArray→List ByteArray→Prop
 |_, []=>True
 |l,a::r=>lu a l=false∧qI (l++ [a]) r
theorem dY {a b:ByteArray}:fB a b=true ↔ a=b:=by unfold fB;exact decide_eq_true_iff
theorem oh {x:ByteArray}{l:List ByteArray}:lu x l=true ↔ x∈l:=by
 unfold lu;rw [List.any_eq_true];constructor
 · rintro ⟨y,hy,h⟩;rw [dY.1 h];exact hy
 · intro h;exact ⟨x,h,dY.2 rfl⟩
theorem CV {s:ByteArray}(h:lZ s=true):lu s yB=false:=by
 cases hs:lu s yB with
 |false=>rfl
 |true=>
  exfalso;have:=oh.1 hs;unfold yB at this;simp only [List.mem_cons,List.not_mem_nil,or_false]at this;rcases this with rfl|rfl|rfl|rfl|rfl|rfl<;>exact absurd h (by decide+kernel)
section
variable {X:Tx}
theorem Aj {i:Nat}{t:Tk}(h:X.T[i]? =some t):X.F.drop i=t.fo::X.F.drop (i+1):=by
 obtain ⟨hi,rfl⟩:=List.getElem?_eq_some_iff.1 h;unfold Tx.F;rw [List.drop_eq_getElem_cons (by simpa using hi)];simp
theorem FT {i:Nat}(h:X.T[i]? =none):X.F.drop i= []:=by
 unfold Tx.F;exact List.drop_eq_nil_of_le (by simpa using List.getElem?_eq_none_iff.1 h)
def kV (L:List To) (s:ByteArray):Bool:=match L with| []=>false|t::_=>(t.1==1||t.1==4)&&fB t.2.1 s
theorem Tv {σ:Ps}(h:σ.bad=none) (s:ByteArray):X.sees σ s=kV (X.F.drop σ.i) s:=by
 unfold Tx.sees Tx.next;rw [h];cases hx:X.T[σ.i]? with
 |none=>rw [FT hx];rfl
 |some t=>
  rw [Aj hx];obtain ⟨k,x,n,a⟩:=t;simp only [kV,Tk.fo];by_cases h1:k=1
  · subst h1;simp
  · by_cases h4:k=4
    · subst h4;simp
    · simp [h1,h4]
theorem Tz {σ:Ps}{a:Nat}(h:σ.bad=some a) (s:ByteArray):X.sees σ s=false:=by unfold Tx.sees Tx.next;rw [h];rfl
theorem mh {σ:Ps}{s:ByteArray}(h:X.sees σ s=true):σ.bad=none:=by
 cases hb:σ.bad with
 |none=>rfl
 |some a=>rw [Tz hb]at h;exact absurd h (by decide)
theorem Oj {i:Nat}{t:To}{L:List To}(h:X.F.drop i=t::L):t∈X.F:=List.mem_of_mem_drop (by rw [h];exact List.mem_cons_self ..)
theorem FU {i:Nat}{t:To}{L:List To}(h:X.F.drop i=t::L):X.F.drop (i+1)=L:=by
 rw [←List.drop_drop,h];rfl
theorem JI (hX:X.Ok) {σ:Ps}{s:ByteArray}(h:X.sees σ s=true):X.F.drop σ.i=aU s::X.F.drop (σ.i+1):=by
 rw [Tv (mh h)]at h;cases hd:X.F.drop σ.i with
 |nil=>rw [hd]at h;exact absurd h (by simp [kV])
 |cons t L=>
  rw [hd]at h;rw [FU hd];have ht:=hX t (Oj hd);obtain ⟨k,x,n⟩:=t;simp only [kV,Bool.and_eq_true,Bool.or_eq_true,beq_iff_eq]at h;obtain ⟨hk,hs⟩:=h;have hs:=dY.1 hs;subst hs;unfold JH at ht;simp only at ht;congr 1;unfold aU;rcases ht with ⟨h1,h2,_,_,h5⟩|⟨h1,_⟩|⟨h1,_⟩|⟨h1,h2,h3⟩
  · rw [CV h2,h1,h5];rfl
  · rcases hk with hk|hk<;>rw [h1]at hk<;>exact absurd hk (by decide)
  · rcases hk with hk|hk<;>rw [h1]at hk<;>exact absurd hk (by decide)
  · rw [h2,h1,h3];rfl
def oL (X:Tx) (σ:Ps) (L:List To) (σ' :Ps):Prop:=σ.bad=none∧X.F.drop σ.i=L++X.F.drop σ'.i
theorem oL.trans {σ σ1 σ2:Ps}{L M:List To}(h:oL X σ L σ1) (h' :oL X σ1 M σ2):oL X σ (L++M) σ2:=⟨h.1,by rw [h.2,h'.2,List.append_assoc]⟩
theorem oL.refl {σ:Ps}(h:σ.bad=none):oL X σ [] σ:=⟨h,rfl⟩
theorem kW {σ:Ps}{a:Nat}:(σ.wrong a).bad≠none:=by
 unfold Ps.wrong;cases hb:σ.bad with
 |none=>simp
 |some b=>rw [hb];simp
theorem qJ {c:Prop} [Decidable c] {σ:Ps}{a:Nat}(h:(if c then σ.wrong a else σ).bad=none):¬c∧(if c then σ.wrong a else σ)=σ:=by
 by_cases hc:c
 · rw [if_pos hc]at h;exact absurd h kW
 · exact ⟨hc,if_neg hc⟩
theorem eF (hX:X.Ok) {σ:Ps}{s:ByteArray}(h:X.sees σ s=true):oL X σ [aU s] σ.step:=⟨mh h,JI hX h⟩
theorem PZ (hX:X.Ok) {σ:Ps}{s:ByteArray}(h:(X.bS σ s).bad=none):oL X σ [aU s] (X.bS σ s):=by
 unfold Tx.bS at h⊢;split at h
 · rename_i hs;rw [if_pos hs];exact eF hX hs
 · exact absurd h kW
theorem bL (hX:X.Ok):∀(l:List ByteArray) {σ:Ps}(_:(X.must σ l).bad=none),oL X σ (l.map aU) (X.must σ l)
 | [],σ,h=>oL.refl h
 |s::l,σ,h=>by
  have h2:=bL hX l (σ:=X.bS σ s) h;exact (PZ hX h2.1).trans h2
theorem CW {σ:Ps}{k:Int}{t:Tk}(h:X.next σ k=some t):σ.bad=none∧t.kind=k∧X.F.drop σ.i=t.fo::X.F.drop (σ.i+1):=by
 unfold Tx.next at h;cases hb:σ.bad with
 |some a=>rw [hb]at h;exact absurd h (by simp)
 |none=>
  rw [hb]at h;cases hx:X.T[σ.i]? with
  |none=>rw [hx]at h;exact absurd h (by simp)
  |some u=>
   rw [hx]at h;simp only at h;split at h
   · rename_i hk;cases h;exact ⟨rfl,hk,Aj hx⟩
   · exact absurd h (by simp)
theorem gF (hX:X.Ok) {σ:Ps}(h:(X.name σ).2.bad=none):oL X σ [fu (X.name σ).1] (X.name σ).2∧cB (X.name σ).1:=by
 unfold Tx.name at h⊢;cases hx:X.next σ 1 with
 |none=>rw [hx]at h;exact absurd h kW
 |some t=>
  rw [hx]at h;simp only at h⊢;split at h
  · exact absurd h kW
  · rename_i hr;rw [if_neg hr];obtain ⟨h1,h2,h3⟩:=CW hx;have ho:=hX _ (Oj h3);have hr:tX t.s=false:=by cases hb:tX t.s with|false=>rfl|true=>exact absurd hb hr
    unfold JH Tk.fo at ho;simp only [h2]at ho;rcases ho with ⟨_,a,b,c,d⟩|⟨e,_⟩|⟨e,_⟩|⟨e,_⟩
    · refine ⟨⟨h1, ?_⟩,a,b,c,hr⟩;show X.F.drop σ.i=fu t.s::X.F.drop (σ.i+1);rw [h3];unfold Tk.fo fu;rw [h2,d]
    · exact absurd e (by decide)
    · exact absurd e (by decide)
    · exact absurd e (by decide)
theorem oD (hX:X.Ok) {σ:Ps}(h:(X.value σ).2.bad=none):oL X σ [qH (X.value σ).1] (X.value σ).2∧rT (X.value σ).1:=by
 unfold Tx.value at h⊢;cases hx:X.next σ 3 with
 |some t=>
  simp only;obtain ⟨h1,h2,h3⟩:=CW hx;have ho:=hX _ (Oj h3);unfold JH Tk.fo at ho;simp only [h2]at ho;rcases ho with ⟨e,_⟩|⟨e,_⟩|⟨_,a,b,c⟩|⟨e,_⟩
  · exact absurd e (by decide)
  · exact absurd e (by decide)
  · refine ⟨⟨h1, ?_⟩, .inl ⟨rfl,a,b,rfl⟩⟩;show X.F.drop σ.i=qH ⟨1,t.s,0⟩::X.F.drop (σ.i+1);rw [h3];unfold Tk.fo qH;rw [h2,c,if_pos rfl]
  · exact absurd e (by decide)
 |none=>
  rw [hx]at h;simp only at h⊢;cases hy:X.next σ 2 with
  |none=>rw [hy]at h;exact absurd h kW
  |some t=>
   simp only;obtain ⟨h1,h2,h3⟩:=CW hy;have ho:=hX _ (Oj h3);unfold JH Tk.fo at ho;simp only [h2]at ho;rcases ho with ⟨e,_⟩|⟨_,a,b,c⟩|⟨e,_⟩|⟨e,_⟩
   · exact absurd e (by decide)
   · refine ⟨⟨h1, ?_⟩, .inr ⟨rfl,rfl,b,c⟩⟩;show X.F.drop σ.i=qH ⟨2,⟨#[]⟩,t.n⟩::X.F.drop (σ.i+1);rw [h3];unfold Tk.fo qH;rw [h2,a,if_neg (show¬((2:Int)=1)by decide)]
   · exact absurd e (by decide)
   · exact absurd e (by decide)
def Ak (n:Int):To:=(2,⟨#[]⟩,n)
theorem qK (hX:X.Ok) {σ:Ps}(h:(X.count σ).2.bad=none):oL X σ [Ak (X.count σ).1] (X.count σ).2∧kN (X.count σ).1:=by
 unfold Tx.count at h⊢;simp only at h⊢;obtain ⟨h1,h2⟩:=qJ h;rw [h2]at h⊢;obtain ⟨h3,_⟩:=oD hX h;simp only [not_or,Decidable.not_not,Int.not_lt]at h1;refine ⟨?_,h1.2.1,h1.2.2⟩;unfold qH at h3;rw [if_neg (by rw [h1.1];decide)]at h3;exact h3
theorem mo (hX:X.Ok) {σ:Ps}{l:List ByteArray}{most:Nat}(h:(X.column σ l most).2.bad=none):
 ∃s,(X.column σ l most).1=l++ [s]∧oL X σ [fu s] (X.column σ l most).2∧cB s∧lu s l=false∧l.length<most:=by
 unfold Tx.column at h⊢;simp only at h⊢;obtain ⟨h1,h2⟩:=qJ h;rw [h2]at h⊢;obtain ⟨h3,h4⟩:=gF hX h;obtain ⟨h5,h6⟩:=qJ h3.1;rw [h6]at h3 h4 h1⊢;exact ⟨_,rfl,h3,h4,by simpa using h1,by omega⟩
def oM (l:List ByteArray):List To:=l.flatMap fun b=> [aU (⟨#[44]⟩:ah),fu b]
def qL:List ByteArray→List To
 | []=> []
 |a::l=>fu a::oM l
theorem yC (hX:X.Ok) (most:Nat):∀n σ l,l.length≤most→(X.dH most n σ l).2.bad=none→
 ∃r,(X.dH most n σ l).1=l++r∧oL X σ (oM r) (X.dH most n σ l).2∧(∀s∈r,cB s)∧qI l r∧(l++r).length≤most
 |0,σ,l,hl,h=>⟨[],by simp [Tx.dH],oL.refl h,by simp,trivial,by simpa using hl⟩
 |n+1,σ,l,hl,h=>by
  rw [Tx.dH]at h⊢;split at h
  · rename_i hs;rw [if_pos hs];simp only at h⊢;obtain ⟨⟨l1,σ1⟩,hc⟩:∃r,X.column σ.step l most=r:=⟨_,rfl⟩;rw [hc]at h⊢;simp only at h⊢;by_cases hl1:l1.length≤most
    · obtain ⟨r,h1,h2,h3,h4,h5⟩:=yC hX most n σ1 l1 hl1 h;have hcb:(X.column σ.step l most).2.bad=none:=by rw [hc];exact h2.1
      obtain ⟨s,g1,g2,g3,g4,g5⟩:=mo hX hcb;rw [hc]at g1 g2;simp only at g1 g2;subst g1;refine ⟨s::r,by rw [h1];simp, ?_, ?_,⟨g4,h4⟩,by simpa using h5⟩
      · have:=((eF hX hs).trans g2).trans h2;exact this
      · intro x hx;rcases List.mem_cons.1 hx with rfl|hx
        · exact g3
        · exact h3 x hx
    · exfalso
      have hcon:∀m σ' l',most<l'.length→(X.dH most m σ' l').2.bad=none→σ'.bad=none:=by
       intro m
       induction m with
       |zero=>intro σ' l' _ hh;exact hh
       |succ m ih=>
        intro σ' l' hl' hh;rw [Tx.dH]at hh;split at hh
        · rename_i hss;exact mh hss
        · exact hh
      have hb:=hcon n σ1 l1 (by omega) h;have hcb:(X.column σ.step l most).2.bad=none:=by rw [hc];exact hb
      obtain ⟨s,g1,_,_,_,g5⟩:=mo hX hcb;rw [hc]at g1;simp only at g1;subst g1;simp at hl1;omega
  · rename_i hs;rw [if_neg hs];exact ⟨[],by simp,oL.refl h,by simp,trivial,by simpa using hl⟩
def oN (most:Nat) (l:List ByteArray):Prop:=(∀s∈l,cB s)∧qI [] l∧l.length≤most
theorem uF (hX:X.Ok) {σ:Ps}{most:Nat}(h:(X.columns σ most).2.bad=none):
 (X.columns σ most).1≠ []∧oL X σ (qL (X.columns σ most).1) (X.columns σ most).2∧oN most (X.columns σ most).1:=by
 unfold Tx.columns at h⊢;simp only at h⊢;obtain ⟨⟨l1,σ1⟩,hc⟩:∃r,X.column σ [] most=r:=⟨_,rfl⟩;rw [hc]at h⊢;simp only at h⊢
 have hcon:∀m σ' l',(X.dH most m σ' l').2.bad=none→σ'.bad=none:=by
  intro m
  induction m with
  |zero=>intro σ' l' hh;exact hh
  |succ m ih=>
   intro σ' l' hh;rw [Tx.dH]at hh;split at hh
   · rename_i hss;exact mh hss
   · exact hh
 have hcb:(X.column σ [] most).2.bad=none:=by rw [hc];exact hcon _ _ _ h
 obtain ⟨s,g1,g2,g3,g4,g5⟩:=mo hX hcb;rw [hc]at g1 g2;simp only at g1 g2;subst g1;obtain ⟨r,h1,h2,h3,h4,h5⟩:=yC hX most _ σ1 _ (by simp at g5⊢;omega) h;rw [h1];refine ⟨by simp,g2.trans h2, ?_,⟨rfl,h4⟩,by simpa using h5⟩;intro x hx;simp only [List.nil_append,List.cons_append,List.mem_cons]at hx;rcases hx with rfl|hx
 · exact g3
 · exact h3 x hx
def tH (l:List ByteArray):List To:=if l= []then [aU (⟨#[42]⟩:ah)]else qL l
theorem JJ (hX:X.Ok) {σ:Ps}(h:(X.some_ σ).2.bad=none):oL X σ (tH (X.some_ σ).1) (X.some_ σ).2∧oN 8 (X.some_ σ).1:=by
 unfold Tx.some_ at h⊢;split at h
 · rename_i hs;rw [if_pos hs];exact ⟨eF hX hs,by simp,trivial,by simp⟩
 · rename_i hs;rw [if_neg hs];obtain ⟨h1,h2,h3⟩:=uF hX h;unfold tH;rw [if_neg h1];exact ⟨h2,h3⟩
def pairT (p:Pr):List To:= [fu p.name,aU (⟨#[61]⟩:ah),qH p.t]
def mq (p:Pr):Prop:=cB p.name∧rT p.t
theorem qM (hX:X.Ok) {σ:Ps}(h:(X.equal σ).2.bad=none):oL X σ (pairT (X.equal σ).1) (X.equal σ).2∧mq (X.equal σ).1:=by
 unfold Tx.equal at h⊢;simp only at h⊢;obtain ⟨h1,h2⟩:=oD hX h;have h3:=bL hX _ h1.1;obtain ⟨h4,h5⟩:=gF hX h3.1;exact ⟨(h4.trans h3).trans h1,h5,h2⟩
def iZ (l:List Pr):List To:=aU (⟨#[119,104,101,114,101]⟩:ah)::match l with| []=> []|p::l=>pairT p++l.flatMap fun q=>aU (⟨#[97,110,100]⟩:ah)::pairT q
def vR (both:Bool) (l:List Pr):Prop:=(∀p∈l,mq p)∧(l.length=2∨(both=false∧l.length=1))
theorem Al (hX:X.Ok) {σ:Ps}{both:Bool}(h:(X.aO σ both).2.bad=none):oL X σ (iZ (X.aO σ both).1) (X.aO σ both).2∧vR both (X.aO σ both).1:=by
 unfold Tx.aO at h⊢;simp only at h⊢;split at h
 · rename_i hb;rw [if_pos hb];simp only at h⊢;obtain ⟨h1,h2⟩:=qM hX h;have h3:=bL hX _ h1.1;obtain ⟨h4,h5⟩:=qM hX h3.1;have h6:=bL hX _ h4.1;refine ⟨?_, ?_, .inl rfl⟩
   · have:=((h6.trans h4).trans h3).trans h1;simpa [iZ]using this
   · intro p hp;simp only [List.mem_cons,List.not_mem_nil,or_false]at hp;rcases hp with rfl|rfl
     · exact h5
     · exact h2
 · rename_i hb;rw [if_neg hb];have hb:both=false:=by cases both with|false=>rfl|true=>exact absurd rfl hb
   split at h
   · rename_i hs;rw [if_pos hs];simp only at h⊢;obtain ⟨h1,h2⟩:=qM hX h;have h3:=eF hX hs;obtain ⟨h4,h5⟩:=qM hX h3.1;have h6:=bL hX _ h4.1;refine ⟨?_, ?_, .inl rfl⟩
     · have:=((h6.trans h4).trans h3).trans h1;simpa [iZ]using this
     · intro p hp;simp only [List.mem_cons,List.not_mem_nil,or_false]at hp;rcases hp with rfl|rfl
       · exact h5
       · exact h2
   · rename_i hs;rw [if_neg hs];simp only at h⊢;obtain ⟨h4,h5⟩:=qM hX h;have h6:=bL hX _ h4.1;refine ⟨?_, ?_, .inr ⟨hb,rfl⟩⟩
     · have:=h6.trans h4;simpa [iZ]using this
     · intro p hp;simp only [List.mem_cons,List.not_mem_nil,or_false]at hp;subst hp;exact h5
def kC (stamp ttl:Int):List To:=
 if stamp=0 then (if ttl=0 then []else [aU (⟨#[117,115,105,110,103]⟩:ah),aU (⟨#[116,116,108]⟩:ah),Ak ttl])
 else if ttl=0 then [aU (⟨#[117,115,105,110,103]⟩:ah),aU (⟨#[116,105,109,101,115,116,97,109,112]⟩:ah),Ak stamp]
 else [aU (⟨#[117,115,105,110,103]⟩:ah),aU (⟨#[116,105,109,101,115,116,97,109,112]⟩:ah),Ak stamp,aU (⟨#[97,110,100]⟩:ah),aU (⟨#[116,116,108]⟩:ah),Ak ttl]
def rU (b:Bool) (stamp ttl:Int):Prop:=(stamp=0∨kN stamp)∧(ttl=0∨(b=true∧kN ttl))
theorem oO {n:Int}(h:kN n):n≠0:=by have:=h.1;omega
theorem Am (hX:X.Ok) {σ:Ps}{b:Bool}{x:Sx}(hx:x.stamp=0∧x.ttl=0) (h:(X.using_ σ b x).2.bad=none):
 ∃stamp ttl,(X.using_ σ b x).1={x with stamp:=stamp,ttl:=ttl}∧oL X σ (kC stamp ttl) (X.using_ σ b x).2∧rU b stamp ttl:=by
 unfold Tx.using_ at h⊢;simp only at h⊢;split at h
 · rename_i hu;rw [if_pos hu];split at h
   · rename_i ht;rw [if_pos ht];simp only [Bool.and_eq_true]at ht;simp only at h⊢;obtain ⟨h1,h2⟩:=qK hX h;refine ⟨0,_,by rw [←hx.1], ?_, .inl rfl, .inr ⟨ht.1,h2⟩⟩;unfold kC;rw [if_pos rfl,if_neg (oO h2)];exact ((eF hX hu).trans (eF hX ht.2)).trans h1
   · rename_i ht;rw [if_neg ht];split at h
     · rename_i ha;rw [if_pos ha];simp only [Bool.and_eq_true]at ha;simp only at h⊢;obtain ⟨h1,h2⟩:=qK hX h;have h3:=bL hX _ h1.1;have h4:=eF hX ha.2;obtain ⟨h5,h6⟩:=qK hX h4.1;have h7:=bL hX _ h5.1;refine ⟨_,_,rfl, ?_, .inr h6, .inr ⟨ha.1,h2⟩⟩;unfold kC;rw [if_neg (oO h6),if_neg (oO h2)];exact (((((eF hX hu).trans h7).trans h5).trans h4).trans h3).trans h1
     · rename_i ha;rw [if_neg ha];simp only at h⊢;obtain ⟨h5,h6⟩:=qK hX h;have h7:=bL hX _ h5.1;refine ⟨_,0,by rw [←hx.2], ?_, .inr h6, .inl rfl⟩;unfold kC;rw [if_neg (oO h6),if_pos rfl];exact ((eF hX hu).trans h7).trans h5
 · rename_i hu;rw [if_neg hu];refine ⟨0,0, ?_,oL.refl h, .inl rfl, .inl rfl⟩;have h1:=hx.1;have h2:=hx.2;cases x;simp only at h1 h2;subst h1 h2;rfl
theorem Hf (hX:X.Ok) {σ:Ps}{l:List ByteArray}{but:ByteArray}(h:(X.one σ l but).2.bad=none):
 oL X σ [fu (X.one σ l but).1] (X.one σ l but).2∧cB (X.one σ l but).1∧(X.one σ l but).1∈l∧(X.one σ l but).1≠but:=by
 unfold Tx.one at h⊢;simp only at h⊢;obtain ⟨h1,h2⟩:=qJ h;rw [h2]at h⊢;obtain ⟨h3,h4⟩:=gF hX h;simp only [Bool.or_eq_true,Bool.not_eq_true',not_or,Bool.not_eq_false]at h1;exact ⟨h3,h4,oh.1 h1.1,fun e=>h1.2 (dY.2 e)⟩
def Bj (ty:Int):To:=if ty=1 then aU (⟨#[116,101,120,116]⟩:ah)else aU (⟨#[105,110,116]⟩:ah)
theorem TA (hX:X.Ok) {σ:Ps}(h:(X.kind σ).2.bad=none):oL X σ [Bj (X.kind σ).1] (X.kind σ).2∧((X.kind σ).1=1∨(X.kind σ).1=2):=by
 unfold Tx.kind at h⊢;split at h
 · rename_i hs;rw [if_pos hs];exact ⟨eF hX hs, .inl rfl⟩
 · rename_i hs;rw [if_neg hs];exact ⟨bL hX [(⟨#[105,110,116]⟩:ah)] h, .inr rfl⟩
end
end aK
end Go.Proofs.YtnngbhpeeakfaaaGreatDoor
