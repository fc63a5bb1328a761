/- Parts of a proof. -/
import Derived.Test.YtnngbhpeeakfaaaGreatDoorB02
import Derived.Test.YtnngbhpeeakfaaaGreatDoorB04
import Derived.Test.YtnngbhpeeakfaaaGreatDoorB05
namespace Go.Proofs.YtnngbhpeeakfaaaGreatDoor
namespace aK
theorem Ue (f:Nat→Bool) (len i:Nat) (h:dF f len i<len):f (dF f len i)=false:=by
 have key:∀n i,len - i≤n→dF f len i<len→f (dF f len i)=false:=by
  intro n
  induction n with
  |zero=>intro i hn h;have:=ng f len i;omega
  |succ n ih=>
   intro i hn h;cases hf:f i with
   |false=>rw [eu hf];exact hf
   |true=>
    have:=ng f len i;have e1:=fF (f:=f) (len:=len) (i:=i) (by omega) hf;rw [e1]at h⊢;exact ih (i+1) (by omega) h
 exact key _ i (Nat.le_refl _) h
theorem Dq (f g:Nat→Bool) (lf lg a:Nat) (h1:a≤lf) (h2:a≤lg) (hfg:∀j,j<a→g j=f j) (i:Nat) (hi:dF f lf i<a):dF g lg i=dF f lf i:=by
 have key:∀n i,a - i≤n→dF f lf i<a→dF g lg i=dF f lf i:=by
  intro n
  induction n with
  |zero=>intro i hn hi;have:=ng f lf i;omega
  |succ n ih=>
   intro i hn hi;have hge:=ng f lf i;cases hf:f i with
   |false=>rw [eu hf,eu (by rw [hfg i (by omega)];exact hf)]
   |true=>
    have e1:=fF (f:=f) (len:=lf) (i:=i) (by omega) hf;have e2:=fF (f:=g) (len:=lg) (i:=i) (by omega) (by rw [hfg i (by omega)];exact hf);rw [e1]at hi⊢;rw [e2];exact ih (i+1) (by omega) hi
 exact key _ i (Nat.le_refl _) hi
theorem Oz (s:ByteArray) (P:List Pt) (i:Nat) (h:(dw s P i).2.1=true):(dw s P i).1.at_=i:=by
 unfold dw at h⊢;split
 · rfl
 · rename_i h1;rw [if_neg h1]at h;split
   · rfl
   · rename_i h2;rw [if_neg h2]at h;split
     · rw [qG]
     · rename_i h3;rw [if_neg h3]at h;split
       · rfl
       · rename_i h4;rw [if_neg h4]at h;cases h
theorem Cut.trans {s t r:ByteArray}{A A' :List Pt}{d d' :Nat}(h:Cut s t A d) (h' :Cut t r A' d'):Cut s r (A++A'.map (Pt.shift d)) (d+d') where
 bytes:=by rw [←List.drop_drop,h.bytes,h'.bytes]
 size:=by rw [h.size,h'.size];omega
 pts:=by
  rw [h.pts,h'.pts,List.map_append,List.map_map,List.append_assoc];congr 2;apply List.map_congr_left;intro p _;show Pt.mk _ (p.at_+d' +d) _=Pt.mk _ (p.at_+(d+d')) _;rw [Nat.add_assoc,Nat.add_comm d' d];rfl
section
variable {s u r B:ByteArray}{a d:Nat}(h:Ins s u r B a d)
include h
theorem Ins.dw {i:Nat}(hi:i<a) (hok:(aK.dw s (pts s) i).2.1=true) (he:(aK.dw s (pts s) i).2.2≤a):aK.dw u (pts u) i=aK.dw s (pts s) i:=by
 unfold aK.dw at hok he⊢;rw [h.dn hi,h.bT hi,h.fE hi,h.fE hi,h.jl hi];split
 · rename_i h1;rw [if_pos h1]at he;exact h.jD (by omega) he
 · rename_i h1;rw [if_neg h1]at hok he;split
   · rename_i h2;rw [if_pos h2]at hok he;exact h.bR hi hok he
   · rename_i h2;rw [if_neg h2]at hok he;split
     · rename_i h3;rw [if_pos h3]at hok he;exact h.jm hi hok he
     · rfl
theorem Ins.dL {i:Nat}(hi:i<a):aK.dL (pts u) i=aK.dL (pts s) i:=by
 unfold aK.dL;rw [h.fE hi,h.fE hi,h.fE hi,h.fE hi]
theorem Ins.Az {i:Nat}(hi:i+1<a):aK.iK (pts u) i=aK.iK (pts s) i:=by
 unfold aK.iK;rw [h.fE (by omega),h.fE hi]
theorem Ins.Qt {i:Nat}(hi:i+1=a):aK.iK (pts u) i=false:=by
 unfold aK.iK;rw [hi,h.acr 45 (by omega),Bool.and_false]
theorem Ins.Xx:∀n i,a - i≤n→aK.skip (pts s) i<a→aK.skip (pts u) i=aK.skip (pts s) i:=by
 intro n
 induction n with
 |zero=>intro i hn hs;have:=jY (pts s) i;omega
 |succ n ih=>
  intro i hn hs;have hge:=jY (pts s) i;have hia:i<a:=by omega
  have hal:=h.al;have hul:=h.Xw;cases hb:aK.dL (pts s) i with
  |true=>
   rw [gu (by omega) hb]at hs⊢;rw [gu (by omega) (by rw [h.dL hia];exact hb)];exact ih (i+1) (by omega) hs
  |false=>
   cases hd:aK.iK (pts s) i with
   |true=>
    have hle:=iX hd;rw [mg (by omega) hb hd]at hs⊢;have hg2:=jY (pts s) (aK.lineEnd (pts s) i);have hdu:aK.iK (pts u) i=true:=by rw [h.Az (by omega)];exact hd
    have hl:aK.lineEnd (pts u) i=aK.lineEnd (pts s) i:=by
     -- the line's end lies ahead of the place
     have:=Dq (fun j=> !aK.fE (pts s) j 10) (fun j=> !aK.fE (pts u) j 10) (pts s).length (pts u).length a (by omega) (by omega) (fun j hj=>by simp only [h.fE hj]) i (by show aK.lineEnd (pts s) i<a;omega);exact this
    rw [mg (by omega) (by rw [h.dL hia];exact hb) hdu,hl];exact ih _ (by omega) hs
   |false=>
    rw [gK hb hd]at hs⊢;refine gK (by rw [h.dL hia];exact hb) ?_;by_cases hi1:i+1<a
    · rw [h.Az hi1];exact hd
    · exact h.Qt (by omega)
theorem Ins.OA (hne:a=(pts s).length→bY u d=10) (hcl:a<(pts s).length→aK.fE (pts s) a 10=false):∀n i,a - i≤n→i≤a→aK.skip (pts s) i=a→aK.skip (pts u) i=aK.skip (pts u) a:=by
 intro n
 induction n with
 |zero=>intro i hn hi hs;rw [show i=a by omega]
 |succ n ih=>
  intro i hn hi hs;by_cases hia:i=a
  · rw [hia]
  have hlt:i<a:=by omega
  have hal:=h.al;have hul:=h.Xw;cases hb:aK.dL (pts s) i with
  |true=>
   rw [gu (by omega) hb]at hs;rw [gu (by omega) (by rw [h.dL hlt];exact hb)];exact ih (i+1) (by omega) (by omega) hs
  |false=>
   cases hd:aK.iK (pts s) i with
   |true=>
    have hle:=iX hd;rw [mg (by omega) hb hd]at hs;have hg2:=jY (pts s) (aK.lineEnd (pts s) i)
    have hi1:i+1<(pts s).length:=by
     unfold aK.iK at hd;rw [Bool.and_eq_true]at hd;exact Te hd.2
    have hle2:i+1<aK.lineEnd (pts s) i:=by
     have h45:=hd;unfold aK.iK at h45;rw [Bool.and_eq_true]at h45;have e1:=fF (f:=fun j=> !aK.fE (pts s) j 10) (show i<(pts s).length by omega) (by simp only [Ae h45.1 (show (45:Int)≠10 by decide)];rfl);have e2:=fF (f:=fun j=> !aK.fE (pts s) j 10) hi1 (by simp only [Ae h45.2 (show (45:Int)≠10 by decide)];rfl);have e3:=ng (fun j=> !aK.fE (pts s) j 10) (pts s).length (i+1+1);unfold aK.lineEnd;omega
    have hdu:aK.iK (pts u) i=true:=by rw [h.Az (by omega)];exact hd
    have hl:aK.lineEnd (pts u) i=aK.lineEnd (pts s) i:=by
     by_cases hea:aK.lineEnd (pts s) i<a
     · exact Dq (fun j=> !aK.fE (pts s) j 10) (fun j=> !aK.fE (pts u) j 10) (pts s).length (pts u).length a (by omega) (by omega) (fun j hj=>by simp only [h.fE hj]) i hea
     · have Xy:aK.lineEnd (pts s) i=a:=by omega
       by_cases hend:a=(pts s).length
       · refine h.dF _ _ (fun j hj=>by simp only [h.fE hj]) ?_ i hi (by show aK.lineEnd (pts s) i≤a;omega);have:aK.fE (pts u) a 10=true:=by unfold aK.fE;rw [h.head];simp only;rw [hne hend];rfl
         simp only [this];rfl
       · exfalso;have h10:=Ue (fun j=> !aK.fE (pts s) j 10) (pts s).length i (by show aK.lineEnd (pts s) i<_;omega);have:(!aK.fE (pts s) (aK.lineEnd (pts s) i) 10)=false:=h10;rw [Xy,hcl (by omega)]at this;cases this
    rw [mg (by omega) (by rw [h.dL hlt];exact hb) hdu,hl];exact ih _ (by omega) (by omega) hs
   |false=>
    rw [gK hb hd]at hs;omega
end
theorem F8 (s:ByteArray) (P:List Pt) (n i j:Nat) (h:skip P i=skip P j):dP s P n i=dP s P n j:=by
 cases n with
 |zero=>rfl
 |succ n=>rw [dP,dP,h]
theorem F9 (P:List Pt) (i:Nat) (hi:i≤P.length):skip P (skip P i)=skip P i:=by
 have key:∀n i,P.length - i≤n→i≤P.length→skip P (skip P i)=skip P i:=by
  intro n
  induction n with
  |zero=>intro i h hi;have e:=um (P:=P) (i:=i) (by omega);rw [e,e]
  |succ n ih=>
   intro i h hi;by_cases hl:i<P.length
   · cases hb:dL P i with
     |true=>rw [gu hl hb];exact ih (i+1) (by omega) (by omega)
     |false=>
      cases hd:iK P i with
      |true=>have:=iX hd;rw [mg hl hb hd];exact ih _ (by omega) (by omega)
      |false=>rw [gK hb hd];exact gK hb hd
   · have e:=um (P:=P) (i:=i) (by omega);rw [e,e]
 exact key _ i (Nat.le_refl _) hi
theorem Ia {P:List Pt}{i:Nat}(hi:i≤P.length) (h:skip P i<P.length):dL P (skip P i)=false:=by
 cases hb:dL P (skip P i)with
 |false=>rfl
 |true=>
  have h1:=F9 P i hi;rw [gu h hb]at h1;have:=jY P (skip P i+1);omega
theorem OB (s:ByteArray) (P:List Pt):∀n i l,dP s P n i= .ok l→∀t∈l,i≤t.at_∧t.at_<P.length:=by
 intro n
 induction n with
 |zero=>intro i l h t ht;rw [dP]at h;cases h;cases ht
 |succ n ih=>
  intro i l h t ht;rw [dP]at h;split at h
  · cases h;cases ht
  · rename_i hl;split at h
    · rename_i hok;cases hx:dP s P n (dw s P (skip P i)).2.2 with
      |error a=>rw [hx]at h;cases h
      |ok m=>
       rw [hx]at h;have e:l=(dw s P (skip P i)).1::m:=by cases h;rfl
       rw [e]at ht;have hg:=yA (s:=s) (P:=P) (i:=skip P i) (by omega) hok;have hs:=jY P i;rcases List.mem_cons.1 ht with rfl|ht
       · rw [Oz s P _ hok];omega
       · have:=ih _ _ hx t ht;omega
    · cases h
theorem Ins.lex {s u r B:ByteArray}{a d:Nat}(h:Ins s u r B a d) (hB:∀t:ByteArray,skip (pts (B++t)) 0=B.size+skip (pts t) 0) (hBl:(pts (B++r)).length=B.size+(pts r).length) (hcB:Cut (B++r) r ((pts (B++r)).take B.size) B.size) (hne:a=(pts s).length→bY u d=10):
 ∀k n m e l,dP s (pts s) n e= .ok l→(pts s).length<n+e→(pts u).length<m+e→k≤l.length→(∀x,l[k]? =some x→a=x.at_)→(k=l.length→a=(pts s).length)→e≤a→
  dP u (pts u) m e= .ok (l.take k++(l.drop k).map (Tk.on B.size)):=by
 have hal:=h.al;have hul:=h.Xw;have hlen:=h.len;have hsl:=h.cs.len;rw [List.length_take,Nat.min_eq_left hal]at hsl;have Dr:((pts s).take a).length=a:=by rw [List.length_take];omega
 have hcur:Cut u r ((pts s).take a++((pts (B++r)).take B.size).map (Pt.shift d)) (d+B.size):=Cut.trans h.cu hcB
 have hcl:((pts s).take a++((pts (B++r)).take B.size).map (Pt.shift d)).length=a+B.size:=by
  rw [List.length_append,Dr,List.length_map,List.length_take];omega
 intro k
 induction k with
 |zero=>
  intro n m e l hl hn hm _ hx hk0 hea;rw [List.take_zero,List.drop_zero,List.nil_append]
  -- up to the place there are blanks alone
  have Qu:skip (pts u) a=a+B.size+skip (pts r) 0:=by
   have:=h.cu.skip 0;rw [Dr,Nat.add_zero]at this;rw [this,hB r];omega
  have hr0:=h.cs.skip 0;rw [Dr,Nat.add_zero]at hr0;by_cases hl0:l= []
  · subst hl0;have ha:=hk0 rfl;have hrl:(pts r).length=0:=by omega
    have hse:skip (pts s) e=a:=by
     have h1:(pts s).length≤skip (pts s) e:=by
      cases n with
      |zero=>have:=jY (pts s) e;omega
      |succ n=>
       rw [dP]at hl;split at hl
       · rename_i hq;exact hq
       · split at hl
         · cases hq:dP s (pts s) n (aK.dw s (pts s) (aK.skip (pts s) e)).2.2<;>rw [hq]at hl<;>cases hl
         · cases hl
     have h2:=uy (pts s) ((pts s).length - e) e (by omega);rw [show iL (pts s) ((pts s).length - e) e=skip (pts s) e from rfl]at h2;omega
    have hsu:=h.OA hne (fun hh=>absurd ha (by omega)) (a - e) e (Nat.le_refl _) hea hse;have aaf:skip (pts r) 0=0:=um (by omega);cases m with
    |zero=>omega
    |succ m=>rw [uw (by rw [hsu,Qu];omega)];rfl
  · obtain ⟨t,l',rfl⟩:∃t l',l=t::l' :=by cases l with|nil=>exact absurd rfl hl0|cons t l' =>exact ⟨t,l',rfl⟩
    have hat:a=t.at_:=hx t rfl
    have hse:skip (pts s) e=a:=by
     cases n with
     |zero=>rw [dP]at hl;cases hl
     |succ n=>
      rw [dP]at hl;split at hl
      · cases hl
      · split at hl
        · rename_i hok;cases hq:dP s (pts s) n (aK.dw s (pts s) (aK.skip (pts s) e)).2.2 with
          |error b=>rw [hq]at hl;cases hl
          |ok m' =>
           rw [hq]at hl;have:t=(aK.dw s (pts s) (skip (pts s) e)).1:=by cases hl;rfl
           rw [hat,this,Oz s (pts s) _ hok]
        · cases hl
    have hlt:a<(pts s).length:=by rw [hat];exact (OB s (pts s) n e _ hl t (List.mem_cons_self)).2
    have hnb:=Ia (P:=pts s) (i:=e) (by omega) (by rw [hse];exact hlt);rw [hse]at hnb
    have aeS:aK.fE (pts s) a 10=false:=by
     unfold aK.dL at hnb;simp only [Bool.or_eq_false_iff]at hnb;exact hnb.1.2
    have hsu:=h.OA hne (fun _=>aeS) (a - e) e (Nat.le_refl _) hea hse;have hss:=F9 (pts s) e (by omega);rw [hse]at hss;have aaf:skip (pts r) 0=0:=by omega
    have h1:=h.cs.dP n 0;rw [Dr,Nat.add_zero]at h1;have h2:=hcur.dP m 0;rw [hcl,Nat.add_zero]at h2;rw [F8 s (pts s) n e a (by rw [hse,hss]),h1]at hl
    have aeT:skip (pts u) (a+B.size)=a+B.size:=by
     have:=hcur.skip 0;rw [hcl,Nat.add_zero,aaf]at this;omega
    rw [F8 u (pts u) m e (a+B.size) (by rw [hsu,Qu,aeT,aaf];omega),h2];rw [Ai r (pts r) n m 0 (by omega) (by omega)]at hl;cases hq:aK.dP r (pts r) m 0 with
    |error b=>rw [hq]at hl;cases hl
    |ok l0=>
     rw [hq]at hl
     have e1:t::l' =l0.map (Tk.on a):=by
      have:Zb a (.ok l0)= .ok (l0.map (Tk.on a)):=rfl;rw [this]at hl;injection hl with hl
      exact hl.symm
     rw [e1,List.map_map];show Except.ok (l0.map (Tk.on (a+B.size)))=_;congr 2;funext x;show Tk.mk _ _ _ (x.at_+(a+B.size))=Tk.mk _ _ _ (x.at_+a+B.size);rw [Nat.add_assoc];rfl
 |succ k ih=>
  intro n m e l hl hn hm hkl hx hk0 hea;cases n with
  |zero=>rw [dP]at hl;cases hl;simp at hkl
  |succ n=>
   rw [dP]at hl;split at hl
   · cases hl;simp at hkl
   · rename_i agR;split at hl
     · rename_i hok;cases hq:dP s (pts s) n (aK.dw s (pts s) (aK.skip (pts s) e)).2.2 with
       |error b=>rw [hq]at hl;cases hl
       |ok l1=>
        rw [hq]at hl;have e1:l=(aK.dw s (pts s) (skip (pts s) e)).1::l1:=by cases hl;rfl
        subst e1;have hg:=yA (s:=s) (P:=pts s) (i:=skip (pts s) e) (by omega) hok;have hse:=jY (pts s) e
        have Xy:(aK.dw s (pts s) (skip (pts s) e)).2.2≤a:=by
         by_cases hkk:k<l1.length
         · have:=hx l1[k] (by rw [List.getElem?_cons_succ,List.getElem?_eq_getElem hkk]);rw [this];exact (OB s (pts s) n _ l1 hq l1[k] (List.getElem_mem hkk)).1
         · have:=hk0 (by simp at hkl⊢;omega);omega
        have Qu:=h.Xx (a - e) e (Nat.le_refl _) (by omega);have htk:=h.dw (i:=skip (pts s) e) (by omega) hok Xy;cases m with
        |zero=>omega
        |succ m=>
         rw [G7 (by rw [Qu];omega) (by rw [Qu,htk];exact hok),Qu,htk];have:=ih n m _ l1 hq (by omega) (by omega) (by simpa using hkl) (fun x hx2=>hx x (by rw [List.getElem?_cons_succ];exact hx2)) (fun hk=>hk0 (by rw [List.length_cons];omega)) Xy;rw [this];rfl
     · cases hl
theorem Uf (n g b0 b1 b2 b3 c1 c2 c3:Nat) (hn:1≤n) (hg:1≤g) (h1:1<g→c1=b1) (h2:2<g→c2=b2) (h3:3<g→c3=b3) (hgn:g≤n) (hw:(Lib.decodeN n b0 b1 b2 b3).2≤g):
 Lib.decodeN g b0 c1 c2 c3=Lib.decodeN n b0 b1 b2 b3:=by
 by_cases hok:(Lib.decodeN n b0 b1 b2 b3).1≠65533∨1<(Lib.decodeN n b0 b1 b2 b3).2
 · obtain ⟨w,hwd⟩:∃w,(Lib.decodeN n b0 b1 b2 b3).2=w:=⟨_,rfl⟩;rw [hwd]at hw
   have hw1:1≤w:=by
    rcases iW n b0 b1 b2 b3 hn with ⟨h,_⟩|⟨_,h,_⟩<;>omega
   have hc:=uI n b0 b1 b2 b3 c1 c2 c3 w hwd (fun h=>h1 (by omega)) (fun h=>h2 (by omega)) (fun h=>h3 (by omega)) hok;rw [←hc];exact yt w g b0 c1 c2 c3 c1 c2 c3 hw1 hw (fun _=>rfl) (fun _=>rfl) (fun _=>rfl) (by rw [hc];exact hok)
 · have hok' :¬((Lib.decodeN g b0 c1 c2 c3).1≠65533∨1<(Lib.decodeN g b0 c1 c2 c3).2):=by
    intro hk;apply hok;obtain ⟨w,hwd⟩:∃w,(Lib.decodeN g b0 c1 c2 c3).2=w:=⟨_,rfl⟩
    have hwg:1≤w∧w≤g:=by
     rcases iW g b0 c1 c2 c3 hg with ⟨h,_⟩|⟨_,ha,hb,_⟩<;>omega
    have hc:=uI g b0 c1 c2 c3 b1 b2 b3 w hwd (fun h=>(h1 (by omega)).symm) (fun h=>(h2 (by omega)).symm) (fun h=>(h3 (by omega)).symm) hk;have:=yt w n b0 b1 b2 b3 b1 b2 b3 hwg.1 (by omega) (fun _=>rfl) (fun _=>rfl) (fun _=>rfl) (by rw [hc];exact hk);rw [this,hc];exact hk
   have bad:∀x:Nat×Nat,¬(x.1≠65533∨1<x.2)→1≤x.2→x=(65533,1):=by
    intro x h hx;have h1:x.1=65533:=Decidable.byContradiction fun e=>h (.inl e)
    have h2:¬1<x.2:=fun e=>h (.inr e)
    exact Prod.ext h1 (by show x.2=1;omega)
   have p1:1≤(Lib.decodeN n b0 b1 b2 b3).2:=by rcases iW n b0 b1 b2 b3 hn with ⟨h,_⟩|⟨_,h,_⟩<;>omega
   have p2:1≤(Lib.decodeN g b0 c1 c2 c3).2:=by rcases iW g b0 c1 c2 c3 hg with ⟨h,_⟩|⟨_,h,_⟩<;>omega
   rw [bad _ hok p1,bad _ hok' p2]
theorem Xz (s u:ByteArray) (d:Nat) (hb:∀k,k<d→bY u k=bY s k) (hd:d≤s.size) (hu:u.size=d) (p:Nat) (hp:p<d) (hw:p+(Utf8.decode s p).2≤d):
 Utf8.decode u p=Utf8.decode s p:=by
 rw [iV]at hw;rw [iV,iV s p,hb p hp,hu];exact Uf (s.size - p) (d - p) (bY s p) (bY s (p+1)) (bY s (p+2)) (bY s (p+3)) _ _ _ (by omega) (by omega) (fun h=>hb _ (by omega)) (fun h=>hb _ (by omega)) (fun h=>hb _ (by omega)) (by omega) (by omega)
theorem Ug (s u:ByteArray) (d:Nat) (hb:∀k,k<d→bY u k=bY s k) (hd:d≤s.size) (hu:u.size=d):
 ∀a pos,pos≤s.size→a≤(dD s pos).length→aL s (dD s pos) a=d→dD u pos=(dD s pos).take a:=by
 intro a
 induction a with
 |zero=>intro pos h _ he;rw [jJ s pos h]at he;rw [bI u pos (by omega)];rfl
 |succ a ih=>
  intro pos h hl he;by_cases hp:pos<s.size
  · have hw:=width_le s pos hp;have hw0:=width_pos s pos hp;rw [bq s pos hp]at hl he;have he' :aL s (dD s (pos+(Utf8.decode s pos).2)) a=d:=he;have hge:=(qF s a (pos+(Utf8.decode s pos).2) hw).1;rw [he']at hge;have hda:=Xz s u d hb hd hu pos (by omega) hge;rw [bq s pos hp,List.take_succ_cons];rw [bq u pos (by omega),hda,ih _ hw (by simpa using hl) he']
  · rw [bI s pos hp]at hl;simp at hl
theorem aag (s:ByteArray) (d k:Nat) (hk:k<d) (hd:d≤s.size):bY (s.extract 0 d) k=bY s k:=by
 have h1:k<(s.extract 0 d).size:=by rw [ByteArray.size_extract];omega
 rw [←jk (s.extract 0 d) k h1,←jk s k (by omega)];congr 1;simp [ByteArray.getElem_extract]
theorem J9 (s:ByteArray) (a:Nat) (ha:a≤(pts s).length):pts (s.extract 0 (aL s (pts s) a))=(pts s).take a:=by
 have hd:=Af s a;rw [iD,iD s]at *;exact Ug s _ (aL s (dD s 0) a) (fun k hk=>aag s _ k hk hd) hd (by rw [ByteArray.size_extract];omega) a 0 (Nat.zero_le _) ha rfl
theorem aah (s:ByteArray) (a:Nat) (ha:a≤(pts s).length):Cut s (s.extract (aL s (pts s) a) s.size) ((pts s).take a) (aL s (pts s) a):=
 (aad s ⟨#[32]⟩ a ha (.inl (by decide))).cs
theorem Uh (n b0 b1 b2 b3 c1 c2 c3:Nat) (h1:c1=b1∨(c1 / 64≠2∧b1 / 64≠2)) (h2:c2=b2∨(c2 / 64≠2∧b2 / 64≠2)) (h3:c3=b3∨(c3 / 64≠2∧b3 / 64≠2)):
 Lib.decodeN n b0 c1 c2 c3=Lib.decodeN n b0 b1 b2 b3:=by
 rcases h1 with rfl|⟨h1,h1'⟩<;>rcases h2 with rfl|⟨h2,h2'⟩<;>rcases h3 with rfl|⟨h3,h3'⟩<;>unfold Lib.decodeN<;>simp [*]
def yP (b:Nat):Nat:=if 65≤b∧b≤90 then b+32 else b
def Pt.low (p:Pt):Pt:=⟨yP p.r,p.at_,p.n⟩
theorem Cq (s:ByteArray) (k:Nat):bY (fold s) k=yP (bY s k):=by
 by_cases h:k<s.size
 · rw [←jk (fold s) k (by rw [fold_size];exact h),←jk s k h];show (((fold s).data[k]'(by show k<(s.data.map pQ).size;rw [Array.size_map];exact h))).toNat=_;unfold fold;simp only [Array.getElem_map];rw [yg];rfl
 · rw [yj _ k (by rw [fold_size];exact h),yj s k h];rfl
theorem Dt (b:Nat):yP b=b∨(yP b / 64≠2∧b / 64≠2):=by
 unfold yP;split
 · right;omega
 · left;rfl
theorem acs (n b0 b1 b2 b3:Nat) (_hn:1≤n) (h0:128≤b0):yP (Lib.decodeN n b0 b1 b2 b3).1=(Lib.decodeN n b0 b1 b2 b3).1:=by
 suffices h:128≤(Lib.decodeN n b0 b1 b2 b3).1 by unfold yP;rw [if_neg (by omega)]
 unfold Lib.decodeN;rw [if_neg (by omega)]
 repeat' split
 all_goals (try simp only)
 all_goals omega
theorem Ui (s:ByteArray) (k:Nat) (hk:k<s.size):Utf8.decode (fold s) k=(yP (Utf8.decode s k).1,(Utf8.decode s k).2):=by
 rw [iV,iV s k,fold_size,Cq,Cq,Cq,Cq,Uh _ _ _ _ _ _ _ _ (Dt _) (Dt _) (Dt _)];by_cases h0:bY s k<128
 · have e:∀b,b<128→Lib.decodeN (s.size - k) b (bY s (k+1)) (bY s (k+2)) (bY s (k+3))=(b,1):=fun b hb=>by unfold Lib.decodeN;rw [if_pos hb]
   rw [e _ h0,e _ (by unfold yP;split<;>omega)]
 · have:yP (bY s k)=bY s k:=by unfold yP;rw [if_neg (by omega)]
   rw [this,acs _ _ _ _ _ (by omega) (by omega)]
theorem Mv (s:ByteArray):∀n pos,s.size - pos≤n→dD (fold s) pos=(dD s pos).map Pt.low:=by
 intro n
 induction n with
 |zero=>intro pos h;rw [bI s pos (by omega),bI _ pos (by rw [fold_size];omega)];rfl
 |succ n ih=>
  intro pos h;by_cases hp:pos<s.size
  · have hw0:=width_pos s pos hp;rw [bq s pos hp,bq _ pos (by rw [fold_size];exact hp),Ui s pos hp,List.map_cons,ih _ (by omega)];rfl
  · rw [bI s pos hp,bI _ pos (by rw [fold_size];exact hp)];rfl
theorem Ka (s:ByteArray):pts (fold s)=(pts s).map Pt.low:=by
 rw [iD,iD s];exact Mv s s.size 0 (by omega)
theorem Uj (p:Pt):p.low.ok=p.ok:=by
 unfold Pt.low Pt.ok yP;simp only;split
 · rename_i h;have e1:((((p.r+32:Nat)):Int) !=65533)=true:=by simp;omega
   have e2:((p.r:Int) !=65533)=true:=by simp;omega
   rw [e1,e2]
 · rfl
theorem Kc (P:List Pt) (i:Nat):dn (P.map Pt.low) i=dn P i:=by
 unfold dn;rw [List.getElem?_map];cases P[i]? with
 |none=>rfl
 |some p=>
  simp only [Option.map_some,Uj];congr 1;unfold Pt.low yP dV;simp only;split
  · rename_i h;have e1:(decide (97≤(((p.r+32:Nat)):Int))&&decide ((((p.r+32:Nat)):Int)≤122))=true:=by simp;omega
    have e2:(decide (65≤(p.r:Int))&&decide ((p.r:Int)≤90))=true:=by simp;omega
    rw [e1,e2];simp
  · rfl
theorem Uk (P:List Pt) (i:Nat):bT (P.map Pt.low) i=bT P i:=by
 unfold bT;rw [List.getElem?_map];cases P[i]? with
 |none=>rfl
 |some p=>
  simp only [Option.map_some];unfold Pt.low yP iw;simp only;split
  · rename_i h;have e1:decide ((((p.r+32:Nat)):Int)≤57)=false:=by simp;omega
    have e2:decide ((p.r:Int)≤57)=false:=by simp;omega
    rw [e1,e2];simp
  · rfl
theorem Mw (s:ByteArray):valid (fold s)=valid s:=by
 unfold valid;rw [Ka,List.all_map];congr 1;funext p;exact Uj p
theorem Mx (s:ByteArray):lZ (fold s)=lZ s:=by
 unfold lZ;rw [Mw,Ka,Kc,List.length_map];congr 2;congr 1;funext k;rw [Kc,Uk]
theorem XA {P:List Pt}{i:Nat}(h:dn P i=true∨bT P i=true) (hi:i<P.length):P[i].ok=true:=by
 unfold dn bT at h;rw [List.getElem?_eq_getElem hi]at h;simp only at h;rcases h with h|h
 · exact (Bool.and_eq_true _ _▸h).1
 · unfold iw at h;simp only [Bool.and_eq_true,decide_eq_true_eq]at h;unfold Pt.ok;have:((P[i].r:Int) !=65533)=true:=by simp;omega
   rw [this];rfl
theorem Ul {f:Nat→Bool}{len i:Nat}:∀k,i≤k→k<dF f len i→f k=true:=by
 unfold dF
 have:∀n i k,i≤k→k<yu f n i→f k=true:=by
  intro n
  induction n with
  |zero=>intro i k h1 h2;rw [yu]at h2;omega
  |succ n ih=>
   intro i k h1 h2;rw [yu]at h2;split at h2
   · rename_i hf;by_cases hk:k=i
     · subst hk;exact hf
     · exact ih (i+1) k (by omega) h2
   · omega
 exact this _ _
theorem Ke (s:ByteArray) (i:Nat) (h:dn (pts s) i=true):lZ (lD s (pts s) i)=true:=by
 have hi:=yw h;obtain ⟨h1,h2⟩:=yx h;have hc:=aah s i (by omega);obtain ⟨t,ht⟩:∃t,s.extract (aL s (pts s) i) s.size=t:=⟨_,rfl⟩;rw [ht]at hc;have hA:((pts s).take i).length=i:=by rw [List.length_take];omega
 have e1:=hc.lD 0;have e2:=hc.dW 0;have e3:=hc.dn 0;have e4:=hc.len;rw [hA,Nat.add_zero]at e1 e2 e3;rw [hA]at e4;rw [e1];rw [h]at e3;obtain ⟨m,hm⟩:∃m,dW (pts t) 0=m:=⟨_,rfl⟩;rw [hm]at e2;unfold lD;rw [hm,pX];have hml:m≤(pts t).length:=by omega
 have hall:∀k,k<m→dn (pts t) k=true∨bT (pts t) k=true:=by
  intro k hk
  have:=Ul (f:=fun k=>dn (pts t) k||bT (pts t) k) (len:=(pts t).length) (i:=0) k (Nat.zero_le _) (by
   have:dF (fun k=>dn (pts t) k||bT (pts t) k) (pts t).length 0=m:=hm;omega)
  simpa using this
 have hg:∀k,k<m→(((pts t).take m)[k]? =(pts t)[k]?):=fun k hk=>by rw [List.getElem?_take,if_pos hk]
 have hl:∀k,k<m→dn ((pts t).take m) k=dn (pts t) k:=fun k hk=>by unfold dn;rw [hg k hk]
 have hd:∀k,k<m→bT ((pts t).take m) k=bT (pts t) k:=fun k hk=>by unfold bT;rw [hg k hk]
 unfold lZ;rw [J9 t m hml];simp only [Bool.and_eq_true];refine ⟨⟨?_, ?_⟩, ?_⟩
 · rw [hl 0 (by omega)];exact e3.symm
 · rw [List.all_eq_true];intro k hk;rw [List.mem_range,List.length_take]at hk;have hkm:k<m:=by omega
   rw [hl k hkm,hd k hkm,Bool.or_eq_true];exact hall k hkm
 · unfold valid;rw [J9 t m hml,List.all_eq_true];intro p hp;obtain ⟨k,hk,rfl⟩:=List.getElem_of_mem hp;rw [List.length_take]at hk;rw [List.getElem_take];exact XA (hall k (by omega)) (by omega)
theorem XB (P:List Pt):∀n i v ok,0≤v→v≤1099511627776→0≤(qE P n i v ok).1∧(qE P n i v ok).1≤1099511627776:=by
 intro n
 induction n with
 |zero=>intro i v ok h1 h2;exact ⟨h1,h2⟩
 |succ n ih=>
  intro i v ok h1 h2;rw [qE];split
  · rename_i hd;refine ih _ _ _ ?_ ?_
    · have hr:48≤jl P i:=by
       unfold bT at hd;unfold jl;cases hx:P[i]? with
       |none=>rw [hx]at hd;exact absurd hd (by simp)
       |some p=>
        rw [hx]at hd;unfold iw at hd;simp only [Bool.and_eq_true,decide_eq_true_eq]at hd⊢;exact hd.1
      omega
    · omega
  · exact ⟨h1,h2⟩
theorem Qv (s:ByteArray) (i:Nat) (h:(dw s (pts s) i).2.1=true):JH (dw s (pts s) i).1.fo:=by
 unfold dw at h⊢;split at h
 · rename_i h1;rw [if_pos h1];refine .inl ⟨rfl, ?_, ?_, ?_,rfl⟩
   · show lZ (fold _)=true;rw [Mx];exact Ke s i h1
   · exact PV _
   · show (fold _).size≤100;rw [fold_size];unfold jD at h;simpa using h
 rename_i h1;rw [if_neg h1];split at h
 · rename_i h2;rw [if_pos h2];refine .inr (.inl ⟨rfl,rfl, ?_⟩);obtain ⟨g1,g2⟩:=XB (pts s) ((pts s).length - bJ (pts s) i) (bJ (pts s) i) 0 (bT (pts s) (bJ (pts s) i)) (Int.le_refl _) (by decide);show -1099511627776≤(if fE (pts s) i 45=true then -(fV (pts s) i).1 else (fV (pts s) i).1)∧(if fE (pts s) i 45=true then -(fV (pts s) i).1 else (fV (pts s) i).1)≤1099511627776;change 0≤(fV (pts s) i).1 at g1;change (fV (pts s) i).1≤_ at g2;split<;>omega
 rename_i h2;rw [if_neg h2];split at h
 · rename_i h3;rw [if_pos h3];unfold jm at h⊢;split at h
   · rename_i x hx;simp only [Bool.and_eq_true,decide_eq_true_eq]at h;exact .inr (.inr (.inl ⟨rfl,h.2,h.1,rfl⟩))
   · exact absurd h (by simp)
 rename_i h3;rw [if_neg h3];split at h
 · rename_i h4;rw [if_pos h4];refine .inr (.inr (.inr ⟨rfl, ?_,rfl⟩));show lu ⟨#[UInt8.ofNat (jl (pts s) i).toNat]⟩ yB=true;unfold uo at h4;simp only [Bool.or_eq_true,beq_iff_eq]at h4;rcases h4 with ((((h4|h4)|h4)|h4)|h4)|h4<;>rw [h4]<;>decide+kernel
 · exact absurd h (by simp)
theorem XC (s:ByteArray):∀n i l,dP s (pts s) n i= .ok l→∀t∈l,JH t.fo:=by
 intro n
 induction n with
 |zero=>intro i l h t ht;rw [dP]at h;cases h;exact absurd ht (by simp)
 |succ n ih=>
  intro i l h t ht;rw [dP]at h;split at h
  · cases h;exact absurd ht (by simp)
  · split at h
    · rename_i hb;cases hr:dP s (pts s) n (dw s (pts s) (skip (pts s) i)).2.2 with
      |error a=>rw [hr]at h;cases h
      |ok r=>
       rw [hr]at h;cases h;rcases List.mem_cons.1 ht with rfl|ht
       · exact Qv s _ hb
       · exact ih _ _ hr t ht
    · cases h
theorem Lx.ok {s:ByteArray}{T:List Tk}(h:Lx s T) (en:Nat):(⟨T,en⟩:Tx).Ok:=by
 intro t ht;unfold Tx.F at ht;obtain ⟨u,hu,rfl⟩:=List.mem_map.1 ht;exact XC s _ _ _ h u hu
def ni.zero:ni:=⟨Sx.zero, []⟩
def jN (X:Tx):Tx.Nd×Ps:=
 let r:=X.iY (X.T.length+2) ⟨0,none⟩
 let σ:=X.may r.2 (⟨#[59]⟩:ah)
 (r.1,if σ.i<X.T.length then X.fail σ else σ)
def dJ (s:ByteArray):ni×Int×Int:=
 let l:=aX s
 if l.2.2≠0 then (ni.zero,l.2.1,l.2.2)
 else
  let r:=jN ⟨l.1,(pts s).length⟩
  match r.2.bad with
  |some a=>(ni.zero,a,3)
  |none=>if 1000<(iA (kI r.1)).size then (ni.zero,0,2)else (kI r.1,0,0)
def Qw (R:List To):Prop:=R= []∨R= [aU (⟨#[59]⟩:ah)]
theorem Qw.fin {R:List To}(h:Qw R):Db R:=by
 rcases h with rfl|rfl
 · exact Xh
 · exact JN []
theorem Kg {X:Tx}{i:Nat}(h:X.T.length≤i):X.F.drop i= []:=by
 apply List.drop_eq_nil_of_le;unfold Tx.F;rw [List.length_map];exact h
theorem mE {X:Tx}(hX:X.Ok) (h:(jN X).2.bad=none):∃L R,GN (jN X).1 L∧X.F=L++R∧Qw R:=by
 unfold jN at h⊢;simp only at h⊢;obtain ⟨⟨nd,σ⟩,hr⟩:∃r,X.iY (X.T.length+2) ⟨0,none⟩=r:=⟨_,rfl⟩;simp only [hr]at h⊢;obtain ⟨h1,h2⟩:=qJ (σ:=X.may σ (⟨#[59]⟩:ah)) (a:=X.here (X.may σ (⟨#[59]⟩:ah))) h;have hb:(X.may σ (⟨#[59]⟩:ah)).bad=none:=by rw [←h2];exact h
 have hs:σ.bad=none:=by
  unfold Tx.may at hb;split at hb
  · rename_i hs;exact mh hs
  · exact hb
 obtain ⟨L,hG,hc⟩:=Xc hX (X.T.length+1) ⟨0,none⟩ (by rw [hr];exact hs);rw [hr]at hG hc;have hF:X.F=L++X.F.drop σ.i:=by have:=hc.2;simpa using this
 refine ⟨L,X.F.drop σ.i,hG,hF, ?_⟩;unfold Tx.may at h1;split at h1
 · rename_i wo;right;rw [JI hX wo];rw [Kg (X:=X) (i:=σ.i+1) (Nat.not_lt.1 h1)]
 · left;exact Kg (Nat.not_lt.1 h1)
theorem Qx {X:Tx}{nd:Tx.Nd}{L R:List To}(hG:GN nd L) (hF:X.F=L++R) (hR:Qw R):(jN X).1=nd∧(jN X).2.bad=none:=by
 have h0:iy X ⟨0,none⟩ (L++R):=⟨rfl,by rw [List.drop_zero];exact hF⟩;obtain ⟨h1,h2⟩:=ZY X.T.length hG h0 hR.fin;unfold jN;simp only;refine ⟨h1, ?_⟩
 have fin:∀τ,iy X τ []→(if τ.i<X.T.length then X.fail τ else τ).bad=none:=by
  intro τ Kh;rw [if_neg]
  · exact Kh.1
  · intro hl;have:=Kh.2;have hlen:(X.F.drop τ.i).length=0:=by rw [this];rfl
    rw [List.length_drop]at hlen;unfold Tx.F at hlen;rw [List.length_map]at hlen;omega
 rcases hR with rfl|rfl
 · have e:X.may (X.iY (X.T.length+2) ⟨0,none⟩).2 (⟨#[59]⟩:ah)=(X.iY (X.T.length+2) ⟨0,none⟩).2:=if_neg (by rw [h2.sees];decide);rw [e];exact fin _ h2
 · have e:X.may (X.iY (X.T.length+2) ⟨0,none⟩).2 (⟨#[59]⟩:ah)=(X.iY (X.T.length+2) ⟨0,none⟩).2.step:=if_pos (by rw [h2.sees,aQ];rfl);rw [e];exact fin _ h2.step
theorem sD {s:ByteArray}(h:(aX s).2.2=0):Lx s (aX s).1∧s.size≤1000:=by
 unfold aK.aX at h⊢;split at h
 · exact absurd h (by decide)
 · rename_i hs;rw [if_neg hs];unfold Lx;cases hl:dP s (pts s) ((pts s).length+1) 0 with
   |ok l=>exact ⟨rfl,by omega⟩
   |error a=>rw [hl]at h;exact absurd h (show¬((3:Int)=0)by decide)
theorem MB {s:ByteArray}{z:ni}{a:Int}(h:dJ s=(z,a,0)):
 ∃nd L R,GN nd L∧z=kI nd∧a=0∧(iA z).size≤1000∧LxF s (L++R)∧Qw R∧s.size≤1000:=by
 unfold dJ at h;simp only at h;split at h
 · rename_i he;injection h with _ h
   injection h with _ h
   exact absurd h he
 · rename_i he;obtain ⟨hx,hsz⟩:=sD (Decidable.not_not.1 he);have hX:=Lx.ok hx (pts s).length;split at h
   · injection h with _ h
     injection h with _ h
     exact absurd h (by decide)
   · rename_i hb;split at h
     · injection h with _ h
       injection h with _ h
       exact absurd h (by decide)
     · rename_i hbig;injection h with h1 h2
       injection h2 with h2 _
       obtain ⟨L,R,hG,hF,hR⟩:=mE hX hb;refine ⟨_,L,R,hG,h1.symm,h2.symm,by rw [←h1];omega,⟨_,hx,hF⟩,hR,hsz⟩
theorem Qy {s:ByteArray}{nd:Tx.Nd}{L R:List To}(hG:GN nd L) (hR:Qw R) (hx:LxF s (L++R)) (hs:s.size≤1000) (ht:(iA (kI nd)).size≤1000):dJ s=(kI nd,0,0):=by
 obtain ⟨T,hT,hF⟩:=hx;have hl:=hT.aX hs;unfold dJ;rw [hl];simp only;rw [if_neg (by decide)];obtain ⟨h1,h2⟩:=Qx (X:=⟨T,(pts s).length⟩) hG hF hR;rw [h2];simp only;rw [h1,if_neg (by omega)]
def May (z:ni):Prop:=∃nd L,GN nd L∧z=kI nd∧(iA z).size≤1000
theorem xB {s:ByteArray}{z:ni}{a:Int}(h:dJ s=(z,a,0)):May z:=by
 obtain ⟨nd,L,R,h1,h2,_,h3,_⟩:=MB h;exact ⟨nd,L,h1,h2,h3⟩
theorem Qz {z:ni}(h:May z):dJ (iA z)=(z,0,0):=by
 obtain ⟨nd,L,h1,rfl,h3⟩:=h;obtain ⟨g1,g2⟩:=h1.text;have:=g2.lex;exact Qy (R:= []) g1 (.inl rfl) (by rw [List.append_nil];exact this) h3 h3
def jc (x:Sx):Bool:=decide (x.aD.length≤10∧x.sets.length≤10∧x.aO.length≤2∧x.aF.length≤10)
theorem QA {z:ni}(h:May z):jc z.x=true∧z.parts.length≤8∧∀y∈z.parts,jc y=true:=by
 obtain ⟨nd,L,h1,rfl,h3⟩:=h;have aeU:∀(c:List ByteArray) (v:List Tm),(List.zipWith Pr.mk c v).length≤c.length:=fun c v=>by rw [List.length_zipWith];omega
 have hC:∀{x:Sx} {L:List To},GC x L→jc x=true:=by
  intro x L hx;cases hx with
  |insert o c v a b h=>have:=h.2.2.1.2.2;have:=aeU c v;refine decide_eq_true ⟨?_, ?_, ?_, ?_⟩<;>simp [rW,Sx.zero]<;>omega
  |update o a b c v h=>have:=h.2.2.1.2.2.2;have:=h.2.2.2.2;refine decide_eq_true ⟨?_, ?_, ?_, ?_⟩<;>simp [rY,Sx.zero]<;>omega
  |remove o a b c h=>have:=h.1.2.2;have:=h.2.2.2.2;refine decide_eq_true ⟨?_, ?_, ?_, ?_⟩<;>simp [sj,Sx.zero]<;>omega
 cases h1 with
 |change h=>exact ⟨hC h,by simp [kI],by simp [kI]⟩
 |plain h=>
  refine ⟨?_,by simp [kI],by simp [kI]⟩;show jc _=true;cases h with
  |ask o c v a h=>have:=h.1.2.2;have:=h.2.2.1.2;refine decide_eq_true ⟨?_, ?_, ?_, ?_⟩<;>simp [kI,Md,Sx.zero]<;>omega
  |view o c v a p q h=>have:=h.2.1.2.2;refine decide_eq_true ⟨?_, ?_, ?_, ?_⟩<;>simp [kI,wE,Sx.zero]<;>omega
  |index=>rfl
  |drop=>rfl
  |table o c v a h=>
   obtain ⟨p,q,D,_,_,e0,_,ok⟩:=qd h;have:=ok.2.2.2.1;rw [e0];simp at this;refine decide_eq_true ⟨?_, ?_, ?_, ?_⟩<;>simp [kI,Sx.zero]<;>omega
 | @batch l L h1 h2 h4=>
  refine ⟨rfl,h4, ?_⟩;show∀y∈l,_;clear h3 h2 h4
  induction h1 with
  |nil=>simp
  |cons hx _ ih=>
   intro y hy;rcases List.mem_cons.1 hy with rfl|hy
   · exact hC hx
   · exact ih y hy
def oQ (z:ni):Bool:=jc z.x&&decide (z.parts.length≤8)&&z.parts.all jc
theorem Du {z:ni}(h:May z):oQ z=true:=by
 obtain ⟨h1,h2,h3⟩:=QA h;unfold oQ;rw [h1,decide_eq_true h2,List.all_eq_true.2 h3];rfl
theorem XD {z:ni}:May z ↔ (dJ (iA z)).2.2=0∧z=(dJ (iA z)).1:=by
 constructor
 · intro h;rw [Qz h];exact ⟨rfl,rfl⟩
 · intro h;obtain ⟨h1,h2⟩:=h;obtain ⟨⟨z',a,e⟩,hr⟩:∃r,dJ (iA z)=r:=⟨_,rfl⟩;rw [hr]at h1 h2;simp only at h1 h2;subst h1;have:=xB hr;rw [h2];exact this
theorem iy.here {X:Tx}{σ:Ps}{L:List To}(h:iy X σ L) {A:List Tk}{t:Tk}{B:List Tk}(hT:X.T=A++t::B) (hl:L.length=B.length+1):X.here σ=t.at_:=by
 have h1:X.F.length - σ.i=L.length:=by rw [←h.2,List.length_drop]
 have h2:X.F.length=A.length+(B.length+1):=by unfold Tx.F;rw [List.length_map,hT,List.length_append,List.length_cons]
 have h3:σ.i=A.length:=by omega
 unfold Tx.here;have:X.T[σ.i]? =some t:=by rw [hT,h3,List.getElem?_append_right (Nat.le_refl _),Nat.sub_self];rfl
 rw [this]
def rare:List UInt8:= [113,120,122,106,118,119,121,107]
def Lf (σ σ' :Ps):Prop:=∀a,σ.bad=some a→σ'.bad=some a
theorem Lf.refl (σ:Ps):Lf σ σ:=fun _ h=>h
theorem Lf.trans {σ σ1 σ2:Ps}(h:Lf σ σ1) (h' :Lf σ1 σ2):Lf σ σ2:=fun a ha=>h' a (h a ha)
section
variable (X:Tx)
end
namespace Tx
variable (X:Tx)
def isK (σ:Ps) (k:Int) (s:ByteArray):Bool:=match X.next σ k with|some t=>fB t.s s|none=>false
def j3 (σ:Ps) (l:List ByteArray) (most:Nat):List ByteArray×Ps:=
 let r:=X.name σ
 (l++ [r.1],if lu r.1 l||decide (most≤l.length)then r.2.wrong (X.here σ)else r.2)
def Ga (most:Nat):Nat→Ps→List ByteArray→List ByteArray×Ps
 |0,σ,l=>(l,σ)
 |n+1,σ,l=>if X.sees σ (⟨#[44]⟩:ah)then let r:=X.j3 σ.step l most;Ga most n r.2 r.1 else (l,σ)
def Dv (σ:Ps) (most:Nat):List ByteArray×Ps:=
 let r:=X.j3 σ [] most
 X.Ga most X.T.length r.2 r.1
def Zg (σ:Ps):List ByteArray×Ps:=if X.sees σ (⟨#[42]⟩:ah)then ([],σ.step)else X.Dv σ 8
def qg:Nat→Ps→List ByteArray→List Cl→List ByteArray×List Cl×Ps
 |0,σ,l,c=>(l,c,σ)
 |n+1,σ,l,c=>
  if σ.bad.isSome then (l,c,σ)
  else if X.sees σ (⟨#[112,114,105,109,97,114,121]⟩:ah)then (l,c,σ.step)
  else
   let r:=X.j3 σ l 10
   let k:=X.kind r.2
   qg n (X.must k.2 [(⟨#[44]⟩:ah)]) r.1 (c++ [⟨r.1.getLastD ⟨#[]⟩,k.1⟩])
def aai (σ:Ps) (l:List ByteArray):ByteArray×Ps:=
 let r:=X.name σ
 (r.1,if !lu r.1 l then r.2.wrong (X.here σ)else r.2)
def OC (nm:ByteArray) (t:List ByteArray×List Cl×Ps):Sx×Ps:=
 let a:=X.aai (X.must t.2.2 [(⟨#[107,101,121]⟩:ah),(⟨#[40]⟩:ah)]) t.1
 let b:=X.one (X.must a.2 [(⟨#[44]⟩:ah)]) t.1 a.1
 (t.2.1.foldl (fun x c=>place x a.1 b.1 c) {Sx.zero with kind:=1,name:=nm,bW:=nm},X.must b.2 [(⟨#[41]⟩:ah),(⟨#[41]⟩:ah)])
def AA (σ:Ps):Sx×Ps:=
 let r:=X.name σ
 X.OC r.1 (X.qg (X.T.length+1) (X.must r.2 [(⟨#[40]⟩:ah)]) [] [])
def aaj (nm:ByteArray) (c:List ByteArray×Ps):Sx×Ps:=
 let o:=X.name (X.must c.2 [(⟨#[102,114,111,109]⟩:ah)])
 let n:=X.name (X.must o.2 [(⟨#[119,104,101,114,101]⟩:ah)])
 let k:=X.aai (X.must n.2 [(⟨#[105,115]⟩:ah),(⟨#[110,111,116]⟩:ah),(⟨#[110,117,108,108]⟩:ah),(⟨#[112,114,105,109,97,114,121]⟩:ah),(⟨#[107,101,121]⟩:ah),(⟨#[40]⟩:ah)]) [n.1]
 let p:=X.name (X.must k.2 [(⟨#[44]⟩:ah)])
 let q:=X.name (X.must p.2 [(⟨#[44]⟩:ah)])
 ({Sx.zero with kind:=2,name:=nm,aD:=c.1,dA:=o.1,on:=n.1,aO:= [⟨p.1,Tm.zero⟩,⟨q.1,Tm.zero⟩]},X.must q.2 [(⟨#[41]⟩:ah)])
def acu (σ:Ps):Sx×Ps:=
 let r:=X.name (X.must σ [(⟨#[118,105,101,119]⟩:ah)])
 X.aaj r.1 (X.Zg (X.must r.2 [(⟨#[97,115]⟩:ah),(⟨#[115,101,108,101,99,116]⟩:ah)]))
def sF (σ:Ps):Sx×Ps:=
 if X.sees σ (⟨#[116,97,98,108,101]⟩:ah)then X.AA σ.step else if X.sees σ (⟨#[109,97,116,101,114,105,97,108,105,122,101,100]⟩:ah)then X.acu σ.step else X.index σ
def Um (o:ByteArray) (c:List ByteArray×Ps):Sx×Ps:=
 let v0:=X.value (X.must c.2 [(⟨#[41]⟩:ah),(⟨#[118,97,108,117,101,115]⟩:ah),(⟨#[40]⟩:ah)])
 let v:=X.fC X.T.length v0.2 [v0.1]
 let σ1:=if X.isK v.2 4 (⟨#[41]⟩:ah)&&v.1.length !=c.1.length then X.fail v.2 else v.2
 X.using_ (X.must σ1 [(⟨#[41]⟩:ah)]) true {Sx.zero with kind:=5,dA:=o,sets:=List.zipWith Pr.mk c.1 v.1}
def XE (σ:Ps):Sx×Ps:=
 let o:=X.name (X.must σ [(⟨#[105,110,116,111]⟩:ah)])
 X.Um o.1 (X.Dv (X.must o.2 [(⟨#[40]⟩:ah)]) 10)
def Un:Nat→Ps→List ByteArray→List Pr→List Pr×Ps
 |0,σ,_,p=>(p,σ)
 |n+1,σ,l,p=>
  let r:=X.j3 σ l 8
  let v:=X.value (X.must r.2 [(⟨#[61]⟩:ah)])
  let p' :=p++ [⟨r.1.getLastD ⟨#[]⟩,v.1⟩]
  if X.sees v.2 (⟨#[44]⟩:ah)then Un n v.2.step r.1 p' else (p',v.2)
def Uo (x:Sx) (s:List Pr×Ps):Sx×Ps:=
 let w:=X.aO s.2 true
 ({x with sets:=s.1,aO:=w.1},w.2)
def XF (σ:Ps):Sx×Ps:=
 let o:=X.name σ
 let u:=X.using_ o.2 true {Sx.zero with kind:=6,dA:=o.1}
 X.Uo u.1 (X.Un (X.T.length+1) (X.must u.2 [(⟨#[115,101,116]⟩:ah)]) [] [])
def Uq (c:List ByteArray×Ps):Sx×Ps:=
 let o:=X.name (X.must c.2 [(⟨#[102,114,111,109]⟩:ah)])
 let u:=X.using_ o.2 false {Sx.zero with kind:=7,aD:=c.1,dA:=o.1}
 let w:=X.aO u.2 false
 ({u.1 with aO:=w.1},w.2)
def XG (σ:Ps):Sx×Ps:=X.Uq (if X.isK σ 1 (⟨#[102,114,111,109]⟩:ah)then ([],σ)else X.Dv σ 8)
def acv (c:List ByteArray×Ps):Sx×Ps:=
 let o:=X.name (X.must c.2 [(⟨#[102,114,111,109]⟩:ah)])
 let w:=X.aO o.2 false
 if X.sees w.2 (⟨#[108,105,109,105,116]⟩:ah)then
  let k:=X.count w.2.step
  ({Sx.zero with kind:=8,aD:=c.1,dA:=o.1,aO:=w.1,limit:=k.1},k.2)
 else ({Sx.zero with kind:=8,aD:=c.1,dA:=o.1,aO:=w.1},w.2)
def aeV (σ:Ps):Sx×Ps:=X.acv (X.Zg σ)
def kP (σ:Ps):Sx×Bool×Ps:=
 if X.sees σ (⟨#[105,110,115,101,114,116]⟩:ah)then let r:=X.XE σ.step;(r.1,true,r.2)
 else if X.sees σ (⟨#[117,112,100,97,116,101]⟩:ah)then let r:=X.XF σ.step;(r.1,true,r.2)
 else if X.sees σ (⟨#[100,101,108,101,116,101]⟩:ah)then let r:=X.XG σ.step;(r.1,true,r.2)
 else (Sx.zero,false,σ)
def Ur:Nat→Ps→List Sx→List Sx×Ps
 |0,σ,l=>(l,σ)
 |n+1,σ,l=>
  if σ.bad.isSome then (l,σ)
  else if !l.isEmpty&&X.sees σ (⟨#[97,112,112,108,121]⟩:ah)then (l,σ.step)
  else
   let a:=X.here σ
   let c:=X.kP (if 8≤l.length then σ.wrong a else σ)
   Ur n (X.must (if !c.2.1 then c.2.2.wrong a else c.2.2) [(⟨#[59]⟩:ah)]) (l++ [c.1])
def acw (σ:Ps):List Sx×Ps:=
 let r:=X.Ur 10 (X.must σ [(⟨#[98,97,116,99,104]⟩:ah)]) []
 (r.1,X.must r.2 [(⟨#[98,97,116,99,104]⟩:ah)])
def rst (σ:Ps):Nd×Ps:=
 let c:=X.kP σ
 if c.2.1 then (.change c.1,c.2.2)
 else if X.sees σ (⟨#[99,114,101,97,116,101]⟩:ah)then let r:=X.sF σ.step;(.plain r.1,r.2)
 else if X.sees σ (⟨#[100,114,111,112]⟩:ah)then let r:=X.name σ.step;(.plain {Sx.zero with kind:=4,name:=r.1},r.2)
 else if X.sees σ (⟨#[115,101,108,101,99,116]⟩:ah)then let r:=X.aeV σ.step;(.plain r.1,r.2)
 else if X.sees σ (⟨#[98,101,103,105,110]⟩:ah)then let r:=X.acw σ.step;(.batch r.1,r.2)
 else (.plain Sx.zero,X.fail σ)
end Tx
def Er {α:Type}(a b:α×Ps):Prop:=a=b∨∃e,a.2.bad=some e∧b.2.bad=some e
theorem Er.rfl {α:Type}{a:α×Ps}:Er a a:= .inl (Eq.refl a)
section
variable (X:Tx)
def Tx.uG (nm:ByteArray) (t:List ByteArray×List Cl×Ps):Sx×Ps:=
 let a:=X.one (X.must t.2.2 [(⟨#[107,101,121]⟩:ah),(⟨#[40]⟩:ah)]) t.1 ⟨#[]⟩
 let b:=X.one (X.must a.2 [(⟨#[44]⟩:ah)]) t.1 a.1
 (t.2.1.foldl (fun x c=>Tx.place x a.1 b.1 c) {Sx.zero with kind:=1,name:=nm,bW:=nm},X.must b.2 [(⟨#[41]⟩:ah),(⟨#[41]⟩:ah)])
def Tx.Bl (nm:ByteArray) (c:List ByteArray×Ps):Sx×Ps:=
 let o:=X.name (X.must c.2 [(⟨#[102,114,111,109]⟩:ah)])
 let n:=X.name (X.must o.2 [(⟨#[119,104,101,114,101]⟩:ah)])
 let k:=X.one (X.must n.2 [(⟨#[105,115]⟩:ah),(⟨#[110,111,116]⟩:ah),(⟨#[110,117,108,108]⟩:ah),(⟨#[112,114,105,109,97,114,121]⟩:ah),(⟨#[107,101,121]⟩:ah),(⟨#[40]⟩:ah)]) [n.1] ⟨#[]⟩
 let p:=X.name (X.must k.2 [(⟨#[44]⟩:ah)])
 let q:=X.name (X.must p.2 [(⟨#[44]⟩:ah)])
 ({Sx.zero with kind:=2,name:=nm,aD:=c.1,dA:=o.1,on:=n.1,aO:= [⟨p.1,Tm.zero⟩,⟨q.1,Tm.zero⟩]},X.must q.2 [(⟨#[41]⟩:ah)])
end
section
variable (X:Tx)
theorem Us (σ:Ps) (s:ByteArray):X.sees σ s=(X.isK σ 1 s||X.isK σ 4 s):=rfl
def Tx.pY (o:ByteArray) (c:List ByteArray×Ps):Sx×Ps:=
 let v0:=X.value (X.must c.2 [(⟨#[41]⟩:ah),(⟨#[118,97,108,117,101,115]⟩:ah),(⟨#[40]⟩:ah)])
 let v:=X.fC X.T.length v0.2 [v0.1]
 let σ1:=if X.sees v.2 (⟨#[41]⟩:ah)&&v.1.length !=c.1.length then X.fail v.2 else v.2
 X.using_ (X.must σ1 [(⟨#[41]⟩:ah)]) true {Sx.zero with kind:=5,dA:=o,sets:=List.zipWith Pr.mk c.1 v.1}
theorem Er.map {α β:Type}{a b:α×Ps}(f:α→β) (h:Er a b):Er (f a.1,a.2) (f b.1,b.2):=by
 rcases h with h|h
 · rw [h];exact Er.rfl
 · exact .inr h
end
def qy:ByteArray:=(⟨#[32,99,114,101,97,116,101,32,116,97,98,108,101,32,112,114,105,109,97,114,121,32,107,101,121,32,109,97,116,101,114,105,97,108,105,122,101,100,32,118,105,101,119,32,97,115,32,115,101,108,101,99,116,32,102,114,111,109,32,119,104,101,114,101,32,105,115,32,110,111,116,32,110,117,108,108,32,105,110,100,101,120,32,111,110,32,100,114,111,112,32,105,110,115,101,114,116,32,105,110,116,111,32,118,97,108,117,101,115,32,117,115,105,110,103,32,117,112,100,97,116,101,32,115,101,116,32,97,110,100,32,100,101,108,101,116,101,32,116,105,109,101,115,116,97,109,112,32,108,105,109,105,116,32,98,101,103,105,110,32,98,97,116,99,104,32,97,112,112,108,121,32,116,116,108,32,116,101,120,116,32,105,110,116,32]⟩:ah)
def qz:List UInt8:=qy.data.toList
def Ki (s:ByteArray):ByteArray:=(⟨#[32]⟩:ah)++s++(⟨#[32]⟩:ah)
def Dw (s:ByteArray) (i:Nat):Bool:=decide (i+(s.size+2)≤185)&&fB (qy.extract i (i+(s.size+2))) (Ki s)
def tJ (s:ByteArray):Bool:=(List.range 186).any (Dw s)
theorem MC:qy.size=185:=by decide+kernel
theorem Ut (s:ByteArray):(Ki s).size=s.size+2:=by
 unfold Ki;rw [ByteArray.size_append,ByteArray.size_append];show 1+s.size+1=_;omega
theorem XH:∀s∈CQ,tJ s=true:=by decide+kernel
def Zh (i n:Nat):Bool:= !((qz.drop i).take (n+2)==32::((qz.drop (i+1)).take n++ [32]))||((qz.drop (i+1)).take n).contains 32||n==0||tX ⟨((qz.drop (i+1)).take n).toArray⟩
theorem XI:(List.range 186).all (fun i=>(List.range 14).all (fun n=>Zh i n))=true:=by decide+kernel
theorem QB:(List.range 172).all (fun i=>((qz.drop i).take 14).contains 32)=true:=by decide+kernel
theorem acz (n b0 b1 b2 b3:Nat):(2≤(Lib.decodeN n b0 b1 b2 b3).2→b1 / 64=2)∧(3≤(Lib.decodeN n b0 b1 b2 b3).2→b2 / 64=2)∧(4≤(Lib.decodeN n b0 b1 b2 b3).2→b3 / 64=2)∧(Lib.decodeN n b0 b1 b2 b3).2≤4:=by
 unfold Lib.decodeN
 repeat' split
 all_goals (try simp only)
 all_goals (refine ⟨?_, ?_, ?_, ?_⟩<;>omega)
theorem Uu (s:ByteArray):∀n pos,s.size - pos≤n→(∀p∈dD s pos,p.r≠32)→∀j,pos≤j→j<s.size→bY s j≠32:=by
 intro n
 induction n with
 |zero=>intro pos h _ j h1 h2;omega
 |succ n ih=>
  intro pos h hp j h1 h2;have hlt:pos<s.size:=by omega
  have hw0:=width_pos s pos hlt;rw [bq s pos hlt]at hp;have h0:=hp _ (List.mem_cons_self ..);by_cases hj:pos+(Utf8.decode s pos).2≤j
  · exact ih (pos+(Utf8.decode s pos).2) (by omega) (fun p hq=>hp p (List.mem_cons_of_mem _ hq)) j hj h2
  · by_cases hj0:j=pos
    · subst hj0;intro h32;rw [vO s j hlt (by omega)]at h0;exact h0 h32
    · have hd:=acz (s.size - pos) (bY s pos) (bY s (pos+1)) (bY s (pos+2)) (bY s (pos+3));rw [←iV]at hd;obtain ⟨d1,d2,d3,d4⟩:=hd;have:j=pos+1∨j=pos+2∨j=pos+3:=by omega
      rcases this with rfl|rfl|rfl
      · have:=d1 (by omega);omega
      · have:=d2 (by omega);omega
      · have:=d3 (by omega);omega
theorem Kj {s:ByteArray}(h:lZ s=true):(32:UInt8)∉ s.data.toList:=by
 unfold lZ at h;simp only [Bool.and_eq_true]at h;obtain ⟨⟨_,h⟩,_⟩:=h;rw [List.all_eq_true]at h
 have hp:∀p∈dD s 0,p.r≠32:=by
  intro p hp;obtain ⟨k,hk,rfl⟩:=List.getElem_of_mem hp;have:=h k (List.mem_range.2 hk);rw [Bool.or_eq_true]at this;rw [iD]at this;unfold dn bT at this;rw [List.getElem?_eq_getElem hk]at this;simp only at this;rcases this with h1|h1
  · have h2:=(Bool.and_eq_true _ _▸h1).2;unfold dV at h2;simp only [Bool.or_eq_true,Bool.and_eq_true,decide_eq_true_eq,beq_iff_eq]at h2;omega
  · unfold iw at h1;simp only [Bool.and_eq_true,decide_eq_true_eq]at h1;omega
 have hn:=Uu s s.size 0 (by omega) hp;intro hm;obtain ⟨j,hj,he⟩:=List.getElem_of_mem hm;have hj2:j<s.size:=by simpa using hj
 refine hn j (Nat.zero_le _) hj2 ?_;rw [←jk s j hj2];have:s[j]=32:=by rw [←he];rfl
 rw [this];rfl
theorem XJ {s:ByteArray}(hs:(32:UInt8)∉ s.data.toList) {i:Nat}(h:Dw s i=true):tX s=true:=by
 unfold Dw at h;rw [Bool.and_eq_true,decide_eq_true_eq]at h;obtain ⟨hi,h⟩:=h;have he:=congrArg (fun b:ByteArray=>b.data.toList) (dY.1 h);obtain ⟨S,hS⟩:∃S,s.data.toList=S:=⟨_,rfl⟩;have hn:S.length=s.size:=by rw [←hS];simp
 have hse:s=⟨S.toArray⟩:=by rw [←hS]
 simp only [Ki,ByteArray.data_append,ByteArray.data_extract,Array.toList_extract,Array.toList_append,hS]at he
 replace he:(qz.drop i).take (S.length+2)=32::(S++ [32]):=by
  rw [hn];have e:i+(s.size+2) - i=s.size+2:=by omega
  rw [List.extract_eq_take_drop,e]at he;exact he
 have hL:qz.length=185:=by have:=MC;simpa [qz]using this
 rw [hS]at hs
 have hd:(qz.drop (i+1)).take S.length=S:=by
  have h1:=congrArg (fun l=>(l.drop 1).take S.length) he;simp only [List.drop_succ_cons,List.drop_zero,List.take_left']at h1;rw [List.drop_take,List.drop_drop,List.take_take]at h1;rw [show min S.length (S.length+2 - 1)=S.length by omega]at h1;exact h1
 by_cases h0:S.length=0
 · exfalso;have hS0:S= []:=List.eq_nil_of_length_eq_zero h0
   have:tJ ⟨#[]⟩=true:=by
    unfold tJ;rw [List.any_eq_true];refine ⟨i,List.mem_range.2 (by omega), ?_⟩;have:s=⟨#[]⟩:=by rw [hse,hS0]
    rw [←this];unfold Dw;rw [Bool.and_eq_true,decide_eq_true_eq];exact ⟨hi,h⟩
   exact absurd this (by decide+kernel)
 · by_cases h14:S.length<14
   · have hg:=XI;rw [List.all_eq_true]at hg;have hg:=hg i (List.mem_range.2 (by omega));rw [List.all_eq_true]at hg;have hg:=hg S.length (List.mem_range.2 h14);unfold Zh at hg;rw [hd,he]at hg
     have hc:S.contains 32=false:=by
      cases hc:S.contains 32 with
      |false=>rfl
      |true=>exact absurd (List.contains_iff_mem.1 hc) hs
     rw [hc,beq_self_eq_true,beq_eq_false_iff_ne.2 h0]at hg;rw [hse];simpa using hg
   · exfalso;have hg:=QB;rw [List.all_eq_true]at hg;have hg:=hg (i+1) (List.mem_range.2 (by omega));have hm:=List.contains_iff_mem.1 hg;refine hs ?_
     have:(qz.drop (i+1)).take 14=S.take 14:=by
      conv=>rhs;rw [←hd]
      rw [List.take_take,show min 14 S.length=14 by omega]
     rw [this]at hm;exact List.mem_of_mem_take hm
theorem XK {s:ByteArray}(h:lZ s=true):tJ s=tX s:=by
 cases hr:tX s with
 |true=>exact XH s (oh.1 hr)
 |false=>
  cases hh:tJ s with
  |false=>rfl
  |true=>
   unfold tJ at hh;rw [List.any_eq_true]at hh;obtain ⟨i,_,hi⟩:=hh;rw [XJ (Kj h) hi]at hr;cases hr
end aK
end Go.Proofs.YtnngbhpeeakfaaaGreatDoor
