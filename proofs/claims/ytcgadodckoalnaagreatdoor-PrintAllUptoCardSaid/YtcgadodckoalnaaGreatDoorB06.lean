/- Parts of a proof. -/
import Derived.Test.YtcgadodckoalnaaGreatDoorB02
import Derived.Test.YtcgadodckoalnaaGreatDoorB04
import Derived.Test.YtcgadodckoalnaaGreatDoorB05
namespace Go.Proofs.YtcgadodckoalnaaGreatDoor
namespace aN
theorem Xq (f:Nat→Bool) (len i:Nat) (h:dO f len i<len):f (dO f len i)=false:=by
 have key:∀n i,len - i≤n→dO f len i<len→f (dO f len i)=false:=by
  intro n
  induction n with
  |zero=>intro i hn h;have:=oQ f len i;omega
  |succ n ih=>
   intro i hn h;cases hf:f i with
   |false=>rw [fE hf];exact hf
   |true=>
    have:=oQ f len i;have e1:=gH (f:=f) (len:=len) (i:=i) (by omega) hf;rw [e1]at h⊢;exact ih (i+1) (by omega) h
 exact key _ i (Nat.le_refl _) h
theorem Gs (f g:Nat→Bool) (lf lg a:Nat) (h1:a≤lf) (h2:a≤lg) (hfg:∀j,j<a→g j=f j) (i:Nat) (hi:dO f lf i<a):dO g lg i=dO f lf i:=by
 have key:∀n i,a - i≤n→dO f lf i<a→dO g lg i=dO f lf i:=by
  intro n
  induction n with
  |zero=>intro i hn hi;have:=oQ f lf i;omega
  |succ n ih=>
   intro i hn hi;have hge:=oQ f lf i;cases hf:f i with
   |false=>rw [fE hf,fE (by rw [hfg i (by omega)];exact hf)]
   |true=>
    have e1:=gH (f:=f) (len:=lf) (i:=i) (by omega) hf;have e2:=gH (f:=g) (len:=lg) (i:=i) (by omega) (by rw [hfg i (by omega)];exact hf);rw [e1]at hi⊢;rw [e2];exact ih (i+1) (by omega) hi
 exact key _ i (Nat.le_refl _) hi
theorem Sd (s:ByteArray) (P:List Pt) (i:Nat) (h:(dK s P i).2.1=true):(dK s P i).1.at_=i:=by
 unfold dK at h⊢;split
 · rfl
 · rename_i h1;rw [if_neg h1]at h;split
   · rfl
   · rename_i h2;rw [if_neg h2]at h;split
     · rw [uj]
     · rename_i h3;rw [if_neg h3]at h;split
       · rfl
       · rename_i h4;rw [if_neg h4]at h;cases h
theorem Cut.trans {s t r:ByteArray}{A A' :List Pt}{d d' :Nat}(h:Cut s t A d) (h' :Cut t r A' d'):Cut s r (A++A'.map (Pt.shift d)) (d+d') where
 bytes:=by rw [←List.drop_drop,h.bytes,h'.bytes]
 size:=by rw [h.size,h'.size];omega
 pts:=by
  rw [h.pts,h'.pts,List.map_append,List.map_map,List.append_assoc];congr 2;apply List.map_congr_left;intro p _;show Pt.mk _ (p.at_+d' +d) _=Pt.mk _ (p.at_+(d+d')) _;rw [Nat.add_assoc,Nat.add_comm d' d];rfl
section
variable {s u r B:ByteArray}{a d:Nat}(h:Ins s u r B a d)
include h
theorem Ins.dK {i:Nat}(hi:i<a) (hok:(aN.dK s (pts s) i).2.1=true) (he:(aN.dK s (pts s) i).2.2≤a):aN.dK u (pts u) i=aN.dK s (pts s) i:=by
 unfold aN.dK at hok he⊢;rw [h.dJ hi,h.dh hi,h.gG hi,h.gG hi,h.j4 hi];split
 · rename_i h1;rw [if_pos h1]at he;exact h.kJ (by omega) he
 · rename_i h1;rw [if_neg h1]at hok he;split
   · rename_i h2;rw [if_pos h2]at hok he;exact h.cO hi hok he
   · rename_i h2;rw [if_neg h2]at hok he;split
     · rename_i h3;rw [if_pos h3]at hok he;exact h.j5 hi hok he
     · rfl
theorem Ins.eu {i:Nat}(hi:i<a):aN.eu (pts u) i=aN.eu (pts s) i:=by
 unfold aN.eu;rw [h.gG hi,h.gG hi,h.gG hi,h.gG hi]
theorem Ins.Dv {i:Nat}(hi:i+1<a):aN.jC (pts u) i=aN.jC (pts s) i:=by
 unfold aN.jC;rw [h.gG (by omega),h.gG hi]
theorem Ins.Uf {i:Nat}(hi:i+1=a):aN.jC (pts u) i=false:=by
 unfold aN.jC;rw [hi,h.afg 45 (by omega),Bool.and_false]
theorem Ins.aaF:∀n i,a - i≤n→aN.skip (pts s) i<a→aN.skip (pts u) i=aN.skip (pts s) i:=by
 intro n
 induction n with
 |zero=>intro i hn hs;have:=lM (pts s) i;omega
 |succ n ih=>
  intro i hn hs;have hge:=lM (pts s) i;have hia:i<a:=by omega
  have hal:=h.al;have hul:=h.aaE;cases hb:aN.eu (pts s) i with
  |true=>
   rw [iE (by omega) hb]at hs⊢;rw [iE (by omega) (by rw [h.eu hia];exact hb)];exact ih (i+1) (by omega) hs
  |false=>
   cases hd:aN.jC (pts s) i with
   |true=>
    have hle:=jM hd;rw [nS (by omega) hb hd]at hs⊢;have hg2:=lM (pts s) (aN.lineEnd (pts s) i);have hdu:aN.jC (pts u) i=true:=by rw [h.Dv (by omega)];exact hd
    have hl:aN.lineEnd (pts u) i=aN.lineEnd (pts s) i:=by
     -- the line's end lies ahead of the place
     have:=Gs (fun j=> !aN.gG (pts s) j 10) (fun j=> !aN.gG (pts u) j 10) (pts s).length (pts u).length a (by omega) (by omega) (fun j hj=>by simp only [h.gG hj]) i (by show aN.lineEnd (pts s) i<a;omega);exact this
    rw [nS (by omega) (by rw [h.eu hia];exact hb) hdu,hl];exact ih _ (by omega) hs
   |false=>
    rw [iL hb hd]at hs⊢;refine iL (by rw [h.eu hia];exact hb) ?_;by_cases hi1:i+1<a
    · rw [h.Dv hi1];exact hd
    · exact h.Uf (by omega)
theorem Ins.Sg (hne:a=(pts s).length→bY u d=10) (hcl:a<(pts s).length→aN.gG (pts s) a 10=false):∀n i,a - i≤n→i≤a→aN.skip (pts s) i=a→aN.skip (pts u) i=aN.skip (pts u) a:=by
 intro n
 induction n with
 |zero=>intro i hn hi hs;rw [show i=a by omega]
 |succ n ih=>
  intro i hn hi hs;by_cases hia:i=a
  · rw [hia]
  have hlt:i<a:=by omega
  have hal:=h.al;have hul:=h.aaE;cases hb:aN.eu (pts s) i with
  |true=>
   rw [iE (by omega) hb]at hs;rw [iE (by omega) (by rw [h.eu hlt];exact hb)];exact ih (i+1) (by omega) (by omega) hs
  |false=>
   cases hd:aN.jC (pts s) i with
   |true=>
    have hle:=jM hd;rw [nS (by omega) hb hd]at hs;have hg2:=lM (pts s) (aN.lineEnd (pts s) i)
    have hi1:i+1<(pts s).length:=by
     unfold aN.jC at hd;rw [Bool.and_eq_true]at hd;exact WG hd.2
    have hle2:i+1<aN.lineEnd (pts s) i:=by
     have h45:=hd;unfold aN.jC at h45;rw [Bool.and_eq_true]at h45;have e1:=gH (f:=fun j=> !aN.gG (pts s) j 10) (show i<(pts s).length by omega) (by simp only [Db h45.1 (show (45:Int)≠10 by decide)];rfl);have e2:=gH (f:=fun j=> !aN.gG (pts s) j 10) hi1 (by simp only [Db h45.2 (show (45:Int)≠10 by decide)];rfl);have e3:=oQ (fun j=> !aN.gG (pts s) j 10) (pts s).length (i+1+1);unfold aN.lineEnd;omega
    have hdu:aN.jC (pts u) i=true:=by rw [h.Dv (by omega)];exact hd
    have hl:aN.lineEnd (pts u) i=aN.lineEnd (pts s) i:=by
     by_cases PW:aN.lineEnd (pts s) i<a
     · exact Gs (fun j=> !aN.gG (pts s) j 10) (fun j=> !aN.gG (pts u) j 10) (pts s).length (pts u).length a (by omega) (by omega) (fun j hj=>by simp only [h.gG hj]) i PW
     · have aaG:aN.lineEnd (pts s) i=a:=by omega
       by_cases hend:a=(pts s).length
       · refine h.dO _ _ (fun j hj=>by simp only [h.gG hj]) ?_ i hi (by show aN.lineEnd (pts s) i≤a;omega);have:aN.gG (pts u) a 10=true:=by unfold aN.gG;rw [h.head];simp only;rw [hne hend];rfl
         simp only [this];rfl
       · exfalso;have h10:=Xq (fun j=> !aN.gG (pts s) j 10) (pts s).length i (by show aN.lineEnd (pts s) i<_;omega);have:(!aN.gG (pts s) (aN.lineEnd (pts s) i) 10)=false:=h10;rw [aaG,hcl (by omega)]at this;cases this
    rw [nS (by omega) (by rw [h.eu hlt];exact hb) hdu,hl];exact ih _ (by omega) (by omega) hs
   |false=>
    rw [iL hb hd]at hs;omega
end
theorem J2 (s:ByteArray) (P:List Pt) (n i j:Nat) (h:skip P i=skip P j):eU s P n i=eU s P n j:=by
 cases n with
 |zero=>rfl
 |succ n=>rw [eU,eU,h]
theorem J3 (P:List Pt) (i:Nat) (hi:i≤P.length):skip P (skip P i)=skip P i:=by
 have key:∀n i,P.length - i≤n→i≤P.length→skip P (skip P i)=skip P i:=by
  intro n
  induction n with
  |zero=>intro i h hi;have e:=xg (P:=P) (i:=i) (by omega);rw [e,e]
  |succ n ih=>
   intro i h hi;by_cases hl:i<P.length
   · cases hb:eu P i with
     |true=>rw [iE hl hb];exact ih (i+1) (by omega) (by omega)
     |false=>
      cases hd:jC P i with
      |true=>have:=jM hd;rw [nS hl hb hd];exact ih _ (by omega) (by omega)
      |false=>rw [iL hb hd];exact iL hb hd
   · have e:=xg (P:=P) (i:=i) (by omega);rw [e,e]
 exact key _ i (Nat.le_refl _) hi
theorem Lc {P:List Pt}{i:Nat}(hi:i≤P.length) (h:skip P i<P.length):eu P (skip P i)=false:=by
 cases hb:eu P (skip P i)with
 |false=>rfl
 |true=>
  have h1:=J3 P i hi;rw [iE h hb]at h1;have:=lM P (skip P i+1);omega
theorem Si (s:ByteArray) (P:List Pt):∀n i l,eU s P n i= .ok l→∀t∈l,i≤t.at_∧t.at_<P.length:=by
 intro n
 induction n with
 |zero=>intro i l h t ht;rw [eU]at h;cases h;cases ht
 |succ n ih=>
  intro i l h t ht;rw [eU]at h;split at h
  · cases h;cases ht
  · rename_i hl;split at h
    · rename_i hok;cases hx:eU s P n (dK s P (skip P i)).2.2 with
      |error a=>rw [hx]at h;cases h
      |ok m=>
       rw [hx]at h;have e:l=(dK s P (skip P i)).1::m:=by cases h;rfl
       rw [e]at ht;have hg:=Bn (s:=s) (P:=P) (i:=skip P i) (by omega) hok;have hs:=lM P i;rcases List.mem_cons.1 ht with rfl|ht
       · rw [Sd s P _ hok];omega
       · have:=ih _ _ hx t ht;omega
    · cases h
theorem Ins.lex {s u r B:ByteArray}{a d:Nat}(h:Ins s u r B a d) (hB:∀t:ByteArray,skip (pts (B++t)) 0=B.size+skip (pts t) 0) (hBl:(pts (B++r)).length=B.size+(pts r).length) (hcB:Cut (B++r) r ((pts (B++r)).take B.size) B.size) (hne:a=(pts s).length→bY u d=10):
 ∀k n m e l,eU s (pts s) n e= .ok l→(pts s).length<n+e→(pts u).length<m+e→k≤l.length→(∀x,l[k]? =some x→a=x.at_)→(k=l.length→a=(pts s).length)→e≤a→
  eU u (pts u) m e= .ok (l.take k++(l.drop k).map (Tk.on B.size)):=by
 have hal:=h.al;have hul:=h.aaE;have hlen:=h.len;have hsl:=h.cs.len;rw [List.length_take,Nat.min_eq_left hal]at hsl;have Gt:((pts s).take a).length=a:=by rw [List.length_take];omega
 have hcur:Cut u r ((pts s).take a++((pts (B++r)).take B.size).map (Pt.shift d)) (d+B.size):=Cut.trans h.cu hcB
 have hcl:((pts s).take a++((pts (B++r)).take B.size).map (Pt.shift d)).length=a+B.size:=by
  rw [List.length_append,Gt,List.length_map,List.length_take];omega
 intro k
 induction k with
 |zero=>
  intro n m e l hl hn hm _ hx hk0 PW;rw [List.take_zero,List.drop_zero,List.nil_append]
  -- up to the place there are blanks alone
  have Ug:skip (pts u) a=a+B.size+skip (pts r) 0:=by
   have:=h.cu.skip 0;rw [Gt,Nat.add_zero]at this;rw [this,hB r];omega
  have hr0:=h.cs.skip 0;rw [Gt,Nat.add_zero]at hr0;by_cases hl0:l= []
  · subst hl0;have ha:=hk0 rfl;have hrl:(pts r).length=0:=by omega
    have hse:skip (pts s) e=a:=by
     have h1:(pts s).length≤skip (pts s) e:=by
      cases n with
      |zero=>have:=lM (pts s) e;omega
      |succ n=>
       rw [eU]at hl;split at hl
       · rename_i hq;exact hq
       · split at hl
         · cases hq:eU s (pts s) n (aN.dK s (pts s) (aN.skip (pts s) e)).2.2<;>rw [hq]at hl<;>cases hl
         · cases hl
     have h2:=xA (pts s) ((pts s).length - e) e (by omega);rw [show jD (pts s) ((pts s).length - e) e=skip (pts s) e from rfl]at h2;omega
    have hsu:=h.Sg hne (fun hh=>absurd ha (by omega)) (a - e) e (Nat.le_refl _) PW hse;have acS:skip (pts r) 0=0:=xg (by omega);cases m with
    |zero=>omega
    |succ m=>rw [xw (by rw [hsu,Ug];omega)];rfl
  · obtain ⟨t,l',rfl⟩:∃t l',l=t::l' :=by cases l with|nil=>exact absurd rfl hl0|cons t l' =>exact ⟨t,l',rfl⟩
    have hat:a=t.at_:=hx t rfl
    have hse:skip (pts s) e=a:=by
     cases n with
     |zero=>rw [eU]at hl;cases hl
     |succ n=>
      rw [eU]at hl;split at hl
      · cases hl
      · split at hl
        · rename_i hok;cases hq:eU s (pts s) n (aN.dK s (pts s) (aN.skip (pts s) e)).2.2 with
          |error b=>rw [hq]at hl;cases hl
          |ok m' =>
           rw [hq]at hl;have:t=(aN.dK s (pts s) (skip (pts s) e)).1:=by cases hl;rfl
           rw [hat,this,Sd s (pts s) _ hok]
        · cases hl
    have hlt:a<(pts s).length:=by rw [hat];exact (Si s (pts s) n e _ hl t (List.mem_cons_self)).2
    have hnb:=Lc (P:=pts s) (i:=e) (by omega) (by rw [hse];exact hlt);rw [hse]at hnb
    have ahu:aN.gG (pts s) a 10=false:=by
     unfold aN.eu at hnb;simp only [Bool.or_eq_false_iff]at hnb;exact hnb.1.2
    have hsu:=h.Sg hne (fun _=>ahu) (a - e) e (Nat.le_refl _) PW hse;have hss:=J3 (pts s) e (by omega);rw [hse]at hss;have acS:skip (pts r) 0=0:=by omega
    have h1:=h.cs.eU n 0;rw [Gt,Nat.add_zero]at h1;have h2:=hcur.eU m 0;rw [hcl,Nat.add_zero]at h2;rw [J2 s (pts s) n e a (by rw [hse,hss]),h1]at hl
    have ahv:skip (pts u) (a+B.size)=a+B.size:=by
     have:=hcur.skip 0;rw [hcl,Nat.add_zero,acS]at this;omega
    rw [J2 u (pts u) m e (a+B.size) (by rw [hsu,Ug,ahv,acS];omega),h2];rw [Dh r (pts r) n m 0 (by omega) (by omega)]at hl;cases hq:aN.eU r (pts r) m 0 with
    |error b=>rw [hq]at hl;cases hl
    |ok l0=>
     rw [hq]at hl
     have e1:t::l' =l0.map (Tk.on a):=by
      have:abU a (.ok l0)= .ok (l0.map (Tk.on a)):=rfl;rw [this]at hl;injection hl with hl
      exact hl.symm
     rw [e1,List.map_map];show Except.ok (l0.map (Tk.on (a+B.size)))=_;congr 2;funext x;show Tk.mk _ _ _ (x.at_+(a+B.size))=Tk.mk _ _ _ (x.at_+a+B.size);rw [Nat.add_assoc];rfl
 |succ k ih=>
  intro n m e l hl hn hm hkl hx hk0 PW;cases n with
  |zero=>rw [eU]at hl;cases hl;simp at hkl
  |succ n=>
   rw [eU]at hl;split at hl
   · cases hl;simp at hkl
   · rename_i ajn;split at hl
     · rename_i hok;cases hq:eU s (pts s) n (aN.dK s (pts s) (aN.skip (pts s) e)).2.2 with
       |error b=>rw [hq]at hl;cases hl
       |ok l1=>
        rw [hq]at hl;have e1:l=(aN.dK s (pts s) (skip (pts s) e)).1::l1:=by cases hl;rfl
        subst e1;have hg:=Bn (s:=s) (P:=pts s) (i:=skip (pts s) e) (by omega) hok;have hse:=lM (pts s) e
        have aaG:(aN.dK s (pts s) (skip (pts s) e)).2.2≤a:=by
         by_cases hkk:k<l1.length
         · have:=hx l1[k] (by rw [List.getElem?_cons_succ,List.getElem?_eq_getElem hkk]);rw [this];exact (Si s (pts s) n _ l1 hq l1[k] (List.getElem_mem hkk)).1
         · have:=hk0 (by simp at hkl⊢;omega);omega
        have Ug:=h.aaF (a - e) e (Nat.le_refl _) (by omega);have htk:=h.dK (i:=skip (pts s) e) (by omega) hok aaG;cases m with
        |zero=>omega
        |succ m=>
         rw [KV (by rw [Ug];omega) (by rw [Ug,htk];exact hok),Ug,htk];have:=ih n m _ l1 hq (by omega) (by omega) (by simpa using hkl) (fun x hx2=>hx x (by rw [List.getElem?_cons_succ];exact hx2)) (fun hk=>hk0 (by rw [List.length_cons];omega)) aaG;rw [this];rfl
     · cases hl
theorem Xr (n g b0 b1 b2 b3 c1 c2 c3:Nat) (hn:1≤n) (hg:1≤g) (h1:1<g→c1=b1) (h2:2<g→c2=b2) (h3:3<g→c3=b3) (hgn:g≤n) (hw:(Lib.decodeN n b0 b1 b2 b3).2≤g):
 Lib.decodeN g b0 c1 c2 c3=Lib.decodeN n b0 b1 b2 b3:=by
 by_cases hok:(Lib.decodeN n b0 b1 b2 b3).1≠65533∨1<(Lib.decodeN n b0 b1 b2 b3).2
 · obtain ⟨w,hwd⟩:∃w,(Lib.decodeN n b0 b1 b2 b3).2=w:=⟨_,rfl⟩;rw [hwd]at hw
   have hw1:1≤w:=by
    rcases jL n b0 b1 b2 b3 hn with ⟨h,_⟩|⟨_,h,_⟩<;>omega
   have hc:=xH n b0 b1 b2 b3 c1 c2 c3 w hwd (fun h=>h1 (by omega)) (fun h=>h2 (by omega)) (fun h=>h3 (by omega)) hok;rw [←hc];exact Bg w g b0 c1 c2 c3 c1 c2 c3 hw1 hw (fun _=>rfl) (fun _=>rfl) (fun _=>rfl) (by rw [hc];exact hok)
 · have hok' :¬((Lib.decodeN g b0 c1 c2 c3).1≠65533∨1<(Lib.decodeN g b0 c1 c2 c3).2):=by
    intro hk;apply hok;obtain ⟨w,hwd⟩:∃w,(Lib.decodeN g b0 c1 c2 c3).2=w:=⟨_,rfl⟩
    have hwg:1≤w∧w≤g:=by
     rcases jL g b0 c1 c2 c3 hg with ⟨h,_⟩|⟨_,ha,hb,_⟩<;>omega
    have hc:=xH g b0 c1 c2 c3 b1 b2 b3 w hwd (fun h=>(h1 (by omega)).symm) (fun h=>(h2 (by omega)).symm) (fun h=>(h3 (by omega)).symm) hk;have:=Bg w n b0 b1 b2 b3 b1 b2 b3 hwg.1 (by omega) (fun _=>rfl) (fun _=>rfl) (fun _=>rfl) (by rw [hc];exact hk);rw [this,hc];exact hk
   have bad:∀x:Nat×Nat,¬(x.1≠65533∨1<x.2)→1≤x.2→x=(65533,1):=by
    intro x h hx;have h1:x.1=65533:=Decidable.byContradiction fun e=>h (.inl e)
    have h2:¬1<x.2:=fun e=>h (.inr e)
    exact Prod.ext h1 (by show x.2=1;omega)
   have p1:1≤(Lib.decodeN n b0 b1 b2 b3).2:=by rcases jL n b0 b1 b2 b3 hn with ⟨h,_⟩|⟨_,h,_⟩<;>omega
   have p2:1≤(Lib.decodeN g b0 c1 c2 c3).2:=by rcases jL g b0 c1 c2 c3 hg with ⟨h,_⟩|⟨_,h,_⟩<;>omega
   rw [bad _ hok p1,bad _ hok' p2]
theorem aaH (s u:ByteArray) (d:Nat) (hb:∀k,k<d→bY u k=bY s k) (hd:d≤s.size) (hu:u.size=d) (p:Nat) (hp:p<d) (hw:p+(Utf8.decode s p).2≤d):
 Utf8.decode u p=Utf8.decode s p:=by
 rw [jK]at hw;rw [jK,jK s p,hb p hp,hu];exact Xr (s.size - p) (d - p) (bY s p) (bY s (p+1)) (bY s (p+2)) (bY s (p+3)) _ _ _ (by omega) (by omega) (fun h=>hb _ (by omega)) (fun h=>hb _ (by omega)) (fun h=>hb _ (by omega)) (by omega) (by omega)
theorem Xt (s u:ByteArray) (d:Nat) (hb:∀k,k<d→bY u k=bY s k) (hd:d≤s.size) (hu:u.size=d):
 ∀a pos,pos≤s.size→a≤(dS s pos).length→aQ s (dS s pos) a=d→dS u pos=(dS s pos).take a:=by
 intro a
 induction a with
 |zero=>intro pos h _ he;rw [kT s pos h]at he;rw [bR u pos (by omega)];rfl
 |succ a ih=>
  intro pos h hl he;by_cases hp:pos<s.size
  · have hw:=width_le s pos hp;have hw0:=width_pos s pos hp;rw [bM s pos hp]at hl he;have he' :aQ s (dS s (pos+(Utf8.decode s pos).2)) a=d:=he;have hge:=(uh s a (pos+(Utf8.decode s pos).2) hw).1;rw [he']at hge;have hda:=aaH s u d hb hd hu pos (by omega) hge;rw [bM s pos hp,List.take_succ_cons];rw [bM u pos (by omega),hda,ih _ hw (by simpa using hl) he']
  · rw [bR s pos hp]at hl;simp at hl
theorem acT (s:ByteArray) (d k:Nat) (hk:k<d) (hd:d≤s.size):bY (s.extract 0 d) k=bY s k:=by
 have h1:k<(s.extract 0 d).size:=by rw [ByteArray.size_extract];omega
 rw [←jZ (s.extract 0 d) k h1,←jZ s k (by omega)];congr 1;simp [ByteArray.getElem_extract]
theorem Nj (s:ByteArray) (a:Nat) (ha:a≤(pts s).length):pts (s.extract 0 (aQ s (pts s) a))=(pts s).take a:=by
 have hd:=Dc s a;rw [ji,ji s]at *;exact Xt s _ (aQ s (dS s 0) a) (fun k hk=>acT s _ k hk hd) hd (by rw [ByteArray.size_extract];omega) a 0 (Nat.zero_le _) ha rfl
theorem acU (s:ByteArray) (a:Nat) (ha:a≤(pts s).length):Cut s (s.extract (aQ s (pts s) a) s.size) ((pts s).take a) (aQ s (pts s) a):=
 (acR s ⟨#[32]⟩ a ha (.inl (by decide))).cs
theorem Xu (n b0 b1 b2 b3 c1 c2 c3:Nat) (h1:c1=b1∨(c1 / 64≠2∧b1 / 64≠2)) (h2:c2=b2∨(c2 / 64≠2∧b2 / 64≠2)) (h3:c3=b3∨(c3 / 64≠2∧b3 / 64≠2)):
 Lib.decodeN n b0 c1 c2 c3=Lib.decodeN n b0 b1 b2 b3:=by
 rcases h1 with rfl|⟨h1,h1'⟩<;>rcases h2 with rfl|⟨h2,h2'⟩<;>rcases h3 with rfl|⟨h3,h3'⟩<;>unfold Lib.decodeN<;>simp [*]
def BH (b:Nat):Nat:=if 65≤b∧b≤90 then b+32 else b
def Pt.low (p:Pt):Pt:=⟨BH p.r,p.at_,p.n⟩
theorem Fq (s:ByteArray) (k:Nat):bY (fold s) k=BH (bY s k):=by
 by_cases h:k<s.size
 · rw [←jZ (fold s) k (by rw [fold_size];exact h),←jZ s k h];show (((fold s).data[k]'(by show k<(s.data.map rX).size;rw [Array.size_map];exact h))).toNat=_;unfold fold;simp only [Array.getElem_map];rw [Bc];rfl
 · rw [Bf _ k (by rw [fold_size];exact h),Bf s k h];rfl
theorem Gu (b:Nat):BH b=b∨(BH b / 64≠2∧b / 64≠2):=by
 unfold BH;split
 · right;omega
 · left;rfl
theorem afh (n b0 b1 b2 b3:Nat) (_hn:1≤n) (h0:128≤b0):BH (Lib.decodeN n b0 b1 b2 b3).1=(Lib.decodeN n b0 b1 b2 b3).1:=by
 suffices h:128≤(Lib.decodeN n b0 b1 b2 b3).1 by unfold BH;rw [if_neg (by omega)]
 unfold Lib.decodeN;rw [if_neg (by omega)]
 repeat' split
 all_goals (try simp only)
 all_goals omega
theorem Xv (s:ByteArray) (k:Nat) (hk:k<s.size):Utf8.decode (fold s) k=(BH (Utf8.decode s k).1,(Utf8.decode s k).2):=by
 rw [jK,jK s k,fold_size,Fq,Fq,Fq,Fq,Xu _ _ _ _ _ _ _ _ (Gu _) (Gu _) (Gu _)];by_cases h0:bY s k<128
 · have e:∀b,b<128→Lib.decodeN (s.size - k) b (bY s (k+1)) (bY s (k+2)) (bY s (k+3))=(b,1):=fun b hb=>by unfold Lib.decodeN;rw [if_pos hb]
   rw [e _ h0,e _ (by unfold BH;split<;>omega)]
 · have:BH (bY s k)=bY s k:=by unfold BH;rw [if_neg (by omega)]
   rw [this,afh _ _ _ _ _ (by omega) (by omega)]
theorem PX (s:ByteArray):∀n pos,s.size - pos≤n→dS (fold s) pos=(dS s pos).map Pt.low:=by
 intro n
 induction n with
 |zero=>intro pos h;rw [bR s pos (by omega),bR _ pos (by rw [fold_size];omega)];rfl
 |succ n ih=>
  intro pos h;by_cases hp:pos<s.size
  · have hw0:=width_pos s pos hp;rw [bM s pos hp,bM _ pos (by rw [fold_size];exact hp),Xv s pos hp,List.map_cons,ih _ (by omega)];rfl
  · rw [bR s pos hp,bR _ pos (by rw [fold_size];exact hp)];rfl
theorem Nk (s:ByteArray):pts (fold s)=(pts s).map Pt.low:=by
 rw [ji,ji s];exact PX s s.size 0 (by omega)
theorem Xw (p:Pt):p.low.ok=p.ok:=by
 unfold Pt.low Pt.ok BH;simp only;split
 · rename_i h;have e1:((((p.r+32:Nat)):Int) !=65533)=true:=by simp;omega
   have e2:((p.r:Int) !=65533)=true:=by simp;omega
   rw [e1,e2]
 · rfl
theorem Nl (P:List Pt) (i:Nat):dJ (P.map Pt.low) i=dJ P i:=by
 unfold dJ;rw [List.getElem?_map];cases P[i]? with
 |none=>rfl
 |some p=>
  simp only [Option.map_some,Xw];congr 1;unfold Pt.low BH gD;simp only;split
  · rename_i h;have e1:(decide (97≤(((p.r+32:Nat)):Int))&&decide ((((p.r+32:Nat)):Int)≤122))=true:=by simp;omega
    have e2:(decide (65≤(p.r:Int))&&decide ((p.r:Int)≤90))=true:=by simp;omega
    rw [e1,e2];simp
  · rfl
theorem Xx (P:List Pt) (i:Nat):dh (P.map Pt.low) i=dh P i:=by
 unfold dh;rw [List.getElem?_map];cases P[i]? with
 |none=>rfl
 |some p=>
  simp only [Option.map_some];unfold Pt.low BH kG;simp only;split
  · rename_i h;have e1:decide ((((p.r+32:Nat)):Int)≤57)=false:=by simp;omega
    have e2:decide ((p.r:Int)≤57)=false:=by simp;omega
    rw [e1,e2];simp
  · rfl
theorem PY (s:ByteArray):valid (fold s)=valid s:=by
 unfold valid;rw [Nk,List.all_map];congr 1;funext p;exact Xw p
theorem PZ (s:ByteArray):nP (fold s)=nP s:=by
 unfold nP;rw [PY,Nk,Nl,List.length_map];congr 2;congr 1;funext k;rw [Nl,Xx]
theorem aaI {P:List Pt}{i:Nat}(h:dJ P i=true∨dh P i=true) (hi:i<P.length):P[i].ok=true:=by
 unfold dJ dh at h;rw [List.getElem?_eq_getElem hi]at h;simp only at h;rcases h with h|h
 · exact (Bool.and_eq_true _ _▸h).1
 · unfold kG at h;simp only [Bool.and_eq_true,decide_eq_true_eq]at h;unfold Pt.ok;have:((P[i].r:Int) !=65533)=true:=by simp;omega
   rw [this];rfl
theorem Xy {f:Nat→Bool}{len i:Nat}:∀k,i≤k→k<dO f len i→f k=true:=by
 unfold dO
 have:∀n i k,i≤k→k<Bh f n i→f k=true:=by
  intro n
  induction n with
  |zero=>intro i k h1 h2;rw [Bh]at h2;omega
  |succ n ih=>
   intro i k h1 h2;rw [Bh]at h2;split at h2
   · rename_i hf;by_cases hk:k=i
     · subst hk;exact hf
     · exact ih (i+1) k (by omega) h2
   · omega
 exact this _ _
theorem Nn (s:ByteArray) (i:Nat) (h:dJ (pts s) i=true):nP (ng s (pts s) i)=true:=by
 have hi:=Bj h;obtain ⟨h1,h2⟩:=Bl h;have hc:=acU s i (by omega);obtain ⟨t,ht⟩:∃t,s.extract (aQ s (pts s) i) s.size=t:=⟨_,rfl⟩;rw [ht]at hc;have hA:((pts s).take i).length=i:=by rw [List.length_take];omega
 have e1:=hc.ng 0;have e2:=hc.fq 0;have e3:=hc.dJ 0;have e4:=hc.len;rw [hA,Nat.add_zero]at e1 e2 e3;rw [hA]at e4;rw [e1];rw [h]at e3;obtain ⟨m,hm⟩:∃m,fq (pts t) 0=m:=⟨_,rfl⟩;rw [hm]at e2;unfold ng;rw [hm,sG];have hml:m≤(pts t).length:=by omega
 have hall:∀k,k<m→dJ (pts t) k=true∨dh (pts t) k=true:=by
  intro k hk
  have:=Xy (f:=fun k=>dJ (pts t) k||dh (pts t) k) (len:=(pts t).length) (i:=0) k (Nat.zero_le _) (by
   have:dO (fun k=>dJ (pts t) k||dh (pts t) k) (pts t).length 0=m:=hm;omega)
  simpa using this
 have hg:∀k,k<m→(((pts t).take m)[k]? =(pts t)[k]?):=fun k hk=>by rw [List.getElem?_take,if_pos hk]
 have hl:∀k,k<m→dJ ((pts t).take m) k=dJ (pts t) k:=fun k hk=>by unfold dJ;rw [hg k hk]
 have hd:∀k,k<m→dh ((pts t).take m) k=dh (pts t) k:=fun k hk=>by unfold dh;rw [hg k hk]
 unfold nP;rw [Nj t m hml];simp only [Bool.and_eq_true];refine ⟨⟨?_, ?_⟩, ?_⟩
 · rw [hl 0 (by omega)];exact e3.symm
 · rw [List.all_eq_true];intro k hk;rw [List.mem_range,List.length_take]at hk;have hkm:k<m:=by omega
   rw [hl k hkm,hd k hkm,Bool.or_eq_true];exact hall k hkm
 · unfold valid;rw [Nj t m hml,List.all_eq_true];intro p hp;obtain ⟨k,hk,rfl⟩:=List.getElem_of_mem hp;rw [List.length_take]at hk;rw [List.getElem_take];exact aaI (hall k (by omega)) (by omega)
theorem aaJ (P:List Pt):∀n i v ok,0≤v→v≤1099511627776→0≤(ug P n i v ok).1∧(ug P n i v ok).1≤1099511627776:=by
 intro n
 induction n with
 |zero=>intro i v ok h1 h2;exact ⟨h1,h2⟩
 |succ n ih=>
  intro i v ok h1 h2;rw [ug];split
  · rename_i hd;refine ih _ _ _ ?_ ?_
    · have hr:48≤j4 P i:=by
       unfold dh at hd;unfold j4;cases hx:P[i]? with
       |none=>rw [hx]at hd;exact absurd hd (by simp)
       |some p=>
        rw [hx]at hd;unfold kG at hd;simp only [Bool.and_eq_true,decide_eq_true_eq]at hd⊢;exact hd.1
      omega
    · omega
  · exact ⟨h1,h2⟩
theorem Uh (s:ByteArray) (i:Nat) (h:(dK s (pts s) i).2.1=true):KY (dK s (pts s) i).1.fo:=by
 unfold dK at h⊢;split at h
 · rename_i h1;rw [if_pos h1];refine .inl ⟨rfl, ?_, ?_, ?_,rfl⟩
   · show nP (fold _)=true;rw [PZ];exact Nn s i h1
   · exact Tz _
   · show (fold _).size≤100;rw [fold_size];unfold kJ at h;simpa using h
 rename_i h1;rw [if_neg h1];split at h
 · rename_i h2;rw [if_pos h2];refine .inr (.inl ⟨rfl,rfl, ?_⟩);obtain ⟨g1,g2⟩:=aaJ (pts s) ((pts s).length - bS (pts s) i) (bS (pts s) i) 0 (dh (pts s) (bS (pts s) i)) (Int.le_refl _) (by decide);show -1099511627776≤(if gG (pts s) i 45=true then -(iq (pts s) i).1 else (iq (pts s) i).1)∧(if gG (pts s) i 45=true then -(iq (pts s) i).1 else (iq (pts s) i).1)≤1099511627776;change 0≤(iq (pts s) i).1 at g1;change (iq (pts s) i).1≤_ at g2;split<;>omega
 rename_i h2;rw [if_neg h2];split at h
 · rename_i h3;rw [if_pos h3];unfold j5 at h⊢;split at h
   · rename_i x hx;simp only [Bool.and_eq_true,decide_eq_true_eq]at h;exact .inr (.inr (.inl ⟨rfl,h.2,h.1,rfl⟩))
   · exact absurd h (by simp)
 rename_i h3;rw [if_neg h3];split at h
 · rename_i h4;rw [if_pos h4];refine .inr (.inr (.inr ⟨rfl, ?_,rfl⟩));show pW ⟨#[UInt8.ofNat (j4 (pts s) i).toNat]⟩ um=true;unfold xk at h4;simp only [Bool.or_eq_true,beq_iff_eq]at h4;rcases h4 with ((((h4|h4)|h4)|h4)|h4)|h4<;>rw [h4]<;>decide+kernel
 · exact absurd h (by simp)
theorem aaK (s:ByteArray):∀n i l,eU s (pts s) n i= .ok l→∀t∈l,KY t.fo:=by
 intro n
 induction n with
 |zero=>intro i l h t ht;rw [eU]at h;cases h;exact absurd ht (by simp)
 |succ n ih=>
  intro i l h t ht;rw [eU]at h;split at h
  · cases h;exact absurd ht (by simp)
  · split at h
    · rename_i hb;cases hr:eU s (pts s) n (dK s (pts s) (skip (pts s) i)).2.2 with
      |error a=>rw [hr]at h;cases h
      |ok r=>
       rw [hr]at h;cases h;rcases List.mem_cons.1 ht with rfl|ht
       · exact Uh s _ hb
       · exact ih _ _ hr t ht
    · cases h
theorem Lx.ok {s:ByteArray}{T:List Tk}(h:Lx s T) (en:Nat):(⟨T,en⟩:Tx).Ok:=by
 intro t ht;unfold Tx.F at ht;obtain ⟨u,hu,rfl⟩:=List.mem_map.1 ht;exact aaK s _ _ _ h u hu
def kD.zero:kD:=⟨Sx.zero, []⟩
def jv (X:Tx):Tx.Nd×Ps:=
 let r:=X.jh (X.T.length+2) ⟨0,none⟩
 let σ:=X.may r.2 (⟨#[59]⟩:ah)
 (r.1,if σ.i<X.T.length then X.fail σ else σ)
def bE (s:ByteArray):kD×Int×Int:=
 let l:=aP s
 if l.2.2≠0 then (kD.zero,l.2.1,l.2.2)
 else
  let r:=jv ⟨l.1,(pts s).length⟩
  match r.2.bad with
  |some a=>(kD.zero,a,3)
  |none=>if 1000<(eO (je r.1)).size then (kD.zero,0,2)else (je r.1,0,0)
def Ui (R:List To):Prop:=R= []∨R= [aW (⟨#[59]⟩:ah)]
theorem Ui.fin {R:List To}(h:Ui R):Gc R:=by
 rcases h with rfl|rfl
 · exact aap
 · exact MW []
theorem Np {X:Tx}{i:Nat}(h:X.T.length≤i):X.F.drop i= []:=by
 apply List.drop_eq_nil_of_le;unfold Tx.F;rw [List.length_map];exact h
theorem kH {X:Tx}(hX:X.Ok) (h:(jv X).2.bad=none):∃L R,GN (jv X).1 L∧X.F=L++R∧Ui R:=by
 unfold jv at h⊢;simp only at h⊢;obtain ⟨⟨nd,σ⟩,hr⟩:∃r,X.jh (X.T.length+2) ⟨0,none⟩=r:=⟨_,rfl⟩;simp only [hr]at h⊢;obtain ⟨h1,h2⟩:=uw (σ:=X.may σ (⟨#[59]⟩:ah)) (a:=X.here (X.may σ (⟨#[59]⟩:ah))) h;have hb:(X.may σ (⟨#[59]⟩:ah)).bad=none:=by rw [←h2];exact h
 have hs:σ.bad=none:=by
  unfold Tx.may at hb;split at hb
  · rename_i hs;exact nU hs
  · exact hb
 obtain ⟨L,hG,hc⟩:=aak hX (X.T.length+1) ⟨0,none⟩ (by rw [hr];exact hs);rw [hr]at hG hc;have hF:X.F=L++X.F.drop σ.i:=by have:=hc.2;simpa using this
 refine ⟨L,X.F.drop σ.i,hG,hF, ?_⟩;unfold Tx.may at h1;split at h1
 · rename_i zy;right;rw [MQ hX zy];rw [Np (X:=X) (i:=σ.i+1) (Nat.not_lt.1 h1)]
 · left;exact Np (Nat.not_lt.1 h1)
theorem Uj {X:Tx}{nd:Tx.Nd}{L R:List To}(hG:GN nd L) (hF:X.F=L++R) (hR:Ui R):(jv X).1=nd∧(jv X).2.bad=none:=by
 have h0:jg X ⟨0,none⟩ (L++R):=⟨rfl,by rw [List.drop_zero];exact hF⟩;obtain ⟨h1,h2⟩:=acI X.T.length hG h0 hR.fin;unfold jv;simp only;refine ⟨h1, ?_⟩
 have fin:∀τ,jg X τ []→(if τ.i<X.T.length then X.fail τ else τ).bad=none:=by
  intro τ Em;rw [if_neg]
  · exact Em.1
  · intro hl;have:=Em.2;have hlen:(X.F.drop τ.i).length=0:=by rw [this];rfl
    rw [List.length_drop]at hlen;unfold Tx.F at hlen;rw [List.length_map]at hlen;omega
 rcases hR with rfl|rfl
 · have e:X.may (X.jh (X.T.length+2) ⟨0,none⟩).2 (⟨#[59]⟩:ah)=(X.jh (X.T.length+2) ⟨0,none⟩).2:=if_neg (by rw [h2.sees];decide);rw [e];exact fin _ h2
 · have e:X.may (X.jh (X.T.length+2) ⟨0,none⟩).2 (⟨#[59]⟩:ah)=(X.jh (X.T.length+2) ⟨0,none⟩).2.step:=if_pos (by rw [h2.sees,aU];rfl);rw [e];exact fin _ h2.step
theorem oG {s:ByteArray}(h:(aP s).2.2=0):Lx s (aP s).1∧s.size≤1000:=by
 unfold aN.aP at h⊢;split at h
 · exact absurd h (by decide)
 · rename_i hs;rw [if_neg hs];unfold Lx;cases hl:eU s (pts s) ((pts s).length+1) 0 with
   |ok l=>exact ⟨rfl,by omega⟩
   |error a=>rw [hl]at h;exact absurd h (show¬((3:Int)=0)by decide)
theorem P5 {s:ByteArray}{z:kD}{a:Int}(h:bE s=(z,a,0)):
 ∃nd L R,GN nd L∧z=je nd∧a=0∧(eO z).size≤1000∧LxF s (L++R)∧Ui R∧s.size≤1000:=by
 unfold bE at h;simp only at h;split at h
 · rename_i he;injection h with _ h
   injection h with _ h
   exact absurd h he
 · rename_i he;obtain ⟨hx,hsz⟩:=oG (Decidable.not_not.1 he);have hX:=Lx.ok hx (pts s).length;split at h
   · injection h with _ h
     injection h with _ h
     exact absurd h (by decide)
   · rename_i hb;split at h
     · injection h with _ h
       injection h with _ h
       exact absurd h (by decide)
     · rename_i hbig;injection h with h1 h2
       injection h2 with h2 _
       obtain ⟨L,R,hG,hF,hR⟩:=kH hX hb;refine ⟨_,L,R,hG,h1.symm,h2.symm,by rw [←h1];omega,⟨_,hx,hF⟩,hR,hsz⟩
theorem Uk {s:ByteArray}{nd:Tx.Nd}{L R:List To}(hG:GN nd L) (hR:Ui R) (hx:LxF s (L++R)) (hs:s.size≤1000) (ht:(eO (je nd)).size≤1000):bE s=(je nd,0,0):=by
 obtain ⟨T,hT,hF⟩:=hx;have hl:=hT.aP hs;unfold bE;rw [hl];simp only;rw [if_neg (by decide)];obtain ⟨h1,h2⟩:=Uj (X:=⟨T,(pts s).length⟩) hG hF hR;rw [h2];simp only;rw [h1,if_neg (by omega)]
def May (z:kD):Prop:=∃nd L,GN nd L∧z=je nd∧(eO z).size≤1000
theorem rA {s:ByteArray}{z:kD}{a:Int}(h:bE s=(z,a,0)):May z:=by
 obtain ⟨nd,L,R,h1,h2,_,h3,_⟩:=P5 h;exact ⟨nd,L,h1,h2,h3⟩
theorem J4 {z:kD}(h:May z):bE (eO z)=(z,0,0):=by
 obtain ⟨nd,L,h1,rfl,h3⟩:=h;obtain ⟨g1,g2⟩:=h1.text;have:=g2.lex;exact Uk (R:= []) g1 (.inl rfl) (by rw [List.append_nil];exact this) h3 h3
def jw (x:Sx):Bool:=decide (x.aI.length≤10∧x.sets.length≤10∧x.aH.length≤2∧x.aB.length≤10)
theorem J5 {z:kD}(h:May z):jw z.x=true∧z.parts.length≤8∧∀y∈z.parts,jw y=true:=by
 obtain ⟨nd,L,h1,rfl,h3⟩:=h;have ahw:∀(c:List ByteArray) (v:List Tm),(List.zipWith Pr.mk c v).length≤c.length:=fun c v=>by rw [List.length_zipWith];omega
 have hC:∀{x:Sx} {L:List To},GC x L→jw x=true:=by
  intro x L hx;cases hx with
  |insert o c v a b h=>have:=h.2.2.1.2.2;have:=ahw c v;refine decide_eq_true ⟨?_, ?_, ?_, ?_⟩<;>simp [vE,Sx.zero]<;>omega
  |update o a b c v h=>have:=h.2.2.1.2.2.2;have:=h.2.2.2.2;refine decide_eq_true ⟨?_, ?_, ?_, ?_⟩<;>simp [vH,Sx.zero]<;>omega
  |remove o a b c h=>have:=h.1.2.2;have:=h.2.2.2.2;refine decide_eq_true ⟨?_, ?_, ?_, ?_⟩<;>simp [vJ,Sx.zero]<;>omega
 cases h1 with
 |change h=>exact ⟨hC h,by simp [je],by simp [je]⟩
 |plain h=>
  refine ⟨?_,by simp [je],by simp [je]⟩;show jw _=true;cases h with
  |ask o c v a h=>have:=h.1.2.2;have:=h.2.2.1.2;refine decide_eq_true ⟨?_, ?_, ?_, ?_⟩<;>simp [je,F9,Sx.zero]<;>omega
  |view o c v a p q h=>have:=h.2.1.2.2;refine decide_eq_true ⟨?_, ?_, ?_, ?_⟩<;>simp [je,zD,Sx.zero]<;>omega
  |index=>rfl
  |drop=>rfl
  |table o c v a h=>
   obtain ⟨p,q,D,_,_,e0,_,ok⟩:=kX h;have:=ok.2.2.2.1;rw [e0];simp at this;refine decide_eq_true ⟨?_, ?_, ?_, ?_⟩<;>simp [je,Sx.zero]<;>omega
 | @batch l L h1 h2 h4=>
  refine ⟨rfl,h4, ?_⟩;show∀y∈l,_;clear h3 h2 h4
  induction h1 with
  |nil=>simp
  |cons hx _ ih=>
   intro y hy;rcases List.mem_cons.1 hy with rfl|hy
   · exact hC hx
   · exact ih y hy
def rC (z:kD):Bool:=jw z.x&&decide (z.parts.length≤8)&&z.parts.all jw
theorem Ag {z:kD}(h:May z):rC z=true:=by
 obtain ⟨h1,h2,h3⟩:=J5 h;unfold rC;rw [h1,decide_eq_true h2,List.all_eq_true.2 h3];rfl
theorem aaL {z:kD}:May z ↔ (bE (eO z)).2.2=0∧z=(bE (eO z)).1:=by
 constructor
 · intro h;rw [J4 h];exact ⟨rfl,rfl⟩
 · intro h;obtain ⟨h1,h2⟩:=h;obtain ⟨⟨z',a,e⟩,hr⟩:∃r,bE (eO z)=r:=⟨_,rfl⟩;rw [hr]at h1 h2;simp only at h1 h2;subst h1;have:=rA hr;rw [h2];exact this
theorem jg.here {X:Tx}{σ:Ps}{L:List To}(h:jg X σ L) {A:List Tk}{t:Tk}{B:List Tk}(hT:X.T=A++t::B) (hl:L.length=B.length+1):X.here σ=t.at_:=by
 have h1:X.F.length - σ.i=L.length:=by rw [←h.2,List.length_drop]
 have h2:X.F.length=A.length+(B.length+1):=by unfold Tx.F;rw [List.length_map,hT,List.length_append,List.length_cons]
 have h3:σ.i=A.length:=by omega
 unfold Tx.here;have:X.T[σ.i]? =some t:=by rw [hT,h3,List.getElem?_append_right (Nat.le_refl _),Nat.sub_self];rfl
 rw [this]
def rare:List UInt8:= [113,120,122,106,118,119,121,107]
def Lf (σ σ' :Ps):Prop:=∀a,σ.bad=some a→σ'.bad=some a
theorem Lf.refl (σ:Ps):Lf σ σ:=fun _ h=>h
theorem Lf.trans {σ σ1 σ2:Ps}(h:Lf σ σ1) (h' :Lf σ1 σ2):Lf σ σ2:=fun a ha=>h' a (h a ha)
theorem kY (σ:Ps) (a:Nat):Lf σ (σ.wrong a):=fun e he=>by unfold Ps.wrong;rw [he];exact he
theorem fQ (σ:Ps):Lf σ σ.step:=fun _ h=>h
theorem qC {c:Prop} [Decidable c] {σ σ1 σ2:Ps}(h1:Lf σ σ1) (h2:Lf σ σ2):Lf σ (if c then σ1 else σ2):=by
 split
 · exact h1
 · exact h2
section
variable (X:Tx)
theorem sJ (σ:Ps):Lf σ (X.fail σ):=kY _ _
theorem Nq (σ:Ps) (s:ByteArray):Lf σ (X.bC σ s):=qC (fQ _) (sJ X _)
theorem bD:∀(l:List ByteArray) (σ:Ps),Lf σ (X.must σ l)
 | [],σ=>Lf.refl σ
 |s::l,σ=>(Nq X σ s).trans (bD l (X.bC σ s))
theorem Xz (σ:Ps) (s:ByteArray):Lf σ (X.may σ s):=qC (fQ _) (Lf.refl _)
theorem gZ (σ:Ps):Lf σ (X.name σ).2:=by
 unfold Tx.name;split
 · split
   · exact sJ X _
   · exact fQ _
 · exact sJ X _
theorem kZ (σ:Ps):Lf σ (X.value σ).2:=by
 unfold Tx.value;split
 · exact fQ _
 · split
   · exact fQ _
   · exact sJ X _
theorem BI (σ:Ps):Lf σ (X.count σ).2:=(kZ X σ).trans (qC (kY _ _) (Lf.refl _))
theorem yX (σ:Ps) (l:List ByteArray) (most:Nat):Lf σ (X.column σ l most).2:=by
 unfold Tx.column;have h1:Lf σ (if most≤l.length then σ.wrong (X.here σ)else σ):=qC (kY _ _) (Lf.refl _);exact (h1.trans (gZ X _)).trans (qC (kY _ _) (Lf.refl _))
theorem xO (most:Nat):∀n σ l,Lf σ (X.dD most n σ l).2
 |0,σ,l=>Lf.refl σ
 |n+1,σ,l=>by
  rw [Tx.dD];split
  · exact ((fQ σ).trans (yX X _ _ _)).trans (xO most n _ _)
  · exact Lf.refl σ
theorem Gv (σ:Ps):Lf σ (X.equal σ).2:=((gZ X σ).trans (bD X _ _)).trans (kZ X _)
theorem Ld (σ:Ps) (b:Bool):Lf σ (X.aH σ b).2:=by
 have h0:=(bD X [(⟨#[119,104,101,114,101]⟩:ah)] σ).trans (Gv X _);unfold Tx.aH;simp only;split
 · exact (h0.trans (bD X _ _)).trans (Gv X _)
 · split
   · exact (h0.trans (fQ _)).trans (Gv X _)
   · exact h0
theorem BJ (σ:Ps) (b:Bool) (x:Sx):Lf σ (X.using_ σ b x).2:=by
 unfold Tx.using_;split
 · simp only;split
   · exact ((fQ σ).trans (fQ _)).trans (BI X _)
   · have h0:=((fQ σ).trans (bD X [(⟨#[116,105,109,101,115,116,97,109,112]⟩:ah)] _)).trans (BI X _);split
     · exact ((h0.trans (fQ _)).trans (bD X _ _)).trans (BI X _)
     · exact h0
 · exact Lf.refl σ
theorem Ah (σ:Ps) (l:List ByteArray) (but:ByteArray):Lf σ (X.one σ l but).2:=(gZ X σ).trans (qC (kY _ _) (Lf.refl _))
theorem Fu (σ:Ps):Lf σ (X.kind σ).2:=by
 unfold Tx.kind;split
 · exact fQ _
 · exact bD X _ _
theorem J6:∀n σ l C,Lf σ (X.gI n σ l C).2.2
 |0,σ,l,C=>Lf.refl σ
 |n+1,σ,l,C=>by
  rw [Tx.gI];split
  · exact Lf.refl σ
  · split
    · exact fQ σ
    · exact (((yX X σ l 10).trans (Fu X _)).trans (bD X _ _)).trans (J6 n _ _ _)
theorem Ai:∀n σ l,Lf σ (X.dY n σ l).2
 |0,σ,l=>Lf.refl σ
 |n+1,σ,l=>by
  rw [Tx.dY];split
  · exact ((fQ σ).trans (kZ X _)).trans (Ai n _ _)
  · exact Lf.refl σ
theorem Nr:∀n σ l Z,Lf σ (X.kU n σ l Z).2
 |0,σ,l,Z=>Lf.refl σ
 |n+1,σ,l,Z=>by
  have h0:=((yX X σ l 8).trans (bD X [(⟨#[61]⟩:ah)] _)).trans (kZ X _);rw [Tx.kU];try simp only
  split
  · exact (h0.trans (fQ _)).trans (Nr n _ _ _)
  · exact h0
end
namespace Tx
variable (X:Tx)
def isK (σ:Ps) (k:Int) (s:ByteArray):Bool:=match X.next σ k with|some t=>jf t.s s|none=>false
def dU (σ:Ps) (l:List ByteArray) (most:Nat):List ByteArray×Ps:=
 let r:=X.name σ
 (l++ [r.1],if pW r.1 l||decide (most≤l.length)then r.2.wrong (X.here σ)else r.2)
def gV (most:Nat):Nat→Ps→List ByteArray→List ByteArray×Ps
 |0,σ,l=>(l,σ)
 |n+1,σ,l=>if X.sees σ (⟨#[44]⟩:ah)then let r:=X.dU σ.step l most;gV most n r.2 r.1 else (l,σ)
def gq (σ:Ps) (most:Nat):List ByteArray×Ps:=
 let r:=X.dU σ [] most
 X.gV most X.T.length r.2 r.1
def wL (σ:Ps):List ByteArray×Ps:=if X.sees σ (⟨#[42]⟩:ah)then ([],σ.step)else X.gq σ 8
def kQ:Nat→Ps→List ByteArray→List Cl→List ByteArray×List Cl×Ps
 |0,σ,l,c=>(l,c,σ)
 |n+1,σ,l,c=>
  if σ.bad.isSome then (l,c,σ)
  else if X.sees σ (⟨#[112,114,105,109,97,114,121]⟩:ah)then (l,c,σ.step)
  else
   let r:=X.dU σ l 10
   let k:=X.kind r.2
   kQ n (X.must k.2 [(⟨#[44]⟩:ah)]) r.1 (c++ [⟨r.1.getLastD ⟨#[]⟩,k.1⟩])
def Ns (σ:Ps) (l:List ByteArray):ByteArray×Ps:=
 let r:=X.name σ
 (r.1,if !pW r.1 l then r.2.wrong (X.here σ)else r.2)
def BK (nm:ByteArray) (t:List ByteArray×List Cl×Ps):Sx×Ps:=
 let a:=X.Ns (X.must t.2.2 [(⟨#[107,101,121]⟩:ah),(⟨#[40]⟩:ah)]) t.1
 let b:=X.one (X.must a.2 [(⟨#[44]⟩:ah)]) t.1 a.1
 (t.2.1.foldl (fun x c=>place x a.1 b.1 c) {Sx.zero with kind:=1,name:=nm,bG:=nm},X.must b.2 [(⟨#[41]⟩:ah),(⟨#[41]⟩:ah)])
def Aj (σ:Ps):Sx×Ps:=
 let r:=X.name σ
 X.BK r.1 (X.kQ (X.T.length+1) (X.must r.2 [(⟨#[40]⟩:ah)]) [] [])
def Dw (nm:ByteArray) (c:List ByteArray×Ps):Sx×Ps:=
 let o:=X.name (X.must c.2 [(⟨#[102,114,111,109]⟩:ah)])
 let n:=X.name (X.must o.2 [(⟨#[119,104,101,114,101]⟩:ah)])
 let k:=X.Ns (X.must n.2 [(⟨#[105,115]⟩:ah),(⟨#[110,111,116]⟩:ah),(⟨#[110,117,108,108]⟩:ah),(⟨#[112,114,105,109,97,114,121]⟩:ah),(⟨#[107,101,121]⟩:ah),(⟨#[40]⟩:ah)]) [n.1]
 let p:=X.name (X.must k.2 [(⟨#[44]⟩:ah)])
 let q:=X.name (X.must p.2 [(⟨#[44]⟩:ah)])
 ({Sx.zero with kind:=2,name:=nm,aI:=c.1,bT:=o.1,on:=n.1,aH:= [⟨p.1,Tm.zero⟩,⟨q.1,Tm.zero⟩]},X.must q.2 [(⟨#[41]⟩:ah)])
def Gw (σ:Ps):Sx×Ps:=
 let r:=X.name (X.must σ [(⟨#[118,105,101,119]⟩:ah)])
 X.Dw r.1 (X.wL (X.must r.2 [(⟨#[97,115]⟩:ah),(⟨#[115,101,108,101,99,116]⟩:ah)]))
def lQ (σ:Ps):Sx×Ps:=
 if X.sees σ (⟨#[116,97,98,108,101]⟩:ah)then X.Aj σ.step else if X.sees σ (⟨#[109,97,116,101,114,105,97,108,105,122,101,100]⟩:ah)then X.Gw σ.step else X.index σ
def xP (o:ByteArray) (c:List ByteArray×Ps):Sx×Ps:=
 let v0:=X.value (X.must c.2 [(⟨#[41]⟩:ah),(⟨#[118,97,108,117,101,115]⟩:ah),(⟨#[40]⟩:ah)])
 let v:=X.dY X.T.length v0.2 [v0.1]
 let σ1:=if X.isK v.2 4 (⟨#[41]⟩:ah)&&v.1.length !=c.1.length then X.fail v.2 else v.2
 X.using_ (X.must σ1 [(⟨#[41]⟩:ah)]) true {Sx.zero with kind:=5,bT:=o,sets:=List.zipWith Pr.mk c.1 v.1}
def oH (σ:Ps):Sx×Ps:=
 let o:=X.name (X.must σ [(⟨#[105,110,116,111]⟩:ah)])
 X.xP o.1 (X.gq (X.must o.2 [(⟨#[40]⟩:ah)]) 10)
def rD:Nat→Ps→List ByteArray→List Pr→List Pr×Ps
 |0,σ,_,p=>(p,σ)
 |n+1,σ,l,p=>
  let r:=X.dU σ l 8
  let v:=X.value (X.must r.2 [(⟨#[61]⟩:ah)])
  let p' :=p++ [⟨r.1.getLastD ⟨#[]⟩,v.1⟩]
  if X.sees v.2 (⟨#[44]⟩:ah)then rD n v.2.step r.1 p' else (p',v.2)
def xQ (x:Sx) (s:List Pr×Ps):Sx×Ps:=
 let w:=X.aH s.2 true
 ({x with sets:=s.1,aH:=w.1},w.2)
def qG (σ:Ps):Sx×Ps:=
 let o:=X.name σ
 let u:=X.using_ o.2 true {Sx.zero with kind:=6,bT:=o.1}
 X.xQ u.1 (X.rD (X.T.length+1) (X.must u.2 [(⟨#[115,101,116]⟩:ah)]) [] [])
def xR (c:List ByteArray×Ps):Sx×Ps:=
 let o:=X.name (X.must c.2 [(⟨#[102,114,111,109]⟩:ah)])
 let u:=X.using_ o.2 false {Sx.zero with kind:=7,aI:=c.1,bT:=o.1}
 let w:=X.aH u.2 false
 ({u.1 with aH:=w.1},w.2)
def Fv (σ:Ps):Sx×Ps:=X.xR (if X.isK σ 1 (⟨#[102,114,111,109]⟩:ah)then ([],σ)else X.gq σ 8)
def J7 (c:List ByteArray×Ps):Sx×Ps:=
 let o:=X.name (X.must c.2 [(⟨#[102,114,111,109]⟩:ah)])
 let w:=X.aH o.2 false
 if X.sees w.2 (⟨#[108,105,109,105,116]⟩:ah)then
  let k:=X.count w.2.step
  ({Sx.zero with kind:=8,aI:=c.1,bT:=o.1,aH:=w.1,limit:=k.1},k.2)
 else ({Sx.zero with kind:=8,aI:=c.1,bT:=o.1,aH:=w.1},w.2)
def acV (σ:Ps):Sx×Ps:=X.J7 (X.wL σ)
def ig (σ:Ps):Sx×Bool×Ps:=
 if X.sees σ (⟨#[105,110,115,101,114,116]⟩:ah)then let r:=X.oH σ.step;(r.1,true,r.2)
 else if X.sees σ (⟨#[117,112,100,97,116,101]⟩:ah)then let r:=X.qG σ.step;(r.1,true,r.2)
 else if X.sees σ (⟨#[100,101,108,101,116,101]⟩:ah)then let r:=X.Fv σ.step;(r.1,true,r.2)
 else (Sx.zero,false,σ)
def nY:Nat→Ps→List Sx→List Sx×Ps
 |0,σ,l=>(l,σ)
 |n+1,σ,l=>
  if σ.bad.isSome then (l,σ)
  else if !l.isEmpty&&X.sees σ (⟨#[97,112,112,108,121]⟩:ah)then (l,σ.step)
  else
   let a:=X.here σ
   let c:=X.ig (if 8≤l.length then σ.wrong a else σ)
   nY n (X.must (if !c.2.1 then c.2.2.wrong a else c.2.2) [(⟨#[59]⟩:ah)]) (l++ [c.1])
def En (σ:Ps):List Sx×Ps:=
 let r:=X.nY 10 (X.must σ [(⟨#[98,97,116,99,104]⟩:ah)]) []
 (r.1,X.must r.2 [(⟨#[98,97,116,99,104]⟩:ah)])
def Eo (σ:Ps):Nd×Ps:=
 let c:=X.ig σ
 if c.2.1 then (.change c.1,c.2.2)
 else if X.sees σ (⟨#[99,114,101,97,116,101]⟩:ah)then let r:=X.lQ σ.step;(.plain r.1,r.2)
 else if X.sees σ (⟨#[100,114,111,112]⟩:ah)then let r:=X.name σ.step;(.plain {Sx.zero with kind:=4,name:=r.1},r.2)
 else if X.sees σ (⟨#[115,101,108,101,99,116]⟩:ah)then let r:=X.acV σ.step;(.plain r.1,r.2)
 else if X.sees σ (⟨#[98,101,103,105,110]⟩:ah)then let r:=X.En σ.step;(.batch r.1,r.2)
 else (.plain Sx.zero,X.fail σ)
end Tx
def Er {α:Type}(a b:α×Ps):Prop:=a=b∨∃e,a.2.bad=some e∧b.2.bad=some e
theorem Er.rfl {α:Type}{a:α×Ps}:Er a a:= .inl (Eq.refl a)
theorem Er.bind {α β:Type}{a b:α×Ps}{f g:α×Ps→β×Ps}(h:Er a b) (hfg:∀r,Er (f r) (g r)) (hf:∀r,Lf r.2 (f r).2) (hg:∀r,Lf r.2 (g r).2):Er (f a) (g b):=by
 rcases h with h|⟨e,h1,h2⟩
 · rw [h];exact hfg b
 · exact .inr ⟨e,hf a e h1,hg b e h2⟩
theorem qP {σ:Ps}(h:σ.bad=none) (a:Nat):(σ.wrong a).bad=some a:=by unfold Ps.wrong;rw [h]
theorem vM {σ:Ps}{e:Nat}(h:σ.bad=some e) (a:Nat):(σ.wrong a).bad=some e:=by unfold Ps.wrong;rw [h];exact h
section
variable (X:Tx)
theorem Ul {σ:Ps}(h:σ.bad=none):(X.name σ).2.bad=none∨(X.name σ).2.bad=some (X.here σ):=by
 have hf:(X.fail σ).bad=some (X.here σ):=qP h _;unfold Tx.name;split
 · split
   · exact .inr hf
   · exact .inl h
 · exact .inr hf
theorem rE (σ:Ps) (l:List ByteArray) (most:Nat):Lf σ (X.dU σ l most).2:=(gZ X σ).trans (qC (kY _ _) (Lf.refl _))
theorem vN (σ:Ps) (l:List ByteArray) (most:Nat):Er (X.dU σ l most) (X.column σ l most):=by
 cases hb:σ.bad with
 |some e=>exact .inr ⟨e,rE X σ l most e hb,yX X σ l most e hb⟩
 |none=>
  by_cases hm:most≤l.length
  · refine .inr ⟨X.here σ, ?_, ?_⟩
    · unfold Tx.dU;simp only;rw [if_pos (by rw [decide_eq_true hm,Bool.or_true])];rcases Ul X hb with h|h
      · exact qP h _
      · exact vM h _
    · unfold Tx.column;simp only;rw [if_pos hm];have h1:(σ.wrong (X.here σ)).bad=some (X.here σ):=qP hb _;have h2:=gZ X (σ.wrong (X.here σ)) _ h1;split
      · exact vM h2 _
      · exact h2
  · left;unfold Tx.dU Tx.column;simp only;rw [if_neg hm,decide_eq_false hm,Bool.or_false]
theorem qH (most:Nat):∀n σ l,Lf σ (X.gV most n σ l).2
 |0,σ,l=>Lf.refl σ
 |n+1,σ,l=>by
  rw [Tx.gV];split
  · exact ((fQ σ).trans (rE X _ _ _)).trans (qH most n _ _)
  · exact Lf.refl σ
theorem BL (most:Nat):∀n σ l,Er (X.gV most n σ l) (X.dD most n σ l)
 |0,σ,l=>Er.rfl
 |n+1,σ,l=>by
  rw [Tx.gV,Tx.dD];split
  · exact Er.bind (f:=fun r=>X.gV most n r.2 r.1) (g:=fun r=>X.dD most n r.2 r.1) (vN X σ.step l most) (fun r=>BL most n r.2 r.1) (fun r=>qH X most n r.2 r.1) (fun r=>xO X most n r.2 r.1)
  · exact Er.rfl
theorem Ep (σ:Ps) (most:Nat):Lf σ (X.gq σ most).2:=(rE X σ [] most).trans (qH X most _ _ _)
theorem xS (σ:Ps) (most:Nat):Er (X.gq σ most) (X.columns σ most):=
 Er.bind (f:=fun r=>X.gV most X.T.length r.2 r.1) (g:=fun r=>X.dD most X.T.length r.2 r.1) (vN X σ [] most) (fun r=>BL X most _ r.2 r.1) (fun r=>qH X most _ r.2 r.1) (fun r=>xO X most _ r.2 r.1)
theorem Nt (σ:Ps):Er (X.wL σ) (X.some_ σ):=by
 unfold Tx.wL Tx.some_;split
 · exact Er.rfl
 · exact xS X _ _
theorem Lg (σ:Ps) (l:List ByteArray):Lf σ (X.Ns σ l).2:=(gZ X σ).trans (qC (kY _ _) (Lf.refl _))
theorem Sj (hX:X.Ok) (σ:Ps) (l:List ByteArray):Er (X.Ns σ l) (X.one σ l ⟨#[]⟩):=by
 cases hb:σ.bad with
 |some e=>exact .inr ⟨e,Lg X σ l e hb,Ah X σ l _ e hb⟩
 |none=>
  cases hn:(X.name σ).2.bad with
  |some e=>
   refine .inr ⟨e, ?_, ?_⟩
   · unfold Tx.Ns;exact qC (σ:=(X.name σ).2) (kY _ _) (Lf.refl _) e hn
   · unfold Tx.one;exact qC (σ:=(X.name σ).2) (kY _ _) (Lf.refl _) e hn
  |none=>
   left
   have hne:jf (X.name σ).1 ⟨#[]⟩=false:=by
    cases he:jf (X.name σ).1 ⟨#[]⟩with
    |false=>rfl
    |true=>
     obtain ⟨_,h2⟩:=iw hX hn;exact absurd (eD.1 he) (Dp h2)
   unfold Tx.Ns Tx.one;simp only;rw [hne,Bool.or_false]
theorem Gx:∀n σ l C,Lf σ (X.kQ n σ l C).2.2
 |0,σ,l,C=>Lf.refl σ
 |n+1,σ,l,C=>by
  rw [Tx.kQ];split
  · exact Lf.refl σ
  · split
    · exact fQ σ
    · exact (((rE X σ l 10).trans (Fu X _)).trans (bD X _ _)).trans (Gx n _ _ _)
def E3 {α β:Type}(a b:α×β×Ps):Prop:=a=b∨∃e,a.2.2.bad=some e∧b.2.2.bad=some e
theorem E3.bind {α β γ _δ:Type}{a b:γ×Ps}{f g:γ×Ps→α×β×Ps}(h:Er a b) (hfg:∀r,E3 (f r) (g r)) (hf:∀r,Lf r.2 (f r).2.2) (hg:∀r,Lf r.2 (g r).2.2):E3 (f a) (g b):=by
 rcases h with h|⟨e,h1,h2⟩
 · rw [h];exact hfg b
 · exact .inr ⟨e,hf a e h1,hg b e h2⟩
theorem Gy:∀n σ l C,E3 (X.kQ n σ l C) (X.gI n σ l C)
 |0,σ,l,C=> .inl rfl
 |n+1,σ,l,C=>by
  rw [Tx.kQ,Tx.gI];split
  · exact .inl rfl
  · split
    · exact .inl rfl
    · exact E3.bind (_δ:=Unit) (f:=fun r=>X.kQ n (X.must (X.kind r.2).2 [(⟨#[44]⟩:ah)]) r.1 (C++ [⟨r.1.getLastD ⟨#[]⟩,(X.kind r.2).1⟩])) (g:=fun r=>X.gI n (X.must (X.kind r.2).2 [(⟨#[44]⟩:ah)]) r.1 (C++ [⟨r.1.getLastD ⟨#[]⟩,(X.kind r.2).1⟩])) (vN X σ l 10) (fun r=>Gy n _ _ _) (fun r=>((Fu X _).trans (bD X _ _)).trans (Gx X n _ _ _)) (fun r=>((Fu X _).trans (bD X _ _)).trans (J6 X n _ _ _))
def Tx.rz (nm:ByteArray) (t:List ByteArray×List Cl×Ps):Sx×Ps:=
 let a:=X.one (X.must t.2.2 [(⟨#[107,101,121]⟩:ah),(⟨#[40]⟩:ah)]) t.1 ⟨#[]⟩
 let b:=X.one (X.must a.2 [(⟨#[44]⟩:ah)]) t.1 a.1
 (t.2.1.foldl (fun x c=>Tx.place x a.1 b.1 c) {Sx.zero with kind:=1,name:=nm,bG:=nm},X.must b.2 [(⟨#[41]⟩:ah),(⟨#[41]⟩:ah)])
theorem Um (nm:ByteArray) (t:List ByteArray×List Cl×Ps):Lf t.2.2 (X.rz nm t).2:=
 ((((bD X _ _).trans (Ah X _ _ _)).trans (bD X _ _)).trans (Ah X _ _ _)).trans (bD X _ _)
theorem P6 (nm:ByteArray) (t:List ByteArray×List Cl×Ps):Lf t.2.2 (X.BK nm t).2:=
 ((((bD X _ _).trans (Lg X _ _)).trans (bD X _ _)).trans (Ah X _ _ _)).trans (bD X _ _)
theorem P7 (hX:X.Ok) (nm:ByteArray) (t:List ByteArray×List Cl×Ps):Er (X.BK nm t) (X.rz nm t):=
 Er.bind (f:=fun a=>(t.2.1.foldl (fun x c=>Tx.place x a.1 (X.one (X.must a.2 [(⟨#[44]⟩:ah)]) t.1 a.1).1 c) {Sx.zero with kind:=1,name:=nm,bG:=nm},X.must (X.one (X.must a.2 [(⟨#[44]⟩:ah)]) t.1 a.1).2 [(⟨#[41]⟩:ah),(⟨#[41]⟩:ah)]))
  (g:=fun a=>(t.2.1.foldl (fun x c=>Tx.place x a.1 (X.one (X.must a.2 [(⟨#[44]⟩:ah)]) t.1 a.1).1 c) {Sx.zero with kind:=1,name:=nm,bG:=nm},X.must (X.one (X.must a.2 [(⟨#[44]⟩:ah)]) t.1 a.1).2 [(⟨#[41]⟩:ah),(⟨#[41]⟩:ah)]))
  (Sj X hX _ t.1) (fun _=>Er.rfl) (fun _=>((bD X _ _).trans (Ah X _ _ _)).trans (bD X _ _)) (fun _=>((bD X _ _).trans (Ah X _ _ _)).trans (bD X _ _))
theorem Un (hX:X.Ok) (σ:Ps):Er (X.Aj σ) (X.table σ):=by
 show Er (X.BK (X.name σ).1 (X.kQ (X.T.length+1) (X.must (X.name σ).2 [(⟨#[40]⟩:ah)]) [] [])) (X.rz (X.name σ).1 (X.gI (X.T.length+1) (X.must (X.name σ).2 [(⟨#[40]⟩:ah)]) [] []));rcases Gy X (X.T.length+1) (X.must (X.name σ).2 [(⟨#[40]⟩:ah)]) [] []with h|⟨e,h1,h2⟩
 · rw [h];exact P7 X hX _ _
 · exact .inr ⟨e,P6 X _ _ e h1,Um X _ _ e h2⟩
def Tx.wK (nm:ByteArray) (c:List ByteArray×Ps):Sx×Ps:=
 let o:=X.name (X.must c.2 [(⟨#[102,114,111,109]⟩:ah)])
 let n:=X.name (X.must o.2 [(⟨#[119,104,101,114,101]⟩:ah)])
 let k:=X.one (X.must n.2 [(⟨#[105,115]⟩:ah),(⟨#[110,111,116]⟩:ah),(⟨#[110,117,108,108]⟩:ah),(⟨#[112,114,105,109,97,114,121]⟩:ah),(⟨#[107,101,121]⟩:ah),(⟨#[40]⟩:ah)]) [n.1] ⟨#[]⟩
 let p:=X.name (X.must k.2 [(⟨#[44]⟩:ah)])
 let q:=X.name (X.must p.2 [(⟨#[44]⟩:ah)])
 ({Sx.zero with kind:=2,name:=nm,aI:=c.1,bT:=o.1,on:=n.1,aH:= [⟨p.1,Tm.zero⟩,⟨q.1,Tm.zero⟩]},X.must q.2 [(⟨#[41]⟩:ah)])
theorem XA (nm:ByteArray) (c:List ByteArray×Ps):Lf c.2 (X.wK nm c).2:=
 (((((((((bD X _ _).trans (gZ X _)).trans (bD X _ _)).trans (gZ X _)).trans (bD X _ _)).trans (Ah X _ _ _)).trans (bD X _ _)).trans (gZ X _)).trans (bD X _ _)).trans ((gZ X _).trans (bD X _ _))
theorem Uo (nm:ByteArray) (c:List ByteArray×Ps):Lf c.2 (X.Dw nm c).2:=
 (((((((((bD X _ _).trans (gZ X _)).trans (bD X _ _)).trans (gZ X _)).trans (bD X _ _)).trans (Lg X _ _)).trans (bD X _ _)).trans (gZ X _)).trans (bD X _ _)).trans ((gZ X _).trans (bD X _ _))
theorem Uq (hX:X.Ok) (nm:ByteArray) (c:List ByteArray×Ps):Er (X.Dw nm c) (X.wK nm c):=by
 obtain ⟨⟨o1,o2⟩,ho⟩:∃r,X.name (X.must c.2 [(⟨#[102,114,111,109]⟩:ah)])=r:=⟨_,rfl⟩;obtain ⟨⟨n1,n2⟩,hn⟩:∃r,X.name (X.must o2 [(⟨#[119,104,101,114,101]⟩:ah)])=r:=⟨_,rfl⟩;unfold Tx.Dw Tx.wK;simp only [ho,hn]
 exact Er.bind (f:=fun k:ByteArray×Ps=>({Sx.zero with kind:=2,name:=nm,aI:=c.1,bT:=o1,on:=n1,aH:= [⟨(X.name (X.must k.2 [(⟨#[44]⟩:ah)])).1,Tm.zero⟩,⟨(X.name (X.must (X.name (X.must k.2 [(⟨#[44]⟩:ah)])).2 [(⟨#[44]⟩:ah)])).1,Tm.zero⟩]},X.must (X.name (X.must (X.name (X.must k.2 [(⟨#[44]⟩:ah)])).2 [(⟨#[44]⟩:ah)])).2 [(⟨#[41]⟩:ah)]))
  (g:=fun k:ByteArray×Ps=>({Sx.zero with kind:=2,name:=nm,aI:=c.1,bT:=o1,on:=n1,aH:= [⟨(X.name (X.must k.2 [(⟨#[44]⟩:ah)])).1,Tm.zero⟩,⟨(X.name (X.must (X.name (X.must k.2 [(⟨#[44]⟩:ah)])).2 [(⟨#[44]⟩:ah)])).1,Tm.zero⟩]},X.must (X.name (X.must (X.name (X.must k.2 [(⟨#[44]⟩:ah)])).2 [(⟨#[44]⟩:ah)])).2 [(⟨#[41]⟩:ah)]))
  (Sj X hX _ _) (fun _=>Er.rfl) (fun _=>((((bD X _ _).trans (gZ X _)).trans (bD X _ _)).trans (gZ X _)).trans (bD X _ _)) (fun _=>((((bD X _ _).trans (gZ X _)).trans (bD X _ _)).trans (gZ X _)).trans (bD X _ _))
theorem XB (hX:X.Ok) (σ:Ps):Er (X.Gw σ) (X.view σ):=
 Er.bind (f:=X.Dw (X.name (X.must σ [(⟨#[118,105,101,119]⟩:ah)])).1) (g:=X.wK (X.name (X.must σ [(⟨#[118,105,101,119]⟩:ah)])).1) (Nt X (X.must (X.name (X.must σ [(⟨#[118,105,101,119]⟩:ah)])).2 [(⟨#[97,115]⟩:ah),(⟨#[115,101,108,101,99,116]⟩:ah)])) (fun r=>Uq X hX _ r) (fun r=>Uo X _ r) (fun r=>XA X _ r)
end
end aN
end Go.Proofs.YtcgadodckoalnaaGreatDoor
