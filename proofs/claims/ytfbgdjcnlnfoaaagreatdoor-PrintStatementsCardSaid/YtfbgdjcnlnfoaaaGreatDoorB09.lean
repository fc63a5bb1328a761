/- Parts of the proof, joined: PlainX PlainPH PlainPI ShelfB GrmA GrmB GrmC GrmD GrmE. -/
import Derived.Shelf.Strings.Builder1
import Derived.Shelf.Strings.Builder2
import Derived.Shelf.Strings.OnBuilder
import Derived.Shelf.Strings.BuilderF
import Derived.Shelf.Strings.BuilderK
import Derived.Shelf.Utf8.RuneCount
import Derived.Shelf.Strings.Builder2Cap
import Derived.Shelf.Strconv.Itoa0
import Derived.Shelf.Strconv.Itoa1
import Derived.Shelf.LaysM
import Derived.Shelf.Strconv.Itoa2
import Derived.Shelf.Strconv.Itoa3
import Derived.Shelf.Strings.Search1
import Derived.Shelf.Strings.Search2
import Derived.Shelf.Strings.Search3
import Derived.Shelf.Strings.Count
import Derived.Shelf.Strings.Shaped
import Derived.Shelf.Strings.Split
import Derived.Shelf.Strings.Fields
import Derived.Shelf.Strings.Replace
import Derived.Shelf.Strings.SplitShaped
import Derived.Shelf.Unicode.Latin
import Derived.Shelf.Unicode.DecodeSlow
import Derived.Shelf.Unicode.DecodeAny
import Derived.Shelf.Unicode.Is16White
import Derived.Shelf.Unicode.IsSpaceAny
import Derived.Shelf.Unicode.Is16Any
import Derived.Shelf.Unicode.Is32Any
import Derived.Shelf.Unicode.ExclAny
import Derived.Shelf.Strings.BuilderCap
import Derived.Shelf.Slices.Turned
import Derived.Shelf.Slices.Equal
import Derived.Shelf.Slices.Empties2
import Derived.Lib.AppendIntMem
import Derived.Deep.RegionHeld3
import Derived.Test.YtfbgdjcnlnfoaaaGreatDoorB06
import Derived.Test.YtfbgdjcnlnfoaaaGreatDoorB07
import Derived.Test.YtfbgdjcnlnfoaaaGreatDoorB08
import Derived.Test.YtfbgdjcnlnfoaaaGreatDoorProg
set_option maxHeartbeats 2000000
set_option maxRecDepth 100000
namespace Go.Proofs.YtfbgdjcnlnfoaaaGreatDoor
namespace aH
theorem Rq (f:Nat→Bool) (len i:Nat) (h:dD f len i<len):f (dD f len i)=false:=by
 have key:∀n i,len - i≤n→dD f len i<len→f (dD f len i)=false:=by
  intro n
  induction n with
  |zero=>intro i hn h;have:=kZ f len i;omega
  |succ n ih=>
   intro i hn h
   cases hf:f i with
   |false=>rw [fJ hf];exact hf
   |true=>
    have:=kZ f len i
    have e1:=gU (f:=f) (len:=len) (i:=i) (by omega) hf
    rw [e1]at h⊢
    exact ih (i+1) (by omega) h
 exact key _ i (Nat.le_refl _) h
theorem Bv (f g:Nat→Bool) (lf lg a:Nat) (h1:a≤lf) (h2:a≤lg) (hfg:∀j,j<a→g j=f j) (i:Nat) (hi:dD f lf i<a):dD g lg i=dD f lf i:=by
 have key:∀n i,a - i≤n→dD f lf i<a→dD g lg i=dD f lf i:=by
  intro n
  induction n with
  |zero=>intro i hn hi;have:=kZ f lf i;omega
  |succ n ih=>
   intro i hn hi
   have hge:=kZ f lf i
   cases hf:f i with
   |false=>rw [fJ hf,fJ (by rw [hfg i (by omega)];exact hf)]
   |true=>
    have e1:=gU (f:=f) (len:=lf) (i:=i) (by omega) hf
    have e2:=gU (f:=g) (len:=lg) (i:=i) (by omega) (by rw [hfg i (by omega)];exact hf)
    rw [e1]at hi⊢
    rw [e2]
    exact ih (i+1) (by omega) hi
 exact key _ i (Nat.le_refl _) hi
theorem Lr (s:ByteArray) (P:List Pt) (i:Nat) (h:(dF s P i).2.1=true):(dF s P i).1.at_=i:=by
 unfold dF at h⊢
 split
 · rfl
 · rename_i h1
   rw [if_neg h1]at h
   split
   · rfl
   · rename_i h2
     rw [if_neg h2]at h
     split
     · rw [qO]
     · rename_i h3
       rw [if_neg h3]at h
       split
       · rfl
       · rename_i h4
         rw [if_neg h4]at h;cases h
theorem Cut.trans {s t r:ByteArray}{A A' :List Pt}{d d' :Nat}(h:Cut s t A d) (h' :Cut t r A' d'):Cut s r (A++A'.map (Pt.shift d)) (d+d') where
 bytes:=by rw [←List.drop_drop,h.bytes,h'.bytes]
 size:=by rw [h.size,h'.size];omega
 pts:=by
  rw [h.pts,h'.pts,List.map_append,List.map_map,List.append_assoc]
  congr 2
  apply List.map_congr_left
  intro p _
  show Pt.mk _ (p.at_+d' +d) _=Pt.mk _ (p.at_+(d+d')) _
  rw [Nat.add_assoc,Nat.add_comm d' d]
  rfl
section
variable {s u r B:ByteArray}{a d:Nat}(h:Ins s u r B a d)
include h
theorem Ins.dF {i:Nat}(hi:i<a) (hok:(aH.dF s (pts s) i).2.1=true) (he:(aH.dF s (pts s) i).2.2≤a):aH.dF u (pts u) i=aH.dF s (pts s) i:=by
 unfold aH.dF at hok he⊢
 rw [h.dQ hi,h.dn hi,h.gy hi,h.gy hi,h.mR hi]
 split
 · rename_i h1
   rw [if_pos h1]at he
   exact h.jL (by omega) he
 · rename_i h1
   rw [if_neg h1]at hok he
   split
   · rename_i h2
     rw [if_pos h2]at hok he
     exact h.dh hi hok he
   · rename_i h2
     rw [if_neg h2]at hok he
     split
     · rename_i h3
       rw [if_pos h3]at hok he
       exact h.jf hi hok he
     · rfl
theorem Ins.dO {i:Nat}(hi:i<a):aH.dO (pts u) i=aH.dO (pts s) i:=by
 unfold aH.dO;rw [h.gy hi,h.gy hi,h.gy hi,h.gy hi]
theorem Ins.xS {i:Nat}(hi:i+1<a):aH.iO (pts u) i=aH.iO (pts s) i:=by
 unfold aH.iO;rw [h.gy (by omega),h.gy hi]
theorem Ins.Nz {i:Nat}(hi:i+1=a):aH.iO (pts u) i=false:=by
 unfold aH.iO;rw [hi,h.ZF 45 (by omega),Bool.and_false]
theorem Ins.UG:∀n i,a - i≤n→aH.skip (pts s) i<a→aH.skip (pts u) i=aH.skip (pts s) i:=by
 intro n
 induction n with
 |zero=>intro i hn hs;have:=jF (pts s) i;omega
 |succ n ih=>
  intro i hn hs
  have hge:=jF (pts s) i
  have hia:i<a:=by omega
  have hal:=h.al
  have hul:=h.UF
  cases hb:aH.dO (pts s) i with
  |true=>
   rw [gG (by omega) hb]at hs⊢
   rw [gG (by omega) (by rw [h.dO hia];exact hb)]
   exact ih (i+1) (by omega) hs
  |false=>
   cases hd:aH.iO (pts s) i with
   |true=>
    have hle:=iV hd
    rw [lW (by omega) hb hd]at hs⊢
    have hg2:=jF (pts s) (aH.lineEnd (pts s) i)
    have hdu:aH.iO (pts u) i=true:=by rw [h.xS (by omega)];exact hd
    have hl:aH.lineEnd (pts u) i=aH.lineEnd (pts s) i:=by
     -- the line's end lies ahead of the place
     have:=Bv (fun j=> !aH.gy (pts s) j 10) (fun j=> !aH.gy (pts u) j 10) (pts s).length (pts u).length a (by omega) (by omega) (fun j hj=>by simp only [h.gy hj]) i (by show aH.lineEnd (pts s) i<a;omega)
     exact this
    rw [lW (by omega) (by rw [h.dO hia];exact hb) hdu,hl]
    exact ih _ (by omega) hs
   |false=>
    rw [ig hb hd]at hs⊢
    refine ig (by rw [h.dO hia];exact hb) ?_
    by_cases hi1:i+1<a
    · rw [h.xS hi1];exact hd
    · exact h.Nz (by omega)
theorem Ins.Ls (hne:a=(pts s).length→bY u d=10) (hcl:a<(pts s).length→aH.gy (pts s) a 10=false):∀n i,a - i≤n→i≤a→aH.skip (pts s) i=a→aH.skip (pts u) i=aH.skip (pts u) a:=by
 intro n
 induction n with
 |zero=>intro i hn hi hs;rw [show i=a by omega]
 |succ n ih=>
  intro i hn hi hs
  by_cases hia:i=a
  · rw [hia]
  have hlt:i<a:=by omega
  have hal:=h.al
  have hul:=h.UF
  cases hb:aH.dO (pts s) i with
  |true=>
   rw [gG (by omega) hb]at hs
   rw [gG (by omega) (by rw [h.dO hlt];exact hb)]
   exact ih (i+1) (by omega) (by omega) hs
  |false=>
   cases hd:aH.iO (pts s) i with
   |true=>
    have hle:=iV hd
    rw [lW (by omega) hb hd]at hs
    have hg2:=jF (pts s) (aH.lineEnd (pts s) i)
    have hi1:i+1<(pts s).length:=by
     unfold aH.iO at hd;rw [Bool.and_eq_true]at hd;exact Pj hd.2
    have hle2:i+1<aH.lineEnd (pts s) i:=by
     have h45:=hd
     unfold aH.iO at h45;rw [Bool.and_eq_true]at h45
     have e1:=gU (f:=fun j=> !aH.gy (pts s) j 10) (show i<(pts s).length by omega) (by simp only [xq h45.1 (show (45:Int)≠10 by decide)];rfl)
     have e2:=gU (f:=fun j=> !aH.gy (pts s) j 10) hi1 (by simp only [xq h45.2 (show (45:Int)≠10 by decide)];rfl)
     have e3:=kZ (fun j=> !aH.gy (pts s) j 10) (pts s).length (i+1+1)
     unfold aH.lineEnd;omega
    have hdu:aH.iO (pts u) i=true:=by rw [h.xS (by omega)];exact hd
    have hl:aH.lineEnd (pts u) i=aH.lineEnd (pts s) i:=by
     by_cases Rp:aH.lineEnd (pts s) i<a
     · exact Bv (fun j=> !aH.gy (pts s) j 10) (fun j=> !aH.gy (pts u) j 10) (pts s).length (pts u).length a (by omega) (by omega) (fun j hj=>by simp only [h.gy hj]) i Rp
     · have UH:aH.lineEnd (pts s) i=a:=by omega
       by_cases hend:a=(pts s).length
       · refine h.dD _ _ (fun j hj=>by simp only [h.gy hj]) ?_ i hi (by show aH.lineEnd (pts s) i≤a;omega)
         have:aH.gy (pts u) a 10=true:=by unfold aH.gy;rw [h.head];simp only;rw [hne hend];rfl
         simp only [this];rfl
       · exfalso
         have h10:=Rq (fun j=> !aH.gy (pts s) j 10) (pts s).length i (by show aH.lineEnd (pts s) i<_;omega)
         have:(!aH.gy (pts s) (aH.lineEnd (pts s) i) 10)=false:=h10
         rw [UH,hcl (by omega)]at this
         cases this
    rw [lW (by omega) (by rw [h.dO hlt];exact hb) hdu,hl]
    exact ih _ (by omega) (by omega) hs
   |false=>
    rw [ig hb hd]at hs;omega
end
theorem Dt (s:ByteArray) (P:List Pt) (n i j:Nat) (h:skip P i=skip P j):dS s P n i=dS s P n j:=by
 cases n with
 |zero=>rfl
 |succ n=>rw [dS,dS,h]
theorem Du (P:List Pt) (i:Nat) (hi:i≤P.length):skip P (skip P i)=skip P i:=by
 have key:∀n i,P.length - i≤n→i≤P.length→skip P (skip P i)=skip P i:=by
  intro n
  induction n with
  |zero=>intro i h hi;have e:=vo (P:=P) (i:=i) (by omega);rw [e,e]
  |succ n ih=>
   intro i h hi
   by_cases hl:i<P.length
   · cases hb:dO P i with
     |true=>rw [gG hl hb];exact ih (i+1) (by omega) (by omega)
     |false=>
      cases hd:iO P i with
      |true=>have:=iV hd;rw [lW hl hb hd];exact ih _ (by omega) (by omega)
      |false=>rw [ig hb hd];exact ig hb hd
   · have e:=vo (P:=P) (i:=i) (by omega);rw [e,e]
 exact key _ i (Nat.le_refl _) hi
theorem ET {P:List Pt}{i:Nat}(hi:i≤P.length) (h:skip P i<P.length):dO P (skip P i)=false:=by
 cases hb:dO P (skip P i)with
 |false=>rfl
 |true=>
  have h1:=Du P i hi
  rw [gG h hb]at h1
  have:=jF P (skip P i+1)
  omega
theorem Lu (s:ByteArray) (P:List Pt):∀n i l,dS s P n i= .ok l→∀t∈l,i≤t.at_∧t.at_<P.length:=by
 intro n
 induction n with
 |zero=>intro i l h t ht;rw [dS]at h;cases h;cases ht
 |succ n ih=>
  intro i l h t ht
  rw [dS]at h
  split at h
  · cases h;cases ht
  · rename_i hl
    split at h
    · rename_i hok
      cases hx:dS s P n (dF s P (skip P i)).2.2 with
      |error a=>rw [hx]at h;cases h
      |ok m=>
       rw [hx]at h
       have e:l=(dF s P (skip P i)).1::m:=by cases h;rfl
       rw [e]at ht
       have hg:=zK (s:=s) (P:=P) (i:=skip P i) (by omega) hok
       have hs:=jF P i
       rcases List.mem_cons.1 ht with rfl|ht
       · rw [Lr s P _ hok];omega
       · have:=ih _ _ hx t ht;omega
    · cases h
theorem Ins.lex {s u r B:ByteArray}{a d:Nat}(h:Ins s u r B a d) (hB:∀t:ByteArray,skip (pts (B++t)) 0=B.size+skip (pts t) 0) (hBl:(pts (B++r)).length=B.size+(pts r).length) (hcB:Cut (B++r) r ((pts (B++r)).take B.size) B.size) (hne:a=(pts s).length→bY u d=10):
 ∀k n m e l,dS s (pts s) n e= .ok l→(pts s).length<n+e→(pts u).length<m+e→k≤l.length→(∀x,l[k]? =some x→a=x.at_)→(k=l.length→a=(pts s).length)→e≤a→
  dS u (pts u) m e= .ok (l.take k++(l.drop k).map (Tk.on B.size)):=by
 have hal:=h.al
 have hul:=h.UF
 have hlen:=h.len
 have hsl:=h.cs.len
 rw [List.length_take,Nat.min_eq_left hal]at hsl
 have wZ:((pts s).take a).length=a:=by rw [List.length_take];omega
 have hcur:Cut u r ((pts s).take a++((pts (B++r)).take B.size).map (Pt.shift d)) (d+B.size):=Cut.trans h.cu hcB
 have hcl:((pts s).take a++((pts (B++r)).take B.size).map (Pt.shift d)).length=a+B.size:=by
  rw [List.length_append,wZ,List.length_map,List.length_take];omega
 intro k
 induction k with
 |zero=>
  intro n m e l hl hn hm _ hx hk0 Rp
  rw [List.take_zero,List.drop_zero,List.nil_append]
  -- up to the place there are blanks alone
  have NA:skip (pts u) a=a+B.size+skip (pts r) 0:=by
   have:=h.cu.skip 0
   rw [wZ,Nat.add_zero]at this
   rw [this,hB r];omega
  have hr0:=h.cs.skip 0
  rw [wZ,Nat.add_zero]at hr0
  by_cases hl0:l= []
  · subst hl0
    have ha:=hk0 rfl
    have hrl:(pts r).length=0:=by omega
    have hse:skip (pts s) e=a:=by
     have h1:(pts s).length≤skip (pts s) e:=by
      cases n with
      |zero=>have:=jF (pts s) e;omega
      |succ n=>
       rw [dS]at hl
       split at hl
       · rename_i hq;exact hq
       · split at hl
         · cases hq:dS s (pts s) n (aH.dF s (pts s) (aH.skip (pts s) e)).2.2<;>rw [hq]at hl<;>cases hl
         · cases hl
     have h2:=yJ (pts s) ((pts s).length - e) e (by omega)
     rw [show iL (pts s) ((pts s).length - e) e=skip (pts s) e from rfl]at h2
     omega
    have hsu:=h.Ls hne (fun hh=>absurd ha (by omega)) (a - e) e (Nat.le_refl _) Rp hse
    have XG:skip (pts r) 0=0:=vo (by omega)
    cases m with
    |zero=>omega
    |succ m=>rw [vB (by rw [hsu,NA];omega)];rfl
  · obtain ⟨t,l',rfl⟩:∃t l',l=t::l' :=by cases l with|nil=>exact absurd rfl hl0|cons t l' =>exact ⟨t,l',rfl⟩
    have hat:a=t.at_:=hx t rfl
    have hse:skip (pts s) e=a:=by
     cases n with
     |zero=>rw [dS]at hl;cases hl
     |succ n=>
      rw [dS]at hl
      split at hl
      · cases hl
      · split at hl
        · rename_i hok
          cases hq:dS s (pts s) n (aH.dF s (pts s) (aH.skip (pts s) e)).2.2 with
          |error b=>rw [hq]at hl;cases hl
          |ok m' =>
           rw [hq]at hl
           have:t=(aH.dF s (pts s) (skip (pts s) e)).1:=by cases hl;rfl
           rw [hat,this,Lr s (pts s) _ hok]
        · cases hl
    have hlt:a<(pts s).length:=by rw [hat];exact (Lu s (pts s) n e _ hl t (List.mem_cons_self)).2
    have hnb:=ET (P:=pts s) (i:=e) (by omega) (by rw [hse];exact hlt)
    rw [hse]at hnb
    have abu:aH.gy (pts s) a 10=false:=by
     unfold aH.dO at hnb
     simp only [Bool.or_eq_false_iff]at hnb
     exact hnb.1.2
    have hsu:=h.Ls hne (fun _=>abu) (a - e) e (Nat.le_refl _) Rp hse
    have hss:=Du (pts s) e (by omega)
    rw [hse]at hss
    have XG:skip (pts r) 0=0:=by omega
    have h1:=h.cs.dS n 0
    rw [wZ,Nat.add_zero]at h1
    have h2:=hcur.dS m 0
    rw [hcl,Nat.add_zero]at h2
    rw [Dt s (pts s) n e a (by rw [hse,hss]),h1]at hl
    have abv:skip (pts u) (a+B.size)=a+B.size:=by
     have:=hcur.skip 0
     rw [hcl,Nat.add_zero,XG]at this
     omega
    rw [Dt u (pts u) m e (a+B.size) (by rw [hsu,NA,abv,XG];omega),h2]
    rw [xE r (pts r) n m 0 (by omega) (by omega)]at hl
    cases hq:aH.dS r (pts r) m 0 with
    |error b=>rw [hq]at hl;cases hl
    |ok l0=>
     rw [hq]at hl
     have e1:t::l' =l0.map (Tk.on a):=by
      have:VX a (.ok l0)= .ok (l0.map (Tk.on a)):=rfl
      rw [this]at hl
      injection hl with hl
      exact hl.symm
     rw [e1,List.map_map]
     show Except.ok (l0.map (Tk.on (a+B.size)))=_
     congr 2
     funext x
     show Tk.mk _ _ _ (x.at_+(a+B.size))=Tk.mk _ _ _ (x.at_+a+B.size)
     rw [Nat.add_assoc]
     rfl
 |succ k ih=>
  intro n m e l hl hn hm hkl hx hk0 Rp
  cases n with
  |zero=>rw [dS]at hl;cases hl;simp at hkl
  |succ n=>
   rw [dS]at hl
   split at hl
   · cases hl;simp at hkl
   · rename_i adj
     split at hl
     · rename_i hok
       cases hq:dS s (pts s) n (aH.dF s (pts s) (aH.skip (pts s) e)).2.2 with
       |error b=>rw [hq]at hl;cases hl
       |ok l1=>
        rw [hq]at hl
        have e1:l=(aH.dF s (pts s) (skip (pts s) e)).1::l1:=by cases hl;rfl
        subst e1
        have hg:=zK (s:=s) (P:=pts s) (i:=skip (pts s) e) (by omega) hok
        have hse:=jF (pts s) e
        have UH:(aH.dF s (pts s) (skip (pts s) e)).2.2≤a:=by
         by_cases hkk:k<l1.length
         · have:=hx l1[k] (by rw [List.getElem?_cons_succ,List.getElem?_eq_getElem hkk])
           rw [this]
           exact (Lu s (pts s) n _ l1 hq l1[k] (List.getElem_mem hkk)).1
         · have:=hk0 (by simp at hkl⊢;omega)
           omega
        have NA:=h.UG (a - e) e (Nat.le_refl _) (by omega)
        have htk:=h.dF (i:=skip (pts s) e) (by omega) hok UH
        cases m with
        |zero=>omega
        |succ m=>
         rw [En (by rw [NA];omega) (by rw [NA,htk];exact hok),NA,htk]
         have:=ih n m _ l1 hq (by omega) (by omega) (by simpa using hkl) (fun x hx2=>hx x (by rw [List.getElem?_cons_succ];exact hx2)) (fun hk=>hk0 (by rw [List.length_cons];omega)) UH
         rw [this]
         rfl
     · cases hl
theorem Rs (n g b0 b1 b2 b3 c1 c2 c3:Nat) (hn:1≤n) (hg:1≤g) (h1:1<g→c1=b1) (h2:2<g→c2=b2) (h3:3<g→c3=b3) (hgn:g≤n) (hw:(Lib.decodeN n b0 b1 b2 b3).2≤g):
 Lib.decodeN g b0 c1 c2 c3=Lib.decodeN n b0 b1 b2 b3:=by
 by_cases hok:(Lib.decodeN n b0 b1 b2 b3).1≠65533∨1<(Lib.decodeN n b0 b1 b2 b3).2
 · obtain ⟨w,hwd⟩:∃w,(Lib.decodeN n b0 b1 b2 b3).2=w:=⟨_,rfl⟩
   rw [hwd]at hw
   have hw1:1≤w:=by
    rcases iG n b0 b1 b2 b3 hn with ⟨h,_⟩|⟨_,h,_⟩<;>omega
   have hc:=rP n b0 b1 b2 b3 c1 c2 c3 w hwd (fun h=>h1 (by omega)) (fun h=>h2 (by omega)) (fun h=>h3 (by omega)) hok
   rw [←hc]
   exact vg w g b0 c1 c2 c3 c1 c2 c3 hw1 hw (fun _=>rfl) (fun _=>rfl) (fun _=>rfl) (by rw [hc];exact hok)
 · have hok' :¬((Lib.decodeN g b0 c1 c2 c3).1≠65533∨1<(Lib.decodeN g b0 c1 c2 c3).2):=by
    intro hk
    apply hok
    obtain ⟨w,hwd⟩:∃w,(Lib.decodeN g b0 c1 c2 c3).2=w:=⟨_,rfl⟩
    have hwg:1≤w∧w≤g:=by
     rcases iG g b0 c1 c2 c3 hg with ⟨h,_⟩|⟨_,ha,hb,_⟩<;>omega
    have hc:=rP g b0 c1 c2 c3 b1 b2 b3 w hwd (fun h=>(h1 (by omega)).symm) (fun h=>(h2 (by omega)).symm) (fun h=>(h3 (by omega)).symm) hk
    have:=vg w n b0 b1 b2 b3 b1 b2 b3 hwg.1 (by omega) (fun _=>rfl) (fun _=>rfl) (fun _=>rfl) (by rw [hc];exact hk)
    rw [this,hc];exact hk
   have bad:∀x:Nat×Nat,¬(x.1≠65533∨1<x.2)→1≤x.2→x=(65533,1):=by
    intro x h hx
    have h1:x.1=65533:=Decidable.byContradiction fun e=>h (.inl e)
    have h2:¬1<x.2:=fun e=>h (.inr e)
    exact Prod.ext h1 (by show x.2=1;omega)
   have p1:1≤(Lib.decodeN n b0 b1 b2 b3).2:=by rcases iG n b0 b1 b2 b3 hn with ⟨h,_⟩|⟨_,h,_⟩<;>omega
   have p2:1≤(Lib.decodeN g b0 c1 c2 c3).2:=by rcases iG g b0 c1 c2 c3 hg with ⟨h,_⟩|⟨_,h,_⟩<;>omega
   rw [bad _ hok p1,bad _ hok' p2]
theorem UJ (s u:ByteArray) (d:Nat) (hb:∀k,k<d→bY u k=bY s k) (hd:d≤s.size) (hu:u.size=d) (p:Nat) (hp:p<d) (hw:p+(Utf8.decode s p).2≤d):
 Utf8.decode u p=Utf8.decode s p:=by
 rw [iN]at hw
 rw [iN,iN s p,hb p hp,hu]
 exact Rs (s.size - p) (d - p) (bY s p) (bY s (p+1)) (bY s (p+2)) (bY s (p+3)) _ _ _ (by omega) (by omega) (fun h=>hb _ (by omega)) (fun h=>hb _ (by omega)) (fun h=>hb _ (by omega)) (by omega) (by omega)
theorem Rt (s u:ByteArray) (d:Nat) (hb:∀k,k<d→bY u k=bY s k) (hd:d≤s.size) (hu:u.size=d):
 ∀a pos,pos≤s.size→a≤(dK s pos).length→aT s (dK s pos) a=d→dK u pos=(dK s pos).take a:=by
 intro a
 induction a with
 |zero=>intro pos h _ he;rw [jh s pos h]at he;rw [bI u pos (by omega)];rfl
 |succ a ih=>
  intro pos h hl he
  by_cases hp:pos<s.size
  · have hw:=width_le s pos hp
    have hw0:=width_pos s pos hp
    rw [bD s pos hp]at hl he
    have he' :aT s (dK s (pos+(Utf8.decode s pos).2)) a=d:=he
    have hge:=(nW s a (pos+(Utf8.decode s pos).2) hw).1
    rw [he']at hge
    have hda:=UJ s u d hb hd hu pos (by omega) hge
    rw [bD s pos hp,List.take_succ_cons]
    rw [bD u pos (by omega),hda,ih _ hw (by simpa using hl) he']
  · rw [bI s pos hp]at hl;simp at hl
theorem XH (s:ByteArray) (d k:Nat) (hk:k<d) (hd:d≤s.size):bY (s.extract 0 d) k=bY s k:=by
 have h1:k<(s.extract 0 d).size:=by rw [ByteArray.size_extract];omega
 rw [←kY (s.extract 0 d) k h1,←kY s k (by omega)]
 congr 1
 simp [ByteArray.getElem_extract]
theorem Ht (s:ByteArray) (a:Nat) (ha:a≤(pts s).length):pts (s.extract 0 (aT s (pts s) a))=(pts s).take a:=by
 have hd:=xw s a
 rw [iF,iF s]at *
 exact Rt s _ (aT s (dK s 0) a) (fun k hk=>XH s _ k hk hd) hd (by rw [ByteArray.size_extract];omega) a 0 (Nat.zero_le _) ha rfl
theorem XI (s:ByteArray) (a:Nat) (ha:a≤(pts s).length):Cut s (s.extract (aT s (pts s) a) s.size) ((pts s).take a) (aT s (pts s) a):=
 (XF s ⟨#[32]⟩ a ha (.inl (by decide))).cs
theorem Ru (n b0 b1 b2 b3 c1 c2 c3:Nat) (h1:c1=b1∨(c1 / 64≠2∧b1 / 64≠2)) (h2:c2=b2∨(c2 / 64≠2∧b2 / 64≠2)) (h3:c3=b3∨(c3 / 64≠2∧b3 / 64≠2)):
 Lib.decodeN n b0 c1 c2 c3=Lib.decodeN n b0 b1 b2 b3:=by
 rcases h1 with rfl|⟨h1,h1'⟩<;>rcases h2 with rfl|⟨h2,h2'⟩<;>rcases h3 with rfl|⟨h3,h3'⟩<;>unfold Lib.decodeN<;>simp [*]
def wH (b:Nat):Nat:=if 65≤b∧b≤90 then b+32 else b
def Pt.low (p:Pt):Pt:=⟨wH p.r,p.at_,p.n⟩
theorem zR (s:ByteArray) (k:Nat):bY (fold s) k=wH (bY s k):=by
 by_cases h:k<s.size
 · rw [←kY (fold s) k (by rw [fold_size];exact h),←kY s k h]
   show (((fold s).data[k]'(by show k<(s.data.map qC).size;rw [Array.size_map];exact h))).toNat=_
   unfold fold
   simp only [Array.getElem_map]
   rw [zW];rfl
 · rw [uZ _ k (by rw [fold_size];exact h),uZ s k h];rfl
theorem Bw (b:Nat):wH b=b∨(wH b / 64≠2∧b / 64≠2):=by
 unfold wH
 split
 · right;omega
 · left;rfl
theorem ZG (n b0 b1 b2 b3:Nat) (_hn:1≤n) (h0:128≤b0):wH (Lib.decodeN n b0 b1 b2 b3).1=(Lib.decodeN n b0 b1 b2 b3).1:=by
 suffices h:128≤(Lib.decodeN n b0 b1 b2 b3).1 by unfold wH;rw [if_neg (by omega)]
 unfold Lib.decodeN
 rw [if_neg (by omega)]
 repeat' split
 all_goals (try simp only)
 all_goals omega
theorem Rv (s:ByteArray) (k:Nat) (hk:k<s.size):Utf8.decode (fold s) k=(wH (Utf8.decode s k).1,(Utf8.decode s k).2):=by
 rw [iN,iN s k,fold_size,zR,zR,zR,zR,Ru _ _ _ _ _ _ _ _ (Bw _) (Bw _) (Bw _)]
 by_cases h0:bY s k<128
 · have e:∀b,b<128→Lib.decodeN (s.size - k) b (bY s (k+1)) (bY s (k+2)) (bY s (k+3))=(b,1):=fun b hb=>by unfold Lib.decodeN;rw [if_pos hb]
   rw [e _ h0,e _ (by unfold wH;split<;>omega)]
 · have:wH (bY s k)=bY s k:=by unfold wH;rw [if_neg (by omega)]
   rw [this,ZG _ _ _ _ _ (by omega) (by omega)]
theorem J3 (s:ByteArray):∀n pos,s.size - pos≤n→dK (fold s) pos=(dK s pos).map Pt.low:=by
 intro n
 induction n with
 |zero=>intro pos h;rw [bI s pos (by omega),bI _ pos (by rw [fold_size];omega)];rfl
 |succ n ih=>
  intro pos h
  by_cases hp:pos<s.size
  · have hw0:=width_pos s pos hp
    rw [bD s pos hp,bD _ pos (by rw [fold_size];exact hp),Rv s pos hp,List.map_cons,ih _ (by omega)]
    rfl
  · rw [bI s pos hp,bI _ pos (by rw [fold_size];exact hp)];rfl
theorem Hu (s:ByteArray):pts (fold s)=(pts s).map Pt.low:=by
 rw [iF,iF s];exact J3 s s.size 0 (by omega)
theorem Rw (p:Pt):p.low.ok=p.ok:=by
 unfold Pt.low Pt.ok wH
 simp only
 split
 · rename_i h
   have e1:((((p.r+32:Nat)):Int) !=65533)=true:=by simp;omega
   have e2:((p.r:Int) !=65533)=true:=by simp;omega
   rw [e1,e2]
 · rfl
theorem Hw (P:List Pt) (i:Nat):dQ (P.map Pt.low) i=dQ P i:=by
 unfold dQ
 rw [List.getElem?_map]
 cases P[i]? with
 |none=>rfl
 |some p=>
  simp only [Option.map_some,Rw]
  congr 1
  unfold Pt.low wH kT
  simp only
  split
  · rename_i h
    have e1:(decide (97≤(((p.r+32:Nat)):Int))&&decide ((((p.r+32:Nat)):Int)≤122))=true:=by simp;omega
    have e2:(decide (65≤(p.r:Int))&&decide ((p.r:Int)≤90))=true:=by simp;omega
    rw [e1,e2];simp
  · rfl
theorem Rx (P:List Pt) (i:Nat):dn (P.map Pt.low) i=dn P i:=by
 unfold dn
 rw [List.getElem?_map]
 cases P[i]? with
 |none=>rfl
 |some p=>
  simp only [Option.map_some]
  unfold Pt.low wH kE
  simp only
  split
  · rename_i h
    have e1:decide ((((p.r+32:Nat)):Int)≤57)=false:=by simp;omega
    have e2:decide ((p.r:Int)≤57)=false:=by simp;omega
    rw [e1,e2];simp
  · rfl
theorem J4 (s:ByteArray):valid (fold s)=valid s:=by
 unfold valid
 rw [Hu,List.all_map]
 congr 1
 funext p
 exact Rw p
theorem Bz (s:ByteArray):jQ (fold s)=jQ s:=by
 unfold jQ
 rw [J4,Hu,Hw,List.length_map]
 congr 2
 congr 1
 funext k
 rw [Hw,Rx]
theorem UK {P:List Pt}{i:Nat}(h:dQ P i=true∨dn P i=true) (hi:i<P.length):P[i].ok=true:=by
 unfold dQ dn at h
 rw [List.getElem?_eq_getElem hi]at h
 simp only at h
 rcases h with h|h
 · exact (Bool.and_eq_true _ _▸h).1
 · unfold kE at h
   simp only [Bool.and_eq_true,decide_eq_true_eq]at h
   unfold Pt.ok
   have:((P[i].r:Int) !=65533)=true:=by simp;omega
   rw [this];rfl
theorem Ry {f:Nat→Bool}{len i:Nat}:∀k,i≤k→k<dD f len i→f k=true:=by
 unfold dD
 have:∀n i k,i≤k→k<vk f n i→f k=true:=by
  intro n
  induction n with
  |zero=>intro i k h1 h2;rw [vk]at h2;omega
  |succ n ih=>
   intro i k h1 h2
   rw [vk]at h2
   split at h2
   · rename_i hf
     by_cases hk:k=i
     · subst hk;exact hf
     · exact ih (i+1) k (by omega) h2
   · omega
 exact this _ _
theorem Hy (s:ByteArray) (i:Nat) (h:dQ (pts s) i=true):jQ (lq s (pts s) i)=true:=by
 have hi:=zG h
 obtain ⟨h1,h2⟩:=vw h
 have hc:=XI s i (by omega)
 obtain ⟨t,ht⟩:∃t,s.extract (aT s (pts s) i) s.size=t:=⟨_,rfl⟩
 rw [ht]at hc
 have hA:((pts s).take i).length=i:=by rw [List.length_take];omega
 have e1:=hc.lq 0
 have e2:=hc.eZ 0
 have e3:=hc.dQ 0
 have e4:=hc.len
 rw [hA,Nat.add_zero]at e1 e2 e3
 rw [hA]at e4
 rw [e1]
 rw [h]at e3
 obtain ⟨m,hm⟩:∃m,eZ (pts t) 0=m:=⟨_,rfl⟩
 rw [hm]at e2
 unfold lq
 rw [hm,ni]
 have hml:m≤(pts t).length:=by omega
 have hall:∀k,k<m→dQ (pts t) k=true∨dn (pts t) k=true:=by
  intro k hk
  have:=Ry (f:=fun k=>dQ (pts t) k||dn (pts t) k) (len:=(pts t).length) (i:=0) k (Nat.zero_le _) (by
   have:dD (fun k=>dQ (pts t) k||dn (pts t) k) (pts t).length 0=m:=hm
   omega)
  simpa using this
 have hg:∀k,k<m→(((pts t).take m)[k]? =(pts t)[k]?):=fun k hk=>by rw [List.getElem?_take,if_pos hk]
 have hl:∀k,k<m→dQ ((pts t).take m) k=dQ (pts t) k:=fun k hk=>by unfold dQ;rw [hg k hk]
 have hd:∀k,k<m→dn ((pts t).take m) k=dn (pts t) k:=fun k hk=>by unfold dn;rw [hg k hk]
 unfold jQ
 rw [Ht t m hml]
 simp only [Bool.and_eq_true]
 refine ⟨⟨?_, ?_⟩, ?_⟩
 · rw [hl 0 (by omega)];exact e3.symm
 · rw [List.all_eq_true]
   intro k hk
   rw [List.mem_range,List.length_take]at hk
   have hkm:k<m:=by omega
   rw [hl k hkm,hd k hkm,Bool.or_eq_true]
   exact hall k hkm
 · unfold valid
   rw [Ht t m hml,List.all_eq_true]
   intro p hp
   obtain ⟨k,hk,rfl⟩:=List.getElem_of_mem hp
   rw [List.length_take]at hk
   rw [List.getElem_take]
   exact UK (hall k (by omega)) (by omega)
theorem UL (P:List Pt):∀n i v ok,0≤v→v≤1099511627776→0≤(nU P n i v ok).1∧(nU P n i v ok).1≤1099511627776:=by
 intro n
 induction n with
 |zero=>intro i v ok h1 h2;exact ⟨h1,h2⟩
 |succ n ih=>
  intro i v ok h1 h2
  rw [nU]
  split
  · rename_i hd
    refine ih _ _ _ ?_ ?_
    · have hr:48≤mR P i:=by
       unfold dn at hd
       unfold mR
       cases hx:P[i]? with
       |none=>rw [hx]at hd;exact absurd hd (by simp)
       |some p=>
        rw [hx]at hd
        unfold kE at hd
        simp only [Bool.and_eq_true,decide_eq_true_eq]at hd⊢;exact hd.1
      omega
    · omega
  · exact ⟨h1,h2⟩
theorem NC (s:ByteArray) (i:Nat) (h:(dF s (pts s) i).2.1=true):JJ (dF s (pts s) i).1.fo:=by
 unfold dF at h⊢
 split at h
 · rename_i h1
   rw [if_pos h1]
   refine .inl ⟨rfl, ?_, ?_, ?_,rfl⟩
   · show jQ (fold _)=true
     rw [Bz];exact Hy s i h1
   · exact Mr _
   · show (fold _).size≤100
     rw [fold_size]
     unfold jL at h
     simpa using h
 rename_i h1
 rw [if_neg h1]
 split at h
 · rename_i h2
   rw [if_pos h2]
   refine .inr (.inl ⟨rfl,rfl, ?_⟩)
   obtain ⟨g1,g2⟩:=UL (pts s) ((pts s).length - bK (pts s) i) (bK (pts s) i) 0 (dn (pts s) (bK (pts s) i)) (Int.le_refl _) (by decide)
   show -1099511627776≤(if gy (pts s) i 45=true then -(iA (pts s) i).1 else (iA (pts s) i).1)∧(if gy (pts s) i 45=true then -(iA (pts s) i).1 else (iA (pts s) i).1)≤1099511627776
   change 0≤(iA (pts s) i).1 at g1
   change (iA (pts s) i).1≤_ at g2
   split<;>omega
 rename_i h2
 rw [if_neg h2]
 split at h
 · rename_i h3
   rw [if_pos h3]
   unfold jf at h⊢
   split at h
   · rename_i x hx
     simp only [Bool.and_eq_true,decide_eq_true_eq]at h
     exact .inr (.inr (.inl ⟨rfl,h.2,h.1,rfl⟩))
   · exact absurd h (by simp)
 rename_i h3
 rw [if_neg h3]
 split at h
 · rename_i h4
   rw [if_pos h4]
   refine .inr (.inr (.inr ⟨rfl, ?_,rfl⟩))
   show qI ⟨#[UInt8.ofNat (mR (pts s) i).toNat]⟩ vW=true
   unfold yF at h4
   simp only [Bool.or_eq_true,beq_iff_eq]at h4
   rcases h4 with ((((h4|h4)|h4)|h4)|h4)|h4<;>rw [h4]<;>decide+kernel
 · exact absurd h (by simp)
theorem UM (s:ByteArray):∀n i l,dS s (pts s) n i= .ok l→∀t∈l,JJ t.fo:=by
 intro n
 induction n with
 |zero=>intro i l h t ht;rw [dS]at h;cases h;exact absurd ht (by simp)
 |succ n ih=>
  intro i l h t ht
  rw [dS]at h
  split at h
  · cases h;exact absurd ht (by simp)
  · split at h
    · rename_i hb
      cases hr:dS s (pts s) n (dF s (pts s) (skip (pts s) i)).2.2 with
      |error a=>rw [hr]at h;cases h
      |ok r=>
       rw [hr]at h
       cases h
       rcases List.mem_cons.1 ht with rfl|ht
       · exact NC s _ hb
       · exact ih _ _ hr t ht
    · cases h
theorem Lx.ok {s:ByteArray}{T:List Tk}(h:Lx s T) (en:Nat):(⟨T,en⟩:Tx).Ok:=by
 intro t ht
 unfold Tx.F at ht
 obtain ⟨u,hu,rfl⟩:=List.mem_map.1 ht
 exact UM s _ _ _ h u hu
def jT.zero:jT:=⟨Sx.zero, []⟩
def iX (X:Tx):Tx.Nd×Ps:=
 let r:=X.iq (X.T.length+2) ⟨0,none⟩
 let σ:=X.may r.2 (⟨#[59]⟩:ByteArray)
 (r.1,if σ.i<X.T.length then X.fail σ else σ)
def bB (s:ByteArray):jT×Int×Int:=
 let l:=aX s
 if l.2.2≠0 then (jT.zero,l.2.1,l.2.2)
 else
  let r:=iX ⟨l.1,(pts s).length⟩
  match r.2.bad with
  |some a=>(jT.zero,a,3)
  |none=>if 1000<(fq (jE r.1)).size then (jT.zero,0,2)else (jE r.1,0,0)
def ND (R:List To):Prop:=R= []∨R= [aR (⟨#[59]⟩:ByteArray)]
theorem ND.fin {R:List To}(h:ND R):Ba R:=by
 rcases h with rfl|rfl
 · exact Un
 · exact GJ []
theorem Hz {X:Tx}{i:Nat}(h:X.T.length≤i):X.F.drop i= []:=by
 apply List.drop_eq_nil_of_le;unfold Tx.F;rw [List.length_map];exact h
theorem kQ {X:Tx}(hX:X.Ok) (h:(iX X).2.bad=none):∃L R,GN (iX X).1 L∧X.F=L++R∧ND R:=by
 unfold iX at h⊢
 simp only at h⊢
 obtain ⟨⟨nd,σ⟩,hr⟩:∃r,X.iq (X.T.length+2) ⟨0,none⟩=r:=⟨_,rfl⟩
 simp only [hr]at h⊢
 obtain ⟨h1,h2⟩:=oC (σ:=X.may σ (⟨#[59]⟩:ByteArray)) (a:=X.here (X.may σ (⟨#[59]⟩:ByteArray))) h
 have hb:(X.may σ (⟨#[59]⟩:ByteArray)).bad=none:=by rw [←h2];exact h
 have hs:σ.bad=none:=by
  unfold Tx.may at hb
  split at hb
  · rename_i hs;exact kM hs
  · exact hb
 obtain ⟨L,hG,hc⟩:=Ui hX (X.T.length+1) ⟨0,none⟩ (by rw [hr];exact hs)
 rw [hr]at hG hc
 have hF:X.F=L++X.F.drop σ.i:=by have:=hc.2;simpa using this
 refine ⟨L,X.F.drop σ.i,hG,hF, ?_⟩
 unfold Tx.may at h1
 split at h1
 · rename_i sW
   right
   rw [Gy hX sW]
   rw [Hz (X:=X) (i:=σ.i+1) (Nat.not_lt.1 h1)]
 · left;exact Hz (Nat.not_lt.1 h1)
theorem NG {X:Tx}{nd:Tx.Nd}{L R:List To}(hG:GN nd L) (hF:X.F=L++R) (hR:ND R):(iX X).1=nd∧(iX X).2.bad=none:=by
 have h0:gL X ⟨0,none⟩ (L++R):=⟨rfl,by rw [List.drop_zero];exact hF⟩
 obtain ⟨h1,h2⟩:=Xr X.T.length hG h0 hR.fin
 unfold iX
 simp only
 refine ⟨h1, ?_⟩
 have fin:∀τ,gL X τ []→(if τ.i<X.T.length then X.fail τ else τ).bad=none:=by
  intro τ HV
  rw [if_neg]
  · exact HV.1
  · intro hl
    have:=HV.2
    have hlen:(X.F.drop τ.i).length=0:=by rw [this];rfl
    rw [List.length_drop]at hlen
    unfold Tx.F at hlen
    rw [List.length_map]at hlen
    omega
 rcases hR with rfl|rfl
 · have e:X.may (X.iq (X.T.length+2) ⟨0,none⟩).2 (⟨#[59]⟩:ByteArray)=(X.iq (X.T.length+2) ⟨0,none⟩).2:=if_neg (by rw [h2.sees];decide)
   rw [e]
   exact fin _ h2
 · have e:X.may (X.iq (X.T.length+2) ⟨0,none⟩).2 (⟨#[59]⟩:ByteArray)=(X.iq (X.T.length+2) ⟨0,none⟩).2.step:=if_pos (by rw [h2.sees,aQ];rfl)
   rw [e]
   exact fin _ h2.step
theorem sK {s:ByteArray}(h:(aX s).2.2=0):Lx s (aX s).1∧s.size≤1000:=by
 unfold aH.aX at h⊢
 split at h
 · exact absurd h (by decide)
 · rename_i hs
   rw [if_neg hs]
   unfold Lx
   cases hl:dS s (pts s) ((pts s).length+1) 0 with
   |ok l=>exact ⟨rfl,by omega⟩
   |error a=>rw [hl]at h;exact absurd h (show¬((3:Int)=0)by decide)
theorem J5 {s:ByteArray}{z:jT}{a:Int}(h:bB s=(z,a,0)):
 ∃nd L R,GN nd L∧z=jE nd∧a=0∧(fq z).size≤1000∧LxF s (L++R)∧ND R∧s.size≤1000:=by
 unfold bB at h
 simp only at h
 split at h
 · rename_i he
   injection h with _ h
   injection h with _ h
   exact absurd h he
 · rename_i he
   obtain ⟨hx,hsz⟩:=sK (Decidable.not_not.1 he)
   have hX:=Lx.ok hx (pts s).length
   split at h
   · injection h with _ h
     injection h with _ h
     exact absurd h (by decide)
   · rename_i hb
     split at h
     · injection h with _ h
       injection h with _ h
       exact absurd h (by decide)
     · rename_i hbig
       injection h with h1 h2
       injection h2 with h2 _
       obtain ⟨L,R,hG,hF,hR⟩:=kQ hX hb
       refine ⟨_,L,R,hG,h1.symm,h2.symm,by rw [←h1];omega,⟨_,hx,hF⟩,hR,hsz⟩
theorem NH {s:ByteArray}{nd:Tx.Nd}{L R:List To}(hG:GN nd L) (hR:ND R) (hx:LxF s (L++R)) (hs:s.size≤1000) (ht:(fq (jE nd)).size≤1000):bB s=(jE nd,0,0):=by
 obtain ⟨T,hT,hF⟩:=hx
 have hl:=hT.aX hs
 unfold bB
 rw [hl]
 simp only
 rw [if_neg (by decide)]
 obtain ⟨h1,h2⟩:=NG (X:=⟨T,(pts s).length⟩) hG hF hR
 rw [h2]
 simp only
 rw [h1,if_neg (by omega)]
def May (z:jT):Prop:=∃nd L,GN nd L∧z=jE nd∧(fq z).size≤1000
theorem uM {s:ByteArray}{z:jT}{a:Int}(h:bB s=(z,a,0)):May z:=by
 obtain ⟨nd,L,R,h1,h2,_,h3,_⟩:=J5 h
 exact ⟨nd,L,h1,h2,h3⟩
theorem sM {z:jT}(h:May z):bB (fq z)=(z,0,0):=by
 obtain ⟨nd,L,h1,rfl,h3⟩:=h
 obtain ⟨g1,g2⟩:=h1.text
 have:=g2.lex
 exact NH (R:= []) g1 (.inl rfl) (by rw [List.append_nil];exact this) h3 h3
def iJ (x:Sx):Bool:=decide (x.aO.length≤10∧x.sets.length≤10∧x.aP.length≤2∧x.aN.length≤10)
theorem NI {z:jT}(h:May z):iJ z.x=true∧z.parts.length≤8∧∀y∈z.parts,iJ y=true:=by
 obtain ⟨nd,L,h1,rfl,h3⟩:=h
 have abw:∀(c:List ByteArray) (v:List Tm),(List.zipWith Pr.mk c v).length≤c.length:=fun c v=>by rw [List.length_zipWith];omega
 have hC:∀{x:Sx} {L:List To},GC x L→iJ x=true:=by
  intro x L hx
  cases hx with
  |insert o c v a b h=>have:=h.2.2.1.2.2;have:=abw c v;refine decide_eq_true ⟨?_, ?_, ?_, ?_⟩<;>simp [ny,Sx.zero]<;>omega
  |update o a b c v h=>have:=h.2.2.1.2.2.2;have:=h.2.2.2.2;refine decide_eq_true ⟨?_, ?_, ?_, ?_⟩<;>simp [p8,Sx.zero]<;>omega
  |remove o a b c h=>have:=h.1.2.2;have:=h.2.2.2.2;refine decide_eq_true ⟨?_, ?_, ?_, ?_⟩<;>simp [qd,Sx.zero]<;>omega
 cases h1 with
 |change h=>exact ⟨hC h,by simp [jE],by simp [jE]⟩
 |plain h=>
  refine ⟨?_,by simp [jE],by simp [jE]⟩
  show iJ _=true
  cases h with
  |ask o c v a h=>have:=h.1.2.2;have:=h.2.2.1.2;refine decide_eq_true ⟨?_, ?_, ?_, ?_⟩<;>simp [jE,JN,Sx.zero]<;>omega
  |view o c v a p q h=>have:=h.2.1.2.2;refine decide_eq_true ⟨?_, ?_, ?_, ?_⟩<;>simp [jE,tO,Sx.zero]<;>omega
  |index=>rfl
  |drop=>rfl
  |table o c v a h=>
   obtain ⟨p,q,D,_,_,e0,_,ok⟩:=nE h
   have:=ok.2.2.2.1
   rw [e0]
   simp at this
   refine decide_eq_true ⟨?_, ?_, ?_, ?_⟩<;>simp [jE,Sx.zero]<;>omega
 | @batch l L h1 h2 h4=>
  refine ⟨rfl,h4, ?_⟩
  show∀y∈l,_
  clear h3 h2 h4
  induction h1 with
  |nil=>simp
  |cons hx _ ih=>
   intro y hy
   rcases List.mem_cons.1 hy with rfl|hy
   · exact hC hx
   · exact ih y hy
end aH
end Go.Proofs.YtfbgdjcnlnfoaaaGreatDoor
namespace Go.Proofs
open Go.Shelf
def Tryz.EU:Go.Shelf.Ren:=⟨fun|171=>59|243=>99|246=>142|283=>170|284=>171|285=>172|286=>173|129=>191|317=>190|318=>192|319=>193|320=>194|337=>199|338=>200|n=>n,fun|3=>3|9=>9|2=>2|4=>4|171=>184|0=>0|53=>185|37=>75|5=>5|173=>188|212=>205|51=>206|20=>20|213=>207|46=>46|232=>227|233=>228|n=>n,fun|17=>3|18=>6|19=>7|n=>n⟩
theorem Tryz.Rz:Go.Proofs.LaysM.n171 Tryz.prog Tryz.EU:={
 mixed:=by kernel_rfl
 f129:=Tryz.func191.trans (congrArg some (by kernel_rfl))
 f171:=Tryz.func59.trans (congrArg some (by kernel_rfl))
 f243:=Tryz.func99.trans (congrArg some (by kernel_rfl))
 f246:=Tryz.func142.trans (congrArg some (by kernel_rfl))
 f283:=Tryz.func170.trans (congrArg some (by kernel_rfl))
 f284:=Tryz.func171.trans (congrArg some (by kernel_rfl))
 f285:=Tryz.func172.trans (congrArg some (by kernel_rfl))
 f286:=Tryz.func173.trans (congrArg some (by kernel_rfl))
 f317:=Tryz.func190.trans (congrArg some (by kernel_rfl))
 f318:=Tryz.func192.trans (congrArg some (by kernel_rfl))
 f319:=Tryz.func193.trans (congrArg some (by kernel_rfl))
 f320:=Tryz.func194.trans (congrArg some (by kernel_rfl))
 f337:=Tryz.func199.trans (congrArg some (by kernel_rfl))
 f338:=Tryz.func200.trans (congrArg some (by kernel_rfl))
 t0:=Tryz.underlying0
 a0:=Tryz.isAgg0
 z0:=Tryz.sizeOf0
 v0:=Tryz.zeroValue0
 t2:=Tryz.underlying2
 a2:=Tryz.isAgg2
 z2:=Tryz.sizeOf2
 v2:=Tryz.zeroValue2
 t3:=Tryz.underlying3
 a3:=Tryz.isAgg3
 z3:=Tryz.sizeOf3
 v3:=Tryz.zeroValue3
 t4:=Tryz.underlying4
 a4:=Tryz.isAgg4
 z4:=Tryz.sizeOf4
 v4:=Tryz.zeroValue4
 t5:=Tryz.underlying5
 a5:=Tryz.isAgg5
 z5:=Tryz.sizeOf5
 v5:=Tryz.zeroValue5
 t9:=Tryz.underlying9
 a9:=Tryz.isAgg9
 z9:=Tryz.sizeOf9
 v9:=Tryz.zeroValue9
 t20:=Tryz.underlying20
 a20:=Tryz.isAgg20
 z20:=Tryz.sizeOf20
 v20:=Tryz.zeroValue20
 t37:=Tryz.underlying75
 a37:=Tryz.isAgg75
 z37:=Tryz.sizeOf75
 v37:=Tryz.zeroValue75
 t46:=Tryz.underlying46
 a46:=Tryz.isAgg46
 z46:=Tryz.sizeOf46
 v46:=Tryz.zeroValue46
 t51:=Tryz.underlying206
 a51:=Tryz.isAgg206
 z51:=Tryz.sizeOf206
 v51:=Tryz.zeroValue206
 t53:=Tryz.underlying185
 a53:=Tryz.isAgg185
 z53:=Tryz.sizeOf185
 v53:=Tryz.zeroValue185
 t171:=Tryz.underlying184
 a171:=Tryz.isAgg184
 z171:=Tryz.sizeOf184
 v171:=Tryz.zeroValue184
 t173:=Tryz.underlying188
 a173:=Tryz.isAgg188
 z173:=Tryz.sizeOf188
 v173:=Tryz.zeroValue188
 t212:=Tryz.underlying205
 a212:=Tryz.isAgg205
 z212:=Tryz.sizeOf205
 v212:=Tryz.zeroValue205
 t213:=Tryz.underlying207
 a213:=Tryz.isAgg207
 z213:=Tryz.sizeOf207
 t232:=Tryz.underlying227
 a232:=Tryz.isAgg227
 z232:=Tryz.sizeOf227
 v232:=Tryz.zeroValue227
 t233:=Tryz.underlying228
 a233:=Tryz.isAgg228
 z233:=Tryz.sizeOf228
 v233:=Tryz.zeroValue228
 g17:=by kernel_rfl
 g18:=by kernel_rfl
 g19:=by kernel_rfl
 i0:=by kernel_rfl
 i2:=by kernel_rfl
 i3:=by kernel_rfl
 i4:=by kernel_rfl
 i5:=by kernel_rfl
 i9:=by kernel_rfl
 i20:=by kernel_rfl
 i37:=by kernel_rfl
 i46:=by kernel_rfl
 i51:=by kernel_rfl
 i53:=by kernel_rfl
 i171:=by kernel_rfl
 i173:=by kernel_rfl
 i212:=by kernel_rfl
 i232:=by kernel_rfl
 i233:=by kernel_rfl
 m17:=by kernel_rfl
 m18:=by kernel_rfl
 m19:=by kernel_rfl}
open Go.RowKit Go.Sort Go.Lib in
theorem Tryz.strconv_Itoa (n:Int) (h0: -9223372036854775808≤n) (h1:n≤9223372036854775807) (w:World) (htab:Lib.TabIs Tryz.prog w "internal/strconv.uint64pow10" .u64 Lib.pow10Tab):
 Calls Tryz.prog 59 #[.int .i64 n] w fun e w' =>e= .returned (.string ⟨(Lib.itoa n).toArray⟩)∧∃k os,w' =grow (w.drewN k) os:=Any.strconv_Itoa Tryz.Rz n h0 h1 w htab
end Go.Proofs
namespace Go.Proofs.YtfbgdjcnlnfoaaaGreatDoor
open Go.RowKit
open aH
def Rd (w:World) (u:Value) (n:Nat) (xs:List Value):Prop:=
 ∃a cap,u= .slice a n cap∧(0<n→∃g o,a=some ⟨g,o,none⟩∧∀k v,xs[k]? =some v→w.cell? ⟨g,o+k,none⟩=some v)
theorem cell_of_block {w w' :World}{a:Addr}(h:w'.heap[a.block]? =w.heap[a.block]?):w'.cell? a=w.cell? a:=by
 unfold World.cell?;rw [h]
theorem aJ {w w' :World}{a:Addr}{v:Value}(hb:Below w.heap.size w w') (h:w.cell? a=some v):w'.cell? a=some v:=by
 have:=eY h
 rw [cell_of_block (hb.block _ this)];exact h
theorem Rd.below {w w' :World}{u:Value}{n:Nat}{xs:List Value}(h:Rd w u n xs) (hb:Below w.heap.size w w'):Rd w' u n xs:=by
 obtain ⟨a,cap,hu,hx⟩:=h
 refine ⟨a,cap,hu,fun hn=> ?_⟩
 obtain ⟨g,o,ha,hc⟩:=hx hn
 exact ⟨g,o,ha,fun k v hk=>aJ hb (hc k v hk)⟩
theorem Rd.own {w:World}{base:Nat}{e:TypeId}{size n:Nat}{u:Value}{xs:List Value}(h:w.ownsRow base e size u n xs):Rd w u n xs:=by
 obtain ⟨a,cap,hu,hx⟩:=aY h
 refine ⟨a,cap,hu,fun hn=> ?_⟩
 obtain ⟨g,ha,_⟩:=hx hn
 subst ha
 refine ⟨g,0,rfl,fun k v hk=> ?_⟩
 rw [Nat.zero_add]
 exact aV (hu▸h) k v hk
theorem jc {L:List Cl}{j:Nat}{q:Cl}(h:L[j]? =some q) (i:Nat) (hi:i<2):(iM L)[j*2+i]? =(kU q)[i]? :=by
 obtain ⟨hj,rfl⟩:=List.getElem?_eq_some_iff.1 h
 exact oq L j i hj hi
theorem bO:∀{L:List Pr}{j:Nat}{q:Pr}(_:L[j]? =some q) (i:Nat) (_:i<4),(bQ L)[j*4+i]? =(jX q)[i]?
 |p::l,0,q,h,i,hi=>by
  cases h
  simp only [bQ,List.flatMap_cons,Nat.zero_mul,Nat.zero_add]
  rw [List.getElem?_append_left (by simp [jX];omega)]
 |p::l,k+1,q,h,i,hi=>by
  have:=bO (L:=l) (j:=k) (q:=q) (by simpa using h) i hi
  simp only [bQ,List.flatMap_cons]at this⊢
  rw [List.getElem?_append_right (by simp [jX];omega)]
  have e:(k+1)*4+i - (jX p).length=k*4+i:=by simp [jX];omega
  rw [e];exact this
def cB (sep:ByteArray) (l:List ByteArray):ByteArray:=⟨(Lib.join (l.map (·.data.toList)) sep.data.toList).toArray⟩
theorem oN (u:Value) (l:List ByteArray) (sep:ByteArray) (w:World) (hr:Rd w u l.length (l.map Value.string)) (hcap:∀a c,u= .slice a l.length c→l.length≤c) (hs:(cB sep l).size≤140737488355328) (hl:l.length≤1000):
 Calls Tryz.prog 95 #[u, .string sep] w fun e w' =>e= .returned (.string (cB sep l))∧Below w.heap.size w w' :=by
 obtain ⟨a,cap,rfl,hx⟩:=hr
 have hc:=hcap a cap rfl
 cases l with
 |nil=>
  refine (Tryz.strings_Join_none a cap sep w).mono ?_
  rintro e w' ⟨rfl,rfl⟩
  exact ⟨rfl,Below.refl _ _⟩
 |cons x l=>
  obtain ⟨g,o,rfl,hg⟩:=hx (by simp)
  refine Tryz.strings_Join g o cap (x::l) sep w (fun j y hj=>hg j _ (by rw [List.getElem?_map,hj];rfl)) ?_ (by omega) hc ?_
  · have:=eY (hg 0 (.string x) rfl);exact this
  · have:(cB sep (x::l)).size=(Lib.join ((x::l).map (·.data.toList)) sep.data.toList).length:=by unfold cB;simp [ByteArray.size]
    rw [←this];exact hs
theorem iU {w:World}{base:Nat}{e:TypeId}{size n:Nat}{u:Value}{xs:List Value}(h:w.ownsRow base e size u n xs):∀a c,u= .slice a n c→n≤c:=by
 intro a c hu
 rcases h.2 with ⟨_,h0⟩|⟨g,cap,cur,rfl,_,_,hnc,_⟩
 · omega
 · cases hu;exact hnc
theorem EW {w:World}{u:Value}{L:List ByteArray}{sep:ByteArray}{T:ByteArray→ByteArray}(hl:L.length≤100) (hr:Rd w u L.length (L.map Value.string))
 (hf:∀q∈L,∀w',Below w.heap.size w w' →Calls Tryz.prog 97 #[.string q] w' fun e w'' =>e= .returned (.string (T q))∧Below w'.heap.size w' w'')
 (hs:(cB sep (L.map T)).size≤140737488355328):
 Calls Tryz.prog 96 #[u, .string sep, .func (.func 97) #[] #[]] w fun e w' =>e= .returned (.string (cB sep (L.map T)))∧Below w.heap.size w w' :=by
 obtain ⟨a,cap,rfl,hx0⟩:=hr
 go_enter Tryz.func96,Tryz.ntmps96
 go_wp2_with fail
 go_loopw [7,12] (fun out i wr=>∃(j:Nat) (a3:Option Addr) (c3:Nat),out= .slice a3 j c3∧i= .int .i64 j∧j≤L.length∧Below w.heap.size w wr∧wr.ownsRow w.heap.size 9 1 (.slice a3 j c3) j (((L.take j).map T).map Value.string)) (fun _ i _=>L.length - (intOf i).toNat)
 case atStart=>exact ⟨0,none,0,rfl,rfl,Nat.zero_le _,Below.refl _ _,World.ownsRow_nil _ _ _ _⟩
 case round=>
  obtain ⟨j,a3,c3,rfl,rfl,hj,hBr,hown⟩:=hrel
  have hsz:=hBr.size
  by_cases hjl:j<L.length
  · have p0:(j:Int)<(L.length:Int):=by omega
    have p1:(0:Int)≤(j:Int):=by omega
    have HJ:=Lib.hid (show j+1≤L.length from hjl)
    obtain ⟨g,o,rfl,hx⟩:=hx0 (by omega)
    obtain ⟨q,hq⟩:∃q,L[j]? =some q:=⟨_,List.getElem?_eq_getElem hjl⟩
    have k0:=hx j (.string q) (by rw [List.getElem?_map,hq];rfl)
    have ZH:=aJ hBr k0
    have hB1:=hBr
    have hc:=hf q (List.mem_of_getElem? hq) _ hB1
    have HT:Hid (((L.take (j+1)).map T).map Value.string=((L.take j).map T).map Value.string++ [.string (T q)]):=by
     obtain ⟨hj2,rfl⟩:=List.getElem?_eq_some_iff.1 hq
     show _=_
     rw [List.take_succ_eq_append_getElem hj2,List.map_append,List.map_append];rfl
    clear hq
    go_wp2_with fail
    refine hc.mono ?_;rintro e w2 ⟨rfl,hb2⟩
    have hB2:=hB1.trans (hb2.mono hB1.size)
    have hown2:=fB (hown) hb2
    have hs2:=hB2.size
    go_wp2_with (at_builtin;refine app1 Tryz.vH rfl _ _ rfl w.heap.size _ _ _ rfl (hown2.alloc _) _ _ [.string (T q)] rfl rfl (bn _ _ _) (by intro u hu;rw [List.mem_singleton.1 hu];rfl) (by have:=HJ.out;omega) (by simp;omega) ?_;intro a5 c5 w5 h5 hg5 Cq)
    have yZ:=below_app (hB2.alloc hs2 _) (by rw [aA];omega) hg5 (fun g2 hg2=>(hown2.lt g2 hg2).1)
    go_wp2_with fail
    go_roundw
    case rel=>exact ⟨j+1,a5,c5,rfl,by go_num,HJ.out,yZ,by rw [HT.out];exact h5⟩
    case measure=>have hjj:=HJ.out;simp [intOf];omega
  · have mo:j=L.length:=by omega
    subst mo
    rw [List.take_length]at hown
    have hlen:(L.map T).length=L.length:=List.length_map ..
    have hj:=oN (.slice a3 L.length c3) (L.map T) sep wr (by rw [hlen];exact Rd.own hown) (by rw [hlen];exact iU hown) hs (by omega)
    go_wp2_with fail
    refine hj.mono ?_;rintro e w9 ⟨rfl,RA⟩
    go_wp2_with fail
    go_ret
    exact ⟨rfl,hBr.trans (RA.mono hsz)⟩
theorem XJ {w:World}{u:Value}{L:List Cl}{sep:ByteArray}{T:Cl→ByteArray}(hl:L.length≤100) (hr:Rd w u L.length (iM L))
 (hf:∀q∈L,∀w',Below w.heap.size w w' →Calls Tryz.prog 50 #[.agg #[.string q.name, .int .i64 q.ty]] w' fun e w'' =>e= .returned (.string (T q))∧Below w'.heap.size w' w'')
 (hs:(cB sep (L.map T)).size≤140737488355328):
 Calls Tryz.prog 49 #[u, .string sep, .func (.func 50) #[] #[]] w fun e w' =>e= .returned (.string (cB sep (L.map T)))∧Below w.heap.size w w' :=by
 obtain ⟨a,cap,rfl,hx0⟩:=hr
 go_enter Tryz.func49,Tryz.ntmps49
 go_wp2_with fail
 go_loopw [7,12] (fun out i wr=>∃(j:Nat) (a3:Option Addr) (c3:Nat),out= .slice a3 j c3∧i= .int .i64 j∧j≤L.length∧Below w.heap.size w wr∧wr.ownsRow w.heap.size 9 1 (.slice a3 j c3) j (((L.take j).map T).map Value.string)) (fun _ i _=>L.length - (intOf i).toNat)
 case atStart=>exact ⟨0,none,0,rfl,rfl,Nat.zero_le _,Below.refl _ _,World.ownsRow_nil _ _ _ _⟩
 case round=>
  obtain ⟨j,a3,c3,rfl,rfl,hj,hBr,hown⟩:=hrel
  have hsz:=hBr.size
  by_cases hjl:j<L.length
  · have p0:(j:Int)<(L.length:Int):=by omega
    have p1:(0:Int)≤(j:Int):=by omega
    have HJ:=Lib.hid (show j+1≤L.length from hjl)
    obtain ⟨g,o,rfl,hx⟩:=hx0 (by omega)
    obtain ⟨q,hq⟩:∃q,L[j]? =some q:=⟨_,List.getElem?_eq_getElem hjl⟩
    have k0:=hx (j*2) (.string q.name) (by rw [show j*2=j*2+0 from rfl,jc hq 0 (by omega)];rfl)
    have k1:=hx (j*2+1) (.int .i64 q.ty) (by rw [jc hq 1 (by omega)];rfl)
    have ZH:wr.cell? ⟨g,o+j*2,none⟩=_:=aJ hBr k0
    have k1' :wr.cell? ⟨g,o+j*2+1,none⟩=_:=aJ hBr k1
    have hB1:=hBr.alloc hBr.size (.cells #[.string q.name, .int .i64 q.ty] 23)
    have hc:=hf q (List.mem_of_getElem? hq) _ hB1
    have HT:Hid (((L.take (j+1)).map T).map Value.string=((L.take j).map T).map Value.string++ [.string (T q)]):=by
     obtain ⟨hj2,rfl⟩:=List.getElem?_eq_some_iff.1 hq
     show _=_
     rw [List.take_succ_eq_append_getElem hj2,List.map_append,List.map_append];rfl
    clear hq
    go_wp2_with fail
    refine hc.mono ?_;rintro e w2 ⟨rfl,hb2⟩
    have hB2:=hB1.trans (hb2.mono hB1.size)
    have hown2:=fB (hown.alloc _) hb2
    have hs2:=hB2.size
    go_wp2_with (at_builtin;refine app1 Tryz.vH rfl _ _ rfl w.heap.size _ _ _ rfl (hown2.alloc _) _ _ [.string (T q)] rfl rfl (bn _ _ _) (by intro u hu;rw [List.mem_singleton.1 hu];rfl) (by have:=HJ.out;omega) (by simp;omega) ?_;intro a5 c5 w5 h5 hg5 Cq)
    have yZ:=below_app (hB2.alloc hs2 _) (by rw [aA];omega) hg5 (fun g2 hg2=>(hown2.lt g2 hg2).1)
    go_wp2_with fail
    go_roundw
    case rel=>exact ⟨j+1,a5,c5,rfl,by go_num,HJ.out,yZ,by rw [HT.out];exact h5⟩
    case measure=>have hjj:=HJ.out;simp [intOf];omega
  · have mo:j=L.length:=by omega
    subst mo
    rw [List.take_length]at hown
    have hlen:(L.map T).length=L.length:=List.length_map ..
    have hj:=oN (.slice a3 L.length c3) (L.map T) sep wr (by rw [hlen];exact Rd.own hown) (by rw [hlen];exact iU hown) hs (by omega)
    go_wp2_with fail
    refine hj.mono ?_;rintro e w9 ⟨rfl,RA⟩
    go_wp2_with fail
    go_ret
    exact ⟨rfl,hBr.trans (RA.mono hsz)⟩
theorem RB {w:World}{u:Value}{L:List Pr}{sep:ByteArray}{T:Pr→ByteArray}(hl:L.length≤100) (hr:Rd w u L.length (bQ L))
 (hf:∀q∈L,∀w',Below w.heap.size w w' →Calls Tryz.prog 53 #[.agg #[.string q.name, .int .i64 q.t.ty, .string q.t.s, .int .i64 q.t.n]] w' fun e w'' =>e= .returned (.string (T q))∧Below w'.heap.size w' w'')
 (hs:(cB sep (L.map T)).size≤140737488355328):
 Calls Tryz.prog 52 #[u, .string sep, .func (.func 53) #[] #[]] w fun e w' =>e= .returned (.string (cB sep (L.map T)))∧Below w.heap.size w w' :=by
 obtain ⟨a,cap,rfl,hx0⟩:=hr
 go_enter Tryz.func52,Tryz.ntmps52
 go_wp2_with fail
 go_loopw [7,12] (fun out i wr=>∃(j:Nat) (a3:Option Addr) (c3:Nat),out= .slice a3 j c3∧i= .int .i64 j∧j≤L.length∧Below w.heap.size w wr∧wr.ownsRow w.heap.size 9 1 (.slice a3 j c3) j (((L.take j).map T).map Value.string)) (fun _ i _=>L.length - (intOf i).toNat)
 case atStart=>exact ⟨0,none,0,rfl,rfl,Nat.zero_le _,Below.refl _ _,World.ownsRow_nil _ _ _ _⟩
 case round=>
  obtain ⟨j,a3,c3,rfl,rfl,hj,hBr,hown⟩:=hrel
  have hsz:=hBr.size
  by_cases hjl:j<L.length
  · have p0:(j:Int)<(L.length:Int):=by omega
    have p1:(0:Int)≤(j:Int):=by omega
    have HJ:=Lib.hid (show j+1≤L.length from hjl)
    obtain ⟨g,o,rfl,hx⟩:=hx0 (by omega)
    obtain ⟨q,hq⟩:∃q,L[j]? =some q:=⟨_,List.getElem?_eq_getElem hjl⟩
    have k0:=hx (j*4) (.string q.name) (by rw [show j*4=j*4+0 from rfl,bO hq 0 (by omega)];rfl)
    have k1:=hx (j*4+1) (.int .i64 q.t.ty) (by rw [bO hq 1 (by omega)];rfl)
    have k2:=hx (j*4+2) (.string q.t.s) (by rw [bO hq 2 (by omega)];rfl)
    have k3:=hx (j*4+3) (.int .i64 q.t.n) (by rw [bO hq 3 (by omega)];rfl)
    have ZH:wr.cell? ⟨g,o+j*4,none⟩=_:=aJ hBr k0
    have k1' :wr.cell? ⟨g,o+j*4+1,none⟩=_:=aJ hBr k1
    have k2' :wr.cell? ⟨g,o+j*4+2,none⟩=_:=aJ hBr k2
    have k3' :wr.cell? ⟨g,o+j*4+3,none⟩=_:=aJ hBr k3
    have hB1:=hBr.alloc hBr.size (.cells #[.string q.name, .int .i64 q.t.ty, .string q.t.s, .int .i64 q.t.n] 61)
    have hc:=hf q (List.mem_of_getElem? hq) _ hB1
    have HT:Hid (((L.take (j+1)).map T).map Value.string=((L.take j).map T).map Value.string++ [.string (T q)]):=by
     obtain ⟨hj2,rfl⟩:=List.getElem?_eq_some_iff.1 hq
     show _=_
     rw [List.take_succ_eq_append_getElem hj2,List.map_append,List.map_append];rfl
    clear hq
    go_wp2_with fail
    refine hc.mono ?_;rintro e w2 ⟨rfl,hb2⟩
    have hB2:=hB1.trans (hb2.mono hB1.size)
    have hown2:=fB (hown.alloc _) hb2
    have hs2:=hB2.size
    go_wp2_with (at_builtin;refine app1 Tryz.vH rfl _ _ rfl w.heap.size _ _ _ rfl (hown2.alloc _) _ _ [.string (T q)] rfl rfl (bn _ _ _) (by intro u hu;rw [List.mem_singleton.1 hu];rfl) (by have:=HJ.out;omega) (by simp;omega) ?_;intro a5 c5 w5 h5 hg5 Cq)
    have yZ:=below_app (hB2.alloc hs2 _) (by rw [aA];omega) hg5 (fun g2 hg2=>(hown2.lt g2 hg2).1)
    go_wp2_with fail
    go_roundw
    case rel=>exact ⟨j+1,a5,c5,rfl,by go_num,HJ.out,yZ,by rw [HT.out];exact h5⟩
    case measure=>have hjj:=HJ.out;simp [intOf];omega
  · have mo:j=L.length:=by omega
    subst mo
    rw [List.take_length]at hown
    have hlen:(L.map T).length=L.length:=List.length_map ..
    have hj:=oN (.slice a3 L.length c3) (L.map T) sep wr (by rw [hlen];exact Rd.own hown) (by rw [hlen];exact iU hown) hs (by omega)
    go_wp2_with fail
    refine hj.mono ?_;rintro e w9 ⟨rfl,RA⟩
    go_wp2_with fail
    go_ret
    exact ⟨rfl,hBr.trans (RA.mono hsz)⟩
theorem XK {w:World}{u:Value}{L:List Pr}{sep:ByteArray}{T:Pr→ByteArray}(hl:L.length≤100) (hr:Rd w u L.length (bQ L))
 (hf:∀q∈L,∀w',Below w.heap.size w w' →Calls Tryz.prog 54 #[.agg #[.string q.name, .int .i64 q.t.ty, .string q.t.s, .int .i64 q.t.n]] w' fun e w'' =>e= .returned (.string (T q))∧Below w'.heap.size w' w'')
 (hs:(cB sep (L.map T)).size≤140737488355328):
 Calls Tryz.prog 52 #[u, .string sep, .func (.func 54) #[] #[]] w fun e w' =>e= .returned (.string (cB sep (L.map T)))∧Below w.heap.size w w' :=by
 obtain ⟨a,cap,rfl,hx0⟩:=hr
 go_enter Tryz.func52,Tryz.ntmps52
 go_wp2_with fail
 go_loopw [7,12] (fun out i wr=>∃(j:Nat) (a3:Option Addr) (c3:Nat),out= .slice a3 j c3∧i= .int .i64 j∧j≤L.length∧Below w.heap.size w wr∧wr.ownsRow w.heap.size 9 1 (.slice a3 j c3) j (((L.take j).map T).map Value.string)) (fun _ i _=>L.length - (intOf i).toNat)
 case atStart=>exact ⟨0,none,0,rfl,rfl,Nat.zero_le _,Below.refl _ _,World.ownsRow_nil _ _ _ _⟩
 case round=>
  obtain ⟨j,a3,c3,rfl,rfl,hj,hBr,hown⟩:=hrel
  have hsz:=hBr.size
  by_cases hjl:j<L.length
  · have p0:(j:Int)<(L.length:Int):=by omega
    have p1:(0:Int)≤(j:Int):=by omega
    have HJ:=Lib.hid (show j+1≤L.length from hjl)
    obtain ⟨g,o,rfl,hx⟩:=hx0 (by omega)
    obtain ⟨q,hq⟩:∃q,L[j]? =some q:=⟨_,List.getElem?_eq_getElem hjl⟩
    have k0:=hx (j*4) (.string q.name) (by rw [show j*4=j*4+0 from rfl,bO hq 0 (by omega)];rfl)
    have k1:=hx (j*4+1) (.int .i64 q.t.ty) (by rw [bO hq 1 (by omega)];rfl)
    have k2:=hx (j*4+2) (.string q.t.s) (by rw [bO hq 2 (by omega)];rfl)
    have k3:=hx (j*4+3) (.int .i64 q.t.n) (by rw [bO hq 3 (by omega)];rfl)
    have ZH:wr.cell? ⟨g,o+j*4,none⟩=_:=aJ hBr k0
    have k1' :wr.cell? ⟨g,o+j*4+1,none⟩=_:=aJ hBr k1
    have k2' :wr.cell? ⟨g,o+j*4+2,none⟩=_:=aJ hBr k2
    have k3' :wr.cell? ⟨g,o+j*4+3,none⟩=_:=aJ hBr k3
    have hB1:=hBr.alloc hBr.size (.cells #[.string q.name, .int .i64 q.t.ty, .string q.t.s, .int .i64 q.t.n] 61)
    have hc:=hf q (List.mem_of_getElem? hq) _ hB1
    have HT:Hid (((L.take (j+1)).map T).map Value.string=((L.take j).map T).map Value.string++ [.string (T q)]):=by
     obtain ⟨hj2,rfl⟩:=List.getElem?_eq_some_iff.1 hq
     show _=_
     rw [List.take_succ_eq_append_getElem hj2,List.map_append,List.map_append];rfl
    clear hq
    go_wp2_with fail
    refine hc.mono ?_;rintro e w2 ⟨rfl,hb2⟩
    have hB2:=hB1.trans (hb2.mono hB1.size)
    have hown2:=fB (hown.alloc _) hb2
    have hs2:=hB2.size
    go_wp2_with (at_builtin;refine app1 Tryz.vH rfl _ _ rfl w.heap.size _ _ _ rfl (hown2.alloc _) _ _ [.string (T q)] rfl rfl (bn _ _ _) (by intro u hu;rw [List.mem_singleton.1 hu];rfl) (by have:=HJ.out;omega) (by simp;omega) ?_;intro a5 c5 w5 h5 hg5 Cq)
    have yZ:=below_app (hB2.alloc hs2 _) (by rw [aA];omega) hg5 (fun g2 hg2=>(hown2.lt g2 hg2).1)
    go_wp2_with fail
    go_roundw
    case rel=>exact ⟨j+1,a5,c5,rfl,by go_num,HJ.out,yZ,by rw [HT.out];exact h5⟩
    case measure=>have hjj:=HJ.out;simp [intOf];omega
  · have mo:j=L.length:=by omega
    subst mo
    rw [List.take_length]at hown
    have hlen:(L.map T).length=L.length:=List.length_map ..
    have hj:=oN (.slice a3 L.length c3) (L.map T) sep wr (by rw [hlen];exact Rd.own hown) (by rw [hlen];exact iU hown) hs (by omega)
    go_wp2_with fail
    refine hj.mono ?_;rintro e w9 ⟨rfl,RA⟩
    go_wp2_with fail
    go_ret
    exact ⟨rfl,hBr.trans (RA.mono hsz)⟩
theorem XL {w:World}{u:Value}{L:List Pr}{sep:ByteArray}{T:Pr→ByteArray}(hl:L.length≤100) (hr:Rd w u L.length (bQ L))
 (hf:∀q∈L,∀w',Below w.heap.size w w' →Calls Tryz.prog 57 #[.agg #[.string q.name, .int .i64 q.t.ty, .string q.t.s, .int .i64 q.t.n]] w' fun e w'' =>e= .returned (.string (T q))∧Below w'.heap.size w' w'')
 (hs:(cB sep (L.map T)).size≤140737488355328):
 Calls Tryz.prog 52 #[u, .string sep, .func (.func 57) #[] #[]] w fun e w' =>e= .returned (.string (cB sep (L.map T)))∧Below w.heap.size w w' :=by
 obtain ⟨a,cap,rfl,hx0⟩:=hr
 go_enter Tryz.func52,Tryz.ntmps52
 go_wp2_with fail
 go_loopw [7,12] (fun out i wr=>∃(j:Nat) (a3:Option Addr) (c3:Nat),out= .slice a3 j c3∧i= .int .i64 j∧j≤L.length∧Below w.heap.size w wr∧wr.ownsRow w.heap.size 9 1 (.slice a3 j c3) j (((L.take j).map T).map Value.string)) (fun _ i _=>L.length - (intOf i).toNat)
 case atStart=>exact ⟨0,none,0,rfl,rfl,Nat.zero_le _,Below.refl _ _,World.ownsRow_nil _ _ _ _⟩
 case round=>
  obtain ⟨j,a3,c3,rfl,rfl,hj,hBr,hown⟩:=hrel
  have hsz:=hBr.size
  by_cases hjl:j<L.length
  · have p0:(j:Int)<(L.length:Int):=by omega
    have p1:(0:Int)≤(j:Int):=by omega
    have HJ:=Lib.hid (show j+1≤L.length from hjl)
    obtain ⟨g,o,rfl,hx⟩:=hx0 (by omega)
    obtain ⟨q,hq⟩:∃q,L[j]? =some q:=⟨_,List.getElem?_eq_getElem hjl⟩
    have k0:=hx (j*4) (.string q.name) (by rw [show j*4=j*4+0 from rfl,bO hq 0 (by omega)];rfl)
    have k1:=hx (j*4+1) (.int .i64 q.t.ty) (by rw [bO hq 1 (by omega)];rfl)
    have k2:=hx (j*4+2) (.string q.t.s) (by rw [bO hq 2 (by omega)];rfl)
    have k3:=hx (j*4+3) (.int .i64 q.t.n) (by rw [bO hq 3 (by omega)];rfl)
    have ZH:wr.cell? ⟨g,o+j*4,none⟩=_:=aJ hBr k0
    have k1' :wr.cell? ⟨g,o+j*4+1,none⟩=_:=aJ hBr k1
    have k2' :wr.cell? ⟨g,o+j*4+2,none⟩=_:=aJ hBr k2
    have k3' :wr.cell? ⟨g,o+j*4+3,none⟩=_:=aJ hBr k3
    have hB1:=hBr.alloc hBr.size (.cells #[.string q.name, .int .i64 q.t.ty, .string q.t.s, .int .i64 q.t.n] 61)
    have hc:=hf q (List.mem_of_getElem? hq) _ hB1
    have HT:Hid (((L.take (j+1)).map T).map Value.string=((L.take j).map T).map Value.string++ [.string (T q)]):=by
     obtain ⟨hj2,rfl⟩:=List.getElem?_eq_some_iff.1 hq
     show _=_
     rw [List.take_succ_eq_append_getElem hj2,List.map_append,List.map_append];rfl
    clear hq
    go_wp2_with fail
    refine hc.mono ?_;rintro e w2 ⟨rfl,hb2⟩
    have hB2:=hB1.trans (hb2.mono hB1.size)
    have hown2:=fB (hown.alloc _) hb2
    have hs2:=hB2.size
    go_wp2_with (at_builtin;refine app1 Tryz.vH rfl _ _ rfl w.heap.size _ _ _ rfl (hown2.alloc _) _ _ [.string (T q)] rfl rfl (bn _ _ _) (by intro u hu;rw [List.mem_singleton.1 hu];rfl) (by have:=HJ.out;omega) (by simp;omega) ?_;intro a5 c5 w5 h5 hg5 Cq)
    have yZ:=below_app (hB2.alloc hs2 _) (by rw [aA];omega) hg5 (fun g2 hg2=>(hown2.lt g2 hg2).1)
    go_wp2_with fail
    go_roundw
    case rel=>exact ⟨j+1,a5,c5,rfl,by go_num,HJ.out,yZ,by rw [HT.out];exact h5⟩
    case measure=>have hjj:=HJ.out;simp [intOf];omega
  · have mo:j=L.length:=by omega
    subst mo
    rw [List.take_length]at hown
    have hlen:(L.map T).length=L.length:=List.length_map ..
    have hj:=oN (.slice a3 L.length c3) (L.map T) sep wr (by rw [hlen];exact Rd.own hown) (by rw [hlen];exact iU hown) hs (by omega)
    go_wp2_with fail
    refine hj.mono ?_;rintro e w9 ⟨rfl,RA⟩
    go_wp2_with fail
    go_ret
    exact ⟨rfl,hBr.trans (RA.mono hsz)⟩
theorem tT:∀n:Nat,Lib.decDigits n=dec n:=
 EL (C:=fun n=>Lib.decDigits n=dec n) (fun n h=>by rw [wm h,Lib.decDigits,dif_pos h]) (fun n h ih=>by rw [wo h,Lib.decDigits,dif_neg (by omega),ih])
theorem UN (n:Int):(⟨(Lib.itoa n).toArray⟩:ByteArray)=j4 n:=by
 unfold Lib.itoa j4
 by_cases h:n<0
 · rw [if_pos h,tT]
   simp [h,fD]
 · rw [if_neg h,tT]
   have e:n.toNat=n.natAbs:=by omega
   simp [h,fD,e]
theorem wI (n:Int) (h0: -9223372036854775808≤n) (h1:n≤9223372036854775807) (w:World) (hG:Gp w):
 Calls Tryz.prog 59 #[.int .i64 n] w fun e w' =>e= .returned (.string (j4 n))∧Below w.heap.size w w' :=by
 refine (Tryz.strconv_Itoa n h0 h1 w hG.2.2).mono ?_
 rintro e w' ⟨rfl,k,os,rfl⟩
 rw [UN]
 exact ⟨rfl,Lib.below_grow _ _ (Nat.le_refl _) _ _⟩
theorem aU (a b:ByteArray) (h:a.size+b.size≤1000000000000000):∀w,(Op.stringOp .add a b).run Tryz.prog w= .ok (.string (a++b)) w:=fun w=>run_string_add_sum w _ _ (by omega)
def Lv (n:Int):Prop:= -9223372036854775808≤n∧n≤9223372036854775807
def H6 (t:Tm):Prop:=Lv t.ty∧Lv t.n∧t.s.size≤1000000
theorem wJ (s:ByteArray) (w:World):Calls Tryz.prog 97 #[.string s] w fun e w' =>e= .returned (.string s)∧Below w.heap.size w w' :=by
 go_enter Tryz.func97,Tryz.ntmps97
 go_wp2_with fail
 go_ret
 exact ⟨rfl,Below.refl _ _⟩
theorem za (q:Pr) (w:World):Calls Tryz.prog 53 #[.agg #[.string q.name, .int .i64 q.t.ty, .string q.t.s, .int .i64 q.t.n]] w fun e w' =>e= .returned (.string q.name)∧Below w.heap.size w w' :=by
 have hB:=(Below.refl w.heap.size w).alloc (Nat.le_refl _) (.cells #[.string q.name, .int .i64 q.t.ty, .string q.t.s, .int .i64 q.t.n] 61)
 go_enter Tryz.func53,Tryz.ntmps53
 go_wp2_with fail
 go_ret
 exact ⟨rfl,hB⟩
theorem NJ (q:Cl) (w:World) (hs:q.name.size≤1000000):Calls Tryz.prog 50 #[.agg #[.string q.name, .int .i64 q.ty]] w fun e w' =>e= .returned (.string (aG (gZ q)))∧Below w.heap.size w w' :=by
 have hB:=(Below.refl w.heap.size w).alloc (Nat.le_refl _) (.cells #[.string q.name, .int .i64 q.ty] 23)
 by_cases ht:q.ty=1
 · have ha:=aU q.name (⟨#[32,84,69,88,84]⟩:ByteArray) (by show _+5≤_;omega)
   have h1:(q.ty==1)=true:=by rw [ht];rfl
   have HE:Hid (q.name++(⟨#[32,84,69,88,84]⟩:ByteArray)=aG (gZ q)):=by
    show _=_
    unfold gZ;rw [if_pos ht]
    apply ByteArray.ext;apply Array.ext';simp [aG,Pc.text]
   clear ht
   go_enter Tryz.func50,Tryz.ntmps50
   go_wp2_with fail
   go_ret
   rw [←HE.out]
   exact ⟨rfl,hB⟩
 · have ha:=aU q.name (⟨#[32,73,78,84]⟩:ByteArray) (by show _+4≤_;omega)
   have h1:(q.ty==1)=false:=by rw [beq_eq_false_iff_ne];exact ht
   have HE:Hid (q.name++(⟨#[32,73,78,84]⟩:ByteArray)=aG (gZ q)):=by
    show _=_
    unfold gZ;rw [if_neg ht]
    apply ByteArray.ext;apply Array.ext';simp [aG,Pc.text]
   clear ht
   go_enter Tryz.func50,Tryz.ntmps50
   go_wp2_with fail
   go_ret
   rw [←HE.out]
   exact ⟨rfl,hB⟩
theorem H7 (t:Tm) (w:World) (hG:Gp w) (hs:H6 t):Calls Tryz.prog 55 #[.agg #[.int .i64 t.ty, .string t.s, .int .i64 t.n]] w fun e w' =>e= .returned (.string (fH t).text)∧Below w.heap.size w w' :=by
 have hB:=(Below.refl w.heap.size w).alloc (Nat.le_refl _) (.cells #[.int .i64 t.ty, .string t.s, .int .i64 t.n] 59)
 have hG1:=hG.below hB
 obtain ⟨ht0,hn,hz⟩:=hs
 have hq:=Mi t.s _ hG1.1 hz
 have hi:=wI t.n hn.1 hn.2 _ hG1
 clear ht0 hn
 by_cases ht:t.ty=1
 · have h1:(t.ty==1)=true:=by rw [ht];rfl
   have HE:Hid ((fH t).text=quote t.s):=by show _=_;unfold fH;rw [if_pos ht];rfl
   clear ht hi
   go_enter Tryz.func55,Tryz.ntmps55
   go_wp2_with fail
   refine hq.mono ?_;rintro e w2 ⟨rfl,hb2⟩
   go_wp2_with fail
   go_ret
   rw [HE.out]
   exact ⟨rfl,hB.trans (hb2.mono hB.size)⟩
 · have h1:(t.ty==1)=false:=by rw [beq_eq_false_iff_ne];exact ht
   have HE:Hid ((fH t).text=j4 t.n):=by show _=_;unfold fH;rw [if_neg ht];rfl
   clear ht hq
   go_enter Tryz.func55,Tryz.ntmps55
   go_wp2_with fail
   refine hi.mono ?_;rintro e w2 ⟨rfl,hb2⟩
   go_wp2_with fail
   go_ret
   rw [HE.out]
   exact ⟨rfl,hB.trans (hb2.mono hB.size)⟩
theorem NK (q:Pr) (w:World) (hG:Gp w) (hs:H6 q.t):Calls Tryz.prog 54 #[.agg #[.string q.name, .int .i64 q.t.ty, .string q.t.s, .int .i64 q.t.n]] w fun e w' =>e= .returned (.string (fH q.t).text)∧Below w.heap.size w w' :=by
 have hB:=(Below.refl w.heap.size w).alloc (Nat.le_refl _) (.cells #[.string q.name, .int .i64 q.t.ty, .string q.t.s, .int .i64 q.t.n] 61)
 have hc:=H7 q.t _ (hG.below hB) hs
 go_enter Tryz.func54,Tryz.ntmps54
 go_wp2_with fail
 refine hc.mono ?_;rintro e w2 ⟨rfl,hb2⟩
 go_wp2_with fail
 go_ret
 exact ⟨rfl,hB.trans (hb2.mono hB.size)⟩
theorem RD (s:ByteArray):(quote s).size≤2*s.size+2:=by
 have:=CW s.data.toList
 rw [ug]
 have e:s.data.toList.length=s.size:=rfl
 omega
theorem NM (n:Nat) (h:n≤9223372036854775808):(dec n).length≤20:=by
 have:∀k m,m<10 ^ (k+1)→(dec m).length≤k+1:=by
  intro k
  induction k with
  |zero=>intro m hm;rw [wm (by omega)];simp
  |succ k ih=>
   intro m hm
   by_cases h10:m<10
   · rw [wm h10];simp
   · rw [wo (by omega),List.length_append]
     have:=ih (m / 10) (by rw [Nat.pow_succ]at hm;omega)
     simp;omega
 exact this 19 n (by have:(10:Nat) ^ (19+1)=100000000000000000000:=by decide
                     omega)
theorem mM (n:Int) (h:Lv n):(j4 n).size≤21:=by
 have:=NM n.natAbs (by have:=h.1;have:=h.2;omega)
 unfold j4
 simp only [ByteArray.size,List.size_toArray,List.length_append]
 have:(fD (decide (n<0))).length≤1:=by unfold fD;split<;>simp
 omega
theorem EX (t:Tm) (h:H6 t):(fH t).text.size≤2000021:=by
 unfold fH
 split
 · show (quote t.s).size≤_
   have:=RD t.s;have:=h.2.2;omega
 · show (j4 t.n).size≤_
   have:=mM t.n h.2.1;omega
theorem tw4 {w0 w w' :World}{b:Nat}{v0 v1 v2 v3:Value}(h:w.cell? ⟨b,0,none⟩=some v0∧w.cell? ⟨b,1,none⟩=some v1∧w.cell? ⟨b,2,none⟩=some v2∧w.cell? ⟨b,3,none⟩=some v3∧Below w0.heap.size w0 w) (hb:Below w.heap.size w w'):
 w'.cell? ⟨b,0,none⟩=some v0∧w'.cell? ⟨b,1,none⟩=some v1∧w'.cell? ⟨b,2,none⟩=some v2∧w'.cell? ⟨b,3,none⟩=some v3∧Below w0.heap.size w0 w' :=by
 obtain ⟨h0,h1,h2,h3,h4⟩:=h
 exact ⟨aJ hb h0,aJ hb h1,aJ hb h2,aJ hb h3,h4.trans (hb.mono h4.size)⟩
theorem J6 (q:Pr) (w:World) (hG:Gp w) (hs:H6 q.t) (hn:q.name.size≤1000000):Calls Tryz.prog 57 #[.agg #[.string q.name, .int .i64 q.t.ty, .string q.t.s, .int .i64 q.t.n]] w fun e w' =>e= .returned (.string (aG (dL q)))∧Below w.heap.size w w' :=by
 have hB:=(Below.refl w.heap.size w).alloc (Nat.le_refl _) (.cells #[.string q.name, .int .i64 q.t.ty, .string q.t.s, .int .i64 q.t.n] 61)
 have hG1:=hG.below hB
 have hbl:(w.alloc (.cells #[.string q.name, .int .i64 q.t.ty, .string q.t.s, .int .i64 q.t.n] 61)).heap[w.heap.size]? =some (.cells #[.string q.name, .int .i64 q.t.ty, .string q.t.s, .int .i64 q.t.n] 61 (0,0)):=aB w _
 have hle:=EX q.t hs
 have ha:=aU q.name (⟨#[32,61,32]⟩:ByteArray) (by show _+3≤_;omega)
 have ha2:=aU (q.name++(⟨#[32,61,32]⟩:ByteArray)) (fH q.t).text (by rw [ByteArray.size_append];show _+3+_≤_;omega)
 have HE:Hid ((q.name++(⟨#[32,61,32]⟩:ByteArray))++(fH q.t).text=aG (dL q)):=by
  show _=_
  unfold dL
  apply ByteArray.ext;apply Array.ext';simp [aG,Pc.text]
 have hc:=Lib.hid (fun (w' :World) (hB' :Below (w.alloc (.cells #[.string q.name, .int .i64 q.t.ty, .string q.t.s, .int .i64 q.t.n] 61)).heap.size (w.alloc (.cells #[.string q.name, .int .i64 q.t.ty, .string q.t.s, .int .i64 q.t.n] 61)) w')=>H7 q.t w' (hG1.below hB') hs)
 clear hle hG1 hG hs hn
 go_enter Tryz.func57,Tryz.ntmps57
 go_wp2_with fail
 obtain ⟨w1,hw1⟩:∃w1,w1=w.alloc (.cells #[.string q.name, .int .i64 q.t.ty, .string q.t.s, .int .i64 q.t.n] 61):=⟨_,rfl⟩
 rw [←hw1]at hB hbl hc⊢
 clear hw1
 have c0:w1.cell? ⟨w.heap.size,0,none⟩=some (.string q.name):=by rw [aj hbl];rfl
 have c1:w1.cell? ⟨w.heap.size,1,none⟩=some (.int .i64 q.t.ty):=by rw [aj hbl];rfl
 have c2:w1.cell? ⟨w.heap.size,2,none⟩=some (.string q.t.s):=by rw [aj hbl];rfl
 have c3:w1.cell? ⟨w.heap.size,3,none⟩=some (.int .i64 q.t.n):=by rw [aj hbl];rfl
 have hS:w1.cell? ⟨w.heap.size,0,none⟩=some (.string q.name)∧w1.cell? ⟨w.heap.size,1,none⟩=some (.int .i64 q.t.ty)∧w1.cell? ⟨w.heap.size,2,none⟩=some (.string q.t.s)∧w1.cell? ⟨w.heap.size,3,none⟩=some (.int .i64 q.t.n)∧Below w1.heap.size w1 w1:=⟨c0,c1,c2,c3,Below.refl _ _⟩
 go_region_held3 (fun w' =>w'.cell? ⟨w.heap.size,0,none⟩=some (.string q.name)∧w'.cell? ⟨w.heap.size,1,none⟩=some (.int .i64 q.t.ty)∧w'.cell? ⟨w.heap.size,2,none⟩=some (.string q.t.s)∧w'.cell? ⟨w.heap.size,3,none⟩=some (.int .i64 q.t.n)∧Below w1.heap.size w1 w') (first|exact tw4 (by assumption) hb2|exact ⟨c0,c1,c2,c3,(Below.refl _ _).drew⟩)
  (first
   |(go_at_call 55;refine (hc.out _ (And.right (And.right (And.right (And.right (by assumption)))))).mono ?_;rintro e w2 ⟨rfl,hb2⟩))
 have hT:w2.cell? ⟨w.heap.size,0,none⟩=some (.string q.name)∧w2.cell? ⟨w.heap.size,1,none⟩=some (.int .i64 q.t.ty)∧w2.cell? ⟨w.heap.size,2,none⟩=some (.string q.t.s)∧w2.cell? ⟨w.heap.size,3,none⟩=some (.int .i64 q.t.n)∧Below w1.heap.size w1 w2:=by assumption
 go_wp2_with fail
 go_ret
 rw [←HE.out]
 exact ⟨rfl,hB.trans (hT.2.2.2.2.mono hB.size)⟩
theorem wK (sep:List Pc):∀(l:List (List Pc)),Lib.joinTail (aG sep).data.toList ((l.map aG).map (·.data.toList))=(aG (l.flatMap fun b=>sep++b)).data.toList
 | []=>rfl
 |a::l=>by
  have ih:=wK sep l
  unfold Lib.joinTail at ih⊢
  rw [List.flatMap_cons,bP,bP,List.map_cons,List.map_cons,List.map_cons,List.flatten_cons,ih]
  simp
theorem iw (sep:List Pc) (l:List (List Pc)):cB (aG sep) (l.map aG)=aG (iQ sep l):=by
 cases l with
 |nil=>rfl
 |cons a l=>
  unfold cB iQ
  rw [List.map_cons,List.map_cons,Lib.join_cons,wK,bP]
  apply ByteArray.ext;apply Array.ext';simp
theorem wL (sep:List UInt8) (M:Nat):∀(l:List (List UInt8)),(∀x∈l,x.length≤M)→(Lib.joinTail sep l).length≤l.length*(M+sep.length)
 | [],_=>by simp [Lib.joinTail]
 |x::l,h=>by
  have ih:=wL sep M l fun y hy=>h y (List.mem_cons_of_mem _ hy)
  have hx:=h x (List.mem_cons_self ..)
  unfold Lib.joinTail at ih⊢
  rw [List.map_cons,List.flatten_cons,List.length_append,List.length_append,List.length_cons,Nat.succ_mul]
  omega
theorem gu (sep:ByteArray) (l:List ByteArray) (M:Nat) (h:∀x∈l,x.size≤M):(cB sep l).size≤l.length*(M+sep.size):=by
 have e:(cB sep l).size=(Lib.join (l.map (·.data.toList)) sep.data.toList).length:=by
  show (cB sep l).data.size=_
  unfold cB;simp
 rw [e]
 cases l with
 |nil=>simp [Lib.join_nil]
 |cons x l=>
  rw [List.map_cons,Lib.join_cons,List.length_append]
  have h1:=wL sep.data.toList M (l.map (·.data.toList)) (fun y hy=>by
   obtain ⟨z,hz,rfl⟩:=List.mem_map.1 hy
   exact h z (List.mem_cons_of_mem _ hz))
  rw [List.length_map]at h1
  have h2:=h x (List.mem_cons_self ..)
  have h3:x.data.toList.length=x.size:=rfl
  have h4:sep.data.toList.length=sep.size:=rfl
  rw [h4]at h1
  rw [List.length_cons,Nat.succ_mul]
  omega
theorem EY (l:List ByteArray):l=(l.map fun s=> [Pc.wd s]).map aG:=by
 rw [List.map_map]
 conv=>lhs;rw [←List.map_id' l]
 refine List.map_congr_left fun s _=> ?_
 show s=s++⟨#[]⟩
 rw [EH]
theorem jv:aG dw=(⟨#[44,32]⟩:ByteArray):=by decide+kernel
theorem LA:aG EN=(⟨#[32,65,78,68,32]⟩:ByteArray):=by decide+kernel
theorem sN {w:World}{u:Value}{L:List ByteArray}(hl:L.length≤100) (hr:Rd w u L.length (L.map Value.string)) (hs:∀x∈L,x.size≤1000000):
 Calls Tryz.prog 51 #[u] w fun e w' =>e= .returned (.string (aG (gM L)))∧Below w.heap.size w w' :=by
 have hJ:=gu (⟨#[44,32]⟩:ByteArray) (L.map fun s=>s) 1000000 (fun x hx=>by rw [List.map_id']at hx;exact hs x hx)
 rw [List.length_map]at hJ
 have hc:=EW (T:=fun s=>s) (sep:=(⟨#[44,32]⟩:ByteArray)) hl hr (fun q _ w' _=>wJ q w') (Nat.le_trans hJ (by
  have:L.length*(1000000+2)≤100*(1000000+2):=Nat.mul_le_mul_right _ hl
  show L.length*(1000000+2)≤_
  omega))
 obtain ⟨a,cap,rfl,_⟩:=hr
 by_cases h0:L.length=0
 · have p0:((L.length:Int)==0)=true:=by rw [beq_iff_eq];omega
   have HE:Hid (aG (gM L)=(⟨#[42]⟩:ByteArray)):=by
    have:=List.length_eq_zero_iff.1 h0
    subst this
    show _=_
    decide+kernel
   clear hc hs hJ h0
   go_enter Tryz.func51,Tryz.ntmps51
   go_wp2_with fail
   go_ret
   rw [HE.out]
   exact ⟨rfl,Below.refl _ _⟩
 · have p0:((L.length:Int)==0)=false:=by rw [beq_eq_false_iff_ne];omega
   rw [List.map_id']at hc
   have HE:Hid (cB (⟨#[44,32]⟩:ByteArray) L=aG (gM L)):=by
    show _=_
    unfold gM
    rw [if_neg (by intro e;rw [e]at h0;exact h0 rfl),←iw,jv,←EY]
   clear hs hJ h0
   go_enter Tryz.func51,Tryz.ntmps51
   go_wp2_with fail
   refine hc.mono ?_;rintro e w2 ⟨rfl,hb2⟩
   go_wp2_with fail
   go_ret
   rw [←HE.out]
   exact ⟨rfl,hb2⟩
def tV (L:List Pr):Prop:=L.length≤100∧∀q∈L,H6 q.t∧q.name.size≤1000000
theorem mD (q:Pr) (h:H6 q.t∧q.name.size≤1000000):(aG (dL q)).size≤4000000:=by
 have e:aG (dL q)=(q.name++(⟨#[32,61,32]⟩:ByteArray))++(fH q.t).text:=by
  unfold dL
  apply ByteArray.ext;apply Array.ext';simp [aG,Pc.text]
 have:=EX q.t h.1
 have:=h.2
 rw [e,ByteArray.size_append,ByteArray.size_append]
 show _+3+_≤_
 omega
theorem Dv {w:World}{u:Value}{L:List Pr}{sep:ByteArray}(hG:Gp w) (hL:tV L) (hr:Rd w u L.length (bQ L)) (hsep:sep.size≤10):
 Calls Tryz.prog 52 #[u, .string sep, .func (.func 57) #[] #[]] w fun e w' =>e= .returned (.string (cB sep (L.map fun q=>aG (dL q))))∧Below w.heap.size w w' :=by
 have hJ:=gu sep (L.map fun q=>aG (dL q)) 4000000 (fun x hx=>by
  obtain ⟨q,hq,rfl⟩:=List.mem_map.1 hx
  exact mD q (hL.2 q hq))
 rw [List.length_map]at hJ
 refine XL (T:=fun q=>aG (dL q)) hL.1 hr (fun q hq w' hb=>J6 q w' (hG.below hb) (hL.2 q hq).1 (hL.2 q hq).2) (Nat.le_trans hJ ?_)
 have:L.length*(4000000+sep.size)≤100*(4000000+10):=Nat.mul_le_mul hL.1 (by omega)
 omega
theorem mO {w:World}{u:Value}{L:List Pr}(hG:Gp w) (hL:tV L) (hr:Rd w u L.length (bQ L)):
 Calls Tryz.prog 58 #[u] w fun e w' =>e= .returned (.string (aG (dP L)))∧Below w.heap.size w w' :=by
 have hc:=Dv (sep:=(⟨#[32,65,78,68,32]⟩:ByteArray)) hG hL hr (by decide)
 have hJ:=gu (⟨#[32,65,78,68,32]⟩:ByteArray) (L.map fun q=>aG (dL q)) 4000000 (fun x hx=>by
  obtain ⟨q,hq,rfl⟩:=List.mem_map.1 hx
  exact mD q (hL.2 q hq))
 rw [List.length_map]at hJ
 have hJ2:L.length*(4000000+5)≤100*(4000000+5):=Nat.mul_le_mul_right _ hL.1
 have ha:=aU (⟨#[32,87,72,69,82,69,32]⟩:ByteArray) (cB (⟨#[32,65,78,68,32]⟩:ByteArray) (L.map fun q=>aG (dL q))) (by
  change _≤L.length*(4000000+5)at hJ
  show 7+_≤_
  omega)
 have HE:Hid ((⟨#[32,87,72,69,82,69,32]⟩:ByteArray)++cB (⟨#[32,65,78,68,32]⟩:ByteArray) (L.map fun q=>aG (dL q))=aG (dP L)):=by
  show _=_
  unfold dP
  rw [bP,←iw,LA,List.map_map]
  rfl
 obtain ⟨a,cap,rfl,_⟩:=hr
 clear hJ hJ2 hL hG
 go_enter Tryz.func58,Tryz.ntmps58
 go_wp2_with fail
 refine hc.mono ?_;rintro e w2 ⟨rfl,hb2⟩
 go_wp2_with fail
 go_ret
 rw [←HE.out]
 exact ⟨rfl,hb2⟩
theorem qj {w:World}{stamp ttl:Int}(hG:Gp w) (hs:Lv stamp) (ht:Lv ttl):
 Calls Tryz.prog 56 #[.int .i64 stamp, .int .i64 ttl] w fun e w' =>e= .returned (.string (aG (dG stamp ttl)))∧Below w.heap.size w w' :=by
 have HI1:=Lib.hid (fun (w' :World) (hB:Below w.heap.size w w')=>wI stamp hs.1 hs.2 w' (hG.below hB))
 have HI2:=Lib.hid (fun (w' :World) (hB:Below w.heap.size w w')=>wI ttl ht.1 ht.2 w' (hG.below hB))
 have l1:=mM stamp hs
 have l2:=mM ttl ht
 have ha1:=aU (⟨#[84,73,77,69,83,84,65,77,80,32]⟩:ByteArray) (j4 stamp) (by show 10+_≤_;omega)
 have ha2:=aU (⟨#[84,84,76,32]⟩:ByteArray) (j4 ttl) (by show 4+_≤_;omega)
 have s1:((⟨#[84,73,77,69,83,84,65,77,80,32]⟩:ByteArray)++j4 stamp).size≤31:=by rw [ByteArray.size_append];show 10+_≤_;omega
 have s2:((⟨#[84,84,76,32]⟩:ByteArray)++j4 ttl).size≤31:=by rw [ByteArray.size_append];show 4+_≤_;omega
 have hB0:=Below.refl w.heap.size w
 obtain ⟨A,hA⟩:∃r,(⟨#[84,73,77,69,83,84,65,77,80,32]⟩:ByteArray)++j4 stamp=r:=⟨_,rfl⟩
 obtain ⟨B,hB⟩:∃r,(⟨#[84,84,76,32]⟩:ByteArray)++j4 ttl=r:=⟨_,rfl⟩
 rw [hA]at ha1 s1
 rw [hB]at ha2 s2
 have HA:=Lib.hid hA
 have HB:=Lib.hid hB
 clear hA hB hs ht l1 l2 hG
 by_cases h1:stamp=0
 · by_cases h2:ttl=0
   · skip
     have q1:(stamp !=0)=false:=by rw [h1];rfl
     have q2:(ttl !=0)=false:=by rw [h2];rfl
     have HE:Hid (aG (dG stamp ttl)=⟨#[]⟩):=by show _=_;unfold dG;rw [if_pos h1,if_pos h2];rfl
     clear h1 h2
     go_enter Tryz.func56,Tryz.ntmps56
     go_wp2_with fail
     go_ret
     rw [HE.out]
     exact ⟨rfl,hB0⟩
   · skip
     have q1:(stamp !=0)=false:=by rw [h1];rfl
     have q2:(ttl !=0)=true:=bne_iff_ne.2 h2
     have hj:(cB (⟨#[32,65,78,68,32]⟩:ByteArray) [B]).size≤2*36:=Nat.le_trans (gu _ _ 31 (by intro x hx;simp only [List.mem_cons,List.not_mem_nil,or_false]at hx;rcases hx with rfl<;>assumption)) (by show _*(31+5)≤_;simp)
     have ha3:=aU (⟨#[32,85,83,73,78,71,32]⟩:ByteArray) (cB (⟨#[32,65,78,68,32]⟩:ByteArray) [B]) (by show 7+_≤_;omega)
     have HE:Hid ((⟨#[32,85,83,73,78,71,32]⟩:ByteArray)++cB (⟨#[32,65,78,68,32]⟩:ByteArray) [B]=aG (dG stamp ttl)):=by
      show _=_
      unfold dG;rw [if_pos h1,if_neg h2,←HB.out]
      apply ByteArray.ext;apply Array.ext';simp [cB,Lib.join,List.intercalate,aG,Pc.text]
     have hj' :(cB (⟨#[32,65,78,68,32]⟩:ByteArray) ([B].map fun s=>s)).size≤140737488355328:=by rw [List.map_id'];omega
     clear h1 h2 s1 s2 hj
     go_enter Tryz.func56,Tryz.ntmps56
     have hc0:=HI2.out _ hB0
     go_wp2_with fail
     refine hc0.mono ?_;rintro e w1 ⟨rfl,hb1⟩
     have hB1:=hB0.trans (hb1.mono hB0.size)
     have hr1:w1.ownsRow w.heap.size 9 1 (.slice none 0 0) 0 []:=World.ownsRow_nil _ _ _ _
     go_wp2_with (at_builtin;refine app1 Tryz.vH rfl _ _ rfl w.heap.size _ _ _ rfl (hr1.alloc _) _ _ [.string B] rfl rfl (bn _ _ _) (by intro u hu;rw [List.mem_singleton.1 hu];rfl) (by omega) (by have:=hB1.size;simp;omega) ?_;intro a1 c1 v1 h1 hg1 hn1)
     have hB2:=below_app (hB1.alloc hB1.size (.cells #[.string B] 9)) (by have:=hB1.size;rw [aA];omega) hg1 (fun g2 hg2=>(hr1.lt g2 hg2).1)
     have hq:=EW (w:=v1) (L:= [B]) (T:=fun s=>s) (sep:=(⟨#[32,65,78,68,32]⟩:ByteArray)) (by simp) (Rd.own h1) (fun q _ w' _=>wJ q w') hj'
     rw [List.map_id']at hq
     go_wp2_with fail
     refine hq.mono ?_;rintro e wz ⟨rfl,hbz⟩
     go_wp2_with fail
     go_ret
     rw [←HE.out]
     exact ⟨rfl,hB2.trans (hbz.mono hB2.size)⟩
 · by_cases h2:ttl=0
   · skip
     have q1:(stamp !=0)=true:=bne_iff_ne.2 h1
     have q2:(ttl !=0)=false:=by rw [h2];rfl
     have hj:(cB (⟨#[32,65,78,68,32]⟩:ByteArray) [A]).size≤2*36:=Nat.le_trans (gu _ _ 31 (by intro x hx;simp only [List.mem_cons,List.not_mem_nil,or_false]at hx;rcases hx with rfl<;>assumption)) (by show _*(31+5)≤_;simp)
     have ha3:=aU (⟨#[32,85,83,73,78,71,32]⟩:ByteArray) (cB (⟨#[32,65,78,68,32]⟩:ByteArray) [A]) (by show 7+_≤_;omega)
     have HE:Hid ((⟨#[32,85,83,73,78,71,32]⟩:ByteArray)++cB (⟨#[32,65,78,68,32]⟩:ByteArray) [A]=aG (dG stamp ttl)):=by
      show _=_
      unfold dG;rw [if_neg h1,if_pos h2,←HA.out]
      apply ByteArray.ext;apply Array.ext';simp [cB,Lib.join,List.intercalate,aG,Pc.text]
     have hj' :(cB (⟨#[32,65,78,68,32]⟩:ByteArray) ([A].map fun s=>s)).size≤140737488355328:=by rw [List.map_id'];omega
     clear h1 h2 s1 s2 hj
     go_enter Tryz.func56,Tryz.ntmps56
     have hc0:=HI1.out _ hB0
     go_wp2_with fail
     refine hc0.mono ?_;rintro e w1 ⟨rfl,hb1⟩
     have hB1:=hB0.trans (hb1.mono hB0.size)
     have hr1:w1.ownsRow w.heap.size 9 1 (.slice none 0 0) 0 []:=World.ownsRow_nil _ _ _ _
     go_wp2_with (at_builtin;refine app1 Tryz.vH rfl _ _ rfl w.heap.size _ _ _ rfl (hr1.alloc _) _ _ [.string A] rfl rfl (bn _ _ _) (by intro u hu;rw [List.mem_singleton.1 hu];rfl) (by omega) (by have:=hB1.size;simp;omega) ?_;intro a1 c1 v1 h1 hg1 hn1)
     have hB2:=below_app (hB1.alloc hB1.size (.cells #[.string A] 9)) (by have:=hB1.size;rw [aA];omega) hg1 (fun g2 hg2=>(hr1.lt g2 hg2).1)
     have hq:=EW (w:=v1) (L:= [A]) (T:=fun s=>s) (sep:=(⟨#[32,65,78,68,32]⟩:ByteArray)) (by simp) (Rd.own h1) (fun q _ w' _=>wJ q w') hj'
     rw [List.map_id']at hq
     go_wp2_with fail
     refine hq.mono ?_;rintro e wz ⟨rfl,hbz⟩
     go_wp2_with fail
     go_ret
     rw [←HE.out]
     exact ⟨rfl,hB2.trans (hbz.mono hB2.size)⟩
   · skip
     have q1:(stamp !=0)=true:=bne_iff_ne.2 h1
     have q2:(ttl !=0)=true:=bne_iff_ne.2 h2
     have hj:(cB (⟨#[32,65,78,68,32]⟩:ByteArray) [A,B]).size≤2*36:=Nat.le_trans (gu _ _ 31 (by intro x hx;simp only [List.mem_cons,List.not_mem_nil,or_false]at hx;rcases hx with rfl|rfl<;>assumption)) (by show _*(31+5)≤_;simp)
     have ha3:=aU (⟨#[32,85,83,73,78,71,32]⟩:ByteArray) (cB (⟨#[32,65,78,68,32]⟩:ByteArray) [A,B]) (by show 7+_≤_;omega)
     have HE:Hid ((⟨#[32,85,83,73,78,71,32]⟩:ByteArray)++cB (⟨#[32,65,78,68,32]⟩:ByteArray) [A,B]=aG (dG stamp ttl)):=by
      show _=_
      unfold dG;rw [if_neg h1,if_neg h2,←HA.out,←HB.out]
      apply ByteArray.ext;apply Array.ext';simp [cB,Lib.join,List.intercalate,aG,Pc.text]
     have hj' :(cB (⟨#[32,65,78,68,32]⟩:ByteArray) ([A,B].map fun s=>s)).size≤140737488355328:=by rw [List.map_id'];omega
     clear h1 h2 s1 s2 hj
     go_enter Tryz.func56,Tryz.ntmps56
     have hc0:=HI1.out _ hB0
     go_wp2_with fail
     refine hc0.mono ?_;rintro e w1 ⟨rfl,hb1⟩
     have hB1:=hB0.trans (hb1.mono hB0.size)
     have hr1:w1.ownsRow w.heap.size 9 1 (.slice none 0 0) 0 []:=World.ownsRow_nil _ _ _ _
     go_wp2_with (at_builtin;refine app1 Tryz.vH rfl _ _ rfl w.heap.size _ _ _ rfl (hr1.alloc _) _ _ [.string A] rfl rfl (bn _ _ _) (by intro u hu;rw [List.mem_singleton.1 hu];rfl) (by omega) (by have:=hB1.size;simp;omega) ?_;intro a1 c1 v1 h1 hg1 hn1)
     have hB2:=below_app (hB1.alloc hB1.size (.cells #[.string A] 9)) (by have:=hB1.size;rw [aA];omega) hg1 (fun g2 hg2=>(hr1.lt g2 hg2).1)
     have hc2:=HI2.out _ hB2
     go_wp2_with fail
     refine hc2.mono ?_;rintro e w3 ⟨rfl,hb3⟩
     have hB3:=hB2.trans (hb3.mono hB2.size)
     have hr3:=fB h1 hb3
     go_wp2_with (at_builtin;refine app1 Tryz.vH rfl _ _ rfl w.heap.size _ _ _ rfl (hr3.alloc _) _ _ [.string B] rfl rfl (bn _ _ _) (by intro u hu;rw [List.mem_singleton.1 hu];rfl) (by omega) (by have:=hB3.size;simp;omega) ?_;intro a3 c3 v3 h3 hg3 O6)
     have hB4:=below_app (hB3.alloc hB3.size (.cells #[.string B] 9)) (by have:=hB3.size;rw [aA];omega) hg3 (fun g2 hg2=>(hr3.lt g2 hg2).1)
     have hq:=EW (w:=v3) (L:= [A,B]) (T:=fun s=>s) (sep:=(⟨#[32,65,78,68,32]⟩:ByteArray)) (by simp) (Rd.own h3) (fun q _ w' _=>wJ q w') hj'
     rw [List.map_id']at hq
     go_wp2_with fail
     refine hq.mono ?_;rintro e wz ⟨rfl,hbz⟩
     go_wp2_with fail
     go_ret
     rw [←HE.out]
     exact ⟨rfl,hB4.trans (hbz.mono hB4.size)⟩
end Go.Proofs.YtfbgdjcnlnfoaaaGreatDoor
