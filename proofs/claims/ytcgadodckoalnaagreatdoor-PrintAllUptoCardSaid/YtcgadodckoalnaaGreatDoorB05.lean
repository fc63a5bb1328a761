/- Parts of a proof. -/
import Derived.Test.YtcgadodckoalnaaGreatDoorB04
namespace Go.Proofs.YtcgadodckoalnaaGreatDoor
namespace aN
theorem Nb:∀(c:List ByteArray) (v:List Tm),v.length=c.length→(List.zipWith Pr.mk c v).map Pr.name=c∧(List.zipWith Pr.mk c v).map Pr.t=v
 | [], [],_=>⟨rfl,rfl⟩
 | [],_::_,h=>absurd h (by simp)
 |_::_, [],h=>absurd h (by simp)
 |a::c,b::v,h=>by
  obtain ⟨h1,h2⟩:=Nb c v (by simpa using h);simp [h1,h2]
theorem nQ (h:Bool) (l:List Pc):nb h (Pc.bl::l)=nb false l:=by simp [nb,Pc.hard]
theorem qA (h:Bool) (c:UInt8) (l:List Pc):nb h (Pc.sg c::l)=nb false l:=by simp [nb,Pc.hard]
theorem qB (s:ByteArray) (l:List Pc):nb false (Pc.wd s::l)=nb true l:=by simp [nb,Pc.hard]
theorem Gq (h:Bool):nb h []=true:=rfl
theorem Nc {o:ByteArray}{c:List ByteArray}{v:List Tm}{stamp ttl:Int}(h:Bq o c v stamp ttl):
 fH (stP (vE o c v stamp ttl))=aW (⟨#[105,110,115,101,114,116]⟩:ah)::ni o c v stamp ttl∧uI (stP (vE o c v stamp ttl)):=by
 obtain ⟨o1,o2,o3,o4,o5,o6⟩:=h;obtain ⟨z1,z2⟩:=Nb c v o4
 have e1:(List.zipWith Pr.mk c v).map (fun p=> [Pc.wd p.name])=c.map fun s=> [Pc.wd s]:=by
  conv=>rhs;rw [←z1,List.map_map]
  rfl
 have e2:(List.zipWith Pr.mk c v).map (fun p=> [dM p.t])=v.map fun s=> [dM s]:=by
  conv=>rhs;rw [←z2,List.map_map]
  rfl
 have e:stP (vE o c v stamp ttl)= [.wd (⟨#[73,78,83,69,82,84]⟩:ah), .bl, .wd (⟨#[73,78,84,79]⟩:ah), .bl, .wd o, .bl, .sg 40]++eB bA (c.map fun s=> [.wd s])++ [.sg 41, .bl, .wd (⟨#[86,65,76,85,69,83]⟩:ah), .bl, .sg 40]++eB bA (v.map fun p=> [dM p])++ [.sg 41]++dA stamp ttl:=by
  rw [←e1,←e2];rfl
 rw [e];refine ⟨?_, ?_, ?_⟩
 · simp only [iF,JY o3.1,TR,Ae];unfold ni;simp only [gN,jY,gP,qj,ql,qy,gU,bX,List.nil_append,List.cons_append];rw [eY o1];simp
 · refine bZ (bZ (bZ (bZ (bZ ?_ (R9 o3.1)) ?_) ?_) ?_) (Gl o6)
   · exact ay TT (ay dw (ay aax (ay dw (ay (iM o1) (ay dw (ay (nu (by decide)) fJ))))))
   · exact ay (nu (by decide)) (ay dw (ay TU (ay dw (ay (nu (by decide)) fJ))))
   · refine Gg BD fun a ha=> ?_
     obtain ⟨s,hs,rfl⟩:=List.mem_map.1 ha;exact ay (R8 (o5 s hs)) fJ
   · exact ay (nu (by decide)) fJ
 · have hu:=Gn stamp ttl [] rfl;rw [List.append_nil]at hu
   have ht:nb false (eB bA (v.map fun p=> [dM p])++([.sg 41]++dA stamp ttl))=true:=by
    have:=Xn (List.zipWith Pr.mk c v) ([.sg 41]++dA stamp ttl) (by rw [List.cons_append,List.nil_append,qA];exact Fp true _ hu);rw [e2]at this;exact this
   have hc:=Sb c ([.sg 41, .bl, .wd (⟨#[86,65,76,85,69,83]⟩:ah), .bl, .sg 40]++(eB bA (v.map fun p=> [dM p])++([.sg 41]++dA stamp ttl))) (by
    simp only [List.cons_append,List.nil_append,qA,nQ,qB];simpa using ht)
   simp only [List.append_assoc];simp only [List.cons_append,List.nil_append,qA,nQ,qB]at hc⊢;exact hc
theorem Nf {o:ByteArray}{stamp ttl:Int}{sets aH:List Pr}(h:Br o stamp ttl sets aH):
 fH (stP (vH o stamp ttl sets aH))=aW (⟨#[117,112,100,97,116,101]⟩:ah)::vG o stamp ttl sets aH∧uI (stP (vH o stamp ttl sets aH)):=by
 obtain ⟨o1,o2,⟨o3,o4,o5,o6⟩,o7,_⟩:=h;have e:stP (vH o stamp ttl sets aH)= [.wd (⟨#[85,80,68,65,84,69]⟩:ah), .bl, .wd o]++dA stamp ttl++ [.bl, .wd (⟨#[83,69,84]⟩:ah), .bl]++eB bA (sets.map bJ)++eF aH:=rfl;rw [e];refine ⟨?_, ?_, ?_⟩
 · simp only [iF,Ae,TS o4,Ad o7];unfold vG;simp only [gQ,mo,qy,gU,bX,List.nil_append,List.cons_append];rw [eY o1];simp
 · refine bZ (bZ (bZ (bZ ?_ (Gl o2)) ?_) (aaz o4)) (Gj o7)
   · exact ay TV (ay dw (ay (iM o1) fJ))
   · exact ay dw (ay acO (ay dw fJ))
 · have hw:=Gm aH [] rfl;rw [List.append_nil]at hw;have hs:=aaA sets _ hw
   have hu:=Gn stamp ttl ([.bl, .wd (⟨#[83,69,84]⟩:ah), .bl]++(eB bA (sets.map bJ)++eF aH)) (by
    simp only [List.cons_append,List.nil_append,nQ,qB];exact hs)
   simp only [List.append_assoc];simp only [List.cons_append,List.nil_append,nQ,qB]at hu⊢;exact hu
theorem Ng {aI:List ByteArray}{o:ByteArray}{stamp:Int}{aH:List Pr}(h:Bt aI o stamp aH):
 fH (stP (vJ aI o stamp aH))=aW (⟨#[100,101,108,101,116,101]⟩:ah)::vI aI o stamp aH∧uI (stP (vJ aI o stamp aH)):=by
 obtain ⟨o1,o2,o3,o4,_⟩:=h;have e:stP (vJ aI o stamp aH)= [.wd (⟨#[68,69,76,69,84,69]⟩:ah), .bl]++(if aI= []then []else fZ aI++ [.bl])++ [.wd (⟨#[70,82,79,77]⟩:ah), .bl, .wd o]++dA stamp 0++eF aH:=rfl;rw [e]
 have hc:fH (if aI= []then []else fZ aI++ [.bl])=uz aI:=by
  by_cases hn:aI= []
  · subst hn;rfl
  · rw [if_neg hn,iF,Dr o1.1];unfold wJ;rw [if_neg hn];simp only [qy,gU,bX,List.nil_append];simp
 refine ⟨?_, ?_, ?_⟩
 · simp only [iF,Ae,hc,Ad o4];unfold vI;simp only [jV,gT,qy,gU,bX,List.nil_append,List.cons_append];rw [eY o2];simp
 · refine bZ (bZ (bZ (bZ ?_ ?_) ?_) (Gl o3)) (Gj o4)
   · exact ay TW (ay dw fJ)
   · split
     · exact fJ
     · exact bZ (La o1.1) (ay dw fJ)
   · exact ay K9 (ay dw (ay (iM o2) fJ))
 · have hw:=Gm aH [] rfl;rw [List.append_nil]at hw;have hu:=Gn stamp 0 _ hw
   have hf:nb false ([.wd (⟨#[70,82,79,77]⟩:ah), .bl, .wd o]++(dA stamp 0++eF aH))=true:=by
    simp only [List.cons_append,List.nil_append,nQ,qB];exact hu
   have hcn:nb false ((if aI= []then []else fZ aI++ [.bl])++([.wd (⟨#[70,82,79,77]⟩:ah), .bl, .wd o]++(dA stamp 0++eF aH)))=true:=by
    split
    · exact hf
    · rw [List.append_assoc];refine Lb aI _ ?_;rw [List.cons_append,List.nil_append,nQ];exact hf
   simp only [List.append_assoc];simp only [List.cons_append,List.nil_append,nQ,qB]at hcn⊢;exact hcn
theorem Xo {aI:List ByteArray}{o:ByteArray}{aH:List Pr}{limit:Int}(h:RY aI o aH limit):
 fH (stP (F9 aI o aH limit))=aW (⟨#[115,101,108,101,99,116]⟩:ah)::MU aI o aH limit∧uI (stP (F9 aI o aH limit)):=by
 obtain ⟨o1,o2,⟨o3,_⟩,o4⟩:=h;have e:stP (F9 aI o aH limit)= [.wd (⟨#[83,69,76,69,67,84]⟩:ah), .bl]++fZ aI++ [.bl, .wd (⟨#[70,82,79,77]⟩:ah), .bl, .wd o]++eF aH++(if limit=0 then []else [.bl, .wd (⟨#[76,73,77,73,84]⟩:ah), .bl, .nm limit]):=rfl;rw [e]
 have hc:fH (if limit=0 then []else [.bl, .wd (⟨#[76,73,77,73,84]⟩:ah), .bl, .nm limit])=Aa limit:=by
  unfold Aa;split
  · rfl
  · simp only [iX,qy,qz,gU,bX,List.nil_append,List.cons_append]
 refine ⟨?_, ?_, ?_⟩
 · simp only [iF,hc,Ad o3,Dr o1.1];unfold MU;simp only [gM,jV,qy,gU,bX,List.nil_append,List.cons_append];rw [eY o2];simp
 · refine bZ (bZ (bZ (bZ ?_ (La o1.1)) ?_) (Gj o3)) ?_
   · exact ay JZ (ay dw fJ)
   · exact ay dw (ay K9 (ay dw (ay (iM o2) fJ)))
   · split
     · exact fJ
     · rename_i hl;exact ay dw (ay Xh (ay dw (ay (BF (o4.resolve_left hl)) fJ)))
 · have hl:nb true (if limit=0 then []else [.bl, .wd (⟨#[76,73,77,73,84]⟩:ah), .bl, .nm limit])=true:=by
    split<;>rfl
   have hw:=Gm aH _ hl
   have hs:=Lb aI ([.bl, .wd (⟨#[70,82,79,77]⟩:ah), .bl, .wd o]++(eF aH++(if limit=0 then []else [.bl, .wd (⟨#[76,73,77,73,84]⟩:ah), .bl, .nm limit]))) (by
    simp only [List.cons_append,List.nil_append,nQ,qB];exact hw)
   simp only [List.append_assoc];simp only [List.cons_append,List.nil_append,nQ,qB]at hs⊢;exact hs
theorem TY {nm:ByteArray}{aI:List ByteArray}{o on p q:ByteArray}(h:K3 nm aI o on p q):
 fH (stP (zD nm aI o on p q))=aW (⟨#[99,114,101,97,116,101]⟩:ah)::aW (⟨#[109,97,116,101,114,105,97,108,105,122,101,100]⟩:ah)::wK nm aI o on p q∧uI (stP (zD nm aI o on p q)):=by
 obtain ⟨o1,o2,o3,o4,o5,o6⟩:=h
 have e:stP (zD nm aI o on p q)= [.wd (⟨#[67,82,69,65,84,69]⟩:ah), .bl, .wd (⟨#[77,65,84,69,82,73,65,76,73,90,69,68]⟩:ah), .bl, .wd (⟨#[86,73,69,87]⟩:ah), .bl, .wd nm, .bl, .wd (⟨#[65,83]⟩:ah), .bl, .wd (⟨#[83,69,76,69,67,84]⟩:ah), .bl]++fZ aI++ [.bl, .wd (⟨#[70,82,79,77]⟩:ah), .bl, .wd o, .bl, .wd (⟨#[87,72,69,82,69]⟩:ah), .bl, .wd on, .bl, .wd (⟨#[73,83]⟩:ah), .bl, .wd (⟨#[78,79,84]⟩:ah), .bl, .wd (⟨#[78,85,76,76]⟩:ah), .bl, .wd (⟨#[80,82,73,77,65,82,89]⟩:ah), .bl, .wd (⟨#[75,69,89]⟩:ah), .bl, .sg 40, .wd on, .sg 44, .bl, .wd p, .sg 44, .bl, .wd q, .sg 41]:=by
  rw [show stP (zD nm aI o on p q)=uH (zD nm aI o on p q)from rfl];unfold uH;simp [zD,eB,bA]
 rw [e];refine ⟨?_, ?_, ?_⟩
 · simp only [iF,Dr o2.1];unfold wK;simp only [gL,fF,mg,cK,jU,qd,gM,jV,iU,qg,mh,jW,qj,ql,qm,qy,gU,bX,List.nil_append,List.cons_append];rw [eY o1,eY o3,eY o4,eY o5,eY o6];simp
 · refine bZ (bZ ?_ (La o2.1)) ?_
   · exact ay Dt (ay dw (ay ES (ay dw (ay aau (ay dw (ay (iM o1) (ay dw (ay afd (ay dw (ay JZ (ay dw fJ)))))))))))
   · exact ay dw (ay K9 (ay dw (ay (iM o3) (ay dw (ay M7 (ay dw (ay (iM o4) (ay dw (ay afe (ay dw (ay acN (ay dw (ay aav (ay dw (ay Gh (ay dw (ay Xf (ay dw (ay (nu (by decide)) (ay (iM o4) (ay (nu (by decide)) (ay dw (ay (iM o5) (ay (nu (by decide)) (ay dw (ay (iM o6) (ay (nu (by decide)) fJ)))))))))))))))))))))))))))
 · have hs:=Lb aI [.bl, .wd (⟨#[70,82,79,77]⟩:ah), .bl, .wd o, .bl, .wd (⟨#[87,72,69,82,69]⟩:ah), .bl, .wd on, .bl, .wd (⟨#[73,83]⟩:ah), .bl, .wd (⟨#[78,79,84]⟩:ah), .bl, .wd (⟨#[78,85,76,76]⟩:ah), .bl, .wd (⟨#[80,82,73,77,65,82,89]⟩:ah), .bl, .wd (⟨#[75,69,89]⟩:ah), .bl, .sg 40, .wd on, .sg 44, .bl, .wd p, .sg 44, .bl, .wd q, .sg 41] (by
    simp only [qA,nQ,qB,Gq])
   simp only [List.append_assoc];simp only [List.cons_append,List.nil_append,nQ,qB]at hs⊢;exact hs
theorem PO {nm o on:ByteArray}(h:dz nm∧dz o∧dz on):
 fH (stP (Dn nm o on))=aW (⟨#[99,114,101,97,116,101]⟩:ah)::Dm nm o on∧uI (stP (Dn nm o on)):=by
 obtain ⟨o1,o2,o3⟩:=h;have e:stP (Dn nm o on)= [.wd (⟨#[67,82,69,65,84,69]⟩:ah), .bl, .wd (⟨#[73,78,68,69,88]⟩:ah), .bl, .wd nm, .bl, .wd (⟨#[79,78]⟩:ah), .bl, .wd o, .bl, .sg 40, .wd on, .sg 41]:=rfl;rw [e];refine ⟨?_, ?_, ?_⟩
 · unfold Dm;simp only [gL,iV,qh,qj,ql,qy,gU,bX,List.nil_append,List.cons_append];rw [eY o1,eY o2,eY o3];simp
 · exact ay Dt (ay dw (ay Xg (ay dw (ay (iM o1) (ay dw (ay aff (ay dw (ay (iM o2) (ay dw (ay (nu (by decide)) (ay (iM o3) (ay (nu (by decide)) fJ))))))))))))
 · simp only [qA,nQ,qB,Gq]
theorem Ua {nm:ByteArray}(h:dz nm):
 fH (stP {Sx.zero with kind:=4,name:=nm})= [aW (⟨#[100,114,111,112]⟩:ah),fP nm]∧uI (stP {Sx.zero with kind:=4,name:=nm}):=by
 have e:stP {Sx.zero with kind:=4,name:=nm}= [.wd (⟨#[68,82,79,80]⟩:ah), .bl, .wd nm]:=rfl;rw [e];refine ⟨?_, ?_, ?_⟩
 · simp only [jX,qy,gU,bX,List.nil_append,List.cons_append];rw [eY h];simp
 · exact ay aaw (ay dw (ay (iM h) fJ))
 · simp only [nQ,qB,Gq]
theorem Ub {ty:Int}:(Pc.wd (if ty=1 then (⟨#[84,69,88,84]⟩:ah)else (⟨#[73,78,84]⟩:ah))).toks= [Eh ty]:=by
 unfold Eh;split
 · exact jG
 · exact kW
theorem Gr {c:Cl}(h:F5 c):fH (dN c)= [fP c.name,Eh c.ty]:=by
 unfold dN;rw [bX,eY h.1,bX,bX,Ub];rfl
theorem Nh:∀(l:List Cl),(∀c∈l,F5 c)→l≠ []→fH (eB bA (l.map dN))++ [aW (⟨#[44]⟩:ah)]=l.flatMap F4:=by
 intro l h hne;rw [xK];cases l with
 |nil=>exact absurd rfl hne
 |cons a l=>
  simp only [List.map_cons];rw [Gr (h a (List.mem_cons_self ..)),sH,List.flatMap_map];have h2:∀c∈l,F5 c:=fun c hc=>h c (List.mem_cons_of_mem _ hc)
  clear h hne
  induction l generalizing a with
  |nil=>rfl
  |cons b l ih=>
   have:=ih b (fun c hc=>h2 c (List.mem_cons_of_mem _ hc));simp only [List.flatMap_cons,Gr (h2 b (List.mem_cons_self ..))]at this⊢;rw [←this];simp [F4]
theorem PS {nm:ByteArray}{C:List Cl}{pk ck:ByteArray}(h:vD nm C pk ck):
 ∃C',vD nm C' pk ck∧nX nm C' pk ck=nX nm C pk ck∧fH (stP (nX nm C pk ck))=aW (⟨#[99,114,101,97,116,101]⟩:ah)::aW (⟨#[116,97,98,108,101]⟩:ah)::rz nm C' pk ck∧uI (stP (nX nm C pk ck)):=by
 obtain ⟨p,c,D,hp,hc,e0,e1,ok⟩:=kX h;refine ⟨p::c::D,ok,e1, ?_⟩;rw [e0];obtain ⟨o1,o2,_⟩:=ok
 have e:stP {Sx.zero with kind:=1,name:=nm,bG:=nm,part:=p,aX:=c,aB:=D}= [.wd (⟨#[67,82,69,65,84,69]⟩:ah), .bl, .wd (⟨#[84,65,66,76,69]⟩:ah), .bl, .wd nm, .bl, .sg 40]++eB bA ((p::c::D).map dN)++ [.sg 44, .bl, .wd (⟨#[80,82,73,77,65,82,89]⟩:ah), .bl, .wd (⟨#[75,69,89]⟩:ah), .bl, .sg 40, .wd pk, .sg 44, .bl, .wd ck, .sg 41, .sg 41]:=by
  rw [←hp,←hc];rfl
 rw [e];have np:dz pk:=hp▸(o2 p (List.mem_cons_self ..)).1;have nc:dz ck:=hc▸(o2 c (List.mem_cons_of_mem _ (List.mem_cons_self ..))).1;refine ⟨?_, ?_, ?_⟩
 · have ht:=Nh (p::c::D) o2 (by simp);unfold rz;rw [←ht];simp only [iF];simp only [gL,iT,fF,mg,qj,ql,qm,qy,gU,bX,List.nil_append,List.cons_append];rw [eY o1,eY np,eY nc];simp
 · refine bZ (bZ ?_ (Gg BD fun a ha=> ?_)) ?_
   · exact ay Dt (ay dw (ay Xe (ay dw (ay (iM o1) (ay dw (ay (nu (by decide)) fJ))))))
   · obtain ⟨s,hs,rfl⟩:=List.mem_map.1 ha;exact Xl (o2 s hs)
   · exact ay (nu (by decide)) (ay dw (ay Gh (ay dw (ay Xf (ay dw (ay (nu (by decide)) (ay (iM np) (ay (nu (by decide)) (ay dw (ay (iM nc) (ay (nu (by decide)) (ay (nu (by decide)) fJ))))))))))))
 · have hs:=Gf bA BA ((p::c::D).map dN) [.sg 44, .bl, .wd (⟨#[80,82,73,77,65,82,89]⟩:ah), .bl, .wd (⟨#[75,69,89]⟩:ah), .bl, .sg 40, .wd pk, .sg 44, .bl, .wd ck, .sg 41, .sg 41] (fun a ha=>by obtain ⟨s,_,rfl⟩:=List.mem_map.1 ha;exact Xm s) (by simp only [qA,nQ,qB,Gq]);simp only [List.append_assoc];simp only [List.cons_append,List.nil_append,qA,nQ,qB]at hs⊢;exact hs
theorem GC.text {x:Sx}{L:List To}(h:GC x L):fH (stP x)=L∧uI (stP x):=by
 cases h with
 |insert o c v a b h=>exact Nc h
 |update o a b c v h=>exact Nf h
 |remove o a b c h=>exact Ng h
theorem GP.text {x:Sx}{L:List To}(h:GP x L):GP x (fH (stP x))∧uI (stP x):=by
 cases h with
 |ask o c v a h=>obtain ⟨h1,h2⟩:=Xo h;exact ⟨h1▸ .ask o c v a h,h2⟩
 |view o c v a p q h=>obtain ⟨h1,h2⟩:=TY h;exact ⟨h1▸ .view o c v a p q h,h2⟩
 |index o c v h=>obtain ⟨h1,h2⟩:=PO h;exact ⟨h1▸ .index o c v h,h2⟩
 |drop o h=>obtain ⟨h1,h2⟩:=Ua h;exact ⟨h1▸ .drop o h,h2⟩
 |table o c v a h=>
  obtain ⟨C',h1,h2,h3,h4⟩:=PS h;refine ⟨?_,h4⟩;rw [h3,←h2];exact .table o C' v a h1
def je:Tx.Nd→kD
 | .plain x=>⟨x, []⟩
 | .change x=>⟨x, []⟩
 | .batch l=>⟨{Sx.zero with kind:=9},l⟩
theorem GB.text {l:List Sx}{L:List To}(h:GB l L):fH ((l.map stP).flatMap fun a=>a++ [.sg 59, .bl])=L∧(∀p∈(l.map stP).flatMap fun a=>a++ [.sg 59, .bl],p.ok)∧∀r,nb false r=true→nb false (((l.map stP).flatMap fun a=>a++ [.sg 59, .bl])++r)=true:=by
 induction h with
 |nil=>exact ⟨rfl,by simp,fun r hr=>hr⟩
 | @cons x L l M hx hl ih=>
  obtain ⟨i1,i2,i3⟩:=ih;obtain ⟨g1,g2⟩:=hx.text;rw [List.map_cons,List.flatMap_cons];refine ⟨?_, ?_,fun r hr=> ?_⟩
  · rw [iF,i1,iF,g1];simp only [qo,qy,gU,bX,List.nil_append,List.cons_append];simp
  · exact bZ (bZ g2.ok (ay (nu (by decide)) (ay dw fJ))) i2
  · simp only [List.append_assoc];refine PN _ _ _ g2.nb ?_;simp only [List.cons_append,List.nil_append,qA,nQ];exact i3 r hr
theorem k_ne {k:Int}(h:k≠9) {x:Sx}(hx:x.kind=k):x.kind≠9:=by rw [hx];exact h
theorem aaB {x:Sx}{L:List To}(h:GC x L):x.kind≠9:=by
 cases h with
 |insert=>exact k_ne (k:=5) (by decide) rfl
 |update=>exact k_ne (k:=6) (by decide) rfl
 |remove=>exact k_ne (k:=7) (by decide) rfl
theorem aaC {x:Sx}{L:List To}(h:GP x L):x.kind≠9:=by
 cases h with
 |table nm C pk ck h=>
  obtain ⟨p,c,D,_,_,e0,_⟩:=kX h;rw [e0];exact k_ne (k:=1) (by decide) rfl
 |view=>exact k_ne (k:=2) (by decide) rfl
 |index=>exact k_ne (k:=3) (by decide) rfl
 |drop=>exact k_ne (k:=4) (by decide) rfl
 |ask=>exact k_ne (k:=8) (by decide) rfl
theorem GN.text {nd:Tx.Nd}{L:List To}(h:GN nd L):GN nd (fH (K8 (je nd)))∧uI (K8 (je nd)):=by
 cases h with
 |plain h=>
  obtain ⟨h1,h2⟩:=h.text;have e:K8 (je (.plain _))=stP _:=if_neg (aaC h);rw [e];exact ⟨.plain h1,h2⟩
 |change h=>
  obtain ⟨h1,h2⟩:=h.text;have e:K8 (je (.change _))=stP _:=if_neg (aaB h);rw [e];exact ⟨.change (by have h' :=h;rw [←h1]at h';exact h'),h2⟩
 | @batch l L h h1 h2=>
  obtain ⟨g1,g2,g3⟩:=h.text;have e:K8 (je (.batch l))= [.wd (⟨#[66,69,71,73,78]⟩:ah), .bl, .wd (⟨#[66,65,84,67,72]⟩:ah), .bl]++((l.map stP).flatMap fun a=>a++ [.sg 59, .bl])++ [.wd (⟨#[65,80,80,76,89]⟩:ah), .bl, .wd (⟨#[66,65,84,67,72]⟩:ah)]:=rfl;rw [e];refine ⟨?_, ?_, ?_⟩
  · rw [iF,iF,g1];have e1:fH [.wd (⟨#[66,69,71,73,78]⟩:ah), .bl, .wd (⟨#[66,65,84,67,72]⟩:ah), .bl]= [aW (⟨#[98,101,103,105,110]⟩:ah),aW (⟨#[98,97,116,99,104]⟩:ah)]:=by simp only [iY,iZ,qy,gU,bX,List.nil_append,List.cons_append]
    have e2:fH [.wd (⟨#[65,80,80,76,89]⟩:ah), .bl, .wd (⟨#[66,65,84,67,72]⟩:ah)]= [aW (⟨#[97,112,112,108,121]⟩:ah),aW (⟨#[98,97,116,99,104]⟩:ah)]:=by simp only [iZ,jc,qy,gU,bX,List.nil_append,List.cons_append]
    rw [e1,e2];exact .batch h h1 h2
  · refine bZ (bZ (ay Xi (ay dw (ay M8 (ay dw fJ)))) g2) (ay Xj (ay dw (ay M8 fJ)))
  · rw [List.append_assoc];simp only [List.cons_append,List.nil_append,nQ,qB];exact g3 _ (by simp only [nQ,qB,Gq])
theorem Uc (n n' b0 b1 b2 b3 c1 c2 c3 g:Nat) (hn:1≤n) (hg:1≤g) (h1:1<g→c1=b1) (h2:2<g→c2=b2) (h3:3<g→c3=b3) (hgn:g≤n) (akC:g<n')
 (e1:g=1→c1 / 64≠2) (e2:g=2→c2 / 64≠2) (e3:g=3→c3 / 64≠2) (hw:(Lib.decodeN n b0 b1 b2 b3).2≤g):
 Lib.decodeN n' b0 c1 c2 c3=Lib.decodeN n b0 b1 b2 b3:=by
 by_cases hok:(Lib.decodeN n b0 b1 b2 b3).1≠65533∨1<(Lib.decodeN n b0 b1 b2 b3).2
 · obtain ⟨w,hwd⟩:∃w,(Lib.decodeN n b0 b1 b2 b3).2=w:=⟨_,rfl⟩;rw [hwd]at hw
   have hw1:1≤w:=by
    rcases jL n b0 b1 b2 b3 hn with ⟨h,_⟩|⟨_,h,_⟩<;>omega
   have hc:=xH n b0 b1 b2 b3 c1 c2 c3 w hwd (fun h=>h1 (by omega)) (fun h=>h2 (by omega)) (fun h=>h3 (by omega)) hok;rw [←hc];exact Bg w n' b0 c1 c2 c3 c1 c2 c3 hw1 (by omega) (fun _=>rfl) (fun _=>rfl) (fun _=>rfl) (by rw [hc];exact hok)
 · have hok' :¬((Lib.decodeN n' b0 c1 c2 c3).1≠65533∨1<(Lib.decodeN n' b0 c1 c2 c3).2):=by
    intro hk;apply hok;obtain ⟨w,hwd⟩:∃w,(Lib.decodeN n' b0 c1 c2 c3).2=w:=⟨_,rfl⟩
    have hwg:1≤w∧w≤g:=by
     rcases jL n' b0 c1 c2 c3 (by omega)with ⟨h,_⟩|⟨_,ha,_,hb,hc1,hc2,hc3⟩
     · omega
     · rw [hwd]at ha hb hc2 hc3;refine ⟨by omega, ?_⟩;refine Decidable.byContradiction fun hlt=> ?_
       have hlt' :g<w:=by omega
       have:g=1∨g=2∨g=3:=by omega
       rcases this with h|h|h
       · exact e1 h hc1
       · exact e2 h (hc2 (by omega))
       · exact e3 h (hc3 (by omega))
    have hc:=xH n' b0 c1 c2 c3 b1 b2 b3 w hwd (fun h=>(h1 (by omega)).symm) (fun h=>(h2 (by omega)).symm) (fun h=>(h3 (by omega)).symm) hk;have:=Bg w n b0 b1 b2 b3 b1 b2 b3 hwg.1 (by omega) (fun _=>rfl) (fun _=>rfl) (fun _=>rfl) (by rw [hc];exact hk);rw [this,hc];exact hk
   have bad:∀x:Nat×Nat,¬(x.1≠65533∨1<x.2)→1≤x.2→x=(65533,1):=by
    intro x h hx;have h1:x.1=65533:=Decidable.byContradiction fun e=>h (.inl e)
    have h2:¬1<x.2:=fun e=>h (.inr e)
    exact Prod.ext h1 (by show x.2=1;omega)
   have p1:1≤(Lib.decodeN n b0 b1 b2 b3).2:=by rcases jL n b0 b1 b2 b3 hn with ⟨h,_⟩|⟨_,h,_⟩<;>omega
   have p2:1≤(Lib.decodeN n' b0 c1 c2 c3).2:=by rcases jL n' b0 c1 c2 c3 (by omega)with ⟨h,_⟩|⟨_,h,_⟩<;>omega
   rw [bad _ hok p1,bad _ hok' p2]
theorem Ud (s u:ByteArray) (d:Nat) (hb:∀k,k<d→bY u k=bY s k) (hd:d≤s.size) (hu:d<u.size) (hc:bY u d<128) (p:Nat) (hp:p<d) (hw:p+(Utf8.decode s p).2≤d):
 Utf8.decode u p=Utf8.decode s p:=by
 rw [jK]at hw;rw [jK,jK s p,hb p hp];refine Uc (s.size - p) (u.size - p) (bY s p) (bY s (p+1)) (bY s (p+2)) (bY s (p+3)) _ _ _ (d - p) (by omega) (by omega) (fun h=>hb _ (by omega)) (fun h=>hb _ (by omega)) (fun h=>hb _ (by omega)) (by omega) (by omega) (fun h=> ?_) (fun h=> ?_) (fun h=> ?_) (by omega)
 · rw [show p+1=d by omega];omega
 · rw [show p+2=d by omega];omega
 · rw [show p+3=d by omega];omega
theorem drop_at (s:ByteArray):∀a pos,pos≤s.size→a≤(dS s pos).length→(dS s pos).drop a=dS s (aQ s (dS s pos) a):=by
 intro a
 induction a with
 |zero=>intro pos h _;rw [List.drop_zero,kT s pos h]
 |succ a ih=>
  intro pos h hl;by_cases hp:pos<s.size
  · have hw:=width_le s pos hp;rw [bM s pos hp]at hl⊢;rw [List.drop_succ_cons,ih _ hw (by simpa using hl)];rfl
  · rw [bR s pos hp]at hl;simp at hl
theorem PU (s u:ByteArray) (d:Nat) (hb:∀k,k<d→bY u k=bY s k) (hd:d≤s.size) (hu:d<u.size) (hc:bY u d<128):
 ∀a pos,pos≤s.size→a≤(dS s pos).length→aQ s (dS s pos) a=d→dS u pos=(dS s pos).take a++dS u d:=by
 intro a
 induction a with
 |zero=>intro pos h _ he;rw [kT s pos h]at he;rw [he];rfl
 |succ a ih=>
  intro pos h hl he;by_cases hp:pos<s.size
  · have hw:=width_le s pos hp;have hw0:=width_pos s pos hp;rw [bM s pos hp]at hl he;have he' :aQ s (dS s (pos+(Utf8.decode s pos).2)) a=d:=he;have hge:=(uh s a (pos+(Utf8.decode s pos).2) hw).1;rw [he']at hge;have hda:=Ud s u d hb hd hu hc pos (by omega) hge;rw [bM s pos hp,List.take_succ_cons,List.cons_append];rw [bM u pos (by omega),hda,ih _ hw (by simpa using hl) he']
  · rw [bR s pos hp]at hl;simp at hl
structure Ins (s u r B:ByteArray) (a d:Nat):Prop where
 cs:Cut s r ((pts s).take a) d
 cu:Cut u (B++r) ((pts s).take a) d
 al:a≤(pts s).length
 at_:aQ s (pts s) a=d
 head:(pts u)[a]? =some ⟨bY u d,d,1⟩
 lo:bY u d=32∨bY u d=10∨bY u d=13
 eq:∀k,k<d→bY u k=bY s k
theorem Sc (s:ByteArray) (k:Nat) (h:0<bY s k):k<s.size:=by
 refine Decidable.byContradiction fun hn=> ?_
 rw [Bf s k hn]at h;exact absurd h (by omega)
theorem acR (s B:ByteArray) (a:Nat) (al:a≤(pts s).length) (hB:bY B 0=32∨bY B 0=10∨bY B 0=13):
 Ins s ((s.extract 0 (aQ s (pts s) a)++B)++s.extract (aQ s (pts s) a) s.size) (s.extract (aQ s (pts s) a) s.size) B a (aQ s (pts s) a):=by
 obtain ⟨d,hd⟩:∃d,aQ s (pts s) a=d:=⟨_,rfl⟩;have hdl:=Dc s a;rw [hd]at hdl⊢;have hB0:0<B.size:=Sc B 0 (by omega);have hpre:(s.extract 0 d).size=d:=by rw [ByteArray.size_extract];omega
 obtain ⟨r,hr⟩:∃r,s.extract d s.size=r:=⟨_,rfl⟩;obtain ⟨p,hp⟩:∃p,s.extract 0 d=p:=⟨_,rfl⟩;have aaD:=Gd s d hdl;rw [hr,hp]at aaD⊢;rw [hp]at hpre;have e1:(p++B)++r=p++(B++r):=fV p B r
 have hbs:∀k,k<d→bY ((p++B)++r) k=bY s k:=by
  intro k hk;rw [e1,aaD,lK _ _ k (by omega),lK _ _ k (by omega)]
 have hbd:bY ((p++B)++r) d=bY B 0:=by
  rw [e1];have:=tZ p (B++r) 0;rw [hpre,Nat.add_zero]at this;rw [this,lK _ _ 0 hB0]
 have sI:((p++B)++r).size=d+(B++r).size:=by rw [e1,ByteArray.size_append,hpre]
 have hlt:d<((p++B)++r).size:=by rw [sI,ByteArray.size_append];omega
 have hss:s.size=d+r.size:=by
  have:=congrArg ByteArray.size aaD;rw [ByteArray.size_append,hpre]at this;exact this
 have hps:pts s=(pts s).take a++(pts r).map (Pt.shift d):=by
  have h1:=drop_at s a 0 (by omega) (by rw [←ji];exact al);rw [←ji,hd]at h1;have h2:=Tq s d s.size 0 (by omega);rw [Nat.add_zero,hr,←ji]at h2;rw [h2]at h1;rw [←h1];exact (List.take_append_drop a _).symm
 have hpu:pts ((p++B)++r)=(pts s).take a++(pts (B++r)).map (Pt.shift d):=by
  have h1:=PU s ((p++B)++r) d hbs hdl hlt (by omega) a 0 (by omega) (by rw [←ji];exact al) (by rw [←ji];exact hd);rw [←ji,←ji]at h1;rw [h1];congr 1;have h2:=wZ p (B++r) (B++r).size 0 (by omega);rw [hpre,Nat.add_zero,←ji]at h2;rw [e1];exact h2
 have htl:((pts s).take a).length=a:=by rw [List.length_take];omega
 refine ⟨⟨?_,hss,hps⟩,⟨?_,sI,hpu⟩,al,hd, ?_,by rw [hbd];exact hB,hbs⟩
 · have:s.data.toList=p.data.toList++r.data.toList:=by rw [aaD,ByteArray.data_append,Array.toList_append]
   rw [this,List.drop_append_of_le_length (by show d≤p.size;omega),List.drop_eq_nil_of_le (by show p.size≤d;omega),List.nil_append]
 · have:((p++B)++r).data.toList=p.data.toList++(B++r).data.toList:=by rw [e1,ByteArray.data_append,Array.toList_append]
   rw [this,List.drop_append_of_le_length (by show d≤p.size;omega),List.drop_eq_nil_of_le (by show p.size≤d;omega),List.nil_append]
 · rw [hpu,List.getElem?_append_right (by omega),htl,Nat.sub_self,List.getElem?_map,ji,bM _ 0 (by rw [ByteArray.size_append];omega)];have hdec:Utf8.decode (B++r) 0=(bY (B++r) 0,1):=yP _ 0 (by rw [ByteArray.size_append];omega) (by rw [lK _ _ 0 hB0];omega);rw [hdec,List.getElem?_cons_zero,Option.map_some,hbd,lK _ _ 0 hB0];simp [Pt.shift]
theorem Ni (s:ByteArray) (i:Nat) (hi:i<(pts s).length):aQ s (pts s) i<aQ s (pts s) (i+1):=by
 have key:∀k pos,pos≤s.size→k<(dS s pos).length→aQ s (dS s pos) k<aQ s (dS s pos) (k+1):=by
  intro k
  induction k with
  |zero=>
   intro pos h hk;by_cases hp:pos<s.size
   · have hw:=width_pos s pos hp;have hl:=width_le s pos hp;rw [kT s pos h,bM s pos hp];have:=(uh s 0 (pos+(Utf8.decode s pos).2) hl).1;show pos<aQ s (dS s (pos+(Utf8.decode s pos).2)) 0;omega
   · rw [bR s pos hp]at hk;simp at hk
  |succ k ih=>
   intro pos h hk;by_cases hp:pos<s.size
   · have hl:=width_le s pos hp;rw [bM s pos hp]at hk⊢;exact ih _ hl (by simpa using hk)
   · rw [bR s pos hp]at hk;simp at hk
 have:=key i 0 (by omega) (by rw [←ji];exact hi);rw [←ji]at this;exact this
theorem PV (s:ByteArray) (next:Int) (i:Nat) (hn:next≤s.size):next≤aQ s (pts s) (bP (pts s) next i):=by
 have key:∀n i,(pts s).length - i≤n→next≤aQ s (pts s) (bP (pts s) next i):=by
  intro n
  induction n with
  |zero=>
   intro i h;unfold bP;rw [qM (by omega)];unfold aQ;rw [List.getElem?_eq_none (by omega)];exact hn
  |succ n ih=>
   intro i h;by_cases hl:i<(pts s).length
   · by_cases hc:(((pts s)[i].at_:Nat):Int)<next
     · have:bP (pts s) next i=bP (pts s) next (i+1):=by
        unfold bP;exact gH hl (by simp only [List.getElem?_eq_getElem hl];exact decide_eq_true hc)
       rw [this];exact ih (i+1) (by omega)
     · have:bP (pts s) next i=i:=by
        unfold bP;exact fE (by simp only [List.getElem?_eq_getElem hl];exact decide_eq_false hc)
       rw [this];unfold aQ;rw [List.getElem?_eq_getElem hl];show next≤(((pts s)[i].at_:Nat):Int);omega
   · unfold bP;rw [qM (by omega)];unfold aQ;rw [List.getElem?_eq_none (by omega)];exact hn
 exact key _ i (Nat.le_refl _)
theorem Xp:∀(n:Nat) (l:List UInt8) (x:List UInt8×Nat),l.length≤n→nM l=some x→l[x.2]? ≠some 39:=by
 intro n
 induction n with
 |zero=>intro l x hl hx;cases l with|nil=>simp [nM]at hx|cons=>simp at hl
 |succ n ih=>
  intro l x hl hx
  match l with
  | []=>simp [nM]at hx
  |c::t=>
   rw [nM.eq_def]at hx;simp only at hx;by_cases hc:c=39
   · rw [if_pos hc]at hx
     match t with
     | []=>simp at hx;subst hx;simp
     |e::v=>
      simp only at hx;by_cases he:e=39
      · rw [if_pos he]at hx;obtain ⟨y,hy,rfl⟩:=Option.map_eq_some_iff.1 hx;have:=ih v y (by simp at hl;omega) hy;simpa using this
      · rw [if_neg he]at hx;cases hx;simpa using he
   · rw [if_neg hc]at hx;obtain ⟨y,hy,rfl⟩:=Option.map_eq_some_iff.1 hx;have:=ih t y (by simp at hl;omega) hy;simpa using this
theorem Ue:∀(n:Nat) (l m:List UInt8) (x:List UInt8×Nat),l.length≤n→nM l=some x→(∀k,k<x.2→m[k]? =l[k]?)→m[x.2]? ≠some 39→nM m=some x:=by
 intro n
 induction n with
 |zero=>intro l m x hl hx;cases l with|nil=>simp [nM]at hx|cons=>simp at hl
 |succ n ih=>
  intro l m x hl hx hk hn
  match l with
  | []=>simp [nM]at hx
  |c::t=>
   have hx0:=hx;rw [nM.eq_def]at hx;simp only at hx;by_cases hc:c=39
   · rw [if_pos hc]at hx
     match t with
     | []=>
      simp at hx;subst hx;have h0:=hk 0 (by simp);cases m with
      |nil=>simp at h0
      |cons b m' =>
       simp at h0;subst h0;rw [nM.eq_def];simp only [if_pos hc];cases m' with
       |nil=>rfl
       |cons b' m'' =>simp at hn;simp [hn]
     |e::v=>
      simp only at hx;by_cases he:e=39
      · rw [if_pos he]at hx;obtain ⟨y,hy,rfl⟩:=Option.map_eq_some_iff.1 hx;have h0:=hk 0 (by simp);have h1:=hk 1 (by simp)
        match m with
        | []=>simp at h0
        | [b]=>simp at h1
        |b::b' ::m' =>
         simp at h0 h1;subst h0;subst h1;rw [nM.eq_def];simp only [if_pos hc,if_pos he];rw [ih v m' y (by simp at hl;omega) hy (fun k hk2=>by have:=hk (k+2) (by simp;omega);simpa using this) (by simpa using hn)];rfl
      · rw [if_neg he]at hx;cases hx;have h0:=hk 0 (by simp);cases m with
        |nil=>simp at h0
        |cons b m' =>
         simp at h0;subst h0;rw [nM.eq_def];simp only [if_pos hc];cases m' with
         |nil=>rfl
         |cons b' m'' =>simp at hn;simp [hn]
   · rw [if_neg hc]at hx;obtain ⟨y,hy,rfl⟩:=Option.map_eq_some_iff.1 hx;have h0:=hk 0 (by simp);cases m with
     |nil=>simp at h0
     |cons b m' =>
      simp at h0;subst h0;rw [nM.eq_def];simp only [if_neg hc];rw [ih t m' y (by simp at hl;omega) hy (fun k hk2=>by have:=hk (k+1) (by simp;omega);simpa using this) (by simpa using hn)];rfl
section
variable {s u r B:ByteArray}{a d:Nat}(h:Ins s u r B a d)
include h
theorem Ins.get {j:Nat}(hj:j<a):(pts u)[j]? =(pts s)[j]? :=by
 have:=h.al;rw [h.cu.pts,List.getElem?_append_left (by rw [List.length_take];omega),List.getElem?_take_of_lt hj]
theorem Ins.gG {j:Nat}(hj:j<a) (c:Int):aN.gG (pts u) j c=aN.gG (pts s) j c:=by unfold aN.gG;rw [h.get hj]
theorem Ins.dJ {j:Nat}(hj:j<a):aN.dJ (pts u) j=aN.dJ (pts s) j:=by unfold aN.dJ;rw [h.get hj]
theorem Ins.dh {j:Nat}(hj:j<a):aN.dh (pts u) j=aN.dh (pts s) j:=by unfold aN.dh;rw [h.get hj]
theorem Ins.j4 {j:Nat}(hj:j<a):aN.j4 (pts u) j=aN.j4 (pts s) j:=by unfold aN.j4;rw [h.get hj]
theorem Ins.afg (c:Int) (hc:c≠32∧c≠10∧c≠13):aN.gG (pts u) a c=false:=by
 unfold aN.gG;rw [h.head,beq_eq_false_iff_ne];have:=h.lo;show ((bY u d:Nat):Int)≠c;omega
theorem Ins.abW:aN.dJ (pts u) a=false:=by
 unfold aN.dJ;rw [h.head];have:=h.lo;simp only [gD];rw [Bool.and_eq_false_iff];right;simp only [Bool.or_eq_false_iff,Bool.and_eq_false_iff,beq_eq_false_iff_ne,decide_eq_false_iff_not];omega
theorem Ins.headD:aN.dh (pts u) a=false:=by
 unfold aN.dh;rw [h.head];have:=h.lo;simp only [kG,Bool.and_eq_false_iff,decide_eq_false_iff_not];omega
theorem Ins.aaE:a<(pts u).length:=(List.getElem?_eq_some_iff.1 h.head).1
theorem Ins.aQ {j:Nat}(hj:j≤a):aN.aQ u (pts u) j=aN.aQ s (pts s) j:=by
 by_cases hlt:j<a
 · unfold aN.aQ;have:=h.al;rw [h.get hlt,List.getElem?_eq_getElem (by omega)]
 · obtain rfl:j=a:=by omega
   rw [h.at_];unfold aN.aQ;rw [h.head]
theorem Ins.len:(pts u).length=a+(pts (B++r)).length:=by
 have:=h.al;rw [h.cu.len,List.length_take,Nat.min_eq_left this]
theorem Ins.dO (f g:Nat→Bool) (hfg:∀j,j<a→f j=g j) (hst:f a=false) (i:Nat) (hi:i≤a) (he:aN.dO g (pts s).length i≤a):aN.dO f (pts u).length i=aN.dO g (pts s).length i:=by
 have hal:=h.al;have hul:=h.aaE
 have key:∀n i,a - i≤n→i≤a→aN.dO g (pts s).length i≤a→aN.dO f (pts u).length i=aN.dO g (pts s).length i:=by
  intro n
  induction n with
  |zero=>
   intro i hn hi he;obtain rfl:i=a:=by omega
   rw [fE hst];have:=oQ g (pts s).length i;omega
  |succ n ih=>
   intro i hn hi he;by_cases hia:i=a
   · subst hia;rw [fE hst];have:=oQ g (pts s).length i;omega
   · cases hg:g i with
     |false=>rw [fE hg,fE (by rw [hfg i (by omega)];exact hg)]
     |true=>
      rw [gH (by omega) hg]at he⊢;rw [gH (by omega) (by rw [hfg i (by omega)];exact hg)];exact ih (i+1) (by omega) (by omega) he
 exact key _ i (Nat.le_refl _) hi he
theorem Ins.fq {i:Nat}(hi:i≤a) (he:aN.fq (pts s) i≤a):aN.fq (pts u) i=aN.fq (pts s) i:=
 h.dO _ _ (fun j hj=>by rw [h.dJ hj,h.dh hj]) (by rw [h.abW,h.headD];rfl) i hi he
theorem Ins.extract (x y:Nat) (hy:y≤d):u.extract x y=s.extract x y:=by
 have hu:=h.cu.size;have hs:=h.cs.size;apply ByteArray.ext;apply Array.ext';apply List.ext_getElem?;intro k;simp only [ByteArray.data_extract,Array.toList_extract,List.extract_eq_take_drop,List.getElem?_take,List.getElem?_drop];by_cases hk:k<y - x
 · rw [if_pos hk,if_pos hk];have hks:x+k<s.size:=by omega
   have hku:x+k<u.size:=by omega
   have:=h.eq (x+k) (by omega);rw [←jZ u _ hku,←jZ s _ hks]at this;rw [List.getElem?_eq_getElem (show x+k<u.data.toList.length from hku),List.getElem?_eq_getElem (show x+k<s.data.toList.length from hks)];exact congrArg some (UInt8.toNat_inj.1 this)
 · rw [if_neg hk,if_neg hk]
theorem Ins.kJ {i:Nat}(hi:i≤a) (he:aN.fq (pts s) i≤a):aN.kJ u (pts u) i=aN.kJ s (pts s) i:=by
 have hb:aN.aQ s (pts s) (aN.fq (pts s) i)≤d:=by rw [←h.at_];exact sF s _ _ he
 have ht:aN.ng u (pts u) i=aN.ng s (pts s) i:=by
  unfold aN.ng;rw [h.fq hi he,h.aQ hi,h.aQ he,h.extract _ _ hb]
 unfold aN.kJ;rw [ht,h.fq hi he]
theorem Ins.num (i:Nat) (hi:i≤a):∀(v:Int) (ok:Bool),(aN.num (pts s) i v ok).2.2≤a→aN.num (pts u) i v ok=aN.num (pts s) i v ok:=by
 have key:∀n i,a - i≤n→i≤a→∀(v:Int) (ok:Bool),(aN.num (pts s) i v ok).2.2≤a→aN.num (pts u) i v ok=aN.num (pts s) i v ok:=by
  intro n
  induction n with
  |zero=>
   intro i hn hi v ok he;obtain rfl:i=a:=by omega
   cases hd:aN.dh (pts s) i with
   |false=>rw [kS h.headD,kS hd]
   |true=>
    rw [qV hd]at he;have:=Fg (pts s) ((pts s).length - (i+1)) (i+1) (min (v*10+(aN.j4 (pts s) i - 48)) 1099511627776) (ok&&decide (v*10+(aN.j4 (pts s) i - 48)≤1099511627776));unfold aN.num at he;omega
  |succ n ih=>
   intro i hn hi v ok he;by_cases hia:i=a
   · subst hia;cases hd:aN.dh (pts s) i with
     |false=>rw [kS h.headD,kS hd]
     |true=>
      rw [qV hd]at he;have:=Fg (pts s) ((pts s).length - (i+1)) (i+1) (min (v*10+(aN.j4 (pts s) i - 48)) 1099511627776) (ok&&decide (v*10+(aN.j4 (pts s) i - 48)≤1099511627776));unfold aN.num at he;omega
   · have hlt:i<a:=by omega
     cases hd:aN.dh (pts s) i with
     |false=>rw [kS hd,kS (by rw [h.dh hlt];exact hd)]
     |true=>
      rw [qV hd]at he⊢;rw [qV (by rw [h.dh hlt];exact hd),h.j4 hlt];exact ih (i+1) (by omega) (by omega) _ _ he
 exact key _ i (Nat.le_refl _) hi
theorem Ins.cO {i:Nat}(hi:i<a) (hok:(aN.cO (pts s) i).2.1=true) (he:(aN.cO (pts s) i).2.2≤a):aN.cO (pts u) i=aN.cO (pts s) i:=by
 have hok1:((aN.iq (pts s) i).2.1&& !aN.dJ (pts s) (aN.iq (pts s) i).2.2)=true:=hok;have he1:(aN.iq (pts s) i).2.2≤a:=he;rw [Bool.and_eq_true]at hok1;have hst:aN.bS (pts u) i=aN.bS (pts s) i:=by unfold aN.bS;rw [h.gG hi]
 have hge:=(RU (P:=pts s) (i:=i) (by have:=h.al;omega) hok1.1).1
 have hnr:aN.iq (pts u) i=aN.iq (pts s) i:=by
  have hd0:aN.dh (pts s) (aN.bS (pts s) i)=true:=by
   cases hd:aN.dh (pts s) (aN.bS (pts s) i)with
   |true=>rfl
   |false=>
    have:=hok1.1;unfold aN.iq at this;rw [hd]at this;unfold aN.num at this;rw [RS]at this;cases this
  have hsl:aN.bS (pts s) i<a:=by
   have h1:(aN.iq (pts s) i).2.2=(aN.num (pts s) (aN.bS (pts s) i) 0 (aN.dh (pts s) (aN.bS (pts s) i))).2.2:=rfl;rw [h1,qV hd0]at he1;have:=Fg (pts s) ((pts s).length - (aN.bS (pts s) i+1)) (aN.bS (pts s) i+1) (min (0*10+(aN.j4 (pts s) (aN.bS (pts s) i) - 48)) 1099511627776) (aN.dh (pts s) (aN.bS (pts s) i)&&decide (0*10+(aN.j4 (pts s) (aN.bS (pts s) i) - 48)≤1099511627776));unfold aN.num at he1;omega
  unfold aN.iq;rw [hst,h.dh hsl];exact h.num _ (by omega) _ _ he1
 unfold aN.cO;rw [hnr,h.gG hi]
 have hl:aN.dJ (pts u) (aN.iq (pts s) i).2.2=aN.dJ (pts s) (aN.iq (pts s) i).2.2:=by
  by_cases PW:(aN.iq (pts s) i).2.2=a
  · have:=hok1.2;rw [PW]at this⊢;rw [h.abW];cases hx:aN.dJ (pts s) a with
    |false=>rfl
    |true=>rw [hx]at this;cases this
  · exact h.dJ (by omega)
 rw [hl]
theorem Ins.j5 {i:Nat}(hi:i<a) (hok:(aN.j5 s (pts s) i).2.1=true) (he:(aN.j5 s (pts s) i).2.2≤a):aN.j5 u (pts u) i=aN.j5 s (pts s) i:=by
 rw [uj]at hok he⊢;rw [uj,h.aQ (by omega)];simp only [Bool.and_eq_true]at hok;obtain ⟨f,hf⟩:∃f,aN.aQ s (pts s) i=f:=⟨_,rfl⟩;rw [hf]at hok he⊢
 have hfd:f<d:=by
  have h1:=h.al;have h2:=sF s (i+1) a (by omega);rw [h.at_]at h2;have h3:aN.aQ s (pts s) i<aN.aQ s (pts s) (i+1):=Ni s i (by omega);omega
 -- where the text ends
 have hnd:wQ s f≤d:=by
  have h1:aN.bP (pts s) (wQ s f) i≤a:=he;have h2:=sF s _ _ h1;rw [h.at_]at h2;have h3:=PV s (wQ s f) i (KU s f).2;omega
 have hun:dn u f=dn s f:=by
  have hs:=h.cs.size;have hu:=h.cu.size;unfold ER at hok;unfold wQ at hnd;unfold dn at hok hnd⊢;by_cases hc:0≤(f:Int)∧(f:Int)<s.size∧s.data.toList[(f:Int).toNat]? =some 39
  · rw [if_pos hc]at hok hnd⊢;simp only [Int.toNat_natCast]at hc hok hnd⊢
    have hbu:u.data.toList[f]? =some 39:=by
     rw [←hc.2.2];have:=congrArg (fun x:ByteArray=>x.data.toList[f]?) (h.extract 0 d (Nat.le_refl _));simp only [ByteArray.data_extract,Array.toList_extract,List.extract_eq_take_drop,List.drop_zero,Nat.sub_zero,List.getElem?_take]at this;rw [if_pos hfd,if_pos hfd]at this;exact this
    rw [if_pos ⟨by omega,by omega,hbu⟩];cases hq:nM (s.data.toList.drop (f+1))with
    |none=>rw [hq]at hok;simp at hok
    |some x=>
     rw [hq]at hnd;simp only [Option.map_some]at hnd;have hx:f+1+x.2≤d:=by omega
     have hpre:∀k,k<x.2→(u.data.toList.drop (f+1))[k]? =(s.data.toList.drop (f+1))[k]? :=by
      intro k hk;rw [List.getElem?_drop,List.getElem?_drop];have:=congrArg (fun x:ByteArray=>x.data.toList[f+1+k]?) (h.extract 0 d (Nat.le_refl _));simp only [ByteArray.data_extract,Array.toList_extract,List.extract_eq_take_drop,List.drop_zero,Nat.sub_zero,List.getElem?_take]at this;rw [if_pos (by omega),if_pos (by omega)]at this;exact this
     have hnext:(u.data.toList.drop (f+1))[x.2]? ≠some 39:=by
      rw [List.getElem?_drop];by_cases hxd:f+1+x.2=d
      · rw [hxd]
        have hlt:d<u.size:=by
         have:=h.lo;exact Sc u d (by omega)
        rw [List.getElem?_eq_getElem (show d<u.data.toList.length from hlt)];intro e;have e2:u[d]'hlt=39:=Option.some.inj e;have:=h.lo;rw [←jZ u d hlt,e2]at this;exact absurd this (by decide)
      · have h1:=Xp _ _ x (Nat.le_refl _) hq;rw [List.getElem?_drop]at h1;have h2:=congrArg (fun y:ByteArray=>y.data.toList[f+1+x.2]?) (h.extract 0 d (Nat.le_refl _));simp only [ByteArray.data_extract,Array.toList_extract,List.extract_eq_take_drop,List.drop_zero,Nat.sub_zero,List.getElem?_take]at h2;rw [if_pos (by omega),if_pos (by omega)]at h2;rw [h2];exact h1
     rw [Ue _ _ _ x (Nat.le_refl _) hq hpre hnext]
  · rw [if_neg hc]at hok;cases hok.1
 unfold Dg wQ ER at *;rw [hun];refine Prod.ext rfl (Prod.ext rfl ?_);show aN.bP (pts u) _ i=aN.bP (pts s) _ i;refine h.dO _ _ (fun j hj=>by rw [h.get hj]) ?_ i (by omega) he;simp only [h.head];exact decide_eq_false (by show¬((d:Int)<_);omega)
end
end aN
end Go.Proofs.YtcgadodckoalnaaGreatDoor
