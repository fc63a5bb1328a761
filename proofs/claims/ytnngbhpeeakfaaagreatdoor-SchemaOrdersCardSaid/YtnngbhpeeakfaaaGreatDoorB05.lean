/- Parts of a proof. -/
import Derived.Test.YtnngbhpeeakfaaaGreatDoorB04
namespace Go.Proofs.YtnngbhpeeakfaaaGreatDoor
namespace aK
theorem J3:∀(c:List ByteArray) (v:List Tm),v.length=c.length→(List.zipWith Pr.mk c v).map Pr.name=c∧(List.zipWith Pr.mk c v).map Pr.t=v
 | [], [],_=>⟨rfl,rfl⟩
 | [],_::_,h=>absurd h (by simp)
 |_::_, [],h=>absurd h (by simp)
 |a::c,b::v,h=>by
  obtain ⟨h1,h2⟩:=J3 c v (by simpa using h);simp [h1,h2]
theorem l5 (h:Bool) (l:List Pc):nb h (Pc.bl::l)=nb false l:=by simp [nb,Pc.hard]
theorem nZ (h:Bool) (c:UInt8) (l:List Pc):nb h (Pc.sg c::l)=nb false l:=by simp [nb,Pc.hard]
theorem og (s:ByteArray) (l:List Pc):nb false (Pc.wd s::l)=nb true l:=by simp [nb,Pc.hard]
theorem Dn (h:Bool):nb h []=true:=rfl
theorem J4 {o:ByteArray}{c:List ByteArray}{v:List Tm}{stamp ttl:Int}(h:yD o c v stamp ttl):
 eG (stP (rW o c v stamp ttl))=aU (⟨#[105,110,115,101,114,116]⟩:ah)::pY o c v stamp ttl∧qQ (stP (rW o c v stamp ttl)):=by
 obtain ⟨o1,o2,o3,o4,o5,o6⟩:=h;obtain ⟨z1,z2⟩:=J3 c v o4
 have e1:(List.zipWith Pr.mk c v).map (fun p=> [Pc.wd p.name])=c.map fun s=> [Pc.wd s]:=by
  conv=>rhs;rw [←z1,List.map_map]
  rfl
 have e2:(List.zipWith Pr.mk c v).map (fun p=> [gP p.t])=v.map fun s=> [gP s]:=by
  conv=>rhs;rw [←z2,List.map_map]
  rfl
 have e:stP (rW o c v stamp ttl)= [.wd (⟨#[73,78,83,69,82,84]⟩:ah), .bl, .wd (⟨#[73,78,84,79]⟩:ah), .bl, .wd o, .bl, .sg 40]++gG dx (c.map fun s=> [.wd s])++ [.sg 41, .bl, .wd (⟨#[86,65,76,85,69,83]⟩:ah), .bl, .sg 40]++gG dx (v.map fun p=> [gP p])++ [.sg 41]++dQ stamp ttl:=by
  rw [←e1,←e2];rfl
 rw [e];refine ⟨?_, ?_, ?_⟩
 · simp only [gy,F6 o3.1,Qh,xq];unfold pY;simp only [fJ,ji,fK,nP,nQ,nX,fP,bN,List.nil_append,List.cons_append];rw [dR o1];simp
 · refine bO (bO (bO (bO (bO ?_ (Ow o3.1)) ?_) ?_) ?_) (Dk o6)
   · exact aA Qj (aA bX (aA Xo (aA bX (aA (gL o1) (aA bX (aA (lF (by decide)) eY))))))
   · exact aA (lF (by decide)) (aA bX (aA Qk (aA bX (aA (lF (by decide)) eY))))
   · refine Dg yM fun a ha=> ?_
     obtain ⟨s,hs,rfl⟩:=List.mem_map.1 ha;exact aA (Ov (o5 s hs)) eY
   · exact aA (lF (by decide)) eY
 · have hu:=Dm stamp ttl [] rfl;rw [List.append_nil]at hu
   have ht:nb false (gG dx (v.map fun p=> [gP p])++([.sg 41]++dQ stamp ttl))=true:=by
    have:=Ub (List.zipWith Pr.mk c v) ([.sg 41]++dQ stamp ttl) (by rw [List.cons_append,List.nil_append,nZ];exact Co true _ hu);rw [e2]at this;exact this
   have hc:=Ox c ([.sg 41, .bl, .wd (⟨#[86,65,76,85,69,83]⟩:ah), .bl, .sg 40]++(gG dx (v.map fun p=> [gP p])++([.sg 41]++dQ stamp ttl))) (by
    simp only [List.cons_append,List.nil_append,nZ,l5,og];simpa using ht)
   simp only [List.append_assoc];simp only [List.cons_append,List.nil_append,nZ,l5,og]at hc⊢;exact hc
theorem J5 {o:ByteArray}{stamp ttl:Int}{sets aO:List Pr}(h:yE o stamp ttl sets aO):
 eG (stP (rY o stamp ttl sets aO))=aU (⟨#[117,112,100,97,116,101]⟩:ah)::rX o stamp ttl sets aO∧qQ (stP (rY o stamp ttl sets aO)):=by
 obtain ⟨o1,o2,⟨o3,o4,o5,o6⟩,o7,_⟩:=h;have e:stP (rY o stamp ttl sets aO)= [.wd (⟨#[85,80,68,65,84,69]⟩:ah), .bl, .wd o]++dQ stamp ttl++ [.bl, .wd (⟨#[83,69,84]⟩:ah), .bl]++gG dx (sets.map eU)++eX aO:=rfl;rw [e];refine ⟨?_, ?_, ?_⟩
 · simp only [gy,xq,Qi o4,xk o7];unfold rX;simp only [fM,kF,nX,fP,bN,List.nil_append,List.cons_append];rw [dR o1];simp
 · refine bO (bO (bO (bO ?_ (Dk o2)) ?_) (Xq o4)) (Dj o7)
   · exact aA Ql (aA bX (aA (gL o1) eY))
   · exact aA bX (aA Z8 (aA bX eY))
 · have hw:=Dl aO [] rfl;rw [List.append_nil]at hw;have hs:=Xr sets _ hw
   have hu:=Dm stamp ttl ([.bl, .wd (⟨#[83,69,84]⟩:ah), .bl]++(gG dx (sets.map eU)++eX aO)) (by
    simp only [List.cons_append,List.nil_append,l5,og];exact hs)
   simp only [List.append_assoc];simp only [List.cons_append,List.nil_append,l5,og]at hu⊢;exact hu
theorem J6 {aD:List ByteArray}{o:ByteArray}{stamp:Int}{aO:List Pr}(h:yF aD o stamp aO):
 eG (stP (sj aD o stamp aO))=aU (⟨#[100,101,108,101,116,101]⟩:ah)::rZ aD o stamp aO∧qQ (stP (sj aD o stamp aO)):=by
 obtain ⟨o1,o2,o3,o4,_⟩:=h;have e:stP (sj aD o stamp aO)= [.wd (⟨#[68,69,76,69,84,69]⟩:ah), .bl]++(if aD= []then []else jo aD++ [.bl])++ [.wd (⟨#[70,82,79,77]⟩:ah), .bl, .wd o]++dQ stamp 0++eX aO:=rfl;rw [e]
 have hc:eG (if aD= []then []else jo aD++ [.bl])=qL aD:=by
  by_cases hn:aD= []
  · subst hn;rfl
  · rw [if_neg hn,gy,Av o1.1];unfold tH;rw [if_neg hn];simp only [nX,fP,bN,List.nil_append];simp
 refine ⟨?_, ?_, ?_⟩
 · simp only [gy,xq,hc,xk o4];unfold rZ;simp only [jf,fO,nX,fP,bN,List.nil_append,List.cons_append];rw [dR o2];simp
 · refine bO (bO (bO (bO ?_ ?_) ?_) (Dk o3)) (Dj o4)
   · exact aA Qm (aA bX eY)
   · split
     · exact eY
     · exact bO (Hy o1.1) (aA bX eY)
   · exact aA Hw (aA bX (aA (gL o2) eY))
 · have hw:=Dl aO [] rfl;rw [List.append_nil]at hw;have hu:=Dm stamp 0 _ hw
   have hf:nb false ([.wd (⟨#[70,82,79,77]⟩:ah), .bl, .wd o]++(dQ stamp 0++eX aO))=true:=by
    simp only [List.cons_append,List.nil_append,l5,og];exact hu
   have hcn:nb false ((if aD= []then []else jo aD++ [.bl])++([.wd (⟨#[70,82,79,77]⟩:ah), .bl, .wd o]++(dQ stamp 0++eX aO)))=true:=by
    split
    · exact hf
    · rw [List.append_assoc];refine Hz aD _ ?_;rw [List.cons_append,List.nil_append,l5];exact hf
   simp only [List.append_assoc];simp only [List.cons_append,List.nil_append,l5,og]at hcn⊢;exact hcn
theorem Uc {aD:List ByteArray}{o:ByteArray}{aO:List Pr}{limit:Int}(h:Om aD o aO limit):
 eG (stP (Md aD o aO limit))=aU (⟨#[115,101,108,101,99,116]⟩:ah)::JL aD o aO limit∧qQ (stP (Md aD o aO limit)):=by
 obtain ⟨o1,o2,⟨o3,_⟩,o4⟩:=h;have e:stP (Md aD o aO limit)= [.wd (⟨#[83,69,76,69,67,84]⟩:ah), .bl]++jo aD++ [.bl, .wd (⟨#[70,82,79,77]⟩:ah), .bl, .wd o]++eX aO++(if limit=0 then []else [.bl, .wd (⟨#[76,73,77,73,84]⟩:ah), .bl, .nm limit]):=rfl;rw [e]
 have hc:eG (if limit=0 then []else [.bl, .wd (⟨#[76,73,77,73,84]⟩:ah), .bl, .nm limit])=wY limit:=by
  unfold wY;split
  · rfl
  · simp only [gW,nX,nY,fP,bN,List.nil_append,List.cons_append]
 refine ⟨?_, ?_, ?_⟩
 · simp only [gy,hc,xk o3,Av o1.1];unfold JL;simp only [fI,jf,nX,fP,bN,List.nil_append,List.cons_append];rw [dR o2];simp
 · refine bO (bO (bO (bO ?_ (Hy o1.1)) ?_) (Dj o3)) ?_
   · exact aA F7 (aA bX eY)
   · exact aA bX (aA Hw (aA bX (aA (gL o2) eY)))
   · split
     · exact eY
     · rename_i hl;exact aA bX (aA TS (aA bX (aA (yN (o4.resolve_left hl)) eY)))
 · have hl:nb true (if limit=0 then []else [.bl, .wd (⟨#[76,73,77,73,84]⟩:ah), .bl, .nm limit])=true:=by
    split<;>rfl
   have hw:=Dl aO _ hl
   have hs:=Hz aD ([.bl, .wd (⟨#[70,82,79,77]⟩:ah), .bl, .wd o]++(eX aO++(if limit=0 then []else [.bl, .wd (⟨#[76,73,77,73,84]⟩:ah), .bl, .nm limit]))) (by
    simp only [List.cons_append,List.nil_append,l5,og];exact hw)
   simp only [List.append_assoc];simp only [List.cons_append,List.nil_append,l5,og]at hs⊢;exact hs
theorem Qn {nm:ByteArray}{aD:List ByteArray}{o on p q:ByteArray}(h:Hg nm aD o on p q):
 eG (stP (wE nm aD o on p q))=aU (⟨#[99,114,101,97,116,101]⟩:ah)::aU (⟨#[109,97,116,101,114,105,97,108,105,122,101,100]⟩:ah)::Bl nm aD o on p q∧qQ (stP (wE nm aD o on p q)):=by
 obtain ⟨o1,o2,o3,o4,o5,o6⟩:=h
 have e:stP (wE nm aD o on p q)= [.wd (⟨#[67,82,69,65,84,69]⟩:ah), .bl, .wd (⟨#[77,65,84,69,82,73,65,76,73,90,69,68]⟩:ah), .bl, .wd (⟨#[86,73,69,87]⟩:ah), .bl, .wd nm, .bl, .wd (⟨#[65,83]⟩:ah), .bl, .wd (⟨#[83,69,76,69,67,84]⟩:ah), .bl]++jo aD++ [.bl, .wd (⟨#[70,82,79,77]⟩:ah), .bl, .wd o, .bl, .wd (⟨#[87,72,69,82,69]⟩:ah), .bl, .wd on, .bl, .wd (⟨#[73,83]⟩:ah), .bl, .wd (⟨#[78,79,84]⟩:ah), .bl, .wd (⟨#[78,85,76,76]⟩:ah), .bl, .wd (⟨#[80,82,73,77,65,82,89]⟩:ah), .bl, .wd (⟨#[75,69,89]⟩:ah), .bl, .sg 40, .wd on, .sg 44, .bl, .wd p, .sg 44, .bl, .wd q, .sg 41]:=by
  rw [show stP (wE nm aD o on p q)=Bq (wE nm aD o on p q)from rfl];unfold Bq;simp [wE,gG,dx]
 rw [e];refine ⟨?_, ?_, ?_⟩
 · simp only [gy,Av o2.1];unfold Bl;simp only [fH,eB,kD,bQ,je,nM,fI,jf,gT,nN,kE,jg,nP,nQ,nR,nX,fP,bN,List.nil_append,List.cons_append];rw [dR o1,dR o3,dR o4,dR o5,dR o6];simp
 · refine bO (bO ?_ (Hy o2.1)) ?_
   · exact aA Aw (aA bX (aA BU (aA bX (aA Xl (aA bX (aA (gL o1) (aA bX (aA acn (aA bX (aA F7 (aA bX eY)))))))))))
   · exact aA bX (aA Hw (aA bX (aA (gL o3) (aA bX (aA JX (aA bX (aA (gL o4) (aA bX (aA aco (aA bX (aA Z7 (aA bX (aA Xm (aA bX (aA Dh (aA bX (aA TQ (aA bX (aA (lF (by decide)) (aA (gL o4) (aA (lF (by decide)) (aA bX (aA (gL o5) (aA (lF (by decide)) (aA bX (aA (gL o6) (aA (lF (by decide)) eY)))))))))))))))))))))))))))
 · have hs:=Hz aD [.bl, .wd (⟨#[70,82,79,77]⟩:ah), .bl, .wd o, .bl, .wd (⟨#[87,72,69,82,69]⟩:ah), .bl, .wd on, .bl, .wd (⟨#[73,83]⟩:ah), .bl, .wd (⟨#[78,79,84]⟩:ah), .bl, .wd (⟨#[78,85,76,76]⟩:ah), .bl, .wd (⟨#[80,82,73,77,65,82,89]⟩:ah), .bl, .wd (⟨#[75,69,89]⟩:ah), .bl, .sg 40, .wd on, .sg 44, .bl, .wd p, .sg 44, .bl, .wd q, .sg 41] (by
    simp only [nZ,l5,og,Dn])
   simp only [List.append_assoc];simp only [List.cons_append,List.nil_append,l5,og]at hs⊢;exact hs
theorem Mq {nm o on:ByteArray}(h:cB nm∧cB o∧cB on):
 eG (stP (Ap nm o on))=aU (⟨#[99,114,101,97,116,101]⟩:ah)::Ao nm o on∧qQ (stP (Ap nm o on)):=by
 obtain ⟨o1,o2,o3⟩:=h;have e:stP (Ap nm o on)= [.wd (⟨#[67,82,69,65,84,69]⟩:ah), .bl, .wd (⟨#[73,78,68,69,88]⟩:ah), .bl, .wd nm, .bl, .wd (⟨#[79,78]⟩:ah), .bl, .wd o, .bl, .sg 40, .wd on, .sg 41]:=rfl;rw [e];refine ⟨?_, ?_, ?_⟩
 · unfold Ao;simp only [fH,gU,nO,nP,nQ,nX,fP,bN,List.nil_append,List.cons_append];rw [dR o1,dR o2,dR o3];simp
 · exact aA Aw (aA bX (aA TR (aA bX (aA (gL o1) (aA bX (aA acp (aA bX (aA (gL o2) (aA bX (aA (lF (by decide)) (aA (gL o3) (aA (lF (by decide)) eY))))))))))))
 · simp only [nZ,l5,og,Dn]
theorem Qo {nm:ByteArray}(h:cB nm):
 eG (stP {Sx.zero with kind:=4,name:=nm})= [aU (⟨#[100,114,111,112]⟩:ah),fu nm]∧qQ (stP {Sx.zero with kind:=4,name:=nm}):=by
 have e:stP {Sx.zero with kind:=4,name:=nm}= [.wd (⟨#[68,82,79,80]⟩:ah), .bl, .wd nm]:=rfl;rw [e];refine ⟨?_, ?_, ?_⟩
 · simp only [jh,nX,fP,bN,List.nil_append,List.cons_append];rw [dR h];simp
 · exact aA Xn (aA bX (aA (gL h) eY))
 · simp only [l5,og,Dn]
theorem Qp {ty:Int}:(Pc.wd (if ty=1 then (⟨#[84,69,88,84]⟩:ah)else (⟨#[73,78,84]⟩:ah))).toks= [Bj ty]:=by
 unfold Bj;split
 · exact iO
 · exact jM
theorem Dp {c:Cl}(h:CY c):eG (dB c)= [fu c.name,Bj c.ty]:=by
 unfold dB;rw [bN,dR h.1,bN,bN,Qp];rfl
theorem J7:∀(l:List Cl),(∀c∈l,CY c)→l≠ []→eG (gG dx (l.map dB))++ [aU (⟨#[44]⟩:ah)]=l.flatMap CX:=by
 intro l h hne;rw [uK];cases l with
 |nil=>exact absurd rfl hne
 |cons a l=>
  simp only [List.map_cons];rw [Dp (h a (List.mem_cons_self ..)),qb,List.flatMap_map];have h2:∀c∈l,CY c:=fun c hc=>h c (List.mem_cons_of_mem _ hc)
  clear h hne
  induction l generalizing a with
  |nil=>rfl
  |cons b l ih=>
   have:=ih b (fun c hc=>h2 c (List.mem_cons_of_mem _ hc));simp only [List.flatMap_cons,Dp (h2 b (List.mem_cons_self ..))]at this⊢;rw [←this];simp [CX]
theorem Mr {nm:ByteArray}{C:List Cl}{pk ck:ByteArray}(h:rV nm C pk ck):
 ∃C',rV nm C' pk ck∧mD nm C' pk ck=mD nm C pk ck∧eG (stP (mD nm C pk ck))=aU (⟨#[99,114,101,97,116,101]⟩:ah)::aU (⟨#[116,97,98,108,101]⟩:ah)::uG nm C' pk ck∧qQ (stP (mD nm C pk ck)):=by
 obtain ⟨p,c,D,hp,hc,e0,e1,ok⟩:=qd h;refine ⟨p::c::D,ok,e1, ?_⟩;rw [e0];obtain ⟨o1,o2,_⟩:=ok
 have e:stP {Sx.zero with kind:=1,name:=nm,bW:=nm,part:=p,aY:=c,aF:=D}= [.wd (⟨#[67,82,69,65,84,69]⟩:ah), .bl, .wd (⟨#[84,65,66,76,69]⟩:ah), .bl, .wd nm, .bl, .sg 40]++gG dx ((p::c::D).map dB)++ [.sg 44, .bl, .wd (⟨#[80,82,73,77,65,82,89]⟩:ah), .bl, .wd (⟨#[75,69,89]⟩:ah), .bl, .sg 40, .wd pk, .sg 44, .bl, .wd ck, .sg 41, .sg 41]:=by
  rw [←hp,←hc];rfl
 rw [e];have np:cB pk:=hp▸(o2 p (List.mem_cons_self ..)).1;have nc:cB ck:=hc▸(o2 c (List.mem_cons_of_mem _ (List.mem_cons_self ..))).1;refine ⟨?_, ?_, ?_⟩
 · have ht:=J7 (p::c::D) o2 (by simp);unfold uG;rw [←ht];simp only [gy];simp only [fH,gQ,eB,kD,nP,nQ,nR,nX,fP,bN,List.nil_append,List.cons_append];rw [dR o1,dR np,dR nc];simp
 · refine bO (bO ?_ (Dg yM fun a ha=> ?_)) ?_
   · exact aA Aw (aA bX (aA TP (aA bX (aA (gL o1) (aA bX (aA (lF (by decide)) eY))))))
   · obtain ⟨s,hs,rfl⟩:=List.mem_map.1 ha;exact TY (o2 s hs)
   · exact aA (lF (by decide)) (aA bX (aA Dh (aA bX (aA TQ (aA bX (aA (lF (by decide)) (aA (gL np) (aA (lF (by decide)) (aA bX (aA (gL nc) (aA (lF (by decide)) (aA (lF (by decide)) eY))))))))))))
 · have hs:=Df dx yL ((p::c::D).map dB) [.sg 44, .bl, .wd (⟨#[80,82,73,77,65,82,89]⟩:ah), .bl, .wd (⟨#[75,69,89]⟩:ah), .bl, .sg 40, .wd pk, .sg 44, .bl, .wd ck, .sg 41, .sg 41] (fun a ha=>by obtain ⟨s,_,rfl⟩:=List.mem_map.1 ha;exact Ua s) (by simp only [nZ,l5,og,Dn]);simp only [List.append_assoc];simp only [List.cons_append,List.nil_append,nZ,l5,og]at hs⊢;exact hs
theorem GC.text {x:Sx}{L:List To}(h:GC x L):eG (stP x)=L∧qQ (stP x):=by
 cases h with
 |insert o c v a b h=>exact J4 h
 |update o a b c v h=>exact J5 h
 |remove o a b c h=>exact J6 h
theorem GP.text {x:Sx}{L:List To}(h:GP x L):GP x (eG (stP x))∧qQ (stP x):=by
 cases h with
 |ask o c v a h=>obtain ⟨h1,h2⟩:=Uc h;exact ⟨h1▸ .ask o c v a h,h2⟩
 |view o c v a p q h=>obtain ⟨h1,h2⟩:=Qn h;exact ⟨h1▸ .view o c v a p q h,h2⟩
 |index o c v h=>obtain ⟨h1,h2⟩:=Mq h;exact ⟨h1▸ .index o c v h,h2⟩
 |drop o h=>obtain ⟨h1,h2⟩:=Qo h;exact ⟨h1▸ .drop o h,h2⟩
 |table o c v a h=>
  obtain ⟨C',h1,h2,h3,h4⟩:=Mr h;refine ⟨?_,h4⟩;rw [h3,←h2];exact .table o C' v a h1
def kI:Tx.Nd→ni
 | .plain x=>⟨x, []⟩
 | .change x=>⟨x, []⟩
 | .batch l=>⟨{Sx.zero with kind:=9},l⟩
theorem GB.text {l:List Sx}{L:List To}(h:GB l L):eG ((l.map stP).flatMap fun a=>a++ [.sg 59, .bl])=L∧(∀p∈(l.map stP).flatMap fun a=>a++ [.sg 59, .bl],p.ok)∧∀r,nb false r=true→nb false (((l.map stP).flatMap fun a=>a++ [.sg 59, .bl])++r)=true:=by
 induction h with
 |nil=>exact ⟨rfl,by simp,fun r hr=>hr⟩
 | @cons x L l M hx hl ih=>
  obtain ⟨i1,i2,i3⟩:=ih;obtain ⟨g1,g2⟩:=hx.text;rw [List.map_cons,List.flatMap_cons];refine ⟨?_, ?_,fun r hr=> ?_⟩
  · rw [gy,i1,gy,g1];simp only [nS,nX,fP,bN,List.nil_append,List.cons_append];simp
  · exact bO (bO g2.ok (aA (lF (by decide)) (aA bX eY))) i2
  · simp only [List.append_assoc];refine Mj _ _ _ g2.nb ?_;simp only [List.cons_append,List.nil_append,nZ,l5];exact i3 r hr
theorem k_ne {k:Int}(h:k≠9) {x:Sx}(hx:x.kind=k):x.kind≠9:=by rw [hx];exact h
theorem Xt {x:Sx}{L:List To}(h:GC x L):x.kind≠9:=by
 cases h with
 |insert=>exact k_ne (k:=5) (by decide) rfl
 |update=>exact k_ne (k:=6) (by decide) rfl
 |remove=>exact k_ne (k:=7) (by decide) rfl
theorem Xu {x:Sx}{L:List To}(h:GP x L):x.kind≠9:=by
 cases h with
 |table nm C pk ck h=>
  obtain ⟨p,c,D,_,_,e0,_⟩:=qd h;rw [e0];exact k_ne (k:=1) (by decide) rfl
 |view=>exact k_ne (k:=2) (by decide) rfl
 |index=>exact k_ne (k:=3) (by decide) rfl
 |drop=>exact k_ne (k:=4) (by decide) rfl
 |ask=>exact k_ne (k:=8) (by decide) rfl
theorem GN.text {nd:Tx.Nd}{L:List To}(h:GN nd L):GN nd (eG (Ml (kI nd)))∧qQ (Ml (kI nd)):=by
 cases h with
 |plain h=>
  obtain ⟨h1,h2⟩:=h.text;have e:Ml (kI (.plain _))=stP _:=if_neg (Xu h);rw [e];exact ⟨.plain h1,h2⟩
 |change h=>
  obtain ⟨h1,h2⟩:=h.text;have e:Ml (kI (.change _))=stP _:=if_neg (Xt h);rw [e];exact ⟨.change (by have h' :=h;rw [←h1]at h';exact h'),h2⟩
 | @batch l L h h1 h2=>
  obtain ⟨g1,g2,g3⟩:=h.text;have e:Ml (kI (.batch l))= [.wd (⟨#[66,69,71,73,78]⟩:ah), .bl, .wd (⟨#[66,65,84,67,72]⟩:ah), .bl]++((l.map stP).flatMap fun a=>a++ [.sg 59, .bl])++ [.wd (⟨#[65,80,80,76,89]⟩:ah), .bl, .wd (⟨#[66,65,84,67,72]⟩:ah)]:=rfl;rw [e];refine ⟨?_, ?_, ?_⟩
  · rw [gy,gy,g1];have e1:eG [.wd (⟨#[66,69,71,73,78]⟩:ah), .bl, .wd (⟨#[66,65,84,67,72]⟩:ah), .bl]= [aU (⟨#[98,101,103,105,110]⟩:ah),aU (⟨#[98,97,116,99,104]⟩:ah)]:=by simp only [gX,gY,nX,fP,bN,List.nil_append,List.cons_append]
    have e2:eG [.wd (⟨#[65,80,80,76,89]⟩:ah), .bl, .wd (⟨#[66,65,84,67,72]⟩:ah)]= [aU (⟨#[97,112,112,108,121]⟩:ah),aU (⟨#[98,97,116,99,104]⟩:ah)]:=by simp only [gY,gZ,nX,fP,bN,List.nil_append,List.cons_append]
    rw [e1,e2];exact .batch h h1 h2
  · refine bO (bO (aA TU (aA bX (aA JY (aA bX eY)))) g2) (aA TV (aA bX (aA JY eY)))
  · rw [List.append_assoc];simp only [List.cons_append,List.nil_append,l5,og];exact g3 _ (by simp only [l5,og,Dn])
theorem Qq (n n' b0 b1 b2 b3 c1 c2 c3 g:Nat) (hn:1≤n) (hg:1≤g) (h1:1<g→c1=b1) (h2:2<g→c2=b2) (h3:3<g→c3=b3) (hgn:g≤n) (ait:g<n')
 (e1:g=1→c1 / 64≠2) (e2:g=2→c2 / 64≠2) (e3:g=3→c3 / 64≠2) (hw:(Lib.decodeN n b0 b1 b2 b3).2≤g):
 Lib.decodeN n' b0 c1 c2 c3=Lib.decodeN n b0 b1 b2 b3:=by
 by_cases hok:(Lib.decodeN n b0 b1 b2 b3).1≠65533∨1<(Lib.decodeN n b0 b1 b2 b3).2
 · obtain ⟨w,hwd⟩:∃w,(Lib.decodeN n b0 b1 b2 b3).2=w:=⟨_,rfl⟩;rw [hwd]at hw
   have hw1:1≤w:=by
    rcases iW n b0 b1 b2 b3 hn with ⟨h,_⟩|⟨_,h,_⟩<;>omega
   have hc:=uI n b0 b1 b2 b3 c1 c2 c3 w hwd (fun h=>h1 (by omega)) (fun h=>h2 (by omega)) (fun h=>h3 (by omega)) hok;rw [←hc];exact yt w n' b0 c1 c2 c3 c1 c2 c3 hw1 (by omega) (fun _=>rfl) (fun _=>rfl) (fun _=>rfl) (by rw [hc];exact hok)
 · have hok' :¬((Lib.decodeN n' b0 c1 c2 c3).1≠65533∨1<(Lib.decodeN n' b0 c1 c2 c3).2):=by
    intro hk;apply hok;obtain ⟨w,hwd⟩:∃w,(Lib.decodeN n' b0 c1 c2 c3).2=w:=⟨_,rfl⟩
    have hwg:1≤w∧w≤g:=by
     rcases iW n' b0 c1 c2 c3 (by omega)with ⟨h,_⟩|⟨_,ha,_,hb,hc1,hc2,hc3⟩
     · omega
     · rw [hwd]at ha hb hc2 hc3;refine ⟨by omega, ?_⟩;refine Decidable.byContradiction fun hlt=> ?_
       have hlt' :g<w:=by omega
       have:g=1∨g=2∨g=3:=by omega
       rcases this with h|h|h
       · exact e1 h hc1
       · exact e2 h (hc2 (by omega))
       · exact e3 h (hc3 (by omega))
    have hc:=uI n' b0 c1 c2 c3 b1 b2 b3 w hwd (fun h=>(h1 (by omega)).symm) (fun h=>(h2 (by omega)).symm) (fun h=>(h3 (by omega)).symm) hk;have:=yt w n b0 b1 b2 b3 b1 b2 b3 hwg.1 (by omega) (fun _=>rfl) (fun _=>rfl) (fun _=>rfl) (by rw [hc];exact hk);rw [this,hc];exact hk
   have bad:∀x:Nat×Nat,¬(x.1≠65533∨1<x.2)→1≤x.2→x=(65533,1):=by
    intro x h hx;have h1:x.1=65533:=Decidable.byContradiction fun e=>h (.inl e)
    have h2:¬1<x.2:=fun e=>h (.inr e)
    exact Prod.ext h1 (by show x.2=1;omega)
   have p1:1≤(Lib.decodeN n b0 b1 b2 b3).2:=by rcases iW n b0 b1 b2 b3 hn with ⟨h,_⟩|⟨_,h,_⟩<;>omega
   have p2:1≤(Lib.decodeN n' b0 c1 c2 c3).2:=by rcases iW n' b0 c1 c2 c3 (by omega)with ⟨h,_⟩|⟨_,h,_⟩<;>omega
   rw [bad _ hok p1,bad _ hok' p2]
theorem Qr (s u:ByteArray) (d:Nat) (hb:∀k,k<d→bY u k=bY s k) (hd:d≤s.size) (hu:d<u.size) (hc:bY u d<128) (p:Nat) (hp:p<d) (hw:p+(Utf8.decode s p).2≤d):
 Utf8.decode u p=Utf8.decode s p:=by
 rw [iV]at hw;rw [iV,iV s p,hb p hp];refine Qq (s.size - p) (u.size - p) (bY s p) (bY s (p+1)) (bY s (p+2)) (bY s (p+3)) _ _ _ (d - p) (by omega) (by omega) (fun h=>hb _ (by omega)) (fun h=>hb _ (by omega)) (fun h=>hb _ (by omega)) (by omega) (by omega) (fun h=> ?_) (fun h=> ?_) (fun h=> ?_) (by omega)
 · rw [show p+1=d by omega];omega
 · rw [show p+2=d by omega];omega
 · rw [show p+3=d by omega];omega
theorem drop_at (s:ByteArray):∀a pos,pos≤s.size→a≤(dD s pos).length→(dD s pos).drop a=dD s (aL s (dD s pos) a):=by
 intro a
 induction a with
 |zero=>intro pos h _;rw [List.drop_zero,jJ s pos h]
 |succ a ih=>
  intro pos h hl;by_cases hp:pos<s.size
  · have hw:=width_le s pos hp;rw [bq s pos hp]at hl⊢;rw [List.drop_succ_cons,ih _ hw (by simpa using hl)];rfl
  · rw [bI s pos hp]at hl;simp at hl
theorem Ms (s u:ByteArray) (d:Nat) (hb:∀k,k<d→bY u k=bY s k) (hd:d≤s.size) (hu:d<u.size) (hc:bY u d<128):
 ∀a pos,pos≤s.size→a≤(dD s pos).length→aL s (dD s pos) a=d→dD u pos=(dD s pos).take a++dD u d:=by
 intro a
 induction a with
 |zero=>intro pos h _ he;rw [jJ s pos h]at he;rw [he];rfl
 |succ a ih=>
  intro pos h hl he;by_cases hp:pos<s.size
  · have hw:=width_le s pos hp;have hw0:=width_pos s pos hp;rw [bq s pos hp]at hl he;have he' :aL s (dD s (pos+(Utf8.decode s pos).2)) a=d:=he;have hge:=(qF s a (pos+(Utf8.decode s pos).2) hw).1;rw [he']at hge;have hda:=Qr s u d hb hd hu hc pos (by omega) hge;rw [bq s pos hp,List.take_succ_cons,List.cons_append];rw [bq u pos (by omega),hda,ih _ hw (by simpa using hl) he']
  · rw [bI s pos hp]at hl;simp at hl
structure Ins (s u r B:ByteArray) (a d:Nat):Prop where
 cs:Cut s r ((pts s).take a) d
 cu:Cut u (B++r) ((pts s).take a) d
 al:a≤(pts s).length
 at_:aL s (pts s) a=d
 head:(pts u)[a]? =some ⟨bY u d,d,1⟩
 lo:bY u d=32∨bY u d=10∨bY u d=13
 eq:∀k,k<d→bY u k=bY s k
theorem Oy (s:ByteArray) (k:Nat) (h:0<bY s k):k<s.size:=by
 refine Decidable.byContradiction fun hn=> ?_
 rw [yj s k hn]at h;exact absurd h (by omega)
theorem aad (s B:ByteArray) (a:Nat) (al:a≤(pts s).length) (hB:bY B 0=32∨bY B 0=10∨bY B 0=13):
 Ins s ((s.extract 0 (aL s (pts s) a)++B)++s.extract (aL s (pts s) a) s.size) (s.extract (aL s (pts s) a) s.size) B a (aL s (pts s) a):=by
 obtain ⟨d,hd⟩:∃d,aL s (pts s) a=d:=⟨_,rfl⟩;have hdl:=Af s a;rw [hd]at hdl⊢;have hB0:0<B.size:=Oy B 0 (by omega);have hpre:(s.extract 0 d).size=d:=by rw [ByteArray.size_extract];omega
 obtain ⟨r,hr⟩:∃r,s.extract d s.size=r:=⟨_,rfl⟩;obtain ⟨p,hp⟩:∃p,s.extract 0 d=p:=⟨_,rfl⟩;have Xv:=Dc s d hdl;rw [hr,hp]at Xv⊢;rw [hp]at hpre;have e1:(p++B)++r=p++(B++r):=jZ p B r
 have hbs:∀k,k<d→bY ((p++B)++r) k=bY s k:=by
  intro k hk;rw [e1,Xv,jX _ _ k (by omega),jX _ _ k (by omega)]
 have hbd:bY ((p++B)++r) d=bY B 0:=by
  rw [e1];have:=qC p (B++r) 0;rw [hpre,Nat.add_zero]at this;rw [this,jX _ _ 0 hB0]
 have E8:((p++B)++r).size=d+(B++r).size:=by rw [e1,ByteArray.size_append,hpre]
 have hlt:d<((p++B)++r).size:=by rw [E8,ByteArray.size_append];omega
 have hss:s.size=d+r.size:=by
  have:=congrArg ByteArray.size Xv;rw [ByteArray.size_append,hpre]at this;exact this
 have hps:pts s=(pts s).take a++(pts r).map (Pt.shift d):=by
  have h1:=drop_at s a 0 (by omega) (by rw [←iD];exact al);rw [←iD,hd]at h1;have h2:=PN s d s.size 0 (by omega);rw [Nat.add_zero,hr,←iD]at h2;rw [h2]at h1;rw [←h1];exact (List.take_append_drop a _).symm
 have hpu:pts ((p++B)++r)=(pts s).take a++(pts (B++r)).map (Pt.shift d):=by
  have h1:=Ms s ((p++B)++r) d hbs hdl hlt (by omega) a 0 (by omega) (by rw [←iD];exact al) (by rw [←iD];exact hd);rw [←iD,←iD]at h1;rw [h1];congr 1;have h2:=uj p (B++r) (B++r).size 0 (by omega);rw [hpre,Nat.add_zero,←iD]at h2;rw [e1];exact h2
 have htl:((pts s).take a).length=a:=by rw [List.length_take];omega
 refine ⟨⟨?_,hss,hps⟩,⟨?_,E8,hpu⟩,al,hd, ?_,by rw [hbd];exact hB,hbs⟩
 · have:s.data.toList=p.data.toList++r.data.toList:=by rw [Xv,ByteArray.data_append,Array.toList_append]
   rw [this,List.drop_append_of_le_length (by show d≤p.size;omega),List.drop_eq_nil_of_le (by show p.size≤d;omega),List.nil_append]
 · have:((p++B)++r).data.toList=p.data.toList++(B++r).data.toList:=by rw [e1,ByteArray.data_append,Array.toList_append]
   rw [this,List.drop_append_of_le_length (by show d≤p.size;omega),List.drop_eq_nil_of_le (by show p.size≤d;omega),List.nil_append]
 · rw [hpu,List.getElem?_append_right (by omega),htl,Nat.sub_self,List.getElem?_map,iD,bq _ 0 (by rw [ByteArray.size_append];omega)];have hdec:Utf8.decode (B++r) 0=(bY (B++r) 0,1):=vO _ 0 (by rw [ByteArray.size_append];omega) (by rw [jX _ _ 0 hB0];omega);rw [hdec,List.getElem?_cons_zero,Option.map_some,hbd,jX _ _ 0 hB0];simp [Pt.shift]
theorem J8 (s:ByteArray) (i:Nat) (hi:i<(pts s).length):aL s (pts s) i<aL s (pts s) (i+1):=by
 have key:∀k pos,pos≤s.size→k<(dD s pos).length→aL s (dD s pos) k<aL s (dD s pos) (k+1):=by
  intro k
  induction k with
  |zero=>
   intro pos h hk;by_cases hp:pos<s.size
   · have hw:=width_pos s pos hp;have hl:=width_le s pos hp;rw [jJ s pos h,bq s pos hp];have:=(qF s 0 (pos+(Utf8.decode s pos).2) hl).1;show pos<aL s (dD s (pos+(Utf8.decode s pos).2)) 0;omega
   · rw [bI s pos hp]at hk;simp at hk
  |succ k ih=>
   intro pos h hk;by_cases hp:pos<s.size
   · have hl:=width_le s pos hp;rw [bq s pos hp]at hk⊢;exact ih _ hl (by simpa using hk)
   · rw [bI s pos hp]at hk;simp at hk
 have:=key i 0 (by omega) (by rw [←iD];exact hi);rw [←iD]at this;exact this
theorem Mt (s:ByteArray) (next:Int) (i:Nat) (hn:next≤s.size):next≤aL s (pts s) (bF (pts s) next i):=by
 have key:∀n i,(pts s).length - i≤n→next≤aL s (pts s) (bF (pts s) next i):=by
  intro n
  induction n with
  |zero=>
   intro i h;unfold bF;rw [oz (by omega)];unfold aL;rw [List.getElem?_eq_none (by omega)];exact hn
  |succ n ih=>
   intro i h;by_cases hl:i<(pts s).length
   · by_cases hc:(((pts s)[i].at_:Nat):Int)<next
     · have:bF (pts s) next i=bF (pts s) next (i+1):=by
        unfold bF;exact fF hl (by simp only [List.getElem?_eq_getElem hl];exact decide_eq_true hc)
       rw [this];exact ih (i+1) (by omega)
     · have:bF (pts s) next i=i:=by
        unfold bF;exact eu (by simp only [List.getElem?_eq_getElem hl];exact decide_eq_false hc)
       rw [this];unfold aL;rw [List.getElem?_eq_getElem hl];show next≤(((pts s)[i].at_:Nat):Int);omega
   · unfold bF;rw [oz (by omega)];unfold aL;rw [List.getElem?_eq_none (by omega)];exact hn
 exact key _ i (Nat.le_refl _)
theorem Ud:∀(n:Nat) (l:List UInt8) (x:List UInt8×Nat),l.length≤n→lW l=some x→l[x.2]? ≠some 39:=by
 intro n
 induction n with
 |zero=>intro l x hl hx;cases l with|nil=>simp [lW]at hx|cons=>simp at hl
 |succ n ih=>
  intro l x hl hx
  match l with
  | []=>simp [lW]at hx
  |c::t=>
   rw [lW.eq_def]at hx;simp only at hx;by_cases hc:c=39
   · rw [if_pos hc]at hx
     match t with
     | []=>simp at hx;subst hx;simp
     |e::v=>
      simp only at hx;by_cases he:e=39
      · rw [if_pos he]at hx;obtain ⟨y,hy,rfl⟩:=Option.map_eq_some_iff.1 hx;have:=ih v y (by simp at hl;omega) hy;simpa using this
      · rw [if_neg he]at hx;cases hx;simpa using he
   · rw [if_neg hc]at hx;obtain ⟨y,hy,rfl⟩:=Option.map_eq_some_iff.1 hx;have:=ih t y (by simp at hl;omega) hy;simpa using this
theorem Qs:∀(n:Nat) (l m:List UInt8) (x:List UInt8×Nat),l.length≤n→lW l=some x→(∀k,k<x.2→m[k]? =l[k]?)→m[x.2]? ≠some 39→lW m=some x:=by
 intro n
 induction n with
 |zero=>intro l m x hl hx;cases l with|nil=>simp [lW]at hx|cons=>simp at hl
 |succ n ih=>
  intro l m x hl hx hk hn
  match l with
  | []=>simp [lW]at hx
  |c::t=>
   have hx0:=hx;rw [lW.eq_def]at hx;simp only at hx;by_cases hc:c=39
   · rw [if_pos hc]at hx
     match t with
     | []=>
      simp at hx;subst hx;have h0:=hk 0 (by simp);cases m with
      |nil=>simp at h0
      |cons b m' =>
       simp at h0;subst h0;rw [lW.eq_def];simp only [if_pos hc];cases m' with
       |nil=>rfl
       |cons b' m'' =>simp at hn;simp [hn]
     |e::v=>
      simp only at hx;by_cases he:e=39
      · rw [if_pos he]at hx;obtain ⟨y,hy,rfl⟩:=Option.map_eq_some_iff.1 hx;have h0:=hk 0 (by simp);have h1:=hk 1 (by simp)
        match m with
        | []=>simp at h0
        | [b]=>simp at h1
        |b::b' ::m' =>
         simp at h0 h1;subst h0;subst h1;rw [lW.eq_def];simp only [if_pos hc,if_pos he];rw [ih v m' y (by simp at hl;omega) hy (fun k hk2=>by have:=hk (k+2) (by simp;omega);simpa using this) (by simpa using hn)];rfl
      · rw [if_neg he]at hx;cases hx;have h0:=hk 0 (by simp);cases m with
        |nil=>simp at h0
        |cons b m' =>
         simp at h0;subst h0;rw [lW.eq_def];simp only [if_pos hc];cases m' with
         |nil=>rfl
         |cons b' m'' =>simp at hn;simp [hn]
   · rw [if_neg hc]at hx;obtain ⟨y,hy,rfl⟩:=Option.map_eq_some_iff.1 hx;have h0:=hk 0 (by simp);cases m with
     |nil=>simp at h0
     |cons b m' =>
      simp at h0;subst h0;rw [lW.eq_def];simp only [if_neg hc];rw [ih t m' y (by simp at hl;omega) hy (fun k hk2=>by have:=hk (k+1) (by simp;omega);simpa using this) (by simpa using hn)];rfl
section
variable {s u r B:ByteArray}{a d:Nat}(h:Ins s u r B a d)
include h
theorem Ins.get {j:Nat}(hj:j<a):(pts u)[j]? =(pts s)[j]? :=by
 have:=h.al;rw [h.cu.pts,List.getElem?_append_left (by rw [List.length_take];omega),List.getElem?_take_of_lt hj]
theorem Ins.fE {j:Nat}(hj:j<a) (c:Int):aK.fE (pts u) j c=aK.fE (pts s) j c:=by unfold aK.fE;rw [h.get hj]
theorem Ins.dn {j:Nat}(hj:j<a):aK.dn (pts u) j=aK.dn (pts s) j:=by unfold aK.dn;rw [h.get hj]
theorem Ins.bT {j:Nat}(hj:j<a):aK.bT (pts u) j=aK.bT (pts s) j:=by unfold aK.bT;rw [h.get hj]
theorem Ins.jl {j:Nat}(hj:j<a):aK.jl (pts u) j=aK.jl (pts s) j:=by unfold aK.jl;rw [h.get hj]
theorem Ins.acr (c:Int) (hc:c≠32∧c≠10∧c≠13):aK.fE (pts u) a c=false:=by
 unfold aK.fE;rw [h.head,beq_eq_false_iff_ne];have:=h.lo;show ((bY u d:Nat):Int)≠c;omega
theorem Ins.Ze:aK.dn (pts u) a=false:=by
 unfold aK.dn;rw [h.head];have:=h.lo;simp only [dV];rw [Bool.and_eq_false_iff];right;simp only [Bool.or_eq_false_iff,Bool.and_eq_false_iff,beq_eq_false_iff_ne,decide_eq_false_iff_not];omega
theorem Ins.headD:aK.bT (pts u) a=false:=by
 unfold aK.bT;rw [h.head];have:=h.lo;simp only [iw,Bool.and_eq_false_iff,decide_eq_false_iff_not];omega
theorem Ins.Xw:a<(pts u).length:=(List.getElem?_eq_some_iff.1 h.head).1
theorem Ins.aL {j:Nat}(hj:j≤a):aK.aL u (pts u) j=aK.aL s (pts s) j:=by
 by_cases hlt:j<a
 · unfold aK.aL;have:=h.al;rw [h.get hlt,List.getElem?_eq_getElem (by omega)]
 · obtain rfl:j=a:=by omega
   rw [h.at_];unfold aK.aL;rw [h.head]
theorem Ins.len:(pts u).length=a+(pts (B++r)).length:=by
 have:=h.al;rw [h.cu.len,List.length_take,Nat.min_eq_left this]
theorem Ins.dF (f g:Nat→Bool) (hfg:∀j,j<a→f j=g j) (hst:f a=false) (i:Nat) (hi:i≤a) (he:aK.dF g (pts s).length i≤a):aK.dF f (pts u).length i=aK.dF g (pts s).length i:=by
 have hal:=h.al;have hul:=h.Xw
 have key:∀n i,a - i≤n→i≤a→aK.dF g (pts s).length i≤a→aK.dF f (pts u).length i=aK.dF g (pts s).length i:=by
  intro n
  induction n with
  |zero=>
   intro i hn hi he;obtain rfl:i=a:=by omega
   rw [eu hst];have:=ng g (pts s).length i;omega
  |succ n ih=>
   intro i hn hi he;by_cases hia:i=a
   · subst hia;rw [eu hst];have:=ng g (pts s).length i;omega
   · cases hg:g i with
     |false=>rw [eu hg,eu (by rw [hfg i (by omega)];exact hg)]
     |true=>
      rw [fF (by omega) hg]at he⊢;rw [fF (by omega) (by rw [hfg i (by omega)];exact hg)];exact ih (i+1) (by omega) (by omega) he
 exact key _ i (Nat.le_refl _) hi he
theorem Ins.dW {i:Nat}(hi:i≤a) (he:aK.dW (pts s) i≤a):aK.dW (pts u) i=aK.dW (pts s) i:=
 h.dF _ _ (fun j hj=>by rw [h.dn hj,h.bT hj]) (by rw [h.Ze,h.headD];rfl) i hi he
theorem Ins.extract (x y:Nat) (hy:y≤d):u.extract x y=s.extract x y:=by
 have hu:=h.cu.size;have hs:=h.cs.size;apply ByteArray.ext;apply Array.ext';apply List.ext_getElem?;intro k;simp only [ByteArray.data_extract,Array.toList_extract,List.extract_eq_take_drop,List.getElem?_take,List.getElem?_drop];by_cases hk:k<y - x
 · rw [if_pos hk,if_pos hk];have hks:x+k<s.size:=by omega
   have hku:x+k<u.size:=by omega
   have:=h.eq (x+k) (by omega);rw [←jk u _ hku,←jk s _ hks]at this;rw [List.getElem?_eq_getElem (show x+k<u.data.toList.length from hku),List.getElem?_eq_getElem (show x+k<s.data.toList.length from hks)];exact congrArg some (UInt8.toNat_inj.1 this)
 · rw [if_neg hk,if_neg hk]
theorem Ins.jD {i:Nat}(hi:i≤a) (he:aK.dW (pts s) i≤a):aK.jD u (pts u) i=aK.jD s (pts s) i:=by
 have hb:aK.aL s (pts s) (aK.dW (pts s) i)≤d:=by rw [←h.at_];exact pW s _ _ he
 have ht:aK.lD u (pts u) i=aK.lD s (pts s) i:=by
  unfold aK.lD;rw [h.dW hi he,h.aL hi,h.aL he,h.extract _ _ hb]
 unfold aK.jD;rw [ht,h.dW hi he]
theorem Ins.num (i:Nat) (hi:i≤a):∀(v:Int) (ok:Bool),(aK.num (pts s) i v ok).2.2≤a→aK.num (pts u) i v ok=aK.num (pts s) i v ok:=by
 have key:∀n i,a - i≤n→i≤a→∀(v:Int) (ok:Bool),(aK.num (pts s) i v ok).2.2≤a→aK.num (pts u) i v ok=aK.num (pts s) i v ok:=by
  intro n
  induction n with
  |zero=>
   intro i hn hi v ok he;obtain rfl:i=a:=by omega
   cases hd:aK.bT (pts s) i with
   |false=>rw [jI h.headD,jI hd]
   |true=>
    rw [oI hd]at he;have:=Cj (pts s) ((pts s).length - (i+1)) (i+1) (min (v*10+(aK.jl (pts s) i - 48)) 1099511627776) (ok&&decide (v*10+(aK.jl (pts s) i - 48)≤1099511627776));unfold aK.num at he;omega
  |succ n ih=>
   intro i hn hi v ok he;by_cases hia:i=a
   · subst hia;cases hd:aK.bT (pts s) i with
     |false=>rw [jI h.headD,jI hd]
     |true=>
      rw [oI hd]at he;have:=Cj (pts s) ((pts s).length - (i+1)) (i+1) (min (v*10+(aK.jl (pts s) i - 48)) 1099511627776) (ok&&decide (v*10+(aK.jl (pts s) i - 48)≤1099511627776));unfold aK.num at he;omega
   · have hlt:i<a:=by omega
     cases hd:aK.bT (pts s) i with
     |false=>rw [jI hd,jI (by rw [h.bT hlt];exact hd)]
     |true=>
      rw [oI hd]at he⊢;rw [oI (by rw [h.bT hlt];exact hd),h.jl hlt];exact ih (i+1) (by omega) (by omega) _ _ he
 exact key _ i (Nat.le_refl _) hi
theorem Ins.bR {i:Nat}(hi:i<a) (hok:(aK.bR (pts s) i).2.1=true) (he:(aK.bR (pts s) i).2.2≤a):aK.bR (pts u) i=aK.bR (pts s) i:=by
 have hok1:((aK.fV (pts s) i).2.1&& !aK.dn (pts s) (aK.fV (pts s) i).2.2)=true:=hok;have he1:(aK.fV (pts s) i).2.2≤a:=he;rw [Bool.and_eq_true]at hok1;have hst:aK.bJ (pts u) i=aK.bJ (pts s) i:=by unfold aK.bJ;rw [h.fE hi]
 have hge:=(Oi (P:=pts s) (i:=i) (by have:=h.al;omega) hok1.1).1
 have hnr:aK.fV (pts u) i=aK.fV (pts s) i:=by
  have hd0:aK.bT (pts s) (aK.bJ (pts s) i)=true:=by
   cases hd:aK.bT (pts s) (aK.bJ (pts s) i)with
   |true=>rfl
   |false=>
    have:=hok1.1;unfold aK.fV at this;rw [hd]at this;unfold aK.num at this;rw [Oh]at this;cases this
  have hsl:aK.bJ (pts s) i<a:=by
   have h1:(aK.fV (pts s) i).2.2=(aK.num (pts s) (aK.bJ (pts s) i) 0 (aK.bT (pts s) (aK.bJ (pts s) i))).2.2:=rfl;rw [h1,oI hd0]at he1;have:=Cj (pts s) ((pts s).length - (aK.bJ (pts s) i+1)) (aK.bJ (pts s) i+1) (min (0*10+(aK.jl (pts s) (aK.bJ (pts s) i) - 48)) 1099511627776) (aK.bT (pts s) (aK.bJ (pts s) i)&&decide (0*10+(aK.jl (pts s) (aK.bJ (pts s) i) - 48)≤1099511627776));unfold aK.num at he1;omega
  unfold aK.fV;rw [hst,h.bT hsl];exact h.num _ (by omega) _ _ he1
 unfold aK.bR;rw [hnr,h.fE hi]
 have hl:aK.dn (pts u) (aK.fV (pts s) i).2.2=aK.dn (pts s) (aK.fV (pts s) i).2.2:=by
  by_cases hea:(aK.fV (pts s) i).2.2=a
  · have:=hok1.2;rw [hea]at this⊢;rw [h.Ze];cases hx:aK.dn (pts s) a with
    |false=>rfl
    |true=>rw [hx]at this;cases this
  · exact h.dn (by omega)
 rw [hl]
theorem Ins.jm {i:Nat}(hi:i<a) (hok:(aK.jm s (pts s) i).2.1=true) (he:(aK.jm s (pts s) i).2.2≤a):aK.jm u (pts u) i=aK.jm s (pts s) i:=by
 rw [qG]at hok he⊢;rw [qG,h.aL (by omega)];simp only [Bool.and_eq_true]at hok;obtain ⟨f,hf⟩:∃f,aK.aL s (pts s) i=f:=⟨_,rfl⟩;rw [hf]at hok he⊢
 have hfd:f<d:=by
  have h1:=h.al;have h2:=pW s (i+1) a (by omega);rw [h.at_]at h2;have h3:aK.aL s (pts s) i<aK.aL s (pts s) (i+1):=J8 s i (by omega);omega
 -- where the text ends
 have hnd:tT s f≤d:=by
  have h1:aK.bF (pts s) (tT s f) i≤a:=he;have h2:=pW s _ _ h1;rw [h.at_]at h2;have h3:=Mt s (tT s f) i (G6 s f).2;omega
 have hun:bV u f=bV s f:=by
  have hs:=h.cs.size;have hu:=h.cu.size;unfold BS at hok;unfold tT at hnd;unfold bV at hok hnd⊢;by_cases hc:0≤(f:Int)∧(f:Int)<s.size∧s.data.toList[(f:Int).toNat]? =some 39
  · rw [if_pos hc]at hok hnd⊢;simp only [Int.toNat_natCast]at hc hok hnd⊢
    have hbu:u.data.toList[f]? =some 39:=by
     rw [←hc.2.2];have:=congrArg (fun x:ByteArray=>x.data.toList[f]?) (h.extract 0 d (Nat.le_refl _));simp only [ByteArray.data_extract,Array.toList_extract,List.extract_eq_take_drop,List.drop_zero,Nat.sub_zero,List.getElem?_take]at this;rw [if_pos hfd,if_pos hfd]at this;exact this
    rw [if_pos ⟨by omega,by omega,hbu⟩];cases hq:lW (s.data.toList.drop (f+1))with
    |none=>rw [hq]at hok;simp at hok
    |some x=>
     rw [hq]at hnd;simp only [Option.map_some]at hnd;have hx:f+1+x.2≤d:=by omega
     have hpre:∀k,k<x.2→(u.data.toList.drop (f+1))[k]? =(s.data.toList.drop (f+1))[k]? :=by
      intro k hk;rw [List.getElem?_drop,List.getElem?_drop];have:=congrArg (fun x:ByteArray=>x.data.toList[f+1+k]?) (h.extract 0 d (Nat.le_refl _));simp only [ByteArray.data_extract,Array.toList_extract,List.extract_eq_take_drop,List.drop_zero,Nat.sub_zero,List.getElem?_take]at this;rw [if_pos (by omega),if_pos (by omega)]at this;exact this
     have hnext:(u.data.toList.drop (f+1))[x.2]? ≠some 39:=by
      rw [List.getElem?_drop];by_cases hxd:f+1+x.2=d
      · rw [hxd]
        have hlt:d<u.size:=by
         have:=h.lo;exact Oy u d (by omega)
        rw [List.getElem?_eq_getElem (show d<u.data.toList.length from hlt)];intro e;have e2:u[d]'hlt=39:=Option.some.inj e;have:=h.lo;rw [←jk u d hlt,e2]at this;exact absurd this (by decide)
      · have h1:=Ud _ _ x (Nat.le_refl _) hq;rw [List.getElem?_drop]at h1;have h2:=congrArg (fun y:ByteArray=>y.data.toList[f+1+x.2]?) (h.extract 0 d (Nat.le_refl _));simp only [ByteArray.data_extract,Array.toList_extract,List.extract_eq_take_drop,List.drop_zero,Nat.sub_zero,List.getElem?_take]at h2;rw [if_pos (by omega),if_pos (by omega)]at h2;rw [h2];exact h1
     rw [Qs _ _ _ x (Nat.le_refl _) hq hpre hnext]
  · rw [if_neg hc]at hok;cases hok.1
 unfold Ah tT BS at *;rw [hun];refine Prod.ext rfl (Prod.ext rfl ?_);show aK.bF (pts u) _ i=aK.bF (pts s) _ i;refine h.dF _ _ (fun j hj=>by rw [h.get hj]) ?_ i (by omega) he;simp only [h.head];exact decide_eq_false (by show¬((d:Int)<_);omega)
end
end aK
end Go.Proofs.YtnngbhpeeakfaaaGreatDoor
