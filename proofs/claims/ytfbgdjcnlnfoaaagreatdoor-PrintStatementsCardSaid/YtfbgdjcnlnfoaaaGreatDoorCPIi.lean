/- Parts of the proof, joined: PlainPW. -/
import Derived.Test.YtfbgdjcnlnfoaaaGreatDoorB09
import Derived.Test.YtfbgdjcnlnfoaaaGreatDoorRows
namespace Go.Proofs.YtfbgdjcnlnfoaaaGreatDoor
namespace aH
def yh:List ByteArray:= [(⟨#[120]⟩:ByteArray),(⟨#[121]⟩:ByteArray),(⟨#[122]⟩:ByteArray),(⟨#[105,116,39,115]⟩:ByteArray),⟨#[]⟩,⟨#[195,169]⟩,(⟨#[109]⟩:ByteArray),(⟨#[110]⟩:ByteArray),(⟨#[111]⟩:ByteArray)]
def mQ:List ByteArray:= [(⟨#[112]⟩:ByteArray),(⟨#[107]⟩:ByteArray),(⟨#[97]⟩:ByteArray),(⟨#[98]⟩:ByteArray),(⟨#[99]⟩:ByteArray),(⟨#[100]⟩:ByteArray)]
def Vt (t:Tm):Prop:=(t.ty=1∧t.s∈yh∧t.n=0)∨(t.ty=2∧t.s=⟨#[]⟩∧ -2≤t.n∧t.n≤4)
def tu (p:Pr):Prop:=p.name∈mQ∧Vt p.t
theorem FH:∀s∈yh,valid s=true∧s.size≤100∧(quote s).size≤7:=by decide+kernel
theorem FI:∀s∈mQ,(jQ s=true∧fold s=s∧s.size≤100∧Eo s=false)∧s.size≤1:=by decide+kernel
theorem Vu:mQ.Nodup:=by decide+kernel
theorem zU {s:ByteArray}(h:s∈mQ):bH s:=(FI s h).1
theorem Mc {t:Tm}(h:Vt t):nN t:=by
 rcases h with ⟨h1,h2,h3⟩|⟨h1,h2,h3,h4⟩
 · exact .inl ⟨h1,(FH _ h2).1,(FH _ h2).2.1,h3⟩
 · exact .inr ⟨h1,h2,by omega,by omega⟩
theorem sw (p:Pc):aG [p]=p.text:=by apply ByteArray.ext;apply Array.ext';simp [aG]
theorem Sm:bH (⟨#[116]⟩:ByteArray):=⟨by decide+kernel,by decide+kernel,by decide,by decide+kernel⟩
theorem zV {p:Pr}(h:tu p):j3 p:=⟨zU h.1,Mc h.2⟩
theorem KE {v:Int}(h0: -2≤v) (h1:v≤9):(j4 v).size≤2:=by
 have:v= -2∨v= -1∨v=0∨v=1∨v=2∨v=3∨v=4∨v=5∨v=6∨v=7∨v=8∨v=9:=by omega
 rcases this with rfl|rfl|rfl|rfl|rfl|rfl|rfl|rfl|rfl|rfl|rfl|rfl<;>decide+kernel
theorem Sn {t:Tm}(h:Vt t):(aG [fH t]).size≤7:=by
 rw [sw]
 unfold fH
 rcases h with ⟨h1,h2,_⟩|⟨h1,_,h3,h4⟩
 · rw [if_pos h1];exact (FH _ h2).2.2
 · rw [if_neg (by omega)];have:=KE h3 (by omega);show (j4 t.n).size≤7;omega
theorem eU (a b:List Pc):(aG (a++b)).size=(aG a).size+(aG b).size:=by rw [bP,ByteArray.size_append]
theorem DV (sep:List Pc) {m:Nat}:∀l:List (List Pc),(∀a∈l,(aG a).size≤m)→(aG (l.flatMap fun b=>sep++b)).size≤l.length*(m+(aG sep).size)
 | [],_=>Nat.zero_le _
 |a::l,h=>by
  have h1:=h a (List.mem_cons_self ..)
  have h2:=DV sep l fun x hx=>h x (List.mem_cons_of_mem _ hx)
  rw [List.flatMap_cons,eU,eU,List.length_cons,Nat.add_mul]
  omega
theorem oV (sep:List Pc) {m:Nat}(l:List (List Pc)) (h:∀a∈l,(aG a).size≤m):(aG (iQ sep l)).size≤l.length*(m+(aG sep).size):=by
 cases l with
 |nil=>exact Nat.zero_le _
 |cons a l=>
  have h1:=h a (List.mem_cons_self ..)
  have h2:=DV sep l fun x hx=>h x (List.mem_cons_of_mem _ hx)
  unfold iQ
  rw [eU,List.length_cons,Nat.add_mul]
  omega
theorem DW {m:Nat}:∀l:List (List Pc),(∀a∈l,(aG a).size≤m)→(aG (l.flatMap fun a=>a++ [.sg 59,.bl])).size≤l.length*(m+2)
 | [],_=>Nat.zero_le _
 |a::l,h=>by
  have h1:=h a (List.mem_cons_self ..)
  have h2:=DW l fun x hx=>h x (List.mem_cons_of_mem _ hx)
  have h3:(aG [.sg 59,.bl]).size=2:=by decide+kernel
  rw [List.flatMap_cons,eU,eU,List.length_cons,Nat.add_mul]
  omega
theorem wW:(aG dw).size=2:=by decide+kernel
theorem Yg:(aG EN).size=5:=by decide+kernel
theorem Md {p:Pr}(h:tu p):(aG (dL p)).size≤11:=by
 have e:dL p= [.wd p.name]++([.bl,.sg 61,.bl]++ [fH p.t]):=rfl
 have h1:(aG [.wd p.name]).size≤1:=by
  rw [sw];exact (FI _ h.1).2
 have h2:(aG [.bl,.sg 61,.bl]).size=3:=by decide+kernel
 have h3:=Sn h.2
 rw [e,eU,eU]
 omega
theorem FJ {stamp ttl:Int}(h0:0≤stamp∧stamp≤9) (h1:0≤ttl∧ttl≤9):(aG (dG stamp ttl)).size≤40:=by
 have nm:∀v:Int,0≤v∧v≤9→(aG [.nm v]).size≤2:=fun v hv=>by
  rw [sw];exact KE (by omega) hv.2
 have n0:=nm _ h0
 have n1:=nm _ h1
 unfold dG
 split
 · split
   · show 0≤40;omega
   · have e:(aG ([.bl,.wd (⟨#[85,83,73,78,71]⟩:ByteArray),.bl,.wd (⟨#[84,84,76]⟩:ByteArray),.bl]++ [.nm ttl])).size=11+(aG [.nm ttl]).size:=by rw [eU];congr 1
     have e2:=e
     simp only [List.cons_append,List.nil_append]at e2
     omega
 · split
   · have e:(aG ([.bl,.wd (⟨#[85,83,73,78,71]⟩:ByteArray),.bl,.wd (⟨#[84,73,77,69,83,84,65,77,80]⟩:ByteArray),.bl]++ [.nm stamp])).size=17+(aG [.nm stamp]).size:=by rw [eU];congr 1
     simp only [List.cons_append,List.nil_append]at e
     omega
   · have e:(aG ([.bl,.wd (⟨#[85,83,73,78,71]⟩:ByteArray),.bl,.wd (⟨#[84,73,77,69,83,84,65,77,80]⟩:ByteArray),.bl]++([.nm stamp]++([.bl,.wd (⟨#[65,78,68]⟩:ByteArray),.bl,.wd (⟨#[84,84,76]⟩:ByteArray),.bl]++ [.nm ttl])))).size=17+((aG [.nm stamp]).size+(9+(aG [.nm ttl]).size)):=by rw [eU,eU,eU];congr 1
     simp only [List.cons_append,List.nil_append]at e
     omega
theorem KF {s:ByteArray}(h:s∈mQ):(aG [.wd s]).size≤1:=by
 rw [sw];exact (FI _ h).2
theorem FK {l:List Pr}(h:∀p∈l,tu p) (hl:l.length≤2):(aG (dP l)).size≤40:=by
 unfold dP
 have h1:(aG [.bl,.wd (⟨#[87,72,69,82,69]⟩:ByteArray),.bl]).size=7:=by decide+kernel
 have h2:=oV EN (m:=11) (l.map dL) (fun a ha=>by obtain ⟨p,hp,rfl⟩:=List.mem_map.1 ha;exact Md (h p hp))
 rw [Yg,List.length_map]at h2
 have h3:l.length*(11+5)≤2*16:=Nat.mul_le_mul_right _ hl
 rw [eU]
 omega
theorem Ce {stamp ttl:Int}(h0:0≤stamp∧stamp≤9) (h1:0≤ttl∧ttl≤9):nu true stamp ttl:=
 ⟨if h:stamp=0 then .inl h else .inr ⟨by omega,by omega⟩,if h:ttl=0 then .inl h else .inr ⟨rfl,by omega,by omega⟩⟩
theorem FL {l:List ByteArray}(h:l.Sublist mQ):nk [] l:=(oM _ _).2 ⟨by simp,Vu.sublist h⟩
def KG (x:Sx):Prop:=(∃L,GC x L)∧(aG (stP x)).size≤250
theorem zip_map:∀l:List Pr,List.zipWith Pr.mk (l.map Pr.name) (l.map Pr.t)=l
 | []=>rfl
 |p::l=>by rw [List.map_cons,List.map_cons,List.zipWith_cons_cons,zip_map l]
theorem OV {l:List Pr}{stamp ttl:Int}(hl:l≠ []) (hs:∀p∈l,tu p) (hn:(l.map Pr.name).Sublist mQ) (h0:0≤stamp∧stamp≤9) (h1:0≤ttl∧ttl≤9):
 KG {Sx.zero with kind:=5,bM:=(⟨#[116]⟩:ByteArray),sets:=l,stamp:=stamp,ttl:=ttl}:=by
 have hlen:l.length≤6:=by have:=hn.length_le;simpa [mQ]using this
 have hok:rH (⟨#[116]⟩:ByteArray) (l.map Pr.name) (l.map Pr.t) stamp ttl:=by
  refine ⟨Sm,by simpa using hl,⟨fun s hs' => ?_,FL hn,by rw [List.length_map];omega⟩,by simp,fun t ht=> ?_,Ce h0 h1⟩
  · obtain ⟨p,hp,rfl⟩:=List.mem_map.1 hs';exact zU (hs p hp).1
  · obtain ⟨p,hp,rfl⟩:=List.mem_map.1 ht;exact Mc (hs p hp).2
 have hG:=GC.insert _ _ _ _ _ hok
 unfold ny at hG
 rw [zip_map]at hG
 refine ⟨⟨_,hG⟩,?_⟩
 show (aG (nA _)).size≤250
 unfold nA
 have a1:(aG [.wd (⟨#[73,78,83,69,82,84]⟩:ByteArray),.bl,.wd (⟨#[73,78,84,79]⟩:ByteArray),.bl,.wd (⟨#[116]⟩:ByteArray),.bl,.sg 40]).size=15:=by decide+kernel
 have a2:(aG [.sg 41,.bl,.wd (⟨#[86,65,76,85,69,83]⟩:ByteArray),.bl,.sg 40]).size=10:=by decide+kernel
 have a3:(aG [.sg 41]).size=1:=by decide+kernel
 have b1:=oV dw (m:=1) (l.map fun p=> [.wd p.name]) (fun a ha=>by obtain ⟨p,hp,rfl⟩:=List.mem_map.1 ha;exact KF (hs p hp).1)
 have b2:=oV dw (m:=7) (l.map fun p=> [fH p.t]) (fun a ha=>by obtain ⟨p,hp,rfl⟩:=List.mem_map.1 ha;exact Sn (hs p hp).2)
 rw [wW,List.length_map]at b1 b2
 have b3:=FJ h0 h1
 have c1:l.length*(1+2)≤6*3:=Nat.mul_le_mul_right _ hlen
 have c2:l.length*(7+2)≤6*9:=Nat.mul_le_mul_right _ hlen
 simp only [eU]
 omega
theorem OW {l m:List Pr}{stamp ttl:Int}(hl:l≠ []) (hs:∀p∈l,tu p) (hn:(l.map Pr.name).Sublist mQ) (hm:∀p∈m,tu p) (hm2:m.length=2) (h0:0≤stamp∧stamp≤9) (h1:0≤ttl∧ttl≤9):
 KG {Sx.zero with kind:=6,bM:=(⟨#[116]⟩:ByteArray),sets:=l,aP:=m,stamp:=stamp,ttl:=ttl}:=by
 have hlen:l.length≤6:=by have:=hn.length_le;simpa [mQ]using this
 have hok:rJ (⟨#[116]⟩:ByteArray) stamp ttl l m:=⟨Sm,Ce h0 h1,⟨hl,fun p hp=>zV (hs p hp),FL hn,by omega⟩,fun p hp=>zV (hm p hp),.inl hm2⟩
 refine ⟨⟨_,GC.update _ _ _ _ _ hok⟩,?_⟩
 show (aG (nC _)).size≤250
 unfold nC
 have a1:(aG [.wd (⟨#[85,80,68,65,84,69]⟩:ByteArray),.bl,.wd (⟨#[116]⟩:ByteArray)]).size=8:=by decide+kernel
 have a2:(aG [.bl,.wd (⟨#[83,69,84]⟩:ByteArray),.bl]).size=5:=by decide+kernel
 have b1:=oV dw (m:=11) (l.map dL) (fun a ha=>by obtain ⟨p,hp,rfl⟩:=List.mem_map.1 ha;exact Md (hs p hp))
 rw [wW,List.length_map]at b1
 have b3:=FJ h0 h1
 have b4:=FK hm (by omega)
 have c1:l.length*(11+2)≤6*13:=Nat.mul_le_mul_right _ hlen
 simp only [eU]
 omega
theorem Yh {l:List ByteArray}(h:l.Sublist mQ) (hl:l.length≤2):(aG (gM l)).size≤6:=by
 unfold gM
 split
 · show 1≤6;omega
 · have b1:=oV dw (m:=1) (l.map fun s=> [.wd s]) (fun a ha=>by obtain ⟨p,hp,rfl⟩:=List.mem_map.1 ha;exact KF (h.subset hp))
   rw [wW,List.length_map]at b1
   have c1:l.length*(1+2)≤2*3:=Nat.mul_le_mul_right _ hl
   omega
theorem yj {c:List ByteArray}{m:List Pr}{stamp:Int}(hc:c.Sublist mQ) (hc2:c.length≤2) (hm:∀p∈m,tu p) (hm2:m.length=2∨m.length=1) (h0:0≤stamp∧stamp≤9):
 KG {Sx.zero with kind:=7,bM:=(⟨#[116]⟩:ByteArray),aO:=c,aP:=m,stamp:=stamp}:=by
 have hok:rM c (⟨#[116]⟩:ByteArray) stamp m:=⟨⟨fun s hs=>zU (hc.subset hs),FL hc,by omega⟩,Sm,⟨(Ce h0 (ttl:=0) (by omega)).1,.inl rfl⟩,fun p hp=>zV (hm p hp),hm2.imp id fun h=>⟨rfl,h⟩⟩
 refine ⟨⟨_,GC.remove _ _ _ _ hok⟩,?_⟩
 show (aG (j5 _)).size≤250
 unfold j5
 have a1:(aG [.wd (⟨#[68,69,76,69,84,69]⟩:ByteArray),.bl]).size=7:=by decide+kernel
 have a2:(aG [.wd (⟨#[70,82,79,77]⟩:ByteArray),.bl,.wd (⟨#[116]⟩:ByteArray)]).size=6:=by decide+kernel
 have a3:(aG (if c= []then []else gM c++ [.bl])).size≤7:=by
  split
  · show 0≤7;omega
  · have:=Yh hc hc2
    have h1:(aG [.bl]).size=1:=by decide+kernel
    rw [eU];omega
 have b3:=FJ h0 (ttl:=0) (by omega)
 have b4:=FK hm (by omega)
 simp only [eU]
 have e:({Sx.zero with kind:=7,bM:=(⟨#[116]⟩:ByteArray),aO:=c,aP:=m,stamp:=stamp}:Sx).ttl=0:=rfl
 rw [e]
 omega
theorem Vv {x:Sx}(h:KG x):¬x.kind=9:=by
 obtain ⟨⟨L,h⟩,_⟩:=h
 cases h with
 |insert=>exact (by decide:¬(5:Int)=9)
 |update=>exact (by decide:¬(6:Int)=9)
 |remove=>exact (by decide:¬(7:Int)=9)
theorem Yi {x:Sx}(h:KG x):May ⟨x,[]⟩:=by
 obtain ⟨L,hL⟩:=h.1
 refine ⟨.change x,L,.change hL,rfl,?_⟩
 have hk:=Vv h
 unfold fq GY
 rw [if_neg hk]
 have:=h.2
 show (aG (stP x)).size≤1000
 omega
theorem Sq:∀l:List Sx,(∀x∈l,KG x)→∃L,GB l L
 | [],_=>⟨_,.nil⟩
 |x::l,h=>by
  obtain ⟨M,hM⟩:=Sq l fun y hy=>h y (List.mem_cons_of_mem _ hy)
  obtain ⟨L,hL⟩:=(h x (List.mem_cons_self ..)).1
  exact ⟨_,.cons hL hM⟩
theorem Sr {l:List Sx}(h:∀x∈l,KG x) (h1:l≠ []) (h2:l.length≤3):May ⟨{Sx.zero with kind:=9},l⟩:=by
 obtain ⟨L,hL⟩:=Sq l h
 refine ⟨.batch l,_,.batch hL h1 (by omega),rfl,?_⟩
 show (aG (rT (l.map stP))).size≤1000
 unfold rT
 have a1:(aG [.wd (⟨#[66,69,71,73,78]⟩:ByteArray),.bl,.wd (⟨#[66,65,84,67,72]⟩:ByteArray),.bl]).size=12:=by decide+kernel
 have a2:(aG [.wd (⟨#[65,80,80,76,89]⟩:ByteArray),.bl,.wd (⟨#[66,65,84,67,72]⟩:ByteArray)]).size=11:=by decide+kernel
 have b1:=DW (m:=250) (l.map stP) (fun a ha=>by obtain ⟨x,hx,rfl⟩:=List.mem_map.1 ha;exact (h x hx).2)
 rw [List.length_map]at b1
 have c1:l.length*(250+2)≤3*252:=Nat.mul_le_mul_right _ h2
 simp only [eU]
 omega
theorem Cg {o:ByteArray}{c:List ByteArray}{m:List Pr}{n:Int}(ho:o=(⟨#[116]⟩:ByteArray)∨o=(⟨#[118]⟩:ByteArray)) (hc:c.length≤2) (hc2:c.Sublist [(⟨#[97]⟩:ByteArray),(⟨#[107]⟩:ByteArray)]) (hm:∀p∈m,tu p) (hm2:m.length=2∨m.length=1) (hn:0≤n∧n≤9):
 May ⟨{Sx.zero with kind:=8,bM:=o,aO:=c,aP:=m,limit:=n},[]⟩:=by
 have hno:bH o:=by rcases ho with rfl|rfl<;>exact ⟨by decide+kernel,by decide+kernel,by decide,by decide+kernel⟩
 have hos:o.size=1:=by rcases ho with rfl|rfl<;>rfl
 have hin:∀s∈c,s∈mQ:=fun s hs=>by
  have:=hc2.subset hs
  simp only [List.mem_cons,List.not_mem_nil,or_false]at this
  rcases this with rfl|rfl<;>exact jI.1 (by decide+kernel)
 have hok:GH c o m n:=⟨⟨fun s hs=>zU (hin s hs),(oM _ _).2 ⟨by simp,(show [(⟨#[97]⟩:ByteArray),(⟨#[107]⟩:ByteArray)].Nodup by decide+kernel).sublist hc2⟩,by omega⟩,hno,⟨fun p hp=>zV (hm p hp),hm2.imp id fun h=>⟨rfl,h⟩⟩,if h:n=0 then .inl h else .inr ⟨by omega,by omega⟩⟩
 refine ⟨.plain _,_,.plain (.ask c o m n hok),rfl,?_⟩
 show (aG (Bf _)).size≤1000
 unfold Bf
 have a1:(aG [.wd (⟨#[83,69,76,69,67,84]⟩:ByteArray),.bl]).size=7:=by decide+kernel
 have a2:(aG [.bl,.wd (⟨#[70,82,79,77]⟩:ByteArray),.bl,.wd o]).size=7:=by rcases ho with rfl|rfl<;>decide+kernel
 have a3:(aG (gM c)).size≤6:=by
  unfold gM
  split
  · show 1≤6;omega
  · have b1:=oV dw (m:=1) (c.map fun s=> [.wd s]) (fun a ha=>by obtain ⟨p,hp,rfl⟩:=List.mem_map.1 ha;exact KF (hin p hp))
    rw [wW,List.length_map]at b1
    have c1:c.length*(1+2)≤2*3:=Nat.mul_le_mul_right _ hc
    omega
 have a4:(aG (if n=0 then []else [.bl,.wd (⟨#[76,73,77,73,84]⟩:ByteArray),.bl,.nm n])).size≤10:=by
  split
  · show 0≤10;omega
  · have e:(aG ([.bl,.wd (⟨#[76,73,77,73,84]⟩:ByteArray),.bl]++ [.nm n])).size=7+(aG [.nm n]).size:=by rw [eU];congr 1
    have e2:aG [.nm n]=j4 n:=sw _
    have:=KE (v:=n) (by omega) hn.2
    rw [e2]at e
    simp only [List.cons_append,List.nil_append]at e
    omega
 have b4:=FK hm (by omega)
 simp only [eU]
 show (aG _).size+(aG (gM c)).size+(aG _).size+(aG (dP m)).size+(aG (if n=0 then []else [.bl,.wd (⟨#[76,73,77,73,84]⟩:ByteArray),.bl,.nm n])).size≤1000
 omega
end aH
end Go.Proofs.YtfbgdjcnlnfoaaaGreatDoor
