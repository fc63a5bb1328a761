/- Parts of a proof. -/
import Derived.Test.YtcgadodckoalnaaGreatDoorB43
import Derived.Test.YtcgadodckoalnaaGreatDoorB44
import Derived.Test.YtcgadodckoalnaaGreatDoorB48
set_option maxHeartbeats 8000000
set_option maxRecDepth 100000
namespace Go.Proofs.YtcgadodckoalnaaGreatDoor
open Go.Proofs.Tryz
open Go.RowKit
open aN
theorem aN.GC.small {x:Sx}{L:List To}(h:GC x L):x.name.size≤100∧x.bT.size≤100:=by
 cases h with
 |insert o c v a b h=>exact ⟨bU _,h.1.2.2.1⟩
 |update o a b c v h=>exact ⟨bU _,h.1.2.2.1⟩
 |remove o a b c h=>exact ⟨bU _,h.2.1.2.2.1⟩
theorem aN.GP.small {x:Sx}{L:List To}(h:GP x L):x.name.size≤100∧x.bT.size≤100:=by
 cases h with
 |ask o c v a h=>exact ⟨bU _,h.2.1.2.2.1⟩
 |view o c v a p q h=>exact ⟨h.1.2.2.1,h.2.2.1.2.2.1⟩
 |index o c v h=>exact ⟨h.1.2.2.1,h.2.1.2.2.1⟩
 |drop o h=>exact ⟨h.2.2.1,bU _⟩
 |table o c v a h=>
  obtain ⟨p,q,D,hp,hq,e0,_,ok⟩:=kX h;rw [e0];exact ⟨ok.1.2.2.1,bU _⟩
theorem aN.GB.small {l:List Sx}{L:List To}(h:GB l L):∀y∈l,y.name.size≤100∧y.bT.size≤100:=by
 induction h with
 |nil=>exact fun _ h=>nomatch h
 |cons h _ ih=>
  intro y hy;rcases List.mem_cons.1 hy with rfl|hy
  · exact h.small
  · exact ih y hy
theorem aN.GN.small {nd:Tx.Nd}{L:List To}(h:GN nd L):((je nd).x.name.size≤100∧(je nd).x.bT.size≤100)∧∀y∈(je nd).parts,y.name.size≤100∧y.bT.size≤100:=by
 cases h with
 |plain h=>exact ⟨h.small,fun _ h=>nomatch h⟩
 |change h=>exact ⟨h.small,fun _ h=>nomatch h⟩
 |batch h _ _=>exact ⟨⟨bU _,bU _⟩,h.small⟩
theorem ZR {z:kD}(h:May z):aF (Ti z)=eO z:=by obtain ⟨nd,L,h1,rfl,_⟩:=h;exact h1.dt
theorem Tn {x:Sx}(h1:jw x=true) (h2:x.name.size≤100∧x.bT.size≤100):IJ x=true:=by
 have h1:=of_decide_eq_true h1;exact decide_eq_true ⟨by omega,by omega,by omega,by omega,h2.1,h2.2⟩
theorem zQ.pv0 {w:World}{p:Pw}{L:List Pw}(h:zQ w p L):∀q∈L,iJ w q.x q.tc q.c q.s q.wv∧∃a k,q.pv= .slice a (lY q.pv) k:=fun q hq=>by
 obtain ⟨h1,a,k,e,_⟩:=h.each q hq;exact ⟨h1,a,k,by rw [e];rfl⟩
theorem zQ.pvn {w:World}{p:Pw}{L:List Pw}(h:zQ w p L):∀q∈L,lY q.pv=0:=fun q hq=>by
 obtain ⟨h1,a,k,e,_⟩:=h.each q hq;rw [e];rfl
theorem ZT {w:World}{p:Pw}{L:List Pw}(h:zQ w p L) (hm:May ⟨p.x,L.map Pw.x⟩):MG p L=true:=by
 obtain ⟨h1,h2,h3⟩:=J5 hm
 have hs:((p.x.name.size≤100∧p.x.bT.size≤100)∧∀y∈L.map Pw.x,y.name.size≤100∧y.bT.size≤100):=by
  obtain ⟨nd,M,g1,g2,_⟩:=hm;have:=g1.small;rw [←g2]at this;exact this
 unfold MG;rw [Tn h1 hs.1,decide_eq_true (show L.length≤8 by simpa using h2),List.all_eq_true.2 fun q hq=>by rw [decide_eq_true (h.pvn q hq),Tn (h3 _ (List.mem_map_of_mem hq)) (hs.2 _ (List.mem_map_of_mem hq))];rfl];rfl
theorem acy {p:Pw}{L:List Pw}(h:MG p L=true):SmS ⟨p.x,L.map Pw.x⟩∧L.length≤8:=by
 unfold MG at h;simp only [Bool.and_eq_true,decide_eq_true_eq,List.all_eq_true]at h
 have hx:∀x:Sx,IJ x=true→Pn x:=fun x h=>by
  have h:=of_decide_eq_true h;unfold Pn;omega
 exact ⟨⟨hx _ h.1.1,by show (L.map Pw.x).length≤_;rw [List.length_map];omega,fun y hy=>by
  obtain ⟨q,hq,rfl⟩:=List.mem_map.1 hy;exact hx _ (h.2 q hq).2⟩,h.1.2⟩
theorem aeN {z:kD}:May z ↔ (aF (Ti z)).size≤1000∧(bE (aF (Ti z))).2.2=0∧z=(bE (aF (Ti z))).1:=by
 constructor
 · intro h;rw [ZR h,J4 h];obtain ⟨_,_,_,_,h3⟩:=h;exact ⟨h3,rfl,rfl⟩
 · rintro ⟨_,h1,h2⟩;obtain ⟨⟨z',a,e⟩,hr⟩:∃r,bE (aF (Ti z))=r:=⟨_,rfl⟩;rw [hr]at h1 h2;simp only at h1 h2;subst h1;rw [h2];exact rA hr
theorem Mw {w:World}{p:Pw}{L:List Pw}(h:zQ w p L) (hl:MG p L=false):
 Calls prog 8 #[.agg p.arr] w fun e w' =>e= .returned (.bool false)∧Below w.heap.size w w' :=by
 have hB1:=(Below.refl w.heap.size w).alloc (Nat.le_refl _) (.cells p.arr 31);have hbl:(w.alloc (.cells p.arr 31)).heap[w.heap.size]? =some (.cells p.arr 31 (0,0)):=aA w _;have h1:=h.below hB1;have hc:=wH h1.st h1.pv h1.pv0;rw [hl]at hc;clear h h1 hl;obtain ⟨x,tc,c,s,wv,pv⟩:=p;go_enter func8,ntmps8;go_wp2_with (refine aT rfl _ rfl rfl rfl hbl ?_);refine hc.mono ?_;rintro e w2 ⟨rfl,hb2⟩;go_wp2_with fail;go_ret;exact ⟨rfl,hB1.trans (hb2.mono hB1.size)⟩
theorem Mx {w:World}{p:Pw}{L:List Pw}(hG:Gp w) (h:zQ w p L) (hs:Wx p L) (hl:MG p L=true):
 Calls prog 8 #[.agg p.arr] w fun e w' =>∃b:Bool,e= .returned (.bool b)∧(b=true ↔ May ⟨p.x,L.map Pw.x⟩)∧Below w.heap.size w w' :=by
 have hB1:=(Below.refl w.heap.size w).alloc (Nat.le_refl _) (.cells p.arr 31);have hbl:(w.alloc (.cells p.arr 31)).heap[w.heap.size]? =some (.cells p.arr 31 (0,0)):=aA w _;have h1:=h.below hB1;have hc:=wH h1.st h1.pv h1.pv0;rw [hl]at hc;obtain ⟨hsm,Zp⟩:=acy hl
 have HT:Hid (∀w',Below w.heap.size w w' →Calls prog 16 #[.agg p.arr] w' fun e w'' =>e= .returned (.string (aF (Ti ⟨p.x,L.map Pw.x⟩)))∧Below w'.heap.size w' w''):=fun w' hb=>by
  obtain ⟨g1,g2⟩:=(h.below hb).pw hs;exact Ec g1 fun _=>⟨by omega,(h.below hb).pv,g2⟩
 have HM:=Lib.hid (aeN (z:=⟨p.x,L.map Pw.x⟩));have HS:Hid (∀w',Below w.heap.size w w' →zQ w' p L):=fun w' hb=>h.below hb
 have HSM:=Lib.hid hsm;have HG:=Lib.hid hG;obtain ⟨t,ht⟩:∃t,aF (Ti ⟨p.x,L.map Pw.x⟩)=t:=⟨_,rfl⟩;rw [ht]at HT HM;clear h h1 hl hs ht hG Zp hsm;by_cases hbig:1000<t.size
 · have p9:(1000:Int)<(t.size:Int):=by omega
   have HN:Hid (¬May ⟨p.x,L.map Pw.x⟩):=fun hm=>by have:=(HM.out.1 hm).1;omega
   clear hbig;obtain ⟨x,tc,c,s,wv,pv⟩:=p;go_enter func8,ntmps8;go_wp2_with (refine aT rfl _ rfl rfl rfl hbl ?_);refine hc.mono ?_;rintro e w2 ⟨rfl,hb2⟩;have hB2:=hB1.trans (hb2.mono hB1.size);have qb:=bL hb2 hbl;have h2:=HT.out w2 hB2;go_wp2_with (refine aT rfl _ rfl rfl rfl qb ?_);refine h2.mono ?_;rintro e w3 ⟨rfl,hb3⟩;have hB3:=hB2.trans (hb3.mono hB2.size);go_wp2_with fail;go_ret;exact ⟨false,rfl,⟨fun h=>absurd h (by decide),fun h=>absurd h HN.out⟩,hB3⟩
 have p9:¬(1000:Int)<(t.size:Int):=by omega
 have HP:Hid (∀w',Below w.heap.size w w' →Calls prog 17 #[.string t] w' (pU w' t)):=fun w' hb=>RA (HG.out.below hb) (by omega)
 have HZT:Hid (t.size≤1000):=by show _≤_;omega
 clear hbig;unfold pU at HP;obtain ⟨⟨pz,pa,pe⟩,hp⟩:∃r,bE t=r:=⟨_,rfl⟩;rw [hp]at HP HM
 have HZ:Hid (pe=0→May pz):=fun he=>by
  have he' :pe=0:=he;subst he';exact rA hp
 clear hp;obtain ⟨x,tc,c,s,wv,pv⟩:=p;go_enter func8,ntmps8;go_wp2_with (refine aT rfl _ rfl rfl rfl hbl ?_);refine hc.mono ?_;rintro e w2 ⟨rfl,hb2⟩;have hB2:=hB1.trans (hb2.mono hB1.size);have qb:=bL hb2 hbl;have h2:=HT.out w2 hB2;go_wp2_with (refine aT rfl _ rfl rfl rfl qb ?_);refine h2.mono ?_;rintro e w3 ⟨rfl,hb3⟩;have hB3:=hB2.trans (hb3.mono hB2.size);have aex:=bL hb3 qb;have h3:=HP.out w3 hB3;go_wp2_with fail;refine h3.mono ?_;rintro e w4 ⟨⟨qx,wW,qc,qs,wX,wT⟩,M,rfl,hb4,hS⟩;have hB4:=hB3.trans (hb4.mono hB3.size);have aey:=bL hb4 aex;have hq1:=hS.wd.one;have AA:=hB4.alloc hB4.size (.cells (aG qx wW qc qs wX wT) 31);have UF:=uY aey (.cells (aG qx wW qc qs wX wT) 31);have hbq:(w4.alloc (.cells (aG qx wW qc qs wX wT) 31)).heap[w4.heap.size]? =some (.cells (aG qx wW qc qs wX wT) 31 (0,0)):=aA w4 _;have HSz:=Lib.hid hS.z;cases hz:(pe==0)with
 |false=>
  have HE:Hid (¬pe=0):=by
   intro h;have h' :pe=0:=h;rw [h']at hz;exact absurd hz (by decide)
  clear hS hc h2 h3;go_wp2_with (refine fA rfl _ _ rfl rfl rfl rfl rfl hq1 ?_);go_ret;exact ⟨false,rfl,⟨fun h=>absurd h (by decide),fun h=>absurd (HM.out.1 h).2.1 HE.out⟩,AA⟩
 |true=>
  have HE:Hid (pe=0):=eq_of_beq hz;have h5:=V6 (w:=w4.alloc (.cells (aG qx wW qc qs wX wT) 31)) (HS.out _ AA) (hS.wd.below ((Below.refl w4.heap.size w4).alloc (Nat.le_refl _) _)) HSM.out (by rw [hS.z];exact Zd (HZ.out HE.out));clear hS hc h2 h3;go_wp2_with (first|refine fA rfl _ _ rfl rfl rfl rfl rfl hq1 ?_|refine rR (by go_simp) _ rfl rfl rfl UF ?_|refine rR (by go_simp) _ rfl rfl rfl hbq ?_);refine h5.mono ?_;rintro e w6 ⟨b,rfl,hb,hb6⟩;go_wp2_with fail;go_ret;refine ⟨b,rfl, ?_,AA.trans (hb6.mono AA.size)⟩;rw [hb];have hzz:=HSz.out;constructor
  · rintro ⟨g1,g2⟩;refine HM.out.2 ⟨HZT.out,HE.out, ?_⟩;show (⟨x,L.map Pw.x⟩:kD)=pz;rw [←hzz];show (⟨x,L.map Pw.x⟩:kD)=⟨qx,M.map Pw.x⟩;rw [g2,show x=qx from g1]
  · intro hm;have e1:=(HM.out.1 hm).2.2;have e2:(⟨x,L.map Pw.x⟩:kD)=⟨qx,M.map Pw.x⟩:=e1.trans hzz.symm;injection e2 with e3 e4
    exact ⟨e3,e4⟩
theorem wI {w:World}{p:Pw}{L:List Pw}(hG:Gp w) (h:zQ w p L) (hs:Wx p L):
 Calls prog 8 #[.agg p.arr] w fun e w' =>∃b:Bool,e= .returned (.bool b)∧(b=true ↔ May ⟨p.x,L.map Pw.x⟩)∧Below w.heap.size w w' :=by
 cases hl:MG p L with
 |true=>exact Mx hG h hs hl
 |false=>
  refine (Mw h hl).mono ?_;rintro e w' ⟨rfl,hb⟩;refine ⟨false,rfl,⟨fun h=>absurd h (by decide),fun hm=> ?_⟩,hb⟩;rw [ZT h hm]at hl;cases hl
theorem RD {w:World}{p:Pw}{L:List Pw}(hG:Gp w) (h:zQ w p L) (hs:Wx p L) (hm:May ⟨p.x,L.map Pw.x⟩):
 Calls prog 11 #[.agg p.arr] w fun e w' =>e= .returned (.string (eO ⟨p.x,L.map Pw.x⟩))∧Below w.heap.size w w' :=by
 have hB1:=(Below.refl w.heap.size w).alloc (Nat.le_refl _) (.cells p.arr 31);have hbl:(w.alloc (.cells p.arr 31)).heap[w.heap.size]? =some (.cells p.arr 31 (0,0)):=aA w _;have hc:=wI (hG.below hB1) (h.below hB1) hs;have Zp:=(acy (ZT h hm)).2
 have HT:Hid (∀w',Below w.heap.size w w' →Calls prog 16 #[.agg p.arr] w' fun e w'' =>e= .returned (.string (eO ⟨p.x,L.map Pw.x⟩))∧Below w'.heap.size w' w''):=fun w' hb=>by
  obtain ⟨g1,g2⟩:=(h.below hb).pw hs;rw [←ZR hm];exact Ec g1 fun _=>⟨by omega,(h.below hb).pv,g2⟩
 have HM:=Lib.hid hm;clear hm h hs Zp;obtain ⟨x,tc,c,s,wv,pv⟩:=p;go_enter func11,ntmps11;go_wp2_with (refine aT rfl _ rfl rfl rfl hbl ?_);refine hc.mono ?_;rintro e w2 ⟨b,rfl,hb,hb2⟩;have hbt:=hb.2 HM.out;subst hbt;have hB2:=hB1.trans (hb2.mono hB1.size);have qb:=bL hb2 hbl;have h2:=HT.out w2 hB2;clear hb hc;go_wp2_with (refine aT rfl _ rfl rfl rfl qb ?_);refine h2.mono ?_;rintro e w3 ⟨rfl,hb3⟩;go_wp2_with fail;go_ret;exact ⟨rfl,hB2.trans (hb3.mono hB2.size)⟩
theorem Wj {w:World}{p:Pw}{L:List Pw}(hG:Gp w) (h:zQ w p L) (hs:Wx p L) (hm:¬May ⟨p.x,L.map Pw.x⟩):
 Calls prog 11 #[.agg p.arr] w fun e w' =>e= .returned (.string ⟨#[]⟩)∧Below w.heap.size w w' :=by
 have hB1:=(Below.refl w.heap.size w).alloc (Nat.le_refl _) (.cells p.arr 31);have hbl:(w.alloc (.cells p.arr 31)).heap[w.heap.size]? =some (.cells p.arr 31 (0,0)):=aA w _;have hc:=wI (hG.below hB1) (h.below hB1) hs;have HM:=Lib.hid hm;clear hm h hs;obtain ⟨x,tc,c,s,wv,pv⟩:=p;go_enter func11,ntmps11;go_wp2_with (refine aT rfl _ rfl rfl rfl hbl ?_);refine hc.mono ?_;rintro e w2 ⟨b,rfl,hb,hb2⟩
 have hbt:b=false:=by
  cases b with
  |false=>rfl
  |true=>exact absurd (hb.1 rfl) HM.out
 subst hbt;clear hb hc;go_wp2_with fail;go_ret;exact ⟨rfl,hB1.trans (hb2.mono hB1.size)⟩
end Go.Proofs.YtcgadodckoalnaaGreatDoor
