/- Parts of a proof. -/
import Derived.Deep.RegionHeld3
import Derived.Deep.CutRange
import Derived.Deep.CutBlock
import Derived.Test.YtnngbhpeeakfaaaGreatDoorB41
set_option maxHeartbeats 8000000
set_option maxRecDepth 100000
namespace Go.Proofs.YtnngbhpeeakfaaaGreatDoor
open Go.Proofs.Tryz
open Go.RowKit
open aK
section
variable {W w w' :World}
theorem Cz (h:Below W.heap.size W w):Below W.heap.size W w.drew:=h.drew
theorem LD (h:Below W.heap.size W w) (o:Obj):Below W.heap.size W (w.alloc o):=h.alloc h.size o
theorem wm (h:Below W.heap.size W w) (hb:Below w.heap.size w w'):Below W.heap.size W w' :=h.trans (hb.mono h.size)
theorem Wp (h:Below W.heap.size W w) {b:Nat}(hb:W.heap.size≤b) (j:Nat) (v:Value):Below W.heap.size W (w.setCell ⟨b,j,none⟩ v):=h.setCell hb v
theorem ZI (h:Below W.heap.size W w):W.heap.size≤w.heap.size:=h.size
theorem adS {b:Nat}{v0 v1 v2:Value}{t:TypeId}(hb:W.heap[b]? =some (.cells #[v0,v1,v2] t (0,0))) (h:Below W.heap.size W w):Below W.heap.size W w∧w.cell? ⟨b,0,none⟩=some v0∧w.cell? ⟨b,1,none⟩=some v1∧w.cell? ⟨b,2,none⟩=some v2:=
 ⟨h,by rw [aj (aH h hb)];rfl,by rw [aj (aH h hb)];rfl,by rw [aj (aH h hb)];rfl⟩
end
theorem cells3 {w:World}{b:Nat}{v0 v1 v2:Value}{t:TypeId}(hb:w.heap[b]? =some (.cells #[v0,v1,v2] t (0,0))):w.cell? ⟨b,0,none⟩=some v0∧w.cell? ⟨b,1,none⟩=some v1∧w.cell? ⟨b,2,none⟩=some v2∧w.frozen? ⟨b,0,none⟩=false∧w.frozen? ⟨b,1,none⟩=false∧w.frozen? ⟨b,2,none⟩=false:=
 ⟨by rw [aj hb];rfl,by rw [aj hb];rfl,by rw [aj hb];rfl,ak hb _,ak hb _,ak hb _⟩
theorem nH {w:World}{base base' :Nat}{e:TypeId}{size n:Nat}{u:Value}{xs:List Value}(h:w.ownsRow base e size u n xs) (hb:base' ≤base):w.ownsRow base' e size u n xs:=by
 obtain ⟨h1,h2⟩:=h;refine ⟨h1, ?_⟩;rcases h2 with h2|⟨g,cap,cur,a,hg,r⟩
 · exact .inl h2
 · exact .inr ⟨g,cap,cur,a,Nat.le_trans hb hg,r⟩
structure Jv (W:World) (b:Nat) (la:Int) (aT aV:Option Addr) (nT cT nV cV:Nat) (xT xV:List Value) (wx:World):Prop where
 below:Below W.heap.size W wx
 hb:W.heap.size≤b
 box:wx.heap[b]? =some (.cells #[.int .i64 la, .slice aT nT cT, .slice aV nV cV] 92 (0,0))
 t:wx.ownsRow W.heap.size 27 7 (.slice aT nT cT) nT xT
 v:wx.ownsRow W.heap.size 46 5 (.slice aV nV cV) nV xV
 tb:(Value.slice aT nT cT).ownBlock≠some b
 vb:(Value.slice aV nV cV).ownBlock≠some b
 tv:∀g,(Value.slice aT nT cT).ownBlock=some g→(Value.slice aV nV cV).ownBlock≠some g
section
variable {W:World}{b:Nat}{la:Int}{aT aV:Option Addr}{nT cT nV cV:Nat}{xT xV:List Value}{wx w' :World}
theorem Jv.call (h:Jv W b la aT aV nT cT nV cV xT xV wx) (hb:Below wx.heap.size wx w'):Jv W b la aT aV nT cT nV cV xT xV w' :=
 ⟨h.below.trans (hb.mono h.below.size),h.hb,aH hb h.box,bP h.t hb,bP h.v hb,h.tb,h.vb,h.tv⟩
theorem Jv.alloc (h:Jv W b la aT aV nT cT nV cV xT xV wx) (o:Obj):Jv W b la aT aV nT cT nV cV xT xV (wx.alloc o):=h.call ((Below.refl _ _).alloc (Nat.le_refl _) o)
theorem Jv.drew (h:Jv W b la aT aV nT cT nV cV xT xV wx):Jv W b la aT aV nT cT nV cV xT xV wx.drew:=⟨h.below.drew,h.hb,h.box,h.t,h.v,h.tb,h.vb,h.tv⟩
theorem Jv.agd {g:Nat}(h:Jv W b la (some ⟨g,0,none⟩) aV nT cT nV cV xT xV wx) (j:Nat) (u:Value):Jv W b la (some ⟨g,0,none⟩) aV nT cT nV cV (xT.set j u) xV (wx.setCell ⟨g,j,none⟩ u):=
 ⟨h.below.setCell (h.t.lt g rfl).1 u,h.hb,bg h.box _ _ (fun e=>h.tb (congrArg some e.symm)),(h.t.stored j u).1,ownsRow_setCell_other h.v (h.tv g rfl) u,h.tb,h.vb,h.tv⟩
theorem Jv.DL {g:Nat}(h:Jv W b la aT (some ⟨g,0,none⟩) nT cT nV cV xT xV wx) (j:Nat) (u:Value):Jv W b la aT (some ⟨g,0,none⟩) nT cT nV cV xT (xV.set j u) (wx.setCell ⟨g,j,none⟩ u):=
 ⟨h.below.setCell (h.v.lt g rfl).1 u,h.hb,bg h.box _ _ (fun e=>h.vb (congrArg some e.symm)),ownsRow_setCell_other h.t (fun e=>h.tv g e rfl) u,(h.v.stored j u).1,h.tb,h.vb,h.tv⟩
end
def EO (w:World) (n:Nat) (wx:World) (q:Tw):Prop:=nL w q∨wx.ownsRow n 24 2 q.v q.t.aD.length (gH q.t.aD)
def GK (w:World) (n:Nat) (wx:World) (q:Vv):Prop:=vM w q∨wx.ownsRow n 9 1 q.v q.x.aD.length (q.x.aD.map Value.string)
section
variable {w wx w' :World}{n:Nat}{q:Tw}{u:Vv}
theorem EO.call (h:EO w n wx q) (hb:Below wx.heap.size wx w'):EO w n w' q:=h.imp id fun h=>bP h hb
theorem EO.set (h:EO w n wx q) {g:Nat}(hg:g<n) (j:Nat) (v:Value):EO w n (wx.setCell ⟨g,j,none⟩ v) q:=h.imp id fun h=>uP h hg j v
theorem EO.isIn (h:EO w n wx q) (hb:Below w.heap.size w wx):nL wx q:=h.elim (fun h=>Rd.below h hb) Rd.own
theorem GK.call (h:GK w n wx u) (hb:Below wx.heap.size wx w'):GK w n w' u:=h.imp id fun h=>bP h hb
theorem GK.set (h:GK w n wx u) {g:Nat}(hg:g<n) (j:Nat) (v:Value):GK w n (wx.setCell ⟨g,j,none⟩ v) u:=h.imp id fun h=>uP h hg j v
theorem GK.isIn (h:GK w n wx u) (hb:Below w.heap.size w wx):vM wx u:=h.elim (fun h=>Rd.below h hb) Rd.own
end
theorem Y1 {W w w' w'' :World}{a1 a5:Addr}{v1 v5:Value}{n:Nat}{q:Tw}(h:Below W.heap.size W w' ∧w'.cell? a1=some v1∧w'.cell? a5=some v5∧EO w n w' q) (hb:Below w'.heap.size w' w''):Below W.heap.size W w'' ∧w''.cell? a1=some v1∧w''.cell? a5=some v5∧EO w n w'' q:=
 ⟨h.1.trans (hb.mono h.1.size),aI hb h.2.1,aI hb h.2.2.1,h.2.2.2.call hb⟩
theorem tF {w:World}{b o:Nat}{v:Value}(h:w.cell? ⟨b,o,none⟩=some v) {g:Nat}(hne:b≠g) (j:Nat) (u:Value):(w.setCell ⟨g,j,none⟩ u).cell? ⟨b,o,none⟩=some v:=by
 rw [cell_of_block (w:=w) (Below.heap_setCell _ _ _ _ hne)];exact h
theorem abI {W w w' :World}{b b5 o1 o5 g:Nat}{v1 v5:Value}{n:Nat}{q:Tw}(h:Below W.heap.size W w' ∧w'.cell? ⟨b,o1,none⟩=some v1∧w'.cell? ⟨b5,o5,none⟩=some v5∧EO w n w' q) (hg:W.heap.size≤g) (h1:b≠g) (h5:b5≠g) (hn:g<n) (j:Nat) (u:Value):
 Below W.heap.size W (w'.setCell ⟨g,j,none⟩ u)∧(w'.setCell ⟨g,j,none⟩ u).cell? ⟨b,o1,none⟩=some v1∧(w'.setCell ⟨g,j,none⟩ u).cell? ⟨b5,o5,none⟩=some v5∧EO w n (w'.setCell ⟨g,j,none⟩ u) q:=
 ⟨h.1.setCell hg u,tF h.2.1 h1 j u,tF h.2.2.1 h5 j u,h.2.2.2.set hn j u⟩
theorem Y2 {W w w' w'' :World}{a1 a5:Addr}{v1 v5:Value}{n:Nat}{q:Vv}(h:Below W.heap.size W w' ∧w'.cell? a1=some v1∧w'.cell? a5=some v5∧GK w n w' q) (hb:Below w'.heap.size w' w''):Below W.heap.size W w'' ∧w''.cell? a1=some v1∧w''.cell? a5=some v5∧GK w n w'' q:=
 ⟨h.1.trans (hb.mono h.1.size),aI hb h.2.1,aI hb h.2.2.1,h.2.2.2.call hb⟩
theorem abJ {W w w' :World}{b b5 o1 o5 g:Nat}{v1 v5:Value}{n:Nat}{q:Vv}(h:Below W.heap.size W w' ∧w'.cell? ⟨b,o1,none⟩=some v1∧w'.cell? ⟨b5,o5,none⟩=some v5∧GK w n w' q) (hg:W.heap.size≤g) (h1:b≠g) (h5:b5≠g) (hn:g<n) (j:Nat) (u:Value):
 Below W.heap.size W (w'.setCell ⟨g,j,none⟩ u)∧(w'.setCell ⟨g,j,none⟩ u).cell? ⟨b,o1,none⟩=some v1∧(w'.setCell ⟨g,j,none⟩ u).cell? ⟨b5,o5,none⟩=some v5∧GK w n (w'.setCell ⟨g,j,none⟩ u) q:=
 ⟨h.1.setCell hg u,tF h.2.1 h1 j u,tF h.2.2.1 h5 j u,h.2.2.2.set hn j u⟩
structure vN (w:World) (s s' :Sw) (w' :World):Prop where
 x:s'.x=s.x
 below:Below w.heap.size w w'
 t:w'.ownsRow w.heap.size 27 7 s'.tv s'.T.length (mQ s'.T)
 v:w'.ownsRow w.heap.size 46 5 s'.vv s'.V.length (nK s'.V)
 tv:∀g,s'.tv.ownBlock=some g→s'.vv.ownBlock≠some g
 n:∃N,w.heap.size≤N∧N≤w'.heap.size∧(∀g,s'.tv.ownBlock=some g→g<N)∧(∀g,s'.vv.ownBlock=some g→g<N)∧(∀q∈s'.T,EO w N w' q)∧∀q∈s'.V,GK w N w' q
theorem vN.isIn {w w' :World}{s s' :Sw}(h:vN w s s' w'):pK w' s' :=by
 obtain ⟨N,_,_,_,_,h1,h2⟩:=h.n;exact ⟨Rd.own h.t,Rd.own h.v,fun q hq=>(h1 q hq).isIn h.below,fun q hq=>(h2 q hq).isIn h.below⟩
theorem EP {α:Type}(f:α→List Value) (k:Nat) (hf:∀q,(f q).length=k) (i:Nat) (hi:i<k) (u:Value):∀(L:List α) (j:Nat) (q q' :α),L[j]? =some q→f q' =(f q).set i u→(L.set j q').flatMap f=(L.flatMap f).set (j*k+i) u
 | [],j,q,q',h,_=>by simp at h
 |p::l,0,q,q',h,he=>by
  obtain rfl:p=q:=by simpa using h
  rw [List.set_cons_zero,List.flatMap_cons,List.flatMap_cons,he,Nat.zero_mul,Nat.zero_add,List.set_append_left _ _ (by rw [hf];exact hi)]
 |p::l,j+1,q,q',h,he=>by
  have:=EP f k hf i hi u l j q q' (by simpa using h) he;rw [List.set_cons_succ,List.flatMap_cons,List.flatMap_cons,this,List.set_append_right _ _ (by rw [hf,Nat.succ_mul];omega),hf];congr 2;rw [Nat.succ_mul];omega
theorem z8 {α β:Type}(f:α→β) {L:List α}{j:Nat}{q q' :α}(h:L[j]? =some q) (he:f q' =f q):(L.set j q').map f=L.map f:=by
 apply List.ext_getElem?;intro i;rw [List.getElem?_map,List.getElem?_map,List.getElem?_set];split
 · rename_i hi;subst hi;rw [h];have:=(List.getElem?_eq_some_iff.1 h).1;simp [this,he]
 · rfl
theorem NU (L:List Tw):(mQ L).length=L.length*7:=by
 induction L with
 |nil=>rfl
 |cons a l ih=>unfold mQ at ih⊢;rw [List.flatMap_cons,List.length_append,ih];simp [Tw.arr];omega
theorem NV (L:List Vv):(nK L).length=L.length*5:=by
 induction L with
 |nil=>rfl
 |cons a l ih=>unfold nK at ih⊢;rw [List.flatMap_cons,List.length_append,ih];simp [Vv.arr];omega
theorem LG {P:Program}{fn:Func}{a:Tmp}{t:TypeId}(h:fn.results= #[.cell a t]) {tm:Array Value}{ad:Addr}{v:Value}{W:World}(ht:tm.getD a undef= .pointer (some ad)) (hl:(loadVar t ad).run P W= .ok v W):
 (results fn tm).run P W= .ok v W:=by
 unfold results;rw [h];rw [Array.getD_eq_getD_getElem?]at ht;simp [ht,asAddr,hl]
theorem Wq (l:Int) (a b:Option Addr) (n c m d:Nat) (w:World):(Instr.build 31 #[(0, .int .i64 l),(1, .slice a n c),(2, .slice b m d)]).run prog w= .ok (.agg #[.int .i64 l, .slice a n c, .slice b m d]) w:=by kernel_rfl
theorem LH {w:World}{s:Sw}(h:pK w s) (hO:FH s.x):
 Calls prog 31 #[.agg s.arr] w fun e w' =>∃s' :Sw,e= .returned (.agg s'.arr)∧vN w s s' w' :=by
 have hB1:=(Below.refl w.heap.size w).alloc (Nat.le_refl _) (.cells s.arr 92);have hB2:=hB1.alloc hB1.size (.cells #[.int .i64 0, .slice none 0 0, .slice none 0 0] 92);have hb0:=ay (aB w (.cells s.arr 92)) (.cells #[.int .i64 0, .slice none 0 0, .slice none 0 0] 92);have hnT:s.T.length≤100:=by have:=hO.nt;unfold Sw.x at this;simpa using this
 have hnV:s.V.length≤100:=by have:=hO.nv;unfold Sw.x at this;simpa using this
 have HO1:Hid (∀q∈s.T,nL w q):=h.t;have HO2:Hid (∀q∈s.V,vM w q):=h.v;have HCl:Hid ((∀q∈s.T,q.t.aD.length≤900)∧∀q∈s.V,q.x.aD.length≤900):=⟨fun q hq=>(hO.t q.t (List.mem_map_of_mem hq)).n,fun q hq=>(hO.v q.x (List.mem_map_of_mem hq)).n⟩;have abK:=aB (w.alloc (.cells s.arr 92)) (.cells #[.int .i64 0, .slice none 0 0, .slice none 0 0] 92);rw [av]at abK;have hts:=h.ts;have hvs:=h.vs;have hbs:=Wq;have hbw:=fun a b c W=>zZ a b c W
 obtain ⟨la,T,V,tv,vv⟩:=s;unfold Sw.arr Sw.x at *
 dsimp only at *
 obtain ⟨ta,tc,rfl,htx⟩:=hts;obtain ⟨va,vc,rfl,LY⟩:=hvs;have HCT:Hid (∀w',Below w.heap.size w w' →Calls prog 70 #[.slice ta T.length tc] w' fun e w'' =>∃v,e= .returned v∧w''.ownsRow w'.heap.size 27 7 v T.length (mQ T)∧Below w'.heap.size w' w''):=fun w' hb=>YW (Rd.below ⟨ta,tc,rfl,htx⟩ hb) (NU T) (by intro u hu;obtain ⟨q,hq,hu⟩:=List.mem_flatMap.1 hu;exact List.all_eq_true.1 (h.t q hq).one u hu) (by omega)
 have HCV:Hid (∀w',Below w.heap.size w w' →Calls prog 71 #[.slice va V.length vc] w' fun e w'' =>∃v,e= .returned v∧w''.ownsRow w'.heap.size 46 5 v V.length (nK V)∧Below w'.heap.size w' w''):=fun w' hb=>YX (Rd.below ⟨va,vc,rfl,LY⟩ hb) (NV V) (by intro u hu;obtain ⟨q,hq,hu⟩:=List.mem_flatMap.1 hu;exact List.all_eq_true.1 (h.v q hq).one u hu) (by omega)
 clear htx LY h hO;go_enter func31,ntmps31;go_upto_region 1 with (fail)
 generalize ((w.alloc (.cells _ 92)).alloc _)=W at *;have hS:Below W.heap.size W W∧W.cell? ⟨w.heap.size,0,none⟩=some (.int .i64 la)∧W.cell? ⟨w.heap.size,1,none⟩=some (.slice ta T.length tc)∧W.cell? ⟨w.heap.size,2,none⟩=some (.slice va V.length vc):=⟨Below.refl _ _,by rw [aj hb0];rfl,by rw [aj hb0];rfl,by rw [aj hb0];rfl⟩;have hblt:=aG hb0;have hd0:=hS.2.1;have hd1:=hS.2.2.1;have hd2:=hS.2.2.2;have hdr:W.drew.heap.size=W.heap.size:=rfl;have hda:∀o,(W.alloc o).drew.heap.size=W.heap.size+1:=fun o=>av W o
 go_cut [3]from 8 to 20 (fun s3 wx=>∃b aT cT aV cV,s3= .pointer (some ⟨b,0,none⟩)∧Jv W b la aT aV T.length cT V.length cV (mQ T) (nK V) wx)
 case first=>
  go_region_held3 (fun w' =>Below W.heap.size W w' ∧w'.cell? ⟨w.heap.size,0,none⟩=some (.int .i64 la)∧w'.cell? ⟨w.heap.size,1,none⟩=some (.slice ta T.length tc)∧w'.cell? ⟨w.heap.size,2,none⟩=some (.slice va V.length vc)) ((refine adS hb0 ?_;repeat (first|exact Below.refl _ _|exact Nat.le_refl _|refine Cz ?_|refine LD ?_ _|refine Wp ?_ ?_ _ _|with_reducible refine wm ?_ hbT|with_reducible refine wm ?_ hbV|refine ZI ?_)))
   (first
   |(go_at_call 70;with_reducible refine (HCT.out _ (hB2.trans (Below.mono (And.left (by assumption)) hB2.size))).mono ?_;rintro e wT ⟨_,rfl,hoT,hbT⟩;obtain ⟨aT,cT,rfl,_⟩:=aN hoT;first|(have zT:=aH hbT (aB _ _);obtain ⟨x0,x1,x2,f0,f1,f2⟩:=cells3 zT)|(have zT:=aH hbT zV;obtain ⟨x0,x1,x2,f0,f1,f2⟩:=cells3 zT)|skip)
   |(go_at_call 71;with_reducible refine (HCV.out _ (hB2.trans (Below.mono (And.left (by assumption)) hB2.size))).mono ?_;rintro e wV ⟨_,rfl,hoV,hbV⟩;obtain ⟨aV,cV,rfl,_⟩:=aN hoV;first|(have zV:=aH hbV (aB _ _);obtain ⟨x0,x1,x2,f0,f1,f2⟩:=cells3 zV)|(have zV:=aH hbV zT;obtain ⟨x0,x1,x2,f0,f1,f2⟩:=cells3 zV)|skip))
  all_goals
   go_wp2_with fail;go_meet
   case rel=>
    refine ⟨_,aT,cT,aV,cV,rfl, ?_⟩;have s1:=hbT.size;have s2:=hbV.size;have l1:=hoT.lt;have l2:=hoV.lt
    (try simp only [av,hdr,hda]at s1 s2 l1 l2)
    constructor
    · (repeat (first|exact Below.refl _ _|exact Nat.le_refl _|refine Cz ?_|refine LD ?_ _|refine Wp ?_ ?_ _ _|with_reducible refine wm ?_ hbT|with_reducible refine wm ?_ hbV|refine ZI ?_))
    · (try simp only [hdr,hda]);omega
    · first
      |exact aB _ _
      |(rw [bG (bG (bG zV 0 _) 1 _) 2 _];rfl)
      |(rw [bG (bG (bG zT 0 _) 1 _) 2 _];rfl)
    · (repeat (first|exact nH hoT (by (try simp only [hdr,hda]);omega)|refine World.ownsRow.alloc ?_ _|(refine ownsRow_setCell_other ?_ (fun e=>by have:=l1 _ e;(try simp only at this);omega) _)|(with_reducible refine bP ?_ hbV)))
    · (repeat (first|exact nH hoV (by (try simp only [av]);omega)|refine World.ownsRow.alloc ?_ _|(refine ownsRow_setCell_other ?_ (fun e=>by have:=l2 _ e;(try simp only at this);omega) _)|(with_reducible refine bP ?_ hbT)))
    · exact fun e=>by have:=l1 _ e;(try simp only [av,hdr,hda]at this⊢);omega
    · exact fun e=>by have:=l2 _ e;(try simp only [av,hdr,hda]at this⊢);omega
    · exact fun g e e2=>by have h1:=l1 _ e;have h2:=l2 _ e2;omega
 obtain ⟨b,aT,cT,aV,cV,rfl,hR⟩:=hcut
 rename World=>w1
 have HZ:=Lib.hid abK;have HB2:=Lib.hid hB2;have hbl:=aG hR.box;have hW1:=Lib.hid hR.below.size;have hrt:=hR.t.lt;have ZC:=hR.v.lt;clear hd0 hd1 hd2 hS hblt hdr hda hb0 abK hbs hB1 HCT HCV hB2;have k1:w1.cell? ⟨b,1,none⟩=some (.slice aT T.length cT):=by rw [aj hR.box];rfl
 go_wp2_with fail;clear k1
 go_loopw [25] (fun i wr=>∃(j:Nat) (L:List Tw),i= .int .i64 j∧j≤T.length∧L.length=T.length∧L.map Tw.t=T.map Tw.t∧w1.heap.size≤wr.heap.size∧Jv W b la aT aV T.length cT V.length cV (mQ L) (nK V) wr∧Hid (∀q∈L,EO w w1.heap.size wr q)) (fun i _=>T.length - (intOf i).toNat)
 case atStart=>exact ⟨0,T,rfl,Nat.zero_le _,rfl,rfl,Nat.le_refl _,hR,fun q hq=> .inl (HO1.out q hq)⟩
 case round=>
  clear hR;obtain ⟨j,L,rfl,hj,hLn,hLm,hws,hR,HQ⟩:=hrel;by_cases hjl:j<T.length
  · have p0:(j:Int)<(T.length:Int):=by omega
    have p1:(0:Int)≤(j:Int):=by omega
    have HJ:=Lib.hid (show j+1≤T.length from hjl);obtain ⟨_,_,he0,hg0⟩:=aN hR.t;obtain ⟨g,hga,_⟩:=hg0 (by omega);cases he0;subst hga;have hgl:=(hrt g rfl).2;have hgb:g≠b:=fun e=>hR.tb (congrArg some e)
    obtain ⟨q,hq⟩:∃q,L[j]? =some q:=⟨_,List.getElem?_eq_getElem (by omega)⟩;have hqq:=HQ.out q (List.mem_of_getElem? hq)
    have hqn:q.t.aD.length≤900:=by
     have h1:(T.map Tw.t)[j]? =some q.t:=by rw [←hLm,List.getElem?_map,hq];rfl
     rw [List.getElem?_map]at h1;obtain ⟨q1,h2,h3⟩:=Option.map_eq_some_iff.1 h1;rw [←h3];exact HCl.out.1 q1 (List.mem_of_getElem? h2)
    have hRg:wr.rangeAt g (j*7) q.arr.toList:=fun i v hv=>aM hR.t _ _ (by
     have hi:i<7:=(List.getElem?_eq_some_iff.1 hv).1;unfold mQ;rw [vW (fun q:Tw=>q.arr.toList) 7 Tw.len L j i q hq hi];exact hv)
    have ho1:=(hqq.isIn (HB2.out.trans (hR.below.mono HB2.out.size))).one;have Y3:=hR.alloc (.cells q.arr 27);have hb5:=aB wr (.cells q.arr 27);have hq4:=hqq.call ((Below.refl wr.heap.size wr).alloc (Nat.le_refl _) (.cells q.arr 27));have hs4:=av wr (.cells q.arr 27);go_upto_region 5 with (first|refine cZ Tryz.Ac rfl _ rfl rfl rfl hRg ?_|refine fq Tryz.Ac rfl _ _ rfl rfl rfl rfl rfl rfl ho1 ?_)
    have hbq:=(Below.refl wr.heap.size wr).alloc (Nat.le_refl _) (.cells q.arr 27);generalize (wr.alloc (.cells q.arr 27))=wq at *
    have hz:(mQ L)[j*7+6]? =some q.v:=by
     unfold mQ;rw [vW (fun q:Tw=>q.arr.toList) 7 Tw.len L j 6 q hq (by decide)];rfl
    have hRd:=Y3.drew;have hgW:=(Y3.t.lt g rfl).1;have hn1:b≠g:=fun e=>hgb e.symm
    have Ab:wr.heap.size≠g:=by omega
    have hS:Below W.heap.size W wq∧wq.cell? ⟨b,1,none⟩=some (.slice (some ⟨g,0,none⟩) T.length cT)∧wq.cell? ⟨wr.heap.size,6,none⟩=some q.v∧EO w w1.heap.size wq q:=⟨Y3.below,by rw [aj Y3.box];rfl,by rw [aj hb5];rfl,hq4⟩;have hSd:Below W.heap.size W wq.drew∧wq.drew.cell? ⟨b,1,none⟩=some (.slice (some ⟨g,0,none⟩) T.length cT)∧wq.drew.cell? ⟨wr.heap.size,6,none⟩=some q.v∧EO w w1.heap.size wq.drew q:=⟨hS.1.drew,hS.2.1,hS.2.2.1,hS.2.2.2⟩;have HCC:Hid (∀w',(Below W.heap.size W w' ∧w'.cell? ⟨b,1,none⟩=some (.slice (some ⟨g,0,none⟩) T.length cT)∧w'.cell? ⟨wr.heap.size,6,none⟩=some q.v∧EO w w1.heap.size w' q)→Calls prog 37 #[q.v] w' fun e w'' =>∃v,e= .returned v∧w''.ownsRow w'.heap.size 24 2 v q.t.aD.length (gH q.t.aD)∧Below w'.heap.size w' w''):=fun w' h=>Jh (h.2.2.2.isIn (HB2.out.trans (h.1.mono HB2.out.size))) (qV _) (qU _) (by omega)
    have hz0:=hS.2.1;have hz5:=hS.2.2.1
    go_region_held3 (fun w' =>Below W.heap.size W w' ∧w'.cell? ⟨b,1,none⟩=some (.slice (some ⟨g,0,none⟩) T.length cT)∧w'.cell? ⟨wr.heap.size,6,none⟩=some q.v∧EO w w1.heap.size w' q) (first|exact hSd|exact Y1 (by assumption) hbC|exact abI (by assumption) hgW hn1 Ab hgl _ _)
     ((go_at_call 37;with_reducible refine (HCC.out _ (by assumption)).mono ?_;rintro e wC ⟨_,rfl,ZJ,hbC⟩;obtain ⟨aC,cC,rfl,_⟩:=aN ZJ;have hrC:=bP hRd.t hbC;have z6:=aM hrC (j*7+6) _ hz;have fz:=World.ownsRow.frozenAt hrC (j*7+6)))
    go_wp2_with fail;go_roundw
    case rel=>
     have hsC:wq.heap.size≤wC.heap.size:=hbC.size;refine ⟨j+1,L.set j ⟨q.t, .slice aC q.t.aD.length cC⟩,by go_num,HJ.out,by rw [List.length_set];exact hLn,(z8 Tw.t (q' :=⟨q.t, .slice aC q.t.aD.length cC⟩) hq rfl).trans hLm,by rw [bB];omega, ?_,fun p hp=> ?_⟩
     · have:=(hRd.call hbC).agd (j*7+6) (.slice aC q.t.aD.length cC);unfold mQ at this⊢;rw [EP (fun q:Tw=>q.arr.toList) 7 Tw.len 6 (by decide) (.slice aC q.t.aD.length cC) L j q _ hq rfl];exact this
     · rcases List.mem_or_eq_of_mem_set hp with hp|rfl
       · exact (EO.call (wx:=wq.drew) (show EO w _ wq.drew p from (HQ.out p hp).call hbq.drew) hbC).set hgl _ _
       · exact .inr (uP (nH ZJ (show w1.heap.size≤wq.heap.size by omega)) hgl _ _)
    case measure=>have hjj:=HJ.out;simp [intOf];omega
  · have jV:j=T.length:=by omega
    subst jV
    rename World=>w2
    have adV:=HQ;have k2:w2.cell? ⟨b,2,none⟩=some (.slice aV V.length cV):=by rw [aj hR.box];rfl
    go_wp2_with fail;clear k2
    go_loopw [44] (fun i wr=>∃(j:Nat) (M:List Vv),i= .int .i64 j∧j≤V.length∧M.length=V.length∧M.map Vv.x=V.map Vv.x∧w1.heap.size≤wr.heap.size∧Jv W b la aT aV T.length cT V.length cV (mQ L) (nK M) wr∧Hid (∀q∈M,GK w w1.heap.size wr q)∧Hid (∀q∈L,EO w w1.heap.size wr q)) (fun i _=>V.length - (intOf i).toNat)
    case atStart=>exact ⟨0,V,rfl,Nat.zero_le _,rfl,rfl,hws,hR,fun q hq=> .inl (HO2.out q hq),adV⟩
    case round=>
     clear hR HQ adV hws;obtain ⟨j,M,rfl,hj,hMn,hMm,hws,hR,HQ,HQT⟩:=hrel;by_cases hjl:j<V.length
     · have p0:(j:Int)<(V.length:Int):=by omega
       have p1:(0:Int)≤(j:Int):=by omega
       have HJ:=Lib.hid (show j+1≤V.length from hjl);obtain ⟨_,_,he0,hg0⟩:=aN hR.v;obtain ⟨g,hga,_⟩:=hg0 (by omega);cases he0;subst hga;have hgl:=(ZC g rfl).2;have hgb:g≠b:=fun e=>hR.vb (congrArg some e)
       obtain ⟨q,hq⟩:∃q,M[j]? =some q:=⟨_,List.getElem?_eq_getElem (by omega)⟩;have hqq:=HQ.out q (List.mem_of_getElem? hq)
       have hqn:q.x.aD.length≤900:=by
        have h1:(V.map Vv.x)[j]? =some q.x:=by rw [←hMm,List.getElem?_map,hq];rfl
        rw [List.getElem?_map]at h1;obtain ⟨q1,h2,h3⟩:=Option.map_eq_some_iff.1 h1;rw [←h3];exact HCl.out.2 q1 (List.mem_of_getElem? h2)
       have hRg:wr.rangeAt g (j*5) q.arr.toList:=fun i v hv=>aM hR.v _ _ (by
        have hi:i<5:=(List.getElem?_eq_some_iff.1 hv).1;unfold nK;rw [vW (fun q:Vv=>q.arr.toList) 5 Vv.len M j i q hq hi];exact hv)
       have ho1:=(hqq.isIn (HB2.out.trans (hR.below.mono HB2.out.size))).one;have Y3:=hR.alloc (.cells q.arr 46);have hb5:=aB wr (.cells q.arr 46);have hq4:=hqq.call ((Below.refl wr.heap.size wr).alloc (Nat.le_refl _) (.cells q.arr 46));have hs4:=av wr (.cells q.arr 46);go_upto_region 10 with (first|refine cZ Tryz.Jf rfl _ rfl rfl rfl hRg ?_|refine fq Tryz.Jf rfl _ _ rfl rfl rfl rfl rfl rfl ho1 ?_)
       have hbq:=(Below.refl wr.heap.size wr).alloc (Nat.le_refl _) (.cells q.arr 46);generalize (wr.alloc (.cells q.arr 46))=wq at *
       have hz:(nK M)[j*5+4]? =some q.v:=by
        unfold nK;rw [vW (fun q:Vv=>q.arr.toList) 5 Vv.len M j 4 q hq (by decide)];rfl
       have hRd:=Y3.drew;have hgW:=(Y3.v.lt g rfl).1;have hn1:b≠g:=fun e=>hgb e.symm
       have Ab:wr.heap.size≠g:=by omega
       have hS:Below W.heap.size W wq∧wq.cell? ⟨b,2,none⟩=some (.slice (some ⟨g,0,none⟩) V.length cV)∧wq.cell? ⟨wr.heap.size,4,none⟩=some q.v∧GK w w1.heap.size wq q:=⟨Y3.below,by rw [aj Y3.box];rfl,by rw [aj hb5];rfl,hq4⟩;have hSd:Below W.heap.size W wq.drew∧wq.drew.cell? ⟨b,2,none⟩=some (.slice (some ⟨g,0,none⟩) V.length cV)∧wq.drew.cell? ⟨wr.heap.size,4,none⟩=some q.v∧GK w w1.heap.size wq.drew q:=⟨hS.1.drew,hS.2.1,hS.2.2.1,hS.2.2.2⟩;have HCC:Hid (∀w',(Below W.heap.size W w' ∧w'.cell? ⟨b,2,none⟩=some (.slice (some ⟨g,0,none⟩) V.length cV)∧w'.cell? ⟨wr.heap.size,4,none⟩=some q.v∧GK w w1.heap.size w' q)→Calls prog 35 #[q.v] w' fun e w'' =>∃v,e= .returned v∧w''.ownsRow w'.heap.size 9 1 v q.x.aD.length (q.x.aD.map Value.string)∧Below w'.heap.size w' w''):=fun w' h=>PD (h.2.2.2.isIn (HB2.out.trans (h.1.mono HB2.out.size))) (by simp) (by intro u hu;obtain ⟨x,_,rfl⟩:=List.mem_map.1 hu;rfl) (by omega)
       have hz0:=hS.2.1;have hz5:=hS.2.2.1
       go_region_held3 (fun w' =>Below W.heap.size W w' ∧w'.cell? ⟨b,2,none⟩=some (.slice (some ⟨g,0,none⟩) V.length cV)∧w'.cell? ⟨wr.heap.size,4,none⟩=some q.v∧GK w w1.heap.size w' q) (first|exact hSd|exact Y2 (by assumption) hbC|exact abJ (by assumption) hgW hn1 Ab hgl _ _)
        ((go_at_call 35;with_reducible refine (HCC.out _ (by assumption)).mono ?_;rintro e wC ⟨_,rfl,ZJ,hbC⟩;obtain ⟨aC,cC,rfl,_⟩:=aN ZJ;have hrC:=bP hRd.v hbC;have z6:=aM hrC (j*5+4) _ hz;have fz:=World.ownsRow.frozenAt hrC (j*5+4)))
       go_wp2_with fail;go_roundw
       case rel=>
        have hsC:wq.heap.size≤wC.heap.size:=hbC.size;refine ⟨j+1,M.set j ⟨q.x, .slice aC q.x.aD.length cC⟩,by go_num,HJ.out,by rw [List.length_set];exact hMn,(z8 Vv.x (q' :=⟨q.x, .slice aC q.x.aD.length cC⟩) hq rfl).trans hMm,by rw [bB];omega, ?_,fun p hp=> ?_,fun p hp=>(EO.call (wx:=wq.drew) (show EO w _ wq.drew p from (HQT.out p hp).call hbq.drew) hbC).set hgl _ _⟩
        · have:=(hRd.call hbC).DL (j*5+4) (.slice aC q.x.aD.length cC);unfold nK at this⊢;rw [EP (fun q:Vv=>q.arr.toList) 5 Vv.len 4 (by decide) (.slice aC q.x.aD.length cC) M j q _ hq rfl];exact this
        · rcases List.mem_or_eq_of_mem_set hp with hp|rfl
          · exact (GK.call (wx:=wq.drew) (show GK w _ wq.drew p from (HQ.out p hp).call hbq.drew) hbC).set hgl _ _
          · exact .inr (uP (nH ZJ (show w1.heap.size≤wq.heap.size by omega)) hgl _ _)
       case measure=>have hjj:=HJ.out;simp [intOf];omega
     · have jV:j=V.length:=by omega
       subst jV;have hz9:=aH hR.below HZ.out;have hBw:=HB2.out.trans (hR.below.mono HB2.out.size);have hle:=HB2.out.size;go_wp2_with (first|refine cZ Tryz.rtS rfl _ rfl rfl rfl (dz hR.box) ?_|(refine pJ Tryz.rtS rfl _ _ rfl rfl rfl hz9 rfl rfl rfl ?_;intro w9 Ej));refine bodyPost_ret (LG rfl rfl (V8 Tryz.rtS Ej.blk rfl)) rfl ?_;have hB9:=Ej.below _ _ hBw (by omega);have Fb:=aG HZ.out;have hW1' :=hW1.out;have h9s:wr.heap.size≤w9.heap.size:=Nat.le_of_eq Ej.size.symm;refine ⟨⟨la,L,M, .slice aT T.length cT, .slice aV V.length cV⟩,rfl, ?_,hB9, ?_, ?_,hR.tv,w1.heap.size,Nat.le_trans hle hW1',Nat.le_trans hws h9s,fun g e=>(hrt g e).2,fun g e=>(ZC g e).2,fun q hq=> ?_,fun q hq=> ?_⟩
       · show (⟨la,L.map Tw.t,M.map Vv.x⟩:Sc)=_;rw [hLm,hMm];rfl
       · have:=oH (nH hR.t (Nat.le_refl _)) Ej Fb;show w9.ownsRow _ _ _ _ L.length _;rw [←hLn]at this;rw [←hLn];exact nH this hle
       · have:=oH (nH hR.v (Nat.le_refl _)) Ej Fb;show w9.ownsRow _ _ _ _ M.length _;rw [←hMn]at this;rw [←hMn];exact nH this hle
       · rcases HQT.out q hq with h|h
         · exact .inl h
         · exact .inr (oH h Ej (by omega))
       · rcases HQ.out q hq with h|h
         · exact .inl h
         · exact .inr (oH h Ej (by omega))
end Go.Proofs.YtnngbhpeeakfaaaGreatDoor
