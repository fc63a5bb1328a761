/- Parts of a proof. -/
import Derived.Test.YtcgadodckoalnaaGreatDoorB45
set_option maxHeartbeats 8000000
set_option maxRecDepth 100000
namespace Go.Proofs.YtcgadodckoalnaaGreatDoor
open Go.Proofs.Tryz
open Go.RowKit
open aN
structure IE (w1 W:World) (va vb:Value) (na nb:Nat) (xa xb:List Value):Prop where
 below:Below w1.heap.size w1 W
 ra:W.ownsRow w1.heap.size 9 1 va na xa
 rb:W.ownsRow w1.heap.size 9 1 vb nb xb
 ap:Apart va vb
section
variable {w1 W W' :World}{va vb:Value}{na nb:Nat}{xa xb:List Value}
theorem IE.alloc (h:IE w1 W va vb na nb xa xb) (o:Obj):IE w1 (W.alloc o) va vb na nb xa xb:=⟨h.below.alloc h.below.size o,h.ra.alloc o,h.rb.alloc o,h.ap⟩
theorem IE.drew (h:IE w1 W va vb na nb xa xb):IE w1 W.drew va vb na nb xa xb:=⟨h.below.drew,h.ra.drew,h.rb.drew,h.ap⟩
theorem IE.symm (h:IE w1 W va vb na nb xa xb):IE w1 W vb va nb na xb xa:=⟨h.below,h.rb,h.ra,h.ap.symm⟩
theorem IE.call (h:IE w1 W va vb na nb xa xb) (hb:Below W.heap.size W W'):IE w1 W' va vb na nb xa xb:=⟨h.below.trans (hb.mono h.below.size),fC h.ra hb,fC h.rb hb,h.ap⟩
theorem IE.app (h:IE w1 W va vb na nb xa xb) {g cap n:Nat}{ys:List Value}(h3:W'.ownsRow w1.heap.size 9 1 (.slice (some ⟨g,0,none⟩) n cap) n ys) (hg:W.grownBy W' va.ownBlock) (hn:va.ownBlock=some g∨g=W.heap.size):IE w1 W' (.slice (some ⟨g,0,none⟩) n cap) vb n nb ys xb:=
 ⟨below_app h.below h.below.size hg (fun g hg2=>(h.ra.lt g hg2).1),h3,h.ap.keep h.rb hg,by
  intro g' h1 h2;cases h1;rcases hn with hn|hn
  · exact h.ap g hn h2
  · have:=(h.rb.lt g h2).2;omega⟩
theorem IE.V7 (h:IE w1 W va vb na nb xa xb) {g cap n:Nat}{ys:List Value}(h3:W'.ownsRow w1.heap.size 9 1 (.slice (some ⟨g,0,none⟩) n cap) n ys) (hg:W.grownBy W' vb.ownBlock) (hn:vb.ownBlock=some g∨g=W.heap.size):IE w1 W' va (.slice (some ⟨g,0,none⟩) n cap) na n xa ys:=(h.symm.app h3 hg hn).symm
theorem IE.cell {a:Addr}{v:Value}(h:IE w1 W va vb na nb xa xb) (hc:w1.cell? a=some v):W.cell? a=some v:=aJ h.below hc
end
theorem O5 (L:List ByteArray):aF (eB bA (L.map fun s=> [Pc.wd s]))=dF (⟨#[44,32]⟩:ah) L:=by
 have h:=iQ bA (L.map fun s=> [Pc.wd s]);rw [←h,iI,List.map_map];congr 1;rw [←List.map_id' L,List.map_map];refine List.map_congr_left fun s _=> ?_
 show s++⟨#[]⟩=s;rw [Bo]
theorem qD.cut {L:List Pr}(h:qD L):qD (L.map jy):=⟨by rw [List.length_map];exact h.1,fun q hq=>by
 obtain ⟨p,hp,rfl⟩:=List.mem_map.1 hq;exact ⟨Mk _ (h.2 p hp).1,(h.2 p hp).2⟩⟩
theorem Ry {w:World}{x:Sx}{tc c s wv pv:Value}(hk:x.kind=5) (hok:gB x) (hin:iJ w x tc c s wv) (hpv:pv.oneCell' =true):
 Calls prog 48 #[.agg (aG x tc c s wv pv)] w fun e w' =>e= .returned (.string (aF (oD (iK x))))∧Below w.heap.size w w' :=by
 obtain ⟨sA,sC,hse,hsg⟩:=hin.s;replace hse:s= .slice sA x.sets.length sC:=hse;subst hse;have hone:=hin.one hpv;have hB1:=(Below.refl w.heap.size w).alloc (Nat.le_refl _) (.cells (aG x tc c (.slice sA x.sets.length sC) wv pv) 31);have hV:=aA w (.cells (aG x tc c (.slice sA x.sets.length sC) wv pv) 31);obtain ⟨Jn,Wu⟩:∃r,dF (⟨#[44,32]⟩:ah) (x.sets.map Pr.name)=r:=⟨_,rfl⟩;have zJn:Jn.size≤200000400:=by rw [←Wu];exact Cx hok.sets
 obtain ⟨Jt,Wv⟩:∃r,dF (⟨#[44,32]⟩:ah) (x.sets.map fun p=>(dM (oz p.t)).text)=r:=⟨_,rfl⟩
 have zJt:Jt.size≤400004600:=by
  rw [←Wv];have h:=Cy hok.sets.cut;rw [List.map_map]at h;exact h
 obtain ⟨Ju,p8⟩:∃r,aF (dA (lV x.stamp) (lV x.ttl))=r:=⟨_,rfl⟩;have Il:Ju.size≤1000:=by rw [←p8];exact jl _ _ (lJ _) (lJ _)
 have nJ:((⟨#[73,78,83,69,82,84,32,73,78,84,79,32]⟩:ah)).size≤12:=by decide
 obtain ⟨A1,nK,LZ,nO⟩:=aM nJ (show (x.bT).size≤2000000 from hok.bT) (by decide);obtain ⟨A2,pF,Oq,pG⟩:=aM nO (show ((⟨#[32,40]⟩:ah)).size≤2 from by decide) (by decide);obtain ⟨A3,pI,Ot,pJ⟩:=aM pG (show (Jn).size≤200000400 from zJn) (by decide);obtain ⟨A4,pK,Ou,pO⟩:=aM pJ (show ((⟨#[41,32,86,65,76,85,69,83,32,40]⟩:ah)).size≤10 from by decide) (by decide);obtain ⟨A5,pQ,Ov,sj⟩:=aM pO (show (Jt).size≤400004600 from zJt) (by decide);obtain ⟨A6,Cz,Ah6,EK⟩:=aM sj (show ((⟨#[41]⟩:ah)).size≤1 from by decide) (by decide);obtain ⟨A7,Kn,Ah7,Pm⟩:=aM EK (show (Ju).size≤1000 from Il) (by decide)
 have HE:Hid (A7=aF (oD (iK x))):=by
  show _=_;rw [←Kn,←Cz,←pQ,←pK,←pI,←pF,←nK,←p8,←Wu,←Wv];have n1:=DW (x.sets.map jy);have n2:=DX (x.sets.map jy);rw [List.map_map]at n1 n2;have m1:x.sets.map Pr.name=x.sets.map (Pr.name ∘ jy):=rfl;have m2:(x.sets.map fun p=>(dM (oz p.t)).text)=x.sets.map ((fun q:Pr=>(dM q.t).text)∘ jy):=rfl;rw [m1,m2,n1,n2];unfold oD iK;apply ByteArray.ext;apply Array.ext';simp [bq,aF,Pc.text]
 clear nK pF pI pK pQ Cz Kn;clear nJ nO pG pJ pO sj EK Pm;clear zJn zJt Il;have HSL:Hid (x.sets.length≤100):=hok.sets.1;have HNM:Hid (∀q∈x.sets.map Pr.name,q.size≤8000000):=fun q hq=>by obtain ⟨p,hp,rfl⟩:=List.mem_map.1 hq;exact Nat.le_trans (hok.sets.2 p hp).2 (by decide)
 have HTM:Hid (∀q∈x.sets.map (fun p=>(dM (oz p.t)).text),q.size≤8000000):=fun q hq=>by obtain ⟨p,hp,rfl⟩:=List.mem_map.1 hq;exact Nat.le_trans (FD _ (Mk _ (hok.sets.2 p hp).1)) (by decide)
 have HTC:Hid (∀p∈x.sets,DR p.t):=fun p hp=>(hok.sets.2 p hp).1
 have HSG:=Lib.hid hsg;go_enter func48,ntmps48;go_upto_region 2 with fail
 generalize w.alloc (.cells (aG x tc c (.slice sA x.sets.length sC) wv pv) 31)=w1 at *;have k0:w1.cell? ⟨w.heap.size,0,none⟩=some (.int .i64 5):=by rw [(aK hV).1,hk]
 have k2:w1.cell? ⟨w.heap.size,2,none⟩=some (.string x.bT):=(aK hV).2.2.1;have k12:w1.cell? ⟨w.heap.size,12,none⟩=some (.slice sA x.sets.length sC):=(aK hV).2.2.2.2.2.2.2.2.2.2.2.2.1;have HR:Hid (∀j v,(aG x tc c (.slice sA x.sets.length sC) wv pv).toList[j]? =some v→w1.cell? ⟨w.heap.size,0+j,none⟩=some v):=fun j v hv=>by rw [Nat.zero_add,au hV];simpa using hv
 have HB1:=Lib.hid hB1;have HK2:=Lib.hid k2;clear hok hin hV hB1 hone hsg;obtain ⟨n,hn⟩:∃n,x.sets.length=n:=⟨_,rfl⟩;have HN:=Lib.hid hn;rw [hn]at HSL HSG k12 HR;have acw:n≤100:=HSL.out;clear hn;go_wp2_with fail
 go_loopw [3,4,5] (fun va vb i wr=>∃(j:Nat) (a3 b3:Option Addr) (d3 e3:Nat),va= .slice a3 j d3∧vb= .slice b3 j e3∧i= .int .i64 j∧j≤n∧IE w1 wr (.slice a3 j d3) (.slice b3 j e3) j j ((x.sets.take j).map fun p=>Value.string p.name) ((x.sets.take j).map fun p=>Value.string (dM (oz p.t)).text)) (fun _ _ i _=>n - (intOf i).toNat)
 case atStart=>exact ⟨0,none,none,0,0,rfl,rfl,rfl,Nat.zero_le _,Below.refl _ _,World.ownsRow_nil _ _ _ _,World.ownsRow_nil _ _ _ _,yZ⟩
 case round=>
  obtain ⟨j,a3,b3,d3,e3,rfl,rfl,rfl,hj,hE⟩:=hrel;have amo:=hE.cell k12;have Yl:=fun o=>(hE.alloc o).cell k12
  clear k0 k2;by_cases hlt:j<n
  · have q0:(j:Int)<(n:Int):=by omega
    have q1:(0:Int)≤(j:Int):=by omega
    obtain ⟨g,off,hgs,hc⟩:=HSG.out (by omega);subst hgs;obtain ⟨p,hp⟩:∃p,x.sets[j]? =some p:=⟨_,List.getElem?_eq_getElem (by have:=HN.out;omega)⟩;have hlow:∀k v,(dI x.sets)[k]? =some v→w1.cell? ⟨g,off+k,none⟩=some v:=fun k v hk=>aJ HB1.out (hc k v hk)
    have c0:w1.cell? ⟨g,off+j*4,none⟩=some (.string p.name):=hlow (j*4) _ (by have:=bF hp 0 (by omega);rw [Nat.add_zero]at this;rw [this];rfl);have c1:w1.cell? ⟨g,off+j*4+1,none⟩=some (.int .i64 p.t.ty):=hlow (j*4+1) _ (by rw [bF hp 1 (by omega)];rfl);have c2:w1.cell? ⟨g,off+j*4+2,none⟩=some (.string p.t.s):=hlow (j*4+2) _ (by rw [bF hp 2 (by omega)];rfl);have c3:w1.cell? ⟨g,off+j*4+3,none⟩=some (.int .i64 p.t.n):=hlow (j*4+3) _ (by rw [bF hp 3 (by omega)];rfl);have c4:w1.cell? ⟨g,off+j*4+1+1,none⟩=some (.string p.t.s):=hlow (j*4+2) _ (by rw [bF hp 2 (by omega)];rfl);have c5:w1.cell? ⟨g,off+j*4+1+2,none⟩=some (.int .i64 p.t.n):=hlow (j*4+3) _ (by rw [bF hp 3 (by omega)];rfl)
    have agH:Hid (∀{β:Type} (f:Pr→β),(x.sets.take (j+1)).map f=(x.sets.take j).map f++ [f p]):=fun f=>by
     obtain ⟨hj2,rfl⟩:=List.getElem?_eq_some_iff.1 hp;rw [List.take_succ_eq_append_getElem hj2,List.map_append];rfl
    have htm:=fun W=>KD p.t W (HTC.out p (List.mem_of_getElem? hp))
    obtain ⟨tt,htt⟩:∃t,(dM (oz p.t)).text=t:=⟨_,rfl⟩;rw [htt]at htm;have HTT:=Lib.hid htt;have HCC:=Lib.hid (And.intro k12 (And.intro c0 (And.intro c1 (And.intro c2 (And.intro c3 (And.intro c4 c5))))));clear hp hc hlow htt;go_upto_block 2 with fail
    go_cut [3,4]from 14 to 39 (fun s3 s4 wx=>∃(a4 b4:Option Addr) (d4 e4:Nat),s3= .slice a4 (j+1) d4∧s4= .slice b4 (j+1) e4∧IE w1 wx (.slice a4 (j+1) d4) (.slice b4 (j+1) e4) (j+1) (j+1) ((x.sets.take j).map (fun p=>Value.string p.name)++ [.string p.name]) ((x.sets.take j).map (fun p=>Value.string (dM (oz p.t)).text)++ [.string tt]))
    case first=>
     have hz:=hE.below.size;obtain ⟨z12,z0,z1,z2,z3,z4,z5⟩:=HCC.out;have m12:=hE.cell z12;have m0:=hE.cell z0;have m1:=hE.cell z1;have m2:=hE.cell z2;have m3:=hE.cell z3;have m4:=hE.cell z4;have m5:=hE.cell z5;have n12:=fun o=>(hE.alloc o).cell z12;have n0:=fun o=>(hE.alloc o).cell z0;have n1:=fun o=>(hE.alloc o).cell z1;have n2:=fun o=>(hE.alloc o).cell z2;have n3:=fun o=>(hE.alloc o).cell z3;have n4:=fun o=>(hE.alloc o).cell z4;have n5:=fun o=>(hE.alloc o).cell z5;clear z12 z0 z1 z2 z3 z4 z5
     go_wp2_with fail
     go_region_law (first|((refine fM Tryz.yg rfl _ _ rfl w1.heap.size (.slice a3 j d3) j _ rfl (by first|exact hE.ra|exact hE.drew.ra|exact (hE.alloc _).ra|exact (hE.alloc _).drew.ra|exact ((hE.alloc _).alloc _).ra|exact ((hE.alloc _).alloc _).drew.ra) _ _ [.string p.name] rfl rfl (fun j u hj=>by rw [iG,Nat.zero_add];first|exact bg _ _ _ j u hj|exact sQ _ _ _ _ j u hj|exact hl.2 j u hj|exact hl1.2 j u hj) (by intro u hu;rw [List.mem_singleton.1 hu];rfl) (by omega) (by simp;omega) ?_;intro g3 jm w3 h3 hg3 wU hl3;first|have hE:=hE.app h3 hg3 wU|have hE:=hE.drew.app h3 hg3 wU|have hE:=(hE.alloc _).app h3 hg3 wU|have hE:=(hE.alloc _).drew.app h3 hg3 wU|have hE:=((hE.alloc _).alloc _).app h3 hg3 wU|have hE:=((hE.alloc _).alloc _).drew.app h3 hg3 wU);have hz:=hE.below.size;obtain ⟨z12,z0,z1,z2,z3,z4,z5⟩:=HCC.out;have m12:=hE.cell z12;have m0:=hE.cell z0;have m1:=hE.cell z1;have m2:=hE.cell z2;have m3:=hE.cell z3;have m4:=hE.cell z4;have m5:=hE.cell z5;have n12:=fun o=>(hE.alloc o).cell z12;have n0:=fun o=>(hE.alloc o).cell z0;have n1:=fun o=>(hE.alloc o).cell z1;have n2:=fun o=>(hE.alloc o).cell z2;have n3:=fun o=>(hE.alloc o).cell z3;have n4:=fun o=>(hE.alloc o).cell z4;have n5:=fun o=>(hE.alloc o).cell z5;clear z12 z0 z1 z2 z3 z4 z5)|((refine fM Tryz.yg rfl _ _ rfl w1.heap.size (.slice b3 j e3) j _ rfl (by first|exact hE.rb|exact hE.drew.rb|exact (hE.alloc _).rb|exact (hE.alloc _).drew.rb|exact ((hE.alloc _).alloc _).rb|exact ((hE.alloc _).alloc _).drew.rb) _ _ [.string tt] rfl rfl (fun j u hj=>by rw [iG,Nat.zero_add];first|exact bg _ _ _ j u hj|exact sQ _ _ _ _ j u hj|exact hl.2 j u hj|exact hl1.2 j u hj) (by intro u hu;rw [List.mem_singleton.1 hu];rfl) (by omega) (by simp;omega) ?_;intro g3 jm w3 h3 hg3 wU hl3;first|have hE:=hE.V7 h3 hg3 wU|have hE:=hE.drew.V7 h3 hg3 wU|have hE:=(hE.alloc _).V7 h3 hg3 wU|have hE:=(hE.alloc _).drew.V7 h3 hg3 wU|have hE:=((hE.alloc _).alloc _).V7 h3 hg3 wU|have hE:=((hE.alloc _).alloc _).drew.V7 h3 hg3 wU);have hz:=hE.below.size;obtain ⟨z12,z0,z1,z2,z3,z4,z5⟩:=HCC.out;have m12:=hE.cell z12;have m0:=hE.cell z0;have m1:=hE.cell z1;have m2:=hE.cell z2;have m3:=hE.cell z3;have m4:=hE.cell z4;have m5:=hE.cell z5;have n12:=fun o=>(hE.alloc o).cell z12;have n0:=fun o=>(hE.alloc o).cell z0;have n1:=fun o=>(hE.alloc o).cell z1;have n2:=fun o=>(hE.alloc o).cell z2;have n3:=fun o=>(hE.alloc o).cell z3;have n4:=fun o=>(hE.alloc o).cell z4;have n5:=fun o=>(hE.alloc o).cell z5;clear z12 z0 z1 z2 z3 z4 z5)|((go_simp;go_at_call 79;refine (htm _).mono ?_;rintro e EU ⟨rfl,kK⟩;first|have hE:=hE.call kK|have hE:=hE.drew.call kK|have hE:=(hE.alloc _).call kK|have hE:=(hE.alloc _).drew.call kK|have hE:=((hE.alloc _).alloc _).call kK|have hE:=((hE.alloc _).alloc _).drew.call kK);have hz:=hE.below.size;obtain ⟨z12,z0,z1,z2,z3,z4,z5⟩:=HCC.out;have m12:=hE.cell z12;have m0:=hE.cell z0;have m1:=hE.cell z1;have m2:=hE.cell z2;have m3:=hE.cell z3;have m4:=hE.cell z4;have m5:=hE.cell z5;have n12:=fun o=>(hE.alloc o).cell z12;have n0:=fun o=>(hE.alloc o).cell z0;have n1:=fun o=>(hE.alloc o).cell z1;have n2:=fun o=>(hE.alloc o).cell z2;have n3:=fun o=>(hE.alloc o).cell z3;have n4:=fun o=>(hE.alloc o).cell z4;have n5:=fun o=>(hE.alloc o).cell z5;clear z12 z0 z1 z2 z3 z4 z5))
     all_goals
      (try go_wp2_with fail)
      go_meet
      case rel=>exact ⟨_,_,_,_,rfl,rfl,by first|exact hE|simpa only [List.map_take]using hE⟩
    clear hE;obtain ⟨a4,b4,d4,e4,rfl,rfl,hE⟩:=hcut;go_wp2_with fail;go_roundw
    case rel=>exact ⟨j+1,a4,b4,d4,e4,rfl,rfl,by go_num,by omega,by rw [agH.out,agH.out,HTT.out];exact hE⟩
    case measure=>simp [intOf];omega
  · have mF:j=n:=by omega
    subst mF;have hall:x.sets.take j=x.sets:=by rw [←HN.out,List.take_length]
    rw [hall]at hE;have ln:(x.sets.map Pr.name).length=j:=by rw [List.length_map];exact HN.out
    have lt:(x.sets.map fun p=>(dM (oz p.t)).text).length=j:=by rw [List.length_map];exact HN.out
    have ra:Rd wr (.slice a3 j d3) j ((x.sets.map Pr.name).map Value.string):=by rw [List.map_map];exact Rd.own hE.ra
    have rb:Rd wr (.slice b3 j e3) j ((x.sets.map fun p=>(dM (oz p.t)).text).map Value.string):=by rw [List.map_map];exact Rd.own hE.rb
    have CJn:Hid (∀w',Below wr.heap.size wr w' →Calls prog 78 #[.slice a3 j d3] w' fun e w'' =>e= .returned (.string Jn)∧Below w'.heap.size w' w''):=fun w' hb=>by
     have h:=zq (w:=w') (u:= .slice a3 j d3) (L:=x.sets.map Pr.name) (by rw [ln];omega) (by rw [ln];exact ra.below hb) HNM.out;rw [O5,Wu]at h;exact h.mono fun _ _ he=>⟨he.1,by rw [he.2];exact Below.refl _ _⟩
    have CJt:Hid (∀w',Below wr.heap.size wr w' →Calls prog 78 #[.slice b3 j e3] w' fun e w'' =>e= .returned (.string Jt)∧Below w'.heap.size w' w''):=fun w' hb=>by
     have h:=zq (w:=w') (u:= .slice b3 j e3) (L:=x.sets.map fun p=>(dM (oz p.t)).text) (by rw [lt];omega) (by rw [lt];exact rb.below hb) HTM.out;rw [O5,Wv]at h;exact h.mono fun _ _ he=>⟨he.1,by rw [he.2];exact Below.refl _ _⟩
    have CJu:Hid (∀w',Below wr.heap.size wr w' →Calls prog 80 #[.agg (aG x tc c (.slice sA j sC) wv pv)] w' fun e w'' =>e= .returned (.string Ju)∧Below w'.heap.size w' w''):=fun w' _=>by have h:=(wG (w:=w') x tc c (.slice sA j sC) wv pv);rw [p8]at h;exact h
    have r2:=fun d os=>cell_regrown (hE.cell HK2.out) d os
    have HRr:Hid (∀i v,(aG x tc c (.slice sA j sC) wv pv).toList[i]? =some v→wr.cell? ⟨w.heap.size,0+i,none⟩=some v):=fun i v hv=>hE.cell (HR.out i v hv)
    have zw:=Lib.hid (HB1.out.trans (hE.below.mono HB1.out.size));clear ra rb ln lt hall hE Yl k12 Wu Wv p8;go_wp2_with fail;refine wp_region_quiet_below (by kernel_rfl) (by kernel_rfl) ?_
    iterate 5 (go_big_quiet_step (fail))
    go_big_quiet_step (exact Calls.regrown_of (CJn.out _ (below_regrown wr _ _)))
    iterate 3 (go_big_quiet_step (fail))
    go_big_quiet_step (exact Calls.regrown_of (CJt.out _ (below_regrown wr _ _)))
    iterate 2 (go_big_quiet_step (fail))
    refine gX rfl _ rfl rfl (p:=⟨x,tc,c,(.slice sA j sC),wv,pv⟩) (fun w' hw' =>by obtain ⟨p,rfl⟩:=hw';exact fun i v hv=>cell_regrown (HRr.out i v hv) p.d p.os) ?_;go_simp;go_big_quiet_step (exact Calls.regrown_of (CJu.out _ (below_regrown wr _ _)))
    iterate 2 (go_big_quiet_step (fail))
    refine wpQuiet_nil ?_;intro pq;obtain ⟨dq,osq⟩:=pq;go_wp2_with fail;go_ret;rw [HE.out];exact ⟨rfl,zw.out.trans ((below_regrown wr dq osq).mono zw.out.size)⟩
end Go.Proofs.YtcgadodckoalnaaGreatDoor
