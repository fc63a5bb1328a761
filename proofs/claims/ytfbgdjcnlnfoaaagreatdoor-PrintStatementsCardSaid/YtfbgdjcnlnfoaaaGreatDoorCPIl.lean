/- Parts of the proof, joined: LnE1. -/
import Derived.Test.YtfbgdjcnlnfoaaaGreatDoorB10
import Derived.Test.YtfbgdjcnlnfoaaaGreatDoorCPIk
import Derived.Test.YtfbgdjcnlnfoaaaGreatDoorRows
set_option maxHeartbeats 40000000
set_option maxRecDepth 100000
namespace Go.Proofs.YtfbgdjcnlnfoaaaGreatDoor
open Go.RowKit
open aH
theorem Sz {K:LK}{w:World}(h:LQ K w) {v:Nat}(hv:v<1048576) (hk:v % 8<3) (hn:Calls Tryz.prog 43 #[.pointer (some ⟨K.b,0,none⟩),.int .i64 1048576] (w.alloc oZ) fun e w' =>e= .returned (.int .i64 v)∧dM K (w.alloc oZ) w'):
 Calls Tryz.prog 44 #[.pointer (some ⟨K.b,0,none⟩)] w (Ci K w):=by
 have hle:=h.le
 have hZ:=aB w oZ
 obtain ⟨p,hp⟩:∃p:Nat,(v:Int) / 8 % 3=p:=⟨v / 8 % 3,by omega⟩
 obtain ⟨q,hq⟩:∃q:Nat,(v:Int) / 24 % 3=q:=⟨v / 24 % 3,by omega⟩
 obtain ⟨ta,wZ⟩:∃q:Nat,(v:Int) / 432 % 9=q:=⟨v / 432 % 9,by omega⟩
 obtain ⟨sg,hsg⟩:∃q:Nat,(v:Int) / 72 % 6=q:=⟨v / 72 % 6,by omega⟩
 have hp3:p<3:=by omega
 have hq3:q<3:=by omega
 have Vz:ta<9:=by omega
 obtain ⟨s,hs⟩:∃s,((⟨#[109,110,111]⟩:ByteArray):ByteArray).extract p (p+1)=s:=⟨_,rfl⟩
 have IW:Hid (s∈yh):=by have:=yu hp3;unfold Ym at this;rw [hs]at this;exact this
 have hb1:=kR
 have hb2:=l7
 have hb3:=yw
 have hb5:=wX
 have hD0:=(dM.refl h).alloc oZ
 go_enter Tryz.func44,Tryz.ntmps44
 go_wp2_with fail
 refine hn.mono ?_;rintro e w1 ⟨rfl,hd1⟩
 have hsz2:((w1.alloc (oP s)).alloc (oK q)).heap.size=w1.heap.size+1+1:=by rw [aA,aA]
 have hrr:w.heap.size<w1.heap.size:=by have:=hd1.size;rw [aA]at this;omega
 obtain ⟨W,hW⟩:∃W,((w1.alloc (oP s)).alloc (oK q)).alloc oT=W:=⟨_,rfl⟩
 have hE:Env K w W (w1.heap.size+1+1) [(w1.heap.size,oP s),(w1.heap.size+1,oK q)] {Sx.zero with bM:=(⟨#[116]⟩:ByteArray)} ak ak ak:=by
  have h2:=aB (w1.alloc (oP s)) (oK q)
  have h3:=aB ((w1.alloc (oP s)).alloc (oK q)) oT
  rw [aA]at h2
  rw [hsz2]at h3
  rw [←hW]
  refine ⟨(((hD0.trans hd1).alloc (oP s)).alloc (oK q)).alloc oT,au (au (au (hd1.blk hZ hle) _) _) _,h3,by omega,fun r hr=> ?_⟩
  simp only [List.mem_cons,List.not_mem_nil,or_false]at hr
  rcases hr with rfl|rfl
  · exact ⟨by show _≤w1.heap.size;omega,by show w1.heap.size≠_;omega,au (au (aB w1 _) _) _⟩
  · exact ⟨by show _≤w1.heap.size+1;omega,by show w1.heap.size+1≠_;omega,au h2 _⟩
 obtain ⟨hl,_,_,_,_,_,k14,k15,hf⟩:=hE.cells
 have f14:=hf 14
 have f15:=hf 15
 clear hd1 hD0 hn hZ hf
 rcases Yn sg with rfl|rfl|⟨n0,n1⟩
 all_goals
  go_wp2_with (first|refine kr hW rfl _ _ rfl hsz2.symm rfl rfl rfl rfl ?_)
  refine fu (P:=Mid true K w w1 s q) (by first|exact ⟨1+(ta:Int),0,by omega,by omega,fun _=>rfl,hE.stamp _⟩|exact ⟨0,1+(ta:Int),by omega,by omega,fun h=>absurd h (by decide),hE.ttl _⟩|exact ⟨0,0,by omega,by omega,fun _=>rfl,hE⟩) (fun Wc hM=> ?_)
  clear hE hW k14 k15 f14 f15 hl hb1 hb2 hb3 hb5 hsz2
  obtain ⟨st,tt,hst,SA,ht0,hE⟩:=hM
  obtain ⟨hl,k0,k2,k11,k12,k13,_,_,hf⟩:=hE.cells;have f0:=hf 0;have f11:=hf 11;have f12:=hf 12;have f13:=hf 13;clear hf
  obtain ⟨p0,p1,p2,p3,_⟩:=fP (hE.rest (w1.heap.size,oP s) (by simp)).2.2;obtain ⟨q0,q1,q2,q3,_⟩:=fP (hE.rest (w1.heap.size+1,oK q) (by simp)).2.2
  go_region_law (first|(refine D7 Tryz.vI rfl _ _ rfl w.heap.size (.slice (some ⟨Wc.heap.size,0,none⟩) 2 2) 2 (bQ [⟨(⟨#[112]⟩:ByteArray),⟨1,s,0⟩⟩,⟨(⟨#[107]⟩:ByteArray),⟨2,⟨#[]⟩,(q:Int)⟩⟩]) rfl (by (repeat (first|with_reducible assumption|((with_reducible apply cZ);rfl;(first|rfl|simp [World.setCell,World.drew]);rfl;rfl;decide;exact Env.base (K:=K) (w:=w) (bx:=w1.heap.size+1+1) (R:=_) (by (with_reducible repeat (first|assumption|apply Env.drew|apply Env.kind|apply Env.setW|apply Env.cK|apply Env.cO|apply Env.iK|apply Env.alloc))))|with_reducible apply dx|with_reducible refine aL ?_ (Env.hx (K:=K) (w:=w) (bx:=w1.heap.size+1+1) (R:=_) (by (with_reducible repeat (first|assumption|apply Env.drew|apply Env.kind|apply Env.setW|apply Env.cK|apply Env.cO|apply Env.iK|apply Env.alloc)))) (by decide) _ _|with_reducible apply bT))) (.slice a20 m.length c20) m.length (bQ m) rfl (Rd.own (base:=w.heap.size) (e:=61) (size:=4) (by (repeat (first|with_reducible assumption|((with_reducible apply cZ);rfl;(first|rfl|simp [World.setCell,World.drew]);rfl;rfl;decide;exact Env.base (K:=K) (w:=w) (bx:=w1.heap.size+1+1) (R:=_) (by (with_reducible repeat (first|assumption|apply Env.drew|apply Env.kind|apply Env.setW|apply Env.cK|apply Env.cO|apply Env.iK|apply Env.alloc))))|with_reducible apply dx|with_reducible refine aL ?_ (Env.hx (K:=K) (w:=w) (bx:=w1.heap.size+1+1) (R:=_) (by (with_reducible repeat (first|assumption|apply Env.drew|apply Env.kind|apply Env.setW|apply Env.cK|apply Env.cO|apply Env.iK|apply Env.alloc)))) (by decide) _ _|with_reducible apply bT)))) (xY m) (xX m) (by omega) (Env.base (K:=K) (w:=w) (bx:=w1.heap.size+1+1) (R:=_) (by (with_reducible repeat (first|assumption|apply Env.drew|apply Env.kind|apply Env.setW|apply Env.cK|apply Env.cO|apply Env.iK|apply Env.alloc)))) ?_;intro a3 iH w3 h3 hg3;replace hE:=Env.grown (K:=K) (w:=w) (bx:=w1.heap.size+1+1) (R:=_) (by (with_reducible repeat (first|assumption|apply Env.drew|apply Env.kind|apply Env.setW|apply Env.cK|apply Env.cO|apply Env.iK|apply Env.alloc))) (v:= .slice (some ⟨Wc.heap.size,0,none⟩) 2 2) (e:=61) (size:=4) (n:=2) (xs:=bQ [⟨(⟨#[112]⟩:ByteArray),⟨1,s,0⟩⟩,⟨(⟨#[107]⟩:ByteArray),⟨2,⟨#[]⟩,(q:Int)⟩⟩]) (by (repeat (first|with_reducible assumption|((with_reducible apply cZ);rfl;(first|rfl|simp [World.setCell,World.drew]);rfl;rfl;decide;exact Env.base (K:=K) (w:=w) (bx:=w1.heap.size+1+1) (R:=_) (by (with_reducible repeat (first|assumption|apply Env.drew|apply Env.kind|apply Env.setW|apply Env.cK|apply Env.cO|apply Env.iK|apply Env.alloc))))|with_reducible apply dx|with_reducible refine aL ?_ (Env.hx (K:=K) (w:=w) (bx:=w1.heap.size+1+1) (R:=_) (by (with_reducible repeat (first|assumption|apply Env.drew|apply Env.kind|apply Env.setW|apply Env.cK|apply Env.cO|apply Env.iK|apply Env.alloc)))) (by decide) _ _|with_reducible apply bT))) (by decide) hg3;obtain ⟨hl,k0,k2,k11,k12,k13,_,_,hf⟩:=hE.cells;have f0:=hf 0;have f11:=hf 11;have f12:=hf 12;have f13:=hf 13;clear hf)|(refine D7 Tryz.vI rfl _ _ rfl w.heap.size (.slice (some ⟨Cn.heap.size,0,none⟩) 2 2) 2 (bQ [⟨(⟨#[112]⟩:ByteArray),⟨1,s,0⟩⟩,⟨(⟨#[107]⟩:ByteArray),⟨2,⟨#[]⟩,(q:Int)⟩⟩]) rfl (by (repeat (first|with_reducible assumption|((with_reducible apply cZ);rfl;(first|rfl|simp [World.setCell,World.drew]);rfl;rfl;decide;exact Env.base (K:=K) (w:=w) (bx:=w1.heap.size+1+1) (R:=_) (by (with_reducible repeat (first|assumption|apply Env.drew|apply Env.kind|apply Env.setW|apply Env.cK|apply Env.cO|apply Env.iK|apply Env.alloc))))|with_reducible apply dx|with_reducible refine aL ?_ (Env.hx (K:=K) (w:=w) (bx:=w1.heap.size+1+1) (R:=_) (by (with_reducible repeat (first|assumption|apply Env.drew|apply Env.kind|apply Env.setW|apply Env.cK|apply Env.cO|apply Env.iK|apply Env.alloc)))) (by decide) _ _|with_reducible apply bT))) (.slice a20 m.length c20) m.length (bQ m) rfl (Rd.own (base:=w.heap.size) (e:=61) (size:=4) (by (repeat (first|with_reducible assumption|((with_reducible apply cZ);rfl;(first|rfl|simp [World.setCell,World.drew]);rfl;rfl;decide;exact Env.base (K:=K) (w:=w) (bx:=w1.heap.size+1+1) (R:=_) (by (with_reducible repeat (first|assumption|apply Env.drew|apply Env.kind|apply Env.setW|apply Env.cK|apply Env.cO|apply Env.iK|apply Env.alloc))))|with_reducible apply dx|with_reducible refine aL ?_ (Env.hx (K:=K) (w:=w) (bx:=w1.heap.size+1+1) (R:=_) (by (with_reducible repeat (first|assumption|apply Env.drew|apply Env.kind|apply Env.setW|apply Env.cK|apply Env.cO|apply Env.iK|apply Env.alloc)))) (by decide) _ _|with_reducible apply bT)))) (xY m) (xX m) (by omega) (Env.base (K:=K) (w:=w) (bx:=w1.heap.size+1+1) (R:=_) (by (with_reducible repeat (first|assumption|apply Env.drew|apply Env.kind|apply Env.setW|apply Env.cK|apply Env.cO|apply Env.iK|apply Env.alloc)))) ?_;intro a3 iH w3 h3 hg3;replace hE:=Env.grown (K:=K) (w:=w) (bx:=w1.heap.size+1+1) (R:=_) (by (with_reducible repeat (first|assumption|apply Env.drew|apply Env.kind|apply Env.setW|apply Env.cK|apply Env.cO|apply Env.iK|apply Env.alloc))) (v:= .slice (some ⟨Cn.heap.size,0,none⟩) 2 2) (e:=61) (size:=4) (n:=2) (xs:=bQ [⟨(⟨#[112]⟩:ByteArray),⟨1,s,0⟩⟩,⟨(⟨#[107]⟩:ByteArray),⟨2,⟨#[]⟩,(q:Int)⟩⟩]) (by (repeat (first|with_reducible assumption|((with_reducible apply cZ);rfl;(first|rfl|simp [World.setCell,World.drew]);rfl;rfl;decide;exact Env.base (K:=K) (w:=w) (bx:=w1.heap.size+1+1) (R:=_) (by (with_reducible repeat (first|assumption|apply Env.drew|apply Env.kind|apply Env.setW|apply Env.cK|apply Env.cO|apply Env.iK|apply Env.alloc))))|with_reducible apply dx|with_reducible refine aL ?_ (Env.hx (K:=K) (w:=w) (bx:=w1.heap.size+1+1) (R:=_) (by (with_reducible repeat (first|assumption|apply Env.drew|apply Env.kind|apply Env.setW|apply Env.cK|apply Env.cO|apply Env.iK|apply Env.alloc)))) (by decide) _ _|with_reducible apply bT))) (by decide) hg3;obtain ⟨hl,k0,k2,k11,k12,k13,_,_,hf⟩:=hE.cells;have f0:=hf 0;have f11:=hf 11;have f12:=hf 12;have f13:=hf 13;clear hf)|(go_simp;go_at_call 92;refine (D6 (Env.q (K:=K) (w:=w) (bx:=w1.heap.size+1+1) (R:=_) (by (with_reducible repeat (first|assumption|apply Env.drew|apply Env.kind|apply Env.setW|apply Env.cK|apply Env.cO|apply Env.iK|apply Env.alloc)))) 0 (.inl rfl)).mono ?_;rintro e Cn ⟨m,a20,c20,rfl,lD,hm1,hm2,jS,bX⟩;replace lD:=bF lD (Env.base (K:=K) (w:=w) (bx:=w1.heap.size+1+1) (R:=_) (by (with_reducible repeat (first|assumption|apply Env.drew|apply Env.kind|apply Env.setW|apply Env.cK|apply Env.cO|apply Env.iK|apply Env.alloc))));(try have hrow:=bX.row (base:=w.heap.size) (e:=61) (size:=4) (n:=2) (xs:=bQ [⟨(⟨#[112]⟩:ByteArray),⟨1,s,0⟩⟩,⟨(⟨#[107]⟩:ByteArray),⟨2,⟨#[]⟩,(q:Int)⟩⟩]) (by (repeat (first|with_reducible assumption|((with_reducible apply cZ);rfl;(first|rfl|simp [World.setCell,World.drew]);rfl;rfl;decide;exact Env.base (K:=K) (w:=w) (bx:=w1.heap.size+1+1) (R:=_) (by (with_reducible repeat (first|assumption|apply Env.drew|apply Env.kind|apply Env.setW|apply Env.cK|apply Env.cO|apply Env.iK|apply Env.alloc))))|with_reducible apply dx|with_reducible refine aL ?_ (Env.hx (K:=K) (w:=w) (bx:=w1.heap.size+1+1) (R:=_) (by (with_reducible repeat (first|assumption|apply Env.drew|apply Env.kind|apply Env.setW|apply Env.cK|apply Env.cO|apply Env.iK|apply Env.alloc)))) (by decide) _ _|with_reducible apply bT))) hle);replace hE:=Env.call (K:=K) (w:=w) (bx:=w1.heap.size+1+1) (R:=_) (by (with_reducible repeat (first|assumption|apply Env.drew|apply Env.kind|apply Env.setW|apply Env.cK|apply Env.cO|apply Env.iK|apply Env.alloc))) bX;have hml:=Mf hm2;have HM:=Lib.hid (And.intro hm1 (And.intro hm2 jS));clear hm1 hm2 jS;obtain ⟨hl,k0,k2,k11,k12,k13,_,_,hf⟩:=hE.cells;have f0:=hf 0;have f11:=hf 11;have f12:=hf 12;have f13:=hf 13;clear hf;obtain ⟨p0,p1,p2,p3,_⟩:=fP (hE.rest (w1.heap.size,oP s) (by simp)).2.2;obtain ⟨q0,q1,q2,q3,_⟩:=fP (hE.rest (w1.heap.size+1,oK q) (by simp)).2.2))
  all_goals
   refine fu (P:=Fin KG K w (w1.heap.size+1+1)) (Env.fin (R:= []) (by (with_reducible repeat (first|assumption|apply Env.drew|apply Env.kind|apply Env.setW|apply Env.cK|apply Env.cO|apply Env.iK|apply Env.alloc))) [] ([⟨(⟨#[112]⟩:ByteArray),⟨1,s,0⟩⟩,⟨(⟨#[107]⟩:ByteArray),⟨2,⟨#[]⟩,(q:Int)⟩⟩]++m) [] (World.ownsRow_nil _ _ _ _) (Sy (by (repeat (first|with_reducible assumption|((with_reducible apply cZ);rfl;(first|rfl|simp [World.setCell,World.drew]);rfl;rfl;decide;exact Env.base (K:=K) (w:=w) (bx:=w1.heap.size+1+1) (R:= []) (by (with_reducible repeat (first|assumption|apply Env.drew|apply Env.kind|apply Env.setW|apply Env.cK|apply Env.cO|apply Env.iK|apply Env.alloc))))|with_reducible apply dx|with_reducible refine aL ?_ (Env.hx (K:=K) (w:=w) (bx:=w1.heap.size+1+1) (R:= []) (by (with_reducible repeat (first|assumption|apply Env.drew|apply Env.kind|apply Env.setW|apply Env.cK|apply Env.cO|apply Env.iK|apply Env.alloc)))) (by decide) _ _|with_reducible apply bT)))) (World.ownsRow_nil _ _ _ _) rfl (OV (l:= [⟨(⟨#[112]⟩:ByteArray),⟨1,s,0⟩⟩,⟨(⟨#[107]⟩:ByteArray),⟨2,⟨#[]⟩,(q:Int)⟩⟩]++m) (by simp) (fun p hp=>by rcases List.mem_append.1 hp with hp|hp;exact FP IW.out hq3 p hp;exact HM.out.1 p hp) (by rw [List.map_append];exact (List.Sublist.refl [(⟨#[112]⟩:ByteArray),(⟨#[107]⟩:ByteArray)]).append HM.out.2.1) hst SA)) (fun W5 hW5=> ?_)
   obtain ⟨x5,c5,s5,v5,hD5,sZ,hx5,Ck,KI⟩:=hW5
   have ho:=Ck.one
   clear k0 k2 k11 k12 k13 f0 f11 f12 f13 p0 p1 p2 p3 q0 q1 q2 q3
   go_wp2_with (first|refine bA rfl _ rfl rfl rfl hx5 ?_|(refine eD rfl _ _ rfl rfl rfl sZ rfl rfl ho ?_;intro W6 Cm))
   refine bodyPost_ret (dR rfl rfl (mV Cm.blk rfl)) rfl ?_
   exact Cj hD5 sZ (Nat.le_refl _) Cm KI Ck
end Go.Proofs.YtfbgdjcnlnfoaaaGreatDoor
