/- Parts of the proof, joined: LnE2. -/
import Derived.Deep.CutRange
import Derived.Deep.CutBlock
import Derived.Test.YtfbgdjcnlnfoaaaGreatDoorB10
import Derived.Test.YtfbgdjcnlnfoaaaGreatDoorCPIk
import Derived.Test.YtfbgdjcnlnfoaaaGreatDoorRows
set_option maxHeartbeats 40000000
set_option maxRecDepth 100000
namespace Go.Proofs.YtfbgdjcnlnfoaaaGreatDoor
open Go.RowKit
open aH
theorem SB {K:LK}{w:World}(h:LQ K w) {v:Nat}(hv:v<1048576) (hk:3≤v % 8∧v % 8<5) (hn:Calls Tryz.prog 43 #[.pointer (some ⟨K.b,0,none⟩),.int .i64 1048576] (w.alloc oZ) fun e w' =>e= .returned (.int .i64 v)∧dM K (w.alloc oZ) w'):
 Calls Tryz.prog 44 #[.pointer (some ⟨K.b,0,none⟩)] w (Ci K w):=by
 have hle:=h.le
 have hZ:=aB w oZ
 obtain ⟨p,hp⟩:∃p:Nat,(v:Int) / 8 % 3=p:=⟨v / 8 % 3,by omega⟩
 obtain ⟨q,hq⟩:∃q:Nat,(v:Int) / 24 % 3=q:=⟨v / 24 % 3,by omega⟩
 obtain ⟨ta,wZ⟩:∃q:Nat,(v:Int) / 432 % 9=q:=⟨v / 432 % 9,by omega⟩
 obtain ⟨sg,hsg⟩:∃q:Nat,(v:Int) / 72 % 6=q:=⟨v / 72 % 6,by omega⟩
 have hp3:p<3:=by omega
 have hq3:q<3:=by omega
 have Vz:ta<9:=by omega
 obtain ⟨s,hs⟩:∃s,((⟨#[109,110,111]⟩:ByteArray):ByteArray).extract p (p+1)=s:=⟨_,rfl⟩
 have IW:Hid (s∈yh):=by have:=yu hp3;unfold Ym at this;rw [hs]at this;exact this
 have hb1:=kR
 have hb2:=l7
 have hb3:=yw
 have hb5:=wX
 have hD0:=(dM.refl h).alloc oZ
 go_enter Tryz.func44,Tryz.ntmps44
 go_wp2_with fail
 refine hn.mono ?_;rintro e w1 ⟨rfl,hd1⟩
 have hsz2:((w1.alloc (oP s)).alloc (oK q)).heap.size=w1.heap.size+1+1:=by rw [aA,aA]
 have hrr:w.heap.size<w1.heap.size:=by have:=hd1.size;rw [aA]at this;omega
 obtain ⟨W,hW⟩:∃W,((w1.alloc (oP s)).alloc (oK q)).alloc oT=W:=⟨_,rfl⟩
 have hE:Env K w W (w1.heap.size+1+1) [(w1.heap.size,oP s),(w1.heap.size+1,oK q)] {Sx.zero with bM:=(⟨#[116]⟩:ByteArray)} ak ak ak:=by
  have h2:=aB (w1.alloc (oP s)) (oK q)
  have h3:=aB ((w1.alloc (oP s)).alloc (oK q)) oT
  rw [aA]at h2
  rw [hsz2]at h3
  rw [←hW]
  refine ⟨(((hD0.trans hd1).alloc (oP s)).alloc (oK q)).alloc oT,au (au (au (hd1.blk hZ hle) _) _) _,h3,by omega,fun r hr=> ?_⟩
  simp only [List.mem_cons,List.not_mem_nil,or_false]at hr
  rcases hr with rfl|rfl
  · exact ⟨by show _≤w1.heap.size;omega,by show w1.heap.size≠_;omega,au (au (aB w1 _) _) _⟩
  · exact ⟨by show _≤w1.heap.size+1;omega,by show w1.heap.size+1≠_;omega,au h2 _⟩
 obtain ⟨hl,_,_,_,_,_,k14,k15,hf⟩:=hE.cells
 have f14:=hf 14
 have f15:=hf 15
 clear hd1 hD0 hn hZ hf
 have e0:(sg:Int)=0∨((sg:Int)==0)=false:=by rcases Yn sg with rfl|rfl|⟨h,_⟩;exact .inl rfl;exact .inr rfl;exact .inr h
 have e1:(sg:Int)=1∨((sg:Int)==1)=false:=by rcases Yn sg with rfl|rfl|⟨_,h⟩;exact .inr rfl;exact .inl rfl;exact .inr h
 have E0:=Lib.hid e0
 have E1:=Lib.hid e1
 clear e0 e1
 go_upto_if 29 with (first|refine kr hW rfl _ _ rfl hsz2.symm rfl rfl rfl rfl ?_)
 go_cut []from 8 to 101 (fun wx=>∃st:Int,(0≤st∧st≤9)∧Env K w wx (w1.heap.size+1+1) [(w1.heap.size,oP s),(w1.heap.size+1,oK q)] {Sx.zero with bM:=(⟨#[116]⟩:ByteArray),stamp:=st} ak ak ak)
 case first=>
  rcases E0.out with e0|e0
  all_goals
   try rw [e0]
   go_wp2_with fail
   go_meet
   case rel=>first|exact ⟨1+(ta:Int),by omega,hE.stamp _⟩|exact ⟨0,by omega,hE⟩
 clear hE hW k14 k15 f14 f15 hl hb1 hb2 hb3 hb5 hsz2
 rename World=>Wc
 obtain ⟨st,hst,hE⟩:=hcut
 obtain ⟨hl,_,_,_,_,_,k14,k15,hf⟩:=hE.cells
 have f15:=hf 15
 clear hf
 go_upto_region 7 with fail
 go_cut [43]from 8 to 101 (fun s43 wx=>(∃b:Bool,s43= .bool b)∧wx=Wc)
 case first=>
  rcases E1.out with e1|e1
  all_goals
   try rw [e1]
   go_wp2_with fail
   go_meet
   case rel=>exact ⟨⟨_,rfl⟩,rfl⟩
 obtain ⟨⟨b43,rfl⟩,rfl⟩:=hcut
 go_upto_if 43 with fail
 go_cut []from 8 to 101 (fun wx=>∃tt:Int,(0≤tt∧tt≤9)∧Env K w wx (w1.heap.size+1+1) [(w1.heap.size,oP s),(w1.heap.size+1,oK q)] {Sx.zero with bM:=(⟨#[116]⟩:ByteArray),stamp:=st,ttl:=tt} ak ak ak)
 case first=>
  cases b43
  all_goals
   go_wp2_with fail
   go_meet
   case rel=>first|exact ⟨1+(ta:Int),by omega,hE.ttl _⟩|exact ⟨0,by omega,hE⟩
 clear hE k14 k15 f15 hl
 rename World=>Wc
 obtain ⟨tt,SA,hE⟩:=hcut
 obtain ⟨hl,k0,k2,k11,k12,k13,_,_,hf⟩:=hE.cells;have f0:=hf 0;have f11:=hf 11;have f12:=hf 12;have f13:=hf 13;clear hf
 obtain ⟨p0,p1,p2,p3,_⟩:=fP (hE.rest (w1.heap.size,oP s) (by simp)).2.2;obtain ⟨q0,q1,q2,q3,_⟩:=fP (hE.rest (w1.heap.size+1,oK q) (by simp)).2.2
 go_upto_block 0 with fail
 go_cut []from 8 to 101 (fun wx=>Fin KG K w (w1.heap.size+1+1) wx)
 case first=>
  go_wp2_with fail
  go_region_law (first|(go_simp;go_at_call 92;refine (D6 (Env.q (K:=K) (w:=w) (bx:=w1.heap.size+1+1) (R:=_) (by (with_reducible repeat (first|assumption|apply Env.drew|apply Env.kind|apply Env.setW|apply Env.cK|apply Env.cO|apply Env.iK|apply Env.alloc)))) 1 (.inr rfl)).mono ?_;rintro e Cn ⟨m,a20,c20,rfl,lD,hm1,hm2,jS,bX⟩;replace lD:=bF lD (Env.base (K:=K) (w:=w) (bx:=w1.heap.size+1+1) (R:=_) (by (with_reducible repeat (first|assumption|apply Env.drew|apply Env.kind|apply Env.setW|apply Env.cK|apply Env.cO|apply Env.iK|apply Env.alloc))));(try have hrow:=bX.row (base:=w.heap.size) (e:=61) (size:=4) (n:=2) (xs:=bQ [⟨(⟨#[112]⟩:ByteArray),⟨1,s,0⟩⟩,⟨(⟨#[107]⟩:ByteArray),⟨2,⟨#[]⟩,(q:Int)⟩⟩]) (by (repeat (first|with_reducible assumption|((with_reducible apply cZ);rfl;(first|rfl|simp [World.setCell,World.drew]);rfl;rfl;decide;exact Env.base (K:=K) (w:=w) (bx:=w1.heap.size+1+1) (R:=_) (by (with_reducible repeat (first|assumption|apply Env.drew|apply Env.kind|apply Env.setW|apply Env.cK|apply Env.cO|apply Env.iK|apply Env.alloc))))|with_reducible apply dx|with_reducible refine aL ?_ (Env.hx (K:=K) (w:=w) (bx:=w1.heap.size+1+1) (R:=_) (by (with_reducible repeat (first|assumption|apply Env.drew|apply Env.kind|apply Env.setW|apply Env.cK|apply Env.cO|apply Env.iK|apply Env.alloc)))) (by decide) _ _|with_reducible apply bT))) hle);replace hE:=Env.call (K:=K) (w:=w) (bx:=w1.heap.size+1+1) (R:=_) (by (with_reducible repeat (first|assumption|apply Env.drew|apply Env.kind|apply Env.setW|apply Env.cK|apply Env.cO|apply Env.iK|apply Env.alloc))) bX;have hml:=Mf hm2;have HM:=Lib.hid (And.intro hm1 (And.intro hm2 jS));clear hm1 hm2 jS;obtain ⟨hl,k0,k2,k11,k12,k13,_,_,hf⟩:=hE.cells;have f0:=hf 0;have f11:=hf 11;have f12:=hf 12;have f13:=hf 13;clear hf;obtain ⟨p0,p1,p2,p3,_⟩:=fP (hE.rest (w1.heap.size,oP s) (by simp)).2.2;obtain ⟨q0,q1,q2,q3,_⟩:=fP (hE.rest (w1.heap.size+1,oK q) (by simp)).2.2;have hEk:=hE.kind 6;have ck3:=fun o=>(hE.alloc o).cells.2.1;have cf3:=fun o=>(hE.alloc o).cells.2.2.2.2.2.2.2.2;have cs1:=fun o=>(hEk.alloc o).cells.2.2.2.2.1;have cf1:=fun o=>(hEk.alloc o).cells.2.2.2.2.2.2.2.2;have cw5:=fun v o=>((hEk.cK v).alloc o).cells.2.2.2.2.2.1;have cf5:=fun v o=>((hEk.cK v).alloc o).cells.2.2.2.2.2.2.2.2;clear hEk))
  all_goals
   go_wp2_with fail
   go_meet
   case rel=>exact Env.fin (R:=_) (by (with_reducible repeat (first|assumption|apply Env.drew|apply Env.kind|apply Env.setW|apply Env.cK|apply Env.cO|apply Env.iK|apply Env.alloc))) [] m [⟨(⟨#[112]⟩:ByteArray),⟨1,s,0⟩⟩,⟨(⟨#[107]⟩:ByteArray),⟨2,⟨#[]⟩,(q:Int)⟩⟩] (World.ownsRow_nil _ _ _ _) (by (repeat (first|with_reducible assumption|((with_reducible apply cZ);rfl;(first|rfl|simp [World.setCell,World.drew]);rfl;rfl;decide;exact Env.base (K:=K) (w:=w) (bx:=w1.heap.size+1+1) (R:=_) (by (with_reducible repeat (first|assumption|apply Env.drew|apply Env.kind|apply Env.setW|apply Env.cK|apply Env.cO|apply Env.iK|apply Env.alloc))))|with_reducible apply dx|with_reducible refine aL ?_ (Env.hx (K:=K) (w:=w) (bx:=w1.heap.size+1+1) (R:=_) (by (with_reducible repeat (first|assumption|apply Env.drew|apply Env.kind|apply Env.setW|apply Env.cK|apply Env.cO|apply Env.iK|apply Env.alloc)))) (by decide) _ _|with_reducible apply bT))) (by change World.ownsRow _ _ _ _ _ 2 _;(repeat (first|with_reducible assumption|((with_reducible apply cZ);rfl;(first|rfl|simp [World.setCell]);rfl;rfl;decide;exact Env.base (K:=K) (w:=w) (bx:=w1.heap.size+1+1) (R:=_) (by (with_reducible repeat (first|assumption|apply Env.drew|apply Env.kind|apply Env.setW|apply Env.cK|apply Env.cO|apply Env.iK|apply Env.alloc))))|with_reducible apply dx|with_reducible refine aL ?_ (Env.hx (K:=K) (w:=w) (bx:=w1.heap.size+1+1) (R:=_) (by (with_reducible repeat (first|assumption|apply Env.drew|apply Env.kind|apply Env.setW|apply Env.cK|apply Env.cO|apply Env.iK|apply Env.alloc)))) (by decide) _ _|with_reducible apply bT))) rfl (OW (HM.out.2.2 (by first|rfl|trivial)) HM.out.1 (HM.out.2.1.trans FM) (FP IW.out hq3) rfl hst SA)
 obtain ⟨x5,c5,s5,v5,hD5,sZ,hx5,Ck,KI⟩:=hcut
 have ho:=Ck.one
 clear k0 k2 k11 k12 k13 f0 f11 f12 f13 p0 p1 p2 p3 q0 q1 q2 q3
 go_wp2_with (first|refine bA rfl _ rfl rfl rfl hx5 ?_|(refine eD rfl _ _ rfl rfl rfl sZ rfl rfl ho ?_;intro W6 Cm))
 refine bodyPost_ret (dR rfl rfl (mV Cm.blk rfl)) rfl ?_
 exact Cj hD5 sZ (Nat.le_refl _) Cm KI Ck
end Go.Proofs.YtfbgdjcnlnfoaaaGreatDoor
