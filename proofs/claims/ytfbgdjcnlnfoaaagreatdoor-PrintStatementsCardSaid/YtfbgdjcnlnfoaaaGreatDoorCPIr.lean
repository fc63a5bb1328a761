/- Parts of the proof, joined: LnH. -/
import Derived.Test.YtfbgdjcnlnfoaaaGreatDoorB11
import Derived.Test.YtfbgdjcnlnfoaaaGreatDoorCPIk
import Derived.Test.YtfbgdjcnlnfoaaaGreatDoorRows
set_option maxHeartbeats 40000000
set_option maxRecDepth 100000
namespace Go.Proofs.YtfbgdjcnlnfoaaaGreatDoor
open Go.RowKit
open aH
def IX (K:LK) (w:World):Ending→World→Prop:=fun e w' =>∃(p:Pw) (L:List Pw),e= .returned (.agg p.arr)∧nQ w' w.heap.size p L ⟨p.x,L.map Pw.x⟩∧May ⟨p.x,L.map Pw.x⟩∧dM K w w'
theorem SG (n:Int) (w:World):(Instr.build 31 #[(0,.int .i64 8),(2,.string (⟨#[116]⟩:ByteArray)),(10,.int .i64 n)]).run Tryz.prog w= .ok (.agg #[.int .i64 8,.string ⟨#[]⟩,.string (⟨#[116]⟩:ByteArray),.string ⟨#[]⟩,.string ⟨#[]⟩,.int .i64 0,.string ⟨#[]⟩,.int .i64 0,.string ⟨#[]⟩,.int .i64 0,.slice none 0 0,.slice none 0 0,.slice none 0 0,.slice none 0 0,.int .i64 0,.int .i64 0,.int .i64 n,.slice none 0 0]) w:=by kernel_rfl
theorem zt (n:Nat):n=0∨((n:Int)==0)=false:=by
 by_cases h:n=0
 · exact .inl h
 · exact .inr (beq_eq_false_iff_ne.2 (by omega))
theorem KJ {K:LK}{w W W' :World}{C:Array Value}{x:Sx}{tc c s wv:Value}(hD:dM K w W) (hr:W.heap[w.heap.size]? =some (.cells C 31 (0,0))) (hw:Wrote W w.heap.size (aF x tc c s wv ak) 31 W') (hx:May ⟨x,[]⟩) (hR:gN W w.heap.size x tc c s wv):
 IX K w (.returned (.agg (aF x tc c s wv ak))) W' :=
 ⟨⟨x,tc,c,s,wv,ak⟩,[],rfl,⟨rfl,rfl,hR.map (fun _ _ _ _ _ he h' =>kS h' hr hw (lF (by decide) he).symm),World.ownsRow_nil _ _ _ _,fun _ hq=>(List.not_mem_nil hq).elim⟩,hx,hD.wrote hw (Nat.le_refl _)⟩
theorem VB {K:LK}{w:World}(h:LQ K w) {v:Nat}(hv:v<1048576) (hk:11≤v % 16∧v % 16<15) (hn:Calls Tryz.prog 43 #[.pointer (some ⟨K.b,0,none⟩),.int .i64 1048576] (w.alloc oZ) fun e w' =>e= .returned (.int .i64 v)∧dM K (w.alloc oZ) w'):
 Calls Tryz.prog 28 #[.pointer (some ⟨K.b,0,none⟩)] w (IX K w):=by
 have hle:=h.le
 have hZ:=aB w oZ
 obtain ⟨lim,hlim⟩:∃t:Nat,(v:Int) / 16 % 3=t:=⟨v / 16 % 3,by omega⟩
 have IY:0≤(lim:Int)∧(lim:Int)≤9:=by omega
 obtain ⟨sv,hsv⟩:∃t:Nat,(v:Int) / 48 % 3=t:=⟨v / 48 % 3,by omega⟩
 obtain ⟨p,hp⟩:∃t:Nat,(v:Int) / 144 % 3=t:=⟨v / 144 % 3,by omega⟩
 have hp3:p<3:=by omega
 obtain ⟨z2,hz2⟩:∃t:Nat,(v:Int) / 432 % 2=t:=⟨v / 432 % 2,by omega⟩
 obtain ⟨z3,hz3⟩:∃t:Nat,(v:Int) / 864 % 3=t:=⟨v / 864 % 3,by omega⟩
 obtain ⟨s,hs⟩:∃s,((⟨#[109,110,111]⟩:ByteArray):ByteArray).extract p (p+1)=s:=⟨_,rfl⟩
 have IW:Hid (s∈yh):=by have:=yu hp3;unfold Ym at this;rw [hs]at this;exact this
 have hb0:=SG
 have hb1:=kR
 have hb2:=yw
 have hD0:=(dM.refl h).alloc oZ
 go_enter Tryz.func28,Tryz.ntmps28
 go_wp2_with fail
 refine hn.mono ?_;rintro e w1 ⟨rfl,hd1⟩
 have hrr:w.heap.size<w1.heap.size:=by have:=hd1.size;rw [aA]at this;omega
 obtain ⟨W,hW⟩:∃W,w1.alloc (.cells #[.int .i64 8,.string ⟨#[]⟩,.string (⟨#[116]⟩:ByteArray),.string ⟨#[]⟩,.string ⟨#[]⟩,.int .i64 0,.string ⟨#[]⟩,.int .i64 0,.string ⟨#[]⟩,.int .i64 0,.slice none 0 0,.slice none 0 0,.slice none 0 0,.slice none 0 0,.int .i64 0,.int .i64 0,.int .i64 (lim:Int),.slice none 0 0] 31)=W:=⟨_,rfl⟩
 have hE:Env K w W w1.heap.size [] ({Sx.zero with kind:=8,bM:=(⟨#[116]⟩:ByteArray),limit:=(lim:Int)}) ak ak ak:=by rw [←hW];exact ⟨(hD0.trans hd1).alloc _,au (hd1.blk hZ hle) _,aB w1 _,hrr,fun r hr=>(List.not_mem_nil hr).elim⟩
 clear hd1 hD0 hn hZ
 obtain ⟨hl,k0,k2,k11,k12,k13,_,_,hf⟩:=hE.cells
 have f2:=hf 2
 have f11:=hf 11
 have f13:=hf 13
 clear hf
 by_cases acA:sv=0
 · subst acA
   go_upto_region 14 with (first|refine kr hW rfl _ _ rfl rfl rfl rfl rfl rfl ?_)
   refine fu (P:=(fun W=>Env K w W w1.heap.size [] ({Sx.zero with kind:=8,bM:=(⟨#[118]⟩:ByteArray),limit:=(lim:Int)}) ak ak ak)) (Env.cast (K:=K) (w:=w) (bx:=w1.heap.size) (R:= []) (by (with_reducible repeat (first|assumption|apply Env.drew|apply Env.kind|apply Env.setW|apply Env.cK|apply Env.cO|apply Env.iK|apply Env.alloc))) (by rfl)) (fun W5 h5=> ?_)
   clear k0 k2 k11 k12 k13 f2 f11 f13 hl
   clear hE
   have hE5:=h5
   have hE:=hE5
   clear hE5
   obtain ⟨hl,k0,k2,k11,k12,k13,_,_,hf⟩:=hE.cells
   have f2:=hf 2
   have f11:=hf 11
   have f13:=hf 13
   clear hf
   have hc:=yt hE.q 1 (.inl rfl)
   go_wp2_with fail
   refine hc.mono ?_;rintro e w2 ⟨tm,rfl,htm,hd2⟩
   replace hE:=hE.call hd2
   clear k0 k2 k11 k12 k13 f2 f11 f13 hl
   obtain ⟨hl,k0,k2,k11,k12,k13,_,_,hf⟩:=hE.cells
   have f2:=hf 2
   have f11:=hf 11
   have f13:=hf 13
   clear hf
   have HTM:=Lib.hid htm
   clear htm hc hd2
   go_upto_region 15 with fail
   refine fu (P:=(fun W=>∃(o:ByteArray) (V:List Pr) (wv:Value),(o=(⟨#[116]⟩:ByteArray)∨o=(⟨#[118]⟩:ByteArray))∧(∀p∈V,tu p)∧(V.length=2∨V.length=1)∧Env K w W w1.heap.size [] {Sx.zero with kind:=8,bM:=o,limit:=(lim:Int)} ak ak wv∧W.ownsRow w.heap.size 61 4 wv V.length (bQ V))) ⟨(⟨#[118]⟩:ByteArray),[⟨(⟨#[97]⟩:ByteArray),tm⟩],_,.inr rfl,(fun p hp=>by rw [List.mem_singleton.1 hp];exact ⟨smn (by decide+kernel:qI (⟨#[97]⟩:ByteArray) mQ=true),HTM.out⟩),.inr rfl,Env.cast (K:=K) (w:=w) (bx:=w1.heap.size) (R:= []) (by (with_reducible repeat (first|assumption|apply Env.drew|apply Env.kind|apply Env.setW|apply Env.cK|apply Env.cO|apply Env.iK|apply Env.alloc))) (by rfl),by (repeat (first|with_reducible assumption|exact h3|((with_reducible apply cZ);rfl;(first|rfl|simp [World.setCell]);rfl;rfl;decide;exact Env.base (K:=K) (w:=w) (bx:=w1.heap.size) (R:= []) (by (with_reducible repeat (first|assumption|apply Env.drew|apply Env.kind|apply Env.setW|apply Env.cK|apply Env.cO|apply Env.iK|apply Env.alloc))))|with_reducible apply dx|with_reducible refine aL ?_ (Env.hx (K:=K) (w:=w) (bx:=w1.heap.size) (R:= []) (by (with_reducible repeat (first|assumption|apply Env.drew|apply Env.kind|apply Env.setW|apply Env.cK|apply Env.cO|apply Env.iK|apply Env.alloc)))) (by decide) _ _|with_reducible apply bT))⟩ (fun W5 h5=> ?_)
   clear k0 k2 k11 k12 k13 f2 f11 f13 hl
   clear hE
   obtain ⟨o,V,wv,ho,hV,hV2,hE,hw5⟩:=h5
   obtain ⟨hl,k0,k2,k11,k12,k13,_,_,hf⟩:=hE.cells
   have f2:=hf 2
   have f11:=hf 11
   have f13:=hf 13
   clear hf
   refine fu (P:=Fin (fun x=>May ⟨x,[]⟩) K w w1.heap.size) (Env.fin (K:=K) (w:=w) (bx:=w1.heap.size) (R:= []) (by (with_reducible repeat (first|assumption|apply Env.drew|apply Env.kind|apply Env.setW|apply Env.cK|apply Env.cO|apply Env.iK|apply Env.alloc))) [] [] V (World.ownsRow_nil _ _ _ _) (World.ownsRow_nil _ _ _ _) (by (repeat (first|with_reducible assumption|exact h3|((with_reducible apply cZ);rfl;(first|rfl|simp [World.setCell,World.drew]);rfl;rfl;decide;exact Env.base (K:=K) (w:=w) (bx:=w1.heap.size) (R:= []) (by (with_reducible repeat (first|assumption|apply Env.drew|apply Env.kind|apply Env.setW|apply Env.cK|apply Env.cO|apply Env.iK|apply Env.alloc))))|with_reducible apply dx|with_reducible refine aL ?_ (Env.hx (K:=K) (w:=w) (bx:=w1.heap.size) (R:= []) (by (with_reducible repeat (first|assumption|apply Env.drew|apply Env.kind|apply Env.setW|apply Env.cK|apply Env.cO|apply Env.iK|apply Env.alloc)))) (by decide) _ _|with_reducible apply bT))) rfl (Cg (c:= []) ho (by simp) (by simp) hV hV2 IY)) (fun W5 h5=> ?_)
   clear k0 k2 k11 k12 k13 f2 f11 f13 hl
   obtain ⟨x5,c5,s5,v5,hD5,sZ,hx5,Ck,KI⟩:=h5
   have ho:=Ck.one
   go_wp2_with (first|refine bA rfl _ rfl rfl rfl hx5 ?_|(refine eD rfl _ _ rfl rfl rfl sZ rfl rfl ho ?_;intro W6 Cm))
   refine bodyPost_ret (dR rfl rfl (mV Cm.blk rfl)) rfl ?_
   exact KJ hD5 sZ Cm KI Ck
 · have afk:((sv:Int)==0)=false:=beq_eq_false_iff_ne.2 (by omega)
   rcases zt z2 with rfl|afl
   · go_upto_region 18 with (first|refine kr hW rfl _ _ rfl rfl rfl rfl rfl rfl ?_)
     refine fu (P:=(fun W=>∃w5:Value,Env K w W w1.heap.size [] ({Sx.zero with kind:=8,bM:=(⟨#[116]⟩:ByteArray),limit:=(lim:Int)}) ak ak w5∧W.ownsRow w.heap.size 61 4 w5 1 (bQ [⟨(⟨#[112]⟩:ByteArray),⟨1,s,0⟩⟩]))) ⟨_,Env.cast (K:=K) (w:=w) (bx:=w1.heap.size) (R:= []) (by (with_reducible repeat (first|assumption|apply Env.drew|apply Env.kind|apply Env.setW|apply Env.cK|apply Env.cO|apply Env.iK|apply Env.alloc))) (by rfl),by (repeat (first|with_reducible assumption|exact h3|((with_reducible apply cZ);rfl;(first|rfl|simp [World.setCell]);rfl;rfl;decide;exact Env.base (K:=K) (w:=w) (bx:=w1.heap.size) (R:= []) (by (with_reducible repeat (first|assumption|apply Env.drew|apply Env.kind|apply Env.setW|apply Env.cK|apply Env.cO|apply Env.iK|apply Env.alloc))))|with_reducible apply dx|with_reducible refine aL ?_ (Env.hx (K:=K) (w:=w) (bx:=w1.heap.size) (R:= []) (by (with_reducible repeat (first|assumption|apply Env.drew|apply Env.kind|apply Env.setW|apply Env.cK|apply Env.cO|apply Env.iK|apply Env.alloc)))) (by decide) _ _|with_reducible apply bT))⟩ (fun W5 h5=> ?_)
     clear k0 k2 k11 k12 k13 f2 f11 f13 hl
     clear hE
     obtain ⟨w5,hE5,hw5⟩:=h5
     have hE:=hE5
     obtain ⟨aw,cw,rfl,_⟩:=aY hw5
     clear hE5
     obtain ⟨hl,k0,k2,k11,k12,k13,_,_,hf⟩:=hE.cells
     have f2:=hf 2
     have f11:=hf 11
     have f13:=hf 13
     clear hf
     go_region_law (first|(refine iY Tryz.vI rfl _ _ rfl w.heap.size _ _ _ rfl (lD.alloc _) _ _ [.string (⟨#[107]⟩:ByteArray),.int .i64 tm.ty,.string tm.s,.int .i64 tm.n] rfl rfl (fun j u hj=>by rw [jy,Nat.zero_add];exact bn _ _ _ j u hj) (by intro u hu;simp at hu;rcases hu with rfl|rfl|rfl|rfl<;>rfl) (by omega) (Env.base (K:=K) (w:=w) (bx:=w1.heap.size) (R:= []) (by (with_reducible repeat (first|assumption|apply Env.drew|apply Env.kind|apply Env.setW|apply Env.cK|apply Env.cO|apply Env.iK|apply Env.alloc)))) ?_;intro g3 iH w3 h3 hg3 O6 hl3;replace hE:=Env.grown (K:=K) (w:=w) (bx:=w1.heap.size) (R:= []) (by (with_reducible repeat (first|assumption|apply Env.drew|apply Env.kind|apply Env.setW|apply Env.cK|apply Env.cO|apply Env.iK|apply Env.alloc))) (lD.alloc _) (by decide) hg3;obtain ⟨hl,k0,k2,k11,k12,k13,_,_,hf⟩:=hE.cells;have f2:=hf 2;have f11:=hf 11;have f13:=hf 13;clear hf)|(go_simp;go_at_call 45;refine (yt (Env.q (K:=K) (w:=w) (bx:=w1.heap.size) (R:= []) (by (with_reducible repeat (first|assumption|apply Env.drew|apply Env.kind|apply Env.setW|apply Env.cK|apply Env.cO|apply Env.iK|apply Env.alloc)))) 2 (.inr rfl)).mono ?_;rintro e Cn ⟨tm,rfl,htm,bX⟩;have lD:=bX.row hw5 hle;replace hE:=Env.call (K:=K) (w:=w) (bx:=w1.heap.size) (R:= []) (by (with_reducible repeat (first|assumption|apply Env.drew|apply Env.kind|apply Env.setW|apply Env.cK|apply Env.cO|apply Env.iK|apply Env.alloc))) bX;have HTM:=Lib.hid htm;clear htm;obtain ⟨hl,k0,k2,k11,k12,k13,_,_,hf⟩:=hE.cells;have f2:=hf 2;have f11:=hf 11;have f13:=hf 13;clear hf))
     all_goals
      refine fu (P:=(fun W=>∃(o:ByteArray) (V:List Pr) (wv:Value),(o=(⟨#[116]⟩:ByteArray)∨o=(⟨#[118]⟩:ByteArray))∧(∀p∈V,tu p)∧(V.length=2∨V.length=1)∧Env K w W w1.heap.size [] {Sx.zero with kind:=8,bM:=o,limit:=(lim:Int)} ak ak wv∧W.ownsRow w.heap.size 61 4 wv V.length (bQ V))) ⟨(⟨#[116]⟩:ByteArray),[⟨(⟨#[112]⟩:ByteArray),⟨1,s,0⟩⟩,⟨(⟨#[107]⟩:ByteArray),tm⟩],_,.inl rfl,(fun p hp=>by rcases List.mem_cons.1 hp with rfl|hp;exact Vy IW.out;rw [List.mem_singleton.1 hp];exact ⟨smn (by decide+kernel:qI (⟨#[107]⟩:ByteArray) mQ=true),HTM.out⟩),.inl rfl,Env.cast (K:=K) (w:=w) (bx:=w1.heap.size) (R:= []) (by (with_reducible repeat (first|assumption|apply Env.drew|apply Env.kind|apply Env.setW|apply Env.cK|apply Env.cO|apply Env.iK|apply Env.alloc))) (by rfl),by (repeat (first|with_reducible assumption|exact h3|((with_reducible apply cZ);rfl;(first|rfl|simp [World.setCell,World.drew]);rfl;rfl;decide;exact Env.base (K:=K) (w:=w) (bx:=w1.heap.size) (R:= []) (by (with_reducible repeat (first|assumption|apply Env.drew|apply Env.kind|apply Env.setW|apply Env.cK|apply Env.cO|apply Env.iK|apply Env.alloc))))|with_reducible apply dx|with_reducible refine aL ?_ (Env.hx (K:=K) (w:=w) (bx:=w1.heap.size) (R:= []) (by (with_reducible repeat (first|assumption|apply Env.drew|apply Env.kind|apply Env.setW|apply Env.cK|apply Env.cO|apply Env.iK|apply Env.alloc)))) (by decide) _ _|with_reducible apply bT))⟩ (fun W5 h5=> ?_)
      clear k0 k2 k11 k12 k13 f2 f11 f13 hl
      clear hE
      obtain ⟨o,V,wv,ho,hV,hV2,hE,hw5⟩:=h5
      obtain ⟨hl,k0,k2,k11,k12,k13,_,_,hf⟩:=hE.cells
      have f2:=hf 2
      have f11:=hf 11
      have f13:=hf 13
      clear hf
      rcases zt z3 with rfl|acC
      all_goals
       go_upto_region 21 with fail
       refine fu (P:=Fin (fun x=>May ⟨x,[]⟩) K w w1.heap.size) (by first|exact Env.fin (K:=K) (w:=w) (bx:=w1.heap.size) (R:= []) (by (with_reducible repeat (first|assumption|apply Env.drew|apply Env.kind|apply Env.setW|apply Env.cK|apply Env.cO|apply Env.iK|apply Env.alloc))) [] [] V (World.ownsRow_nil _ _ _ _) (World.ownsRow_nil _ _ _ _) (by (repeat (first|with_reducible assumption|exact h3|((with_reducible apply cZ);rfl;(first|rfl|simp [World.setCell,World.drew]);rfl;rfl;decide;exact Env.base (K:=K) (w:=w) (bx:=w1.heap.size) (R:= []) (by (with_reducible repeat (first|assumption|apply Env.drew|apply Env.kind|apply Env.setW|apply Env.cK|apply Env.cO|apply Env.iK|apply Env.alloc))))|with_reducible apply dx|with_reducible refine aL ?_ (Env.hx (K:=K) (w:=w) (bx:=w1.heap.size) (R:= []) (by (with_reducible repeat (first|assumption|apply Env.drew|apply Env.kind|apply Env.setW|apply Env.cK|apply Env.cO|apply Env.iK|apply Env.alloc)))) (by decide) _ _|with_reducible apply bT))) rfl (Cg (c:= []) ho (by simp) (by simp) hV hV2 IY)|exact Env.fin (K:=K) (w:=w) (bx:=w1.heap.size) (R:= []) (by (with_reducible repeat (first|assumption|apply Env.drew|apply Env.kind|apply Env.setW|apply Env.cK|apply Env.cO|apply Env.iK|apply Env.alloc))) [(⟨#[97]⟩:ByteArray),(⟨#[107]⟩:ByteArray)] [] V (by (repeat (first|with_reducible assumption|exact h3|((with_reducible apply cZ);rfl;(first|rfl|simp [World.setCell]);rfl;rfl;decide;exact Env.base (K:=K) (w:=w) (bx:=w1.heap.size) (R:= []) (by (with_reducible repeat (first|assumption|apply Env.drew|apply Env.kind|apply Env.setW|apply Env.cK|apply Env.cO|apply Env.iK|apply Env.alloc))))|with_reducible apply dx|with_reducible refine aL ?_ (Env.hx (K:=K) (w:=w) (bx:=w1.heap.size) (R:= []) (by (with_reducible repeat (first|assumption|apply Env.drew|apply Env.kind|apply Env.setW|apply Env.cK|apply Env.cO|apply Env.iK|apply Env.alloc)))) (by decide) _ _|with_reducible apply bT))) (World.ownsRow_nil _ _ _ _) (by (repeat (first|with_reducible assumption|exact h3|((with_reducible apply cZ);rfl;(first|rfl|simp [World.setCell,World.drew]);rfl;rfl;decide;exact Env.base (K:=K) (w:=w) (bx:=w1.heap.size) (R:= []) (by (with_reducible repeat (first|assumption|apply Env.drew|apply Env.kind|apply Env.setW|apply Env.cK|apply Env.cO|apply Env.iK|apply Env.alloc))))|with_reducible apply dx|with_reducible refine aL ?_ (Env.hx (K:=K) (w:=w) (bx:=w1.heap.size) (R:= []) (by (with_reducible repeat (first|assumption|apply Env.drew|apply Env.kind|apply Env.setW|apply Env.cK|apply Env.cO|apply Env.iK|apply Env.alloc)))) (by decide) _ _|with_reducible apply bT))) rfl (Cg (c:= [(⟨#[97]⟩:ByteArray),(⟨#[107]⟩:ByteArray)]) ho (by simp) (by simp) hV hV2 IY)) (fun W5 h5=> ?_)
       clear k0 k2 k11 k12 k13 f2 f11 f13 hl
       obtain ⟨x5,c5,s5,v5,hD5,sZ,hx5,Ck,KI⟩:=h5
       have ho:=Ck.one
       go_wp2_with (first|refine bA rfl _ rfl rfl rfl hx5 ?_|(refine eD rfl _ _ rfl rfl rfl sZ rfl rfl ho ?_;intro W6 Cm))
       refine bodyPost_ret (dR rfl rfl (mV Cm.blk rfl)) rfl ?_
       exact KJ hD5 sZ Cm KI Ck
   · go_upto_region 19 with (first|refine kr hW rfl _ _ rfl rfl rfl rfl rfl rfl ?_)
     refine fu (P:=(fun W=>∃(o:ByteArray) (V:List Pr) (wv:Value),(o=(⟨#[116]⟩:ByteArray)∨o=(⟨#[118]⟩:ByteArray))∧(∀p∈V,tu p)∧(V.length=2∨V.length=1)∧Env K w W w1.heap.size [] {Sx.zero with kind:=8,bM:=o,limit:=(lim:Int)} ak ak wv∧W.ownsRow w.heap.size 61 4 wv V.length (bQ V))) ⟨(⟨#[116]⟩:ByteArray),[⟨(⟨#[112]⟩:ByteArray),⟨1,s,0⟩⟩],_,.inl rfl,(fun p hp=>by rw [List.mem_singleton.1 hp];exact Vy IW.out),.inr rfl,Env.cast (K:=K) (w:=w) (bx:=w1.heap.size) (R:= []) (by (with_reducible repeat (first|assumption|apply Env.drew|apply Env.kind|apply Env.setW|apply Env.cK|apply Env.cO|apply Env.iK|apply Env.alloc))) (by rfl),by (repeat (first|with_reducible assumption|exact h3|((with_reducible apply cZ);rfl;(first|rfl|simp [World.setCell]);rfl;rfl;decide;exact Env.base (K:=K) (w:=w) (bx:=w1.heap.size) (R:= []) (by (with_reducible repeat (first|assumption|apply Env.drew|apply Env.kind|apply Env.setW|apply Env.cK|apply Env.cO|apply Env.iK|apply Env.alloc))))|with_reducible apply dx|with_reducible refine aL ?_ (Env.hx (K:=K) (w:=w) (bx:=w1.heap.size) (R:= []) (by (with_reducible repeat (first|assumption|apply Env.drew|apply Env.kind|apply Env.setW|apply Env.cK|apply Env.cO|apply Env.iK|apply Env.alloc)))) (by decide) _ _|with_reducible apply bT))⟩ (fun W5 h5=> ?_)
     clear k0 k2 k11 k12 k13 f2 f11 f13 hl
     clear hE
     obtain ⟨o,V,wv,ho,hV,hV2,hE,hw5⟩:=h5
     obtain ⟨hl,k0,k2,k11,k12,k13,_,_,hf⟩:=hE.cells
     have f2:=hf 2
     have f11:=hf 11
     have f13:=hf 13
     clear hf
     rcases zt z3 with rfl|acC
     all_goals
      go_upto_region 21 with fail
      refine fu (P:=Fin (fun x=>May ⟨x,[]⟩) K w w1.heap.size) (by first|exact Env.fin (K:=K) (w:=w) (bx:=w1.heap.size) (R:= []) (by (with_reducible repeat (first|assumption|apply Env.drew|apply Env.kind|apply Env.setW|apply Env.cK|apply Env.cO|apply Env.iK|apply Env.alloc))) [] [] V (World.ownsRow_nil _ _ _ _) (World.ownsRow_nil _ _ _ _) (by (repeat (first|with_reducible assumption|exact h3|((with_reducible apply cZ);rfl;(first|rfl|simp [World.setCell,World.drew]);rfl;rfl;decide;exact Env.base (K:=K) (w:=w) (bx:=w1.heap.size) (R:= []) (by (with_reducible repeat (first|assumption|apply Env.drew|apply Env.kind|apply Env.setW|apply Env.cK|apply Env.cO|apply Env.iK|apply Env.alloc))))|with_reducible apply dx|with_reducible refine aL ?_ (Env.hx (K:=K) (w:=w) (bx:=w1.heap.size) (R:= []) (by (with_reducible repeat (first|assumption|apply Env.drew|apply Env.kind|apply Env.setW|apply Env.cK|apply Env.cO|apply Env.iK|apply Env.alloc)))) (by decide) _ _|with_reducible apply bT))) rfl (Cg (c:= []) ho (by simp) (by simp) hV hV2 IY)|exact Env.fin (K:=K) (w:=w) (bx:=w1.heap.size) (R:= []) (by (with_reducible repeat (first|assumption|apply Env.drew|apply Env.kind|apply Env.setW|apply Env.cK|apply Env.cO|apply Env.iK|apply Env.alloc))) [(⟨#[97]⟩:ByteArray),(⟨#[107]⟩:ByteArray)] [] V (by (repeat (first|with_reducible assumption|exact h3|((with_reducible apply cZ);rfl;(first|rfl|simp [World.setCell]);rfl;rfl;decide;exact Env.base (K:=K) (w:=w) (bx:=w1.heap.size) (R:= []) (by (with_reducible repeat (first|assumption|apply Env.drew|apply Env.kind|apply Env.setW|apply Env.cK|apply Env.cO|apply Env.iK|apply Env.alloc))))|with_reducible apply dx|with_reducible refine aL ?_ (Env.hx (K:=K) (w:=w) (bx:=w1.heap.size) (R:= []) (by (with_reducible repeat (first|assumption|apply Env.drew|apply Env.kind|apply Env.setW|apply Env.cK|apply Env.cO|apply Env.iK|apply Env.alloc)))) (by decide) _ _|with_reducible apply bT))) (World.ownsRow_nil _ _ _ _) (by (repeat (first|with_reducible assumption|exact h3|((with_reducible apply cZ);rfl;(first|rfl|simp [World.setCell,World.drew]);rfl;rfl;decide;exact Env.base (K:=K) (w:=w) (bx:=w1.heap.size) (R:= []) (by (with_reducible repeat (first|assumption|apply Env.drew|apply Env.kind|apply Env.setW|apply Env.cK|apply Env.cO|apply Env.iK|apply Env.alloc))))|with_reducible apply dx|with_reducible refine aL ?_ (Env.hx (K:=K) (w:=w) (bx:=w1.heap.size) (R:= []) (by (with_reducible repeat (first|assumption|apply Env.drew|apply Env.kind|apply Env.setW|apply Env.cK|apply Env.cO|apply Env.iK|apply Env.alloc)))) (by decide) _ _|with_reducible apply bT))) rfl (Cg (c:= [(⟨#[97]⟩:ByteArray),(⟨#[107]⟩:ByteArray)]) ho (by simp) (by simp) hV hV2 IY)) (fun W5 h5=> ?_)
      clear k0 k2 k11 k12 k13 f2 f11 f13 hl
      obtain ⟨x5,c5,s5,v5,hD5,sZ,hx5,Ck,KI⟩:=h5
      have ho:=Ck.one
      go_wp2_with (first|refine bA rfl _ rfl rfl rfl hx5 ?_|(refine eD rfl _ _ rfl rfl rfl sZ rfl rfl ho ?_;intro W6 Cm))
      refine bodyPost_ret (dR rfl rfl (mV Cm.blk rfl)) rfl ?_
      exact KJ hD5 sZ Cm KI Ck
end Go.Proofs.YtfbgdjcnlnfoaaaGreatDoor
