/- Parts of the proof, joined: LnE3. -/
import Derived.Deep.CutRange
import Derived.Deep.CutBlock
import Derived.Deep.RegionHeld3
import Derived.Test.YtfbgdjcnlnfoaaaGreatDoorB10
import Derived.Test.YtfbgdjcnlnfoaaaGreatDoorCPIk
import Derived.Test.YtfbgdjcnlnfoaaaGreatDoorRows
set_option maxHeartbeats 40000000
set_option maxRecDepth 100000
namespace Go.Proofs.YtfbgdjcnlnfoaaaGreatDoor
open Go.RowKit
open aH
theorem aak {K:LK}{w W:World}{bx a b:Nat}{s:ByteArray}{q:Int}{x:Sx}{c sv wv:Value}(h:Env K w W bx [(a,oP s),(b,oK q)] x c sv wv):W.cell? ⟨a,0,none⟩=some (.string (⟨#[112]⟩:ByteArray))∧W.cell? ⟨a,1,none⟩=some (.int .i64 1)∧W.cell? ⟨a,2,none⟩=some (.string s)∧W.cell? ⟨a,3,none⟩=some (.int .i64 0)∧W.cell? ⟨b,0,none⟩=some (.string (⟨#[107]⟩:ByteArray))∧W.cell? ⟨b,1,none⟩=some (.int .i64 2)∧W.cell? ⟨b,2,none⟩=some (.string ⟨#[]⟩)∧W.cell? ⟨b,3,none⟩=some (.int .i64 q):=
 have h1:=fP (h.rest (a,oP s) (by simp)).2.2
 have h2:=fP (h.rest (b,oK q) (by simp)).2.2
 ⟨h1.1,h1.2.1,h1.2.2.1,h1.2.2.2.1,h2.1,h2.2.1,h2.2.2.1,h2.2.2.2.1⟩
theorem VA {K:LK}{w W:World}{bx:Nat}{R:List (Nat×Obj)}{x:Sx}{c sv wv:Value}(h:Env K w W bx R x c sv wv) (s:ByteArray) (q:Int):(W.alloc (.cells #[.string (⟨#[112]⟩:ByteArray),.int .i64 1,.string s,.int .i64 0,.string (⟨#[107]⟩:ByteArray),.int .i64 2,.string ⟨#[]⟩,.int .i64 q] 61)).ownsRow w.heap.size 61 4 (.slice (some ⟨W.heap.size,0,none⟩) 2 2) 2 (bQ [⟨(⟨#[112]⟩:ByteArray),⟨1,s,0⟩⟩,⟨(⟨#[107]⟩:ByteArray),⟨2,⟨#[]⟩,q⟩⟩]):=
 cZ rfl rfl rfl rfl (by decide) h.base
theorem SC {K:LK}{w:World}(h:LQ K w) {v:Nat}(hv:v<1048576) (hk:v % 8=5) (hn:Calls Tryz.prog 43 #[.pointer (some ⟨K.b,0,none⟩),.int .i64 1048576] (w.alloc oZ) fun e w' =>e= .returned (.int .i64 v)∧dM K (w.alloc oZ) w'):
 Calls Tryz.prog 44 #[.pointer (some ⟨K.b,0,none⟩)] w (Ci K w):=by
 have hle:=h.le
 have hZ:=aB w oZ
 obtain ⟨p,hp⟩:∃p:Nat,(v:Int) / 8 % 3=p:=⟨v / 8 % 3,by omega⟩
 obtain ⟨q,hq⟩:∃q:Nat,(v:Int) / 24 % 3=q:=⟨v / 24 % 3,by omega⟩
 obtain ⟨ta,wZ⟩:∃q:Nat,(v:Int) / 432 % 9=q:=⟨v / 432 % 9,by omega⟩
 obtain ⟨sg,hsg⟩:∃q:Nat,(v:Int) / 72 % 6=q:=⟨v / 72 % 6,by omega⟩
 have hp3:p<3:=by omega
 have hq3:q<3:=by omega
 have Vz:ta<9:=by omega
 obtain ⟨s,hs⟩:∃s,((⟨#[109,110,111]⟩:ByteArray):ByteArray).extract p (p+1)=s:=⟨_,rfl⟩
 have IW:Hid (s∈yh):=by have:=yu hp3;unfold Ym at this;rw [hs]at this;exact this
 have hb1:=kR
 have hb2:=l7
 have hb3:=yw
 have hb5:=wX
 have hD0:=(dM.refl h).alloc oZ
 go_enter Tryz.func44,Tryz.ntmps44
 go_wp2_with fail
 refine hn.mono ?_;rintro e w1 ⟨rfl,hd1⟩
 have hsz2:((w1.alloc (oP s)).alloc (oK q)).heap.size=w1.heap.size+1+1:=by rw [aA,aA]
 have hrr:w.heap.size<w1.heap.size:=by have:=hd1.size;rw [aA]at this;omega
 obtain ⟨W,hW⟩:∃W,((w1.alloc (oP s)).alloc (oK q)).alloc oT=W:=⟨_,rfl⟩
 have hE:Env K w W (w1.heap.size+1+1) [(w1.heap.size,oP s),(w1.heap.size+1,oK q)] {Sx.zero with bM:=(⟨#[116]⟩:ByteArray)} ak ak ak:=by
  have h2:=aB (w1.alloc (oP s)) (oK q)
  have h3:=aB ((w1.alloc (oP s)).alloc (oK q)) oT
  rw [aA]at h2
  rw [hsz2]at h3
  rw [←hW]
  refine ⟨(((hD0.trans hd1).alloc (oP s)).alloc (oK q)).alloc oT,au (au (au (hd1.blk hZ hle) _) _) _,h3,by omega,fun r hr=> ?_⟩
  simp only [List.mem_cons,List.not_mem_nil,or_false]at hr
  rcases hr with rfl|rfl
  · exact ⟨by show _≤w1.heap.size;omega,by show w1.heap.size≠_;omega,au (au (aB w1 _) _) _⟩
  · exact ⟨by show _≤w1.heap.size+1;omega,by show w1.heap.size+1≠_;omega,au h2 _⟩
 obtain ⟨hl,_,_,_,_,_,k14,k15,hf⟩:=hE.cells
 have f14:=hf 14
 have f15:=hf 15
 clear hd1 hD0 hn hZ hf
 have e0:(sg:Int)=0∨((sg:Int)==0)=false:=by rcases Yn sg with rfl|rfl|⟨h,_⟩;exact .inl rfl;exact .inr rfl;exact .inr h
 have e1:(sg:Int)=1∨((sg:Int)==1)=false:=by rcases Yn sg with rfl|rfl|⟨_,h⟩;exact .inr rfl;exact .inl rfl;exact .inr h
 have E0:=Lib.hid e0
 have E1:=Lib.hid e1
 clear e0 e1
 go_upto_if 29 with (first|refine kr hW rfl _ _ rfl hsz2.symm rfl rfl rfl rfl ?_)
 go_cut []from 8 to 101 (fun wx=>∃st:Int,(0≤st∧st≤9)∧Env K w wx (w1.heap.size+1+1) [(w1.heap.size,oP s),(w1.heap.size+1,oK q)] {Sx.zero with bM:=(⟨#[116]⟩:ByteArray),stamp:=st} ak ak ak)
 case first=>
  rcases E0.out with e0|e0
  all_goals
   try rw [e0]
   go_wp2_with fail
   go_meet
   case rel=>first|exact ⟨1+(ta:Int),by omega,hE.stamp _⟩|exact ⟨0,by omega,hE⟩
 clear hE hW k14 k15 f14 f15 hl hb1 hb2 hb3 hb5 hsz2
 rename World=>Wc
 obtain ⟨st,hst,hE⟩:=hcut
 obtain ⟨hl,_,_,_,_,_,k14,k15,hf⟩:=hE.cells
 have f15:=hf 15
 clear hf
 go_upto_region 7 with fail
 go_cut [43]from 8 to 101 (fun s43 wx=>s43= .bool false∧wx=Wc)
 case first=>
  rcases E1.out with e1|e1
  all_goals
   try rw [e1]
   go_wp2_with fail
   go_meet
   case rel=>exact ⟨by first|rfl|rw [decide_eq_false (by omega)],rfl⟩
 obtain ⟨rfl,rfl⟩:=hcut
 obtain ⟨tt,SA,ht0⟩:∃tt:Int,(0≤tt∧tt≤9)∧(tt=0):=⟨0,by omega,rfl⟩
 obtain ⟨hl,k0,k2,k11,k12,k13,_,_,hf⟩:=hE.cells;have f0:=hf 0;have f11:=hf 11;have f12:=hf 12;have f13:=hf 13;clear hf
 obtain ⟨p0,p1,p2,p3,_⟩:=fP (hE.rest (w1.heap.size,oP s) (by simp)).2.2;obtain ⟨q0,q1,q2,q3,_⟩:=fP (hE.rest (w1.heap.size+1,oK q) (by simp)).2.2
 subst ht0
 obtain ⟨j,hj⟩:∃j:Nat,(v:Int) / 72 % 4=j:=⟨v / 72 % 4,by omega⟩
 have Yl:j<4:=by omega
 have hj2:(IntKind.i64.wrap ((v:Int) / 72)).tmod 4=j:=by rw [IntWalk.i64_in _ (by omega),Int.tmod_eq_emod_of_nonneg (by omega)];exact hj
 have hj5:(0:Int)≤j:=by omega
 have hj6:(j:Int)<4:=by omega
 obtain ⟨nm,hnm⟩:∃nm,D5[j]'Yl=nm:=⟨_,rfl⟩
 have HK:Hid (∀{w' :World} {g:Nat},w'.heap[g]? =some (.cells #[.string (⟨#[97]⟩:ByteArray),.string (⟨#[98]⟩:ByteArray),.string (⟨#[99]⟩:ByteArray),.string (⟨#[100]⟩:ByteArray)] 9 (0,0))→w'.cell? ⟨g,j,none⟩=some (.string nm)):=fun h=>Me h Yl hnm
 have acz: [nm].Sublist mQ:=(List.singleton_sublist.2 (show nm∈D5 by rw [←hnm];exact List.getElem_mem _)).trans FM
 clear hnm
 have hr0:=VA hE s (q:Int)
 go_upto_block 0 with fail
 go_cut []from 8 to 101 (fun wx=>Fin KG K w (w1.heap.size+1+1) wx)
 case first=>
  go_wp2_with fail
  refine wp_region_held_drew (S:=(fun w' =>w'.cell? ⟨w1.heap.size,0,none⟩=some (.string (⟨#[112]⟩:ByteArray))∧w'.cell? ⟨w1.heap.size,1,none⟩=some (.int .i64 1)∧w'.cell? ⟨w1.heap.size,2,none⟩=some (.string s)∧w'.cell? ⟨w1.heap.size,3,none⟩=some (.int .i64 0)∧w'.cell? ⟨w1.heap.size+1,0,none⟩=some (.string (⟨#[107]⟩:ByteArray))∧w'.cell? ⟨w1.heap.size+1,1,none⟩=some (.int .i64 2)∧w'.cell? ⟨w1.heap.size+1,2,none⟩=some (.string ⟨#[]⟩)∧w'.cell? ⟨w1.heap.size+1,3,none⟩=some (.int .i64 q))) (by kernel_rfl) (aak (K:=K) (w:=w) (bx:=w1.heap.size+1+1) (by (with_reducible repeat (first|assumption|apply Env.drew|apply Env.kind|apply Env.setW|apply Env.cK|apply Env.cO|apply Env.iK|apply Env.alloc)))) (fun hHeld=> ?_);repeat' (first|with_reducible exact AllReadyH.nil|(with_reducible refine AllReadyH.cons (by (simp only [List.getElem?_toArray,List.getElem?_cons_succ,List.getElem?_cons_zero];exact rfl)) (fun K' hK=> ?_) ?_)|((with_reducible change wpAnyH _ _ _ _ _ _ _ _ _);first|refine wpAnyH_done (by decide+kernel) ?_ _|(refine wpAnyH_take (i:=0) (v:= ?_) (by (simp only [List.getElem?_toArray,List.getElem?_cons_zero];exact rfl)) (by decide+kernel) (by decide+kernel) (by decide+kernel) (by intro _ _ _ h;exact h) (Or.inl ⟨by rfl,?_⟩) (by assumption) ?_;rotate_left;(focus (intro w hSw;(try dsimp only at hSw);go_simp;(try with_reducible rfl);done));(try simp only [Act.put,List.setIfInBounds_toArray,List.set_cons_zero,List.set_cons_succ]))|(refine wpAnyH_take (i:=1) (v:= ?_) (by (simp only [List.getElem?_toArray,List.getElem?_cons_succ,List.getElem?_cons_zero];exact rfl)) (by decide+kernel) (by decide+kernel) (by decide+kernel) (by intro _ _ _ h;exact h) (Or.inl ⟨by rfl,?_⟩) (by assumption) ?_;rotate_left;(focus (intro w hSw;(try dsimp only at hSw);go_simp;(try with_reducible rfl);done));(try simp only [Act.put,List.setIfInBounds_toArray,List.set_cons_zero,List.set_cons_succ]))|(refine wpAnyH_take (i:=4) (v:= ?_) (by (simp only [List.getElem?_toArray,List.getElem?_cons_succ,List.getElem?_cons_zero];exact rfl)) (by decide+kernel) (by decide+kernel) (by decide+kernel) (by intro _ _ _ h;exact h) (Or.inl ⟨by rfl,?_⟩) (by assumption) ?_;rotate_left;(focus (intro w hSw;(try dsimp only at hSw);go_simp;(try with_reducible rfl);done));(try simp only [Act.put,List.setIfInBounds_toArray,List.set_cons_zero,List.set_cons_succ]))|(refine wpAnyH_take (i:=5) (v:= ?_) (by (simp only [List.getElem?_toArray,List.getElem?_cons_succ,List.getElem?_cons_zero];exact rfl)) (by decide+kernel) (by decide+kernel) (by decide+kernel) (by intro _ _ _ h;exact h) (Or.inl ⟨by rfl,?_⟩) (by assumption) ?_;rotate_left;(focus (intro w hSw;(try dsimp only at hSw);go_simp;(try with_reducible rfl);done));(try simp only [Act.put,List.setIfInBounds_toArray,List.set_cons_zero,List.set_cons_succ]))|(refine wpAnyH_take (i:=6) (v:= ?_) (by (simp only [List.getElem?_toArray,List.getElem?_cons_succ,List.getElem?_cons_zero];exact rfl)) (by decide+kernel) (by decide+kernel) (by decide+kernel) (by intro _ _ _ h;exact h) (Or.inl ⟨by rfl,?_⟩) (by assumption) ?_;rotate_left;(focus (intro w hSw;(try dsimp only at hSw);go_simp;(try with_reducible rfl);done));(try simp only [Act.put,List.setIfInBounds_toArray,List.set_cons_zero,List.set_cons_succ]))|(refine wpAnyH_take (i:=7) (v:= ?_) (by (simp only [List.getElem?_toArray,List.getElem?_cons_succ,List.getElem?_cons_zero];exact rfl)) (by decide+kernel) (by decide+kernel) (by decide+kernel) (by intro _ _ _ h;exact h) (Or.inl ⟨by rfl,?_⟩) (by assumption) ?_;rotate_left;(focus (intro w hSw;(try dsimp only at hSw);go_simp;(try with_reducible rfl);done));(try simp only [Act.put,List.setIfInBounds_toArray,List.set_cons_zero,List.set_cons_succ]))|(refine wpAnyH_take (i:=10) (v:= ?_) (by (simp only [List.getElem?_toArray,List.getElem?_cons_succ,List.getElem?_cons_zero];exact rfl)) (by decide+kernel) (by decide+kernel) (by decide+kernel) (by intro _ _ _ h;exact h) (Or.inl ⟨by rfl,?_⟩) (by assumption) ?_;rotate_left;(focus (intro w hSw;(try dsimp only at hSw);go_simp;(try with_reducible rfl);done));(try simp only [Act.put,List.setIfInBounds_toArray,List.set_cons_zero,List.set_cons_succ]))|(refine wpAnyH_take (i:=12) (v:= ?_) (by (simp only [List.getElem?_toArray,List.getElem?_cons_succ,List.getElem?_cons_zero];exact rfl)) (by decide+kernel) (by decide+kernel) (by decide+kernel) (by intro _ _ _ h;exact h) (Or.inl ⟨by rfl,?_⟩) (by assumption) ?_;rotate_left;(focus (intro w hSw;(try dsimp only at hSw);go_simp;(try with_reducible rfl);done));(try simp only [Act.put,List.setIfInBounds_toArray,List.set_cons_zero,List.set_cons_succ]))|(refine wpAnyH_take (i:=14) (v:= ?_) (by (simp only [List.getElem?_toArray,List.getElem?_cons_succ,List.getElem?_cons_zero];exact rfl)) (by decide+kernel) (by decide+kernel) (by decide+kernel) (by intro _ _ _ h;exact h) (Or.inl ⟨by rfl,?_⟩) (by assumption) ?_;rotate_left;(focus (intro w hSw;(try dsimp only at hSw);go_simp;(try with_reducible rfl);done));(try simp only [Act.put,List.setIfInBounds_toArray,List.set_cons_zero,List.set_cons_succ]))|(refine wpAnyH_ready (rs:= [2,3]) (by decide+kernel) (by simp) ?_)|(refine wpAnyH_ready (rs:= [3]) (by decide+kernel) (by simp) ?_)|(refine wpAnyH_ready (rs:= [8,11]) (by decide+kernel) (by simp) ?_)|(refine wpAnyH_ready (rs:= [9,11]) (by decide+kernel) (by simp) ?_)|(refine wpAnyH_ready (rs:= [11]) (by decide+kernel) (by simp) ?_)|(refine wpAnyH_ready (rs:= [13]) (by decide+kernel) (by simp) ?_)|(refine wpAnyH_ready (rs:= [15]) (by decide+kernel) (by simp) ?_)|(refine wpAnyH_ready (rs:= [9,13]) (by decide+kernel) (by simp) ?_)|(refine wpAnyH_ready (rs:= [9]) (by decide+kernel) (by simp) ?_)|(refine wpAnyH_ready (rs:= [8,13]) (by decide+kernel) (by simp) ?_)|(refine wpAnyH_ready (rs:= [8]) (by decide+kernel) (by simp) ?_)|(refine wpAnyH_ready (rs:= [2,8,11]) (by decide+kernel) (by simp) ?_)|(refine wpAnyH_ready (rs:= [2,9,11]) (by decide+kernel) (by simp) ?_)|(refine wpAnyH_ready (rs:= [2,11]) (by decide+kernel) (by simp) ?_)|(refine wpAnyH_ready (rs:= [2]) (by decide+kernel) (by simp) ?_)|(refine wpAnyH_ready (rs:= [2,9]) (by decide+kernel) (by simp) ?_)|(refine wpAnyH_ready (rs:= [2,8]) (by decide+kernel) (by simp) ?_))|(go_simp;(first|(go_at_call 93;with_reducible refine (DZ _).mono ?_;rintro e YW ⟨g,rfl,aah,FN,Vx⟩;(try have hrow:=dM.row (base:=w.heap.size) (e:=61) (size:=4) (n:=2) (xs:=bQ [⟨(⟨#[112]⟩:ByteArray),⟨1,s,0⟩⟩,⟨(⟨#[107]⟩:ByteArray),⟨2,⟨#[]⟩,(q:Int)⟩⟩]) ((dM.refl (Env.q (K:=K) (w:=w) (bx:=w1.heap.size+1+1) (R:=_) (by (with_reducible repeat (first|assumption|apply Env.drew|apply Env.kind|apply Env.setW|apply Env.cK|apply Env.cO|apply Env.iK|apply Env.alloc))))).below Vx) (by (repeat (first|with_reducible assumption|((with_reducible apply cZ);rfl;(first|rfl|simp [World.setCell,World.drew]);rfl;rfl;decide;exact Env.base (K:=K) (w:=w) (bx:=w1.heap.size+1+1) (R:=_) (by (with_reducible repeat (first|assumption|apply Env.drew|apply Env.kind|apply Env.setW|apply Env.cK|apply Env.cO|apply Env.iK|apply Env.alloc))))|with_reducible apply dx|with_reducible refine aL ?_ (Env.hx (K:=K) (w:=w) (bx:=w1.heap.size+1+1) (R:=_) (by (with_reducible repeat (first|assumption|apply Env.drew|apply Env.kind|apply Env.setW|apply Env.cK|apply Env.cO|apply Env.iK|apply Env.alloc)))) (by decide) _ _|with_reducible apply bT))) hle);replace hE:=Env.keep (K:=K) (w:=w) (bx:=w1.heap.size+1+1) (R:=_) (by (with_reducible repeat (first|assumption|apply Env.drew|apply Env.kind|apply Env.setW|apply Env.cK|apply Env.cO|apply Env.iK|apply Env.alloc))) Vx;have k10:YW.cell? ⟨g,j,none⟩=some (.string nm):=HK.out FN;have l10:=aC FN;obtain ⟨hl,k0,k2,k11,k12,k13,_,_,hf⟩:=hE.cells;have f0:=hf 0;have f11:=hf 11;have f12:=hf 12;have f13:=hf 13;clear hf;obtain ⟨p0,p1,p2,p3,_⟩:=fP (hE.rest (w1.heap.size,oP s) (by simp)).2.2;obtain ⟨q0,q1,q2,q3,_⟩:=fP (hE.rest (w1.heap.size+1,oK q) (by simp)).2.2;have hgx:g≠w1.heap.size+1+1:=(fun e=>by have h:=FN;rw [e,hE.hx]at h;injection h with h;injection h with _ h _;exact absurd h (by decide));have hk:=bN FN ⟨w1.heap.size+1+1,0,none⟩ (.int .i64 7) hgx;have ka:=HK.out hk;have kb:=fun o=>HK.out (au hk o);have kc:=fun o=>HK.out (au FN o);clear hk;have hEk:=hE.kind 7;have ck3:=fun o=>(hE.alloc o).cells.2.1;have ck4:=fun o o2=>((hE.alloc o).alloc o2).cells.2.1;have cw1:=fun o=>(hEk.alloc o).cells.2.2.2.2.2.1;have cw2:=fun o o2=>((hEk.alloc o).alloc o2).cells.2.2.2.2.2.1;have cw3:=fun o=>(hE.alloc o).cells.2.2.2.2.2.1;have cw4:=fun o o2=>((hE.alloc o).alloc o2).cells.2.2.2.2.2.1;have cc1:=fun o=>(hEk.alloc o).cells.2.2.2.1;have cc2:=fun o o2=>((hEk.alloc o).alloc o2).cells.2.2.2.1;have cc3:=fun o=>(hE.alloc o).cells.2.2.2.1;have cc4:=fun o o2=>((hE.alloc o).alloc o2).cells.2.2.2.1;have cc5:=fun v o o2=>(((hEk.setW v).alloc o).alloc o2).cells.2.2.2.1;have cc6:=fun v o=>((hEk.setW v).alloc o).cells.2.2.2.1;have cf3:=fun o=>(hE.alloc o).cells.2.2.2.2.2.2.2.2;have cf4:=fun o o2=>((hE.alloc o).alloc o2).cells.2.2.2.2.2.2.2.2;have cf1:=fun o=>(hEk.alloc o).cells.2.2.2.2.2.2.2.2;have cf2:=fun o o2=>((hEk.alloc o).alloc o2).cells.2.2.2.2.2.2.2.2;have cf5:=fun v o o2=>(((hEk.setW v).alloc o).alloc o2).cells.2.2.2.2.2.2.2.2;have cf6:=fun v o=>((hEk.setW v).alloc o).cells.2.2.2.2.2.2.2.2;have pa0:=fun o=>(fP ((hEk.alloc o).rest (w1.heap.size,oP s) (by simp)).2.2).1;have pa1:=fun o=>(fP ((hEk.alloc o).rest (w1.heap.size,oP s) (by simp)).2.2).2.1;have pa2:=fun o=>(fP ((hEk.alloc o).rest (w1.heap.size,oP s) (by simp)).2.2).2.2.1;have pa3:=fun o=>(fP ((hEk.alloc o).rest (w1.heap.size,oP s) (by simp)).2.2).2.2.2.1;have pb0:=fun o=>(fP ((hEk.alloc o).rest (w1.heap.size+1,oK q) (by simp)).2.2).1;have pb1:=fun o=>(fP ((hEk.alloc o).rest (w1.heap.size+1,oK q) (by simp)).2.2).2.1;have pb2:=fun o=>(fP ((hEk.alloc o).rest (w1.heap.size+1,oK q) (by simp)).2.2).2.2.1;have pb3:=fun o=>(fP ((hEk.alloc o).rest (w1.heap.size+1,oK q) (by simp)).2.2).2.2.2.1;have pc0:=fun o=>(fP ((hE.alloc o).rest (w1.heap.size,oP s) (by simp)).2.2).1;have pc1:=fun o=>(fP ((hE.alloc o).rest (w1.heap.size,oP s) (by simp)).2.2).2.1;have pc2:=fun o=>(fP ((hE.alloc o).rest (w1.heap.size,oP s) (by simp)).2.2).2.2.1;have pc3:=fun o=>(fP ((hE.alloc o).rest (w1.heap.size,oP s) (by simp)).2.2).2.2.2.1;have pd0:=fun o=>(fP ((hE.alloc o).rest (w1.heap.size+1,oK q) (by simp)).2.2).1;have pd1:=fun o=>(fP ((hE.alloc o).rest (w1.heap.size+1,oK q) (by simp)).2.2).2.1;have pd2:=fun o=>(fP ((hE.alloc o).rest (w1.heap.size+1,oK q) (by simp)).2.2).2.2.1;have pd3:=fun o=>(fP ((hE.alloc o).rest (w1.heap.size+1,oK q) (by simp)).2.2).2.2.2.1;clear hEk)|skip);(try clear hHeld);(refine hK.out _ _ ?_ (fun hHeld=> ?_));(focus (exact aak (K:=K) (w:=w) (bx:=w1.heap.size+1+1) (by (with_reducible repeat (first|assumption|apply Env.drew|apply Env.kind|apply Env.setW|apply Env.cK|apply Env.cO|apply Env.iK|apply Env.alloc)))));clear hK K';(try simp only [Act.put,List.setIfInBounds_toArray,List.set_cons_zero,List.set_cons_succ])))
  all_goals
   go_wp2_with fail
   go_meet
   case rel=>exact Env.fin (R:=_) (by (with_reducible repeat (first|assumption|apply Env.drew|apply Env.kind|apply Env.setW|apply Env.cK|apply Env.cO|apply Env.iK|apply Env.alloc))) [nm] [] [⟨(⟨#[112]⟩:ByteArray),⟨1,s,0⟩⟩,⟨(⟨#[107]⟩:ByteArray),⟨2,⟨#[]⟩,(q:Int)⟩⟩] (by (repeat (first|with_reducible assumption|((with_reducible apply cZ);rfl;(first|rfl|simp [World.setCell]);rfl;rfl;decide;exact Env.base (K:=K) (w:=w) (bx:=w1.heap.size+1+1) (R:=_) (by (with_reducible repeat (first|assumption|apply Env.drew|apply Env.kind|apply Env.setW|apply Env.cK|apply Env.cO|apply Env.iK|apply Env.alloc))))|with_reducible apply dx|with_reducible refine aL ?_ (Env.hx (K:=K) (w:=w) (bx:=w1.heap.size+1+1) (R:=_) (by (with_reducible repeat (first|assumption|apply Env.drew|apply Env.kind|apply Env.setW|apply Env.cK|apply Env.cO|apply Env.iK|apply Env.alloc)))) (by decide) _ _|with_reducible apply bT))) (World.ownsRow_nil _ _ _ _) (by change World.ownsRow _ _ _ _ _ 2 _;(repeat (first|with_reducible assumption|((with_reducible apply cZ);rfl;(first|rfl|simp [World.setCell]);rfl;rfl;decide;exact Env.base (K:=K) (w:=w) (bx:=w1.heap.size+1+1) (R:=_) (by (with_reducible repeat (first|assumption|apply Env.drew|apply Env.kind|apply Env.setW|apply Env.cK|apply Env.cO|apply Env.iK|apply Env.alloc))))|with_reducible apply dx|with_reducible refine aL ?_ (Env.hx (K:=K) (w:=w) (bx:=w1.heap.size+1+1) (R:=_) (by (with_reducible repeat (first|assumption|apply Env.drew|apply Env.kind|apply Env.setW|apply Env.cK|apply Env.cO|apply Env.iK|apply Env.alloc)))) (by decide) _ _|with_reducible apply bT))) rfl (yj (c:= [nm]) acz (by simp) (FP IW.out hq3) (.inl rfl) hst)
 obtain ⟨x5,c5,s5,v5,hD5,sZ,hx5,Ck,KI⟩:=hcut
 have ho:=Ck.one
 clear k0 k2 k11 k12 k13 f0 f11 f12 f13 p0 p1 p2 p3 q0 q1 q2 q3
 go_wp2_with (first|refine bA rfl _ rfl rfl rfl hx5 ?_|(refine eD rfl _ _ rfl rfl rfl sZ rfl rfl ho ?_;intro W6 Cm))
 refine bodyPost_ret (dR rfl rfl (mV Cm.blk rfl)) rfl ?_
 exact Cj hD5 sZ (Nat.le_refl _) Cm KI Ck
end Go.Proofs.YtfbgdjcnlnfoaaaGreatDoor
