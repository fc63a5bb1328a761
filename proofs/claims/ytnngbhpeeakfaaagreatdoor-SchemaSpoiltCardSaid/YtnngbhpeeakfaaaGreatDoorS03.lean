/- Walks: the law SchemaSpoilt. -/
import Derived.Test.YtnngbhpeeakfaaaGreatDoorB08
import Derived.Test.YtnngbhpeeakfaaaGreatDoorB46
import Derived.Test.YtnngbhpeeakfaaaGreatDoorS01
import Derived.Test.YtnngbhpeeakfaaaGreatDoorS02
namespace Go.Proofs.YtnngbhpeeakfaaaGreatDoor
open Go.RowKit
open aK
set_option maxRecDepth 100000 in
set_option maxHeartbeats 8000000 in
theorem schemaSpoilt_any (how v:Int) (w:World) (hG:Gp w) (hi0: -9223372036854775808≤how) (hi1:how≤9223372036854775807) (hj0: -9223372036854775808≤v) (hj1:v≤9223372036854775807):
 Calls Tryz.prog 6 #[.int .i64 how, .int .i64 v] w fun e w' =>e= .returned (.bool true)∧Below w.heap.size w w' :=by
 have HA:Hid (∀w',Below w.heap.size w w' →Calls Tryz.prog 15 #[] w' fun e w'' =>e= .returned (.bool true)∧Below w'.heap.size w' w''):=fun w' hb=>LV (hG.below hb)
 have hx:=Int.emod_nonneg how (show (11:Int)≠0 by omega)
 have hx2:=Int.emod_lt_of_pos how (show (0:Int)<11 by omega)
 have hy:=Int.emod_nonneg v (show (100:Int)≠0 by omega)
 have hy2:=Int.emod_lt_of_pos v (show (0:Int)<100 by omega)
 have hpi:Hid (∀w',Calls Tryz.prog 10 #[.int .i64 how, .int .i64 11] w' fun e w'' =>e= .returned (.int .i64 (how % 11))∧w' =w''):=fun w' =>Gd how 11 w' (by omega) (by omega) hi0 hi1
 have hpj:Hid (∀w',Calls Tryz.prog 10 #[.int .i64 v, .int .i64 100] w' fun e w'' =>e= .returned (.int .i64 (v % 100))∧w' =w''):=fun w' =>Gd v 100 w' (by omega) (by omega) hj0 hj1
 obtain ⟨x,hxe⟩:∃x,how % 11=x:=⟨_,rfl⟩
 obtain ⟨y,hye⟩:∃y,v % 100=y:=⟨_,rfl⟩
 rw [hxe]at hx hx2 hpi
 rw [hye]at hy hy2 hpj
 clear hxe hye hi0 hi1 hj0 hj1
 have HG:=Lib.hid hG
 have hs:=s00_any w
 have HX:Hid (x=0∨x=1∨x=2∨x=3∨x=4∨x=5∨x=6∨x=7∨x=8∨x=9∨x=10):=Lib.hid (by omega)
 have hk1:IntKind.i64.wrap (1+y)=1+y:=IntWalk.i64_in _ (by omega)
 have hk2:IntKind.i64.wrap (2+(1+y))=2+(1+y):=IntWalk.i64_in _ (by omega)
 clear hG hx hx2
 go_enter Tryz.func6,Tryz.ntmps6
 go_wp2_with fail
 refine hs.mono ?_;rintro e w1 ⟨g1,g2,g3,g4,rfl,ho,r1,r2,r3,r4,hb1⟩
 have hB2:=hb1.alloc hb1.size (.cells #[.int .i64 2, .slice (some ⟨g1,0,none⟩) 1 1, .slice (some ⟨g2,0,none⟩) 1 1] 31)
 have hQ:SqB (w1.alloc (.cells #[.int .i64 2, .slice (some ⟨g1,0,none⟩) 1 1, .slice (some ⟨g2,0,none⟩) 1 1] 31)) w.heap.size w1.heap.size g1 g2 g3 g4 2 (spTa g3) (spVa g4) spCa spNa:=
  ⟨aB _ _,ay r1 _,ay r2 _,ay r3 _,ay r4 _,by have:=aG r2;omega⟩
 clear hs r1 r2 r3 r4 hb1
 go_upto_region 2 with (refine fq Tryz.ug rfl _ _ rfl rfl rfl rfl rfl rfl rfl ?_)
 generalize (w1.alloc (.cells _ 31))=W at *
 have HC:Hid (∀w',Below W.heap.size W w' →Calls Tryz.prog 17 #[.agg #[.int .i64 2, .slice (some ⟨g1,0,none⟩) 1 1, .slice (some ⟨g2,0,none⟩) 1 1]] w' fun e w'' =>e= .returned (.bool true)∧Below w'.heap.size w' w''):=fun w' hb=>by
  have:=xX (s:=spSw g1 g2 g3 g4) ((HG.out.below hB2).below hb) ((sp_in hQ.h1 hQ.h2 hQ.h3 hQ.h4).below hb) sp_ok
  rw [show (spSw g1 g2 g3 g4).x=spS from rfl,sp_check]at this
  exact this
 have HSm:Hid (∀w' a1 a2 a3 a4,Below W.heap.size W w' →w'.heap[a1]? =some (.cells (spTa a3) 27 (0,0))→w'.heap[a2]? =some (.cells (spVa a4) 46 (0,0))→w'.heap[a3]? =some (.cells spCa 24 (0,0))→w'.heap[a4]? =some (.cells spNa 9 (0,0))→∀w'',Below w'.heap.size w' w'' →Calls Tryz.prog 20 #[.agg #[.int .i64 2, .slice (some ⟨g1,0,none⟩) 1 1, .slice (some ⟨g2,0,none⟩) 1 1], .agg #[.int .i64 2, .slice (some ⟨a1,0,none⟩) 1 1, .slice (some ⟨a2,0,none⟩) 1 1]] w'' fun e w3=>e= .returned (.bool true)∧Below w''.heap.size w'' w3):=fun w' a1 a2 a3 a4 hb q1 q2 q3 q4 w'' hb2=>by
  refine (ssame_any (s:=spSw g1 g2 g3 g4) (r:=spSw a1 a2 a3 a4) (((sp_in hQ.h1 hQ.h2 hQ.h3 hQ.h4).below hb).below hb2) ((sp_in q1 q2 q3 q4).below hb2) sp_ok sp_ok).mono ?_
  rintro e w3 ⟨b,rfl,hbt,hb3⟩
  rw [hbt.2 rfl]
  exact ⟨rfl,hb3⟩
 have HSc:Hid (∀w',Calls Tryz.prog 19 #[] w' fun e w'' =>∃g1 g2 g3 g4,e= .returned (.agg #[.int .i64 2, .slice (some ⟨g1,0,none⟩) 1 1, .slice (some ⟨g2,0,none⟩) 1 1])∧(w'.heap.size≤g3∧g3<g4∧g4<g1∧g1<g2)∧w''.heap[g1]? =some (.cells (spTa g3) 27 (0,0))∧w''.heap[g2]? =some (.cells (spVa g4) 46 (0,0))∧w''.heap[g3]? =some (.cells spCa 24 (0,0))∧w''.heap[g4]? =some (.cells spNa 9 (0,0))∧Below w'.heap.size w' w''):=fun w' =>s00_any w'
 have k0:W.cell? ⟨w1.heap.size,0,none⟩=some (.int .i64 2):=by rw [aj hQ.hb];rfl
 have k1:W.cell? ⟨w1.heap.size,1,none⟩=some (.slice (some ⟨g1,0,none⟩) 1 1):=by rw [aj hQ.hb];rfl
 have k2:W.cell? ⟨w1.heap.size,2,none⟩=some (.slice (some ⟨g2,0,none⟩) 1 1):=by rw [aj hQ.hb];rfl
 have hBox:=hQ.hb
 have HQ:=Lib.hid hQ
 clear hQ
 simp only [Act.put]
 go_cut [16]from 8 to 109 (fun s16 wx=>s16= .bool false∧Below W.heap.size W wx)
 case first=>
  go_region_law (first
   |(go_simp;go_at_call 17;refine (HC.out _ (by repeat (first|exact Below.refl _ _|refine Cz ?_))).mono ?_;rintro e w5 ⟨rfl,h5⟩;have hBox5:=aH h5 hBox;obtain ⟨c0,c1,c2,cf⟩:=cells3 hBox5)
   |(go_simp;go_at_call 19;refine (HSc.out _).mono ?_;rintro e w6 ⟨a1,a2,a3,a4,rfl,ha,q1,q2,q3,q4,h6⟩;have hBox6:=aH h6 hBox5;obtain ⟨d0,d1,d2,df⟩:=cells3 hBox6)
   |(go_simp;go_at_call 20;refine (HSm.out w6 a1 a2 a3 a4 (by with_reducible repeat (first|exact Below.refl _ _|refine Cz ?_|refine wm ?_ h6|refine wm ?_ h5)) q1 q2 q3 q4 _ (by repeat (first|exact Below.refl _ _|refine Cz ?_))).mono ?_;rintro e w7 ⟨rfl,h7⟩))
  all_goals
   go_simp
   rename_i J K hJ hK
   refine hK _ _ (Met.intro (hJ _ _ ?_))
   (repeat apply Exists.intro)
   refine ⟨?rel,rfl⟩
   case rel=>exact ⟨rfl,by with_reducible repeat (first|exact Below.refl _ _|refine Cz ?_|refine wm ?_ h7|refine wm ?_ h6|refine wm ?_ h5)⟩
 obtain ⟨rfl,hcb⟩:=hcut
 rename World=>W2
 have hQ:=HQ.out.call hcb
 have hB3:=hB2.trans (hcb.mono hB2.size)
 clear HC HSm HSc k0 k1 k2 hBox HQ hcb hB2
 have hp2:=hpj.out W2
 go_wp2_with fail
 refine hp2.mono ?_;rintro e w3 ⟨rfl,rfl⟩
 have hp1:=hpi.out W2
 clear hp2 hpj
 go_wp2_with fail
 refine hp1.mono ?_;rintro e w3 ⟨rfl,rfl⟩
 clear hp1 hpi
 go_upto_block 0 with fail
 have b0:=aj hQ.hb 0
 have b1:=aj hQ.hb 1
 have b2:=aj hQ.hb 2
 have f0:=ak hQ.hb 0
 have f1:=ak hQ.hb 1
 have t0:=aj hQ.h1 0
 have t1:=aj hQ.h1 1
 have t6:=aj hQ.h1 6
 have tf0:=ak hQ.h1 0
 have tf1:=ak hQ.h1 1
 have v0:=aj hQ.h2 0
 have v2:=aj hQ.h2 2
 have v3:=aj hQ.h2 3
 have vf0:=ak hQ.h2 0
 have vf2:=ak hQ.h2 2
 have vf3:=ak hQ.h2 3
 have q1:=aj hQ.h3 1
 have q2:=aj hQ.h3 2
 have qf1:=ak hQ.h3 1
 have qf2:=ak hQ.h3 2
 have v4:=fun o=>aj (hQ.alloc o).h2 4
 have vf4:=fun o=>ak (hQ.alloc o).h2 4
 have HQ:=Lib.hid hQ
 have ho2:=hQ.o
 unfold spTa at t0 t1 t6
 unfold spVa at v0 v2 v3 v4
 unfold spCa at q1 q2
 simp only [List.getElem?_toArray,List.getElem?_cons_zero,List.getElem?_cons_succ]at b0 b1 b2 t0 t1 t6 v0 v2 v3 v4 q1 q2
 clear hQ
 go_cut []from 22 to 109 (fun wx=>Spoilt w.heap.size w1.heap.size w wx)
 case first=>
  rcases HX.out with rfl|rfl|rfl|rfl|rfl|rfl|rfl|rfl|rfl|rfl|rfl
  · go_wp2_with fail
    go_meet
    case rel=>exact ⟨sqSw 1 spT spV g1 g2 g3 g4 4 2,(HQ.out.set0 1).hb,sq_in (HQ.out.set0 1).h1 (HQ.out.set0 1).h2 (HQ.out.set0 1).h3 (HQ.out.set0 1).h4 rfl rfl rfl rfl,sc_ok spT_ok0 spV_ok0,sp_0,hB3.setCell (by show _≤w1.heap.size;omega) _⟩
  · go_wp2_with fail
    go_meet
    case rel=>exact ⟨sqSw 2 {spT with id:=2} spV g1 g2 g3 g4 4 2,(HQ.out.set1 1 _).hb,sq_in (HQ.out.set1 1 _).h1 (HQ.out.set1 1 _).h2 (HQ.out.set1 1 _).h3 (HQ.out.set1 1 _).h4 rfl rfl rfl rfl,sc_ok (spT_ok 2 (by decide) _ (by decide) _ (by decide) (by decide)) spV_ok0,sp_1,hB3.setCell (by show _≤g1;omega) _⟩
  · go_wp2_with fail
    go_meet
    case rel=>exact ⟨sqSw 2 {spT with name:=(⟨#[84]⟩:ByteArray)} spV g1 g2 g3 g4 4 2,(HQ.out.set1 0 _).hb,sq_in (HQ.out.set1 0 _).h1 (HQ.out.set1 0 _).h2 (HQ.out.set1 0 _).h3 (HQ.out.set1 0 _).h4 rfl rfl rfl rfl,sc_ok (spT_ok 1 (by decide) _ (by decide) _ (by decide) (by decide)) spV_ok0,sp_2,hB3.setCell (by show _≤g1;omega) _⟩
  · go_wp2_with fail
    go_meet
    case rel=>exact ⟨sqSw 2 spT {spV with dA:=(⟨#[117]⟩:ByteArray)} g1 g2 g3 g4 4 2,(HQ.out.set2 2 _).hb,sq_in (HQ.out.set2 2 _).h1 (HQ.out.set2 2 _).h2 (HQ.out.set2 2 _).h3 (HQ.out.set2 2 _).h4 rfl rfl rfl rfl,sc_ok spT_ok0 (spV_ok _ _ _ (by decide) _ (by decide)),sp_3,hB3.setCell (by show _≤g2;omega) _⟩
  · go_wp2_with fail
    go_meet
    case rel=>exact ⟨sqSw 2 spT {spV with on:=(⟨#[107]⟩:ByteArray)} g1 g2 g3 g4 4 2,(HQ.out.set2 3 _).hb,sq_in (HQ.out.set2 3 _).h1 (HQ.out.set2 3 _).h2 (HQ.out.set2 3 _).h3 (HQ.out.set2 3 _).h4 rfl rfl rfl rfl,sc_ok spT_ok0 (spV_ok _ _ _ (by decide) _ (by decide)),sp_4,hB3.setCell (by show _≤g2;omega) _⟩
  · go_wp2_with fail
    go_meet
    case rel=>exact ⟨sqSw 2 spT {spV with aD:= [(⟨#[100]⟩:ByteArray),(⟨#[98]⟩:ByteArray)]} g1 g2 g3 W2.heap.size 4 2,((HQ.out.alloc _).set2 4 _).hb,sq_in ((HQ.out.alloc _).set2 4 _).h1 ((HQ.out.alloc _).set2 4 _).h2 ((HQ.out.alloc _).set2 4 _).h3 (bg (aB W2 _) _ _ (by show W2.heap.size≠g2;have:=aG HQ.out.h2;omega)) rfl rfl rfl rfl,sc_ok spT_ok0 (spV_ok _ _ _ (by decide) _ (by decide)),sp_5,(hB3.alloc hB3.size _).setCell (by show _≤g2;omega) _⟩
  · go_wp2_with fail
    go_meet
    case rel=>exact ⟨sqSw 2 spT {spV with aD:= [(⟨#[97]⟩:ByteArray)]} g1 g2 g3 W2.heap.size 4 1,((HQ.out.alloc _).set2 4 _).hb,sq_in ((HQ.out.alloc _).set2 4 _).h1 ((HQ.out.alloc _).set2 4 _).h2 ((HQ.out.alloc _).set2 4 _).h3 (bg (aB W2 _) _ _ (by show W2.heap.size≠g2;have:=aG HQ.out.h2;omega)) rfl rfl rfl rfl,sc_ok spT_ok0 (spV_ok _ _ _ (by decide) _ (by decide)),sp_6,(hB3.alloc hB3.size _).setCell (by show _≤g2;omega) _⟩
  · go_wp2_with fail
    go_meet
    case rel=>exact ⟨sqSw 2 {spT with aD:= [⟨(⟨#[97]⟩:ByteArray),1⟩,⟨(⟨#[97]⟩:ByteArray),1⟩,⟨(⟨#[99]⟩:ByteArray),1⟩,⟨(⟨#[100]⟩:ByteArray),1⟩]} spV g1 g2 g3 g4 4 2,(HQ.out.set3 2 _).hb,sq_in (HQ.out.set3 2 _).h1 (HQ.out.set3 2 _).h2 (HQ.out.set3 2 _).h3 (HQ.out.set3 2 _).h4 rfl rfl rfl rfl,sc_ok (spT_ok 1 (by decide) _ (by decide) _ (by decide) (by show (4:Nat)≤900;decide)) spV_ok0,sp_7,hB3.setCell (by show _≤g3;omega) _⟩
  · go_wp2_with fail
    go_meet
    case rel=>exact ⟨sqSw 2 {spT with aD:= [⟨(⟨#[97]⟩:ByteArray),2+(1+y)⟩,⟨(⟨#[98]⟩:ByteArray),1⟩,⟨(⟨#[99]⟩:ByteArray),1⟩,⟨(⟨#[100]⟩:ByteArray),1⟩]} spV g1 g2 g3 g4 4 2,(HQ.out.set3 1 _).hb,sq_in (HQ.out.set3 1 _).h1 (HQ.out.set3 1 _).h2 (HQ.out.set3 1 _).h3 (HQ.out.set3 1 _).h4 rfl rfl rfl rfl,sc_ok (spT_ok 1 (by decide) _ (by decide) _ (show∀q∈ [(⟨#[97]⟩:ByteArray),(⟨#[98]⟩:ByteArray),(⟨#[99]⟩:ByteArray),(⟨#[100]⟩:ByteArray)],q.size≤1000000 by decide) (by show (4:Nat)≤900;decide)) spV_ok0,sp_8 (1+y) (by omega),hB3.setCell (by show _≤g3;omega) _⟩
  · go_wp2_with fail
    go_meet
    case rel=>exact ⟨sqSw 2 spT {spV with name:=(⟨#[116]⟩:ByteArray)} g1 g2 g3 g4 4 2,(HQ.out.set2 0 _).hb,sq_in (HQ.out.set2 0 _).h1 (HQ.out.set2 0 _).h2 (HQ.out.set2 0 _).h3 (HQ.out.set2 0 _).h4 rfl rfl rfl rfl,sc_ok spT_ok0 (spV_ok _ _ _ (by decide) _ (by decide)),sp_9,hB3.setCell (by show _≤g2;omega) _⟩
  · have hown:W2.ownsRow w.heap.size 27 7 (.slice (some ⟨g1,0,none⟩) 1 1) 1 (spTa g3).toList:=⟨rfl, .inr ⟨g1,1,_,rfl,by omega,HQ.out.h1,Nat.le_refl _,by decide,rfl,rfl⟩⟩
    have hrB:∀o,(W2.alloc o).drew.ownsRow w.heap.size 27 7 (.slice (some ⟨g1,0,none⟩) 1 1) 1 (spTa g3).toList:=fun o=>hown.alloc o
    have b1' :=fun o=>aj (HQ.out.alloc o).hb 1
    have t2:=aj HQ.out.h1 2
    have t3:=aj HQ.out.h1 3
    have t4:=aj HQ.out.h1 4
    have t5:=aj HQ.out.h1 5
    unfold spTa at t2 t3 t4 t5
    simp only [List.getElem?_toArray,List.getElem?_cons_zero,List.getElem?_cons_succ]at b1' t2 t3 t4 t5
    have hw0:=hB3.size
    go_upto_region 6 with fail
    go_region_law (refine jT Tryz.ZH rfl _ _ rfl w.heap.size _ _ _ rfl (hrB _) _ _ [.string (⟨#[116]⟩:ByteArray), .int .i64 1, .string (⟨#[112]⟩:ByteArray), .int .i64 1, .string (⟨#[107]⟩:ByteArray), .int .i64 2, .slice (some ⟨g3,0,none⟩) 4 4] rfl rfl (fun j u hj=>by rw [jO,Nat.zero_add];exact bA _ _ _ j u hj) (by intro u hu;simp only [List.mem_cons,List.not_mem_nil,or_false]at hu;rcases hu with rfl|rfl|rfl|rfl|rfl|rfl|rfl<;>rfl) (by omega) (by simp;omega) ?_;intro gx iR w3 h3 hg3 OI hl3;have hb3:=(hg3.block _ (aG (HQ.out.alloc _).drew.hb) (fun e=>by have e2:w1.heap.size=g1:=Option.some.inj e;omega)).trans (HQ.out.alloc _).drew.hb;have y3:=aj hb3 1;have u3:=ak hb3 1;simp only [List.getElem?_toArray,List.getElem?_cons_zero,List.getElem?_cons_succ]at y3)
    all_goals
     have hg3:(W2.alloc (.cells #[.string (⟨#[116]⟩:ByteArray), .int .i64 1, .string (⟨#[112]⟩:ByteArray), .int .i64 1, .string (⟨#[107]⟩:ByteArray), .int .i64 2, .slice (some ⟨g3,0,none⟩) 4 4] 27)).drew.grownBy w3 (some g1):=hg3
     have hgx:gx≠w1.heap.size:=by
      rcases OI with e|e
      · have e2:g1=gx:=Option.some.inj e
        omega
      · rw [e]
        show (W2.alloc _).heap.size≠_
        rw [av]
        have:=aG HQ.out.hb
        omega
     have hkp:∀k o,W2.heap[k]? =some o→k≠g1→k≠w1.heap.size→(w3.setCell ⟨w1.heap.size,1,none⟩ (.slice (some ⟨gx,0,none⟩) 2 iR)).heap[k]? =some o:=fun k o h h1 h2=>bg ((hg3.block k (aG (ay h (.cells #[.string (⟨#[116]⟩:ByteArray), .int .i64 1, .string (⟨#[112]⟩:ByteArray), .int .i64 1, .string (⟨#[107]⟩:ByteArray), .int .i64 2, .slice (some ⟨g3,0,none⟩) 4 4] 27))) (fun e=>h1 (Option.some.inj e))).trans (ay h _)) _ _ h2
     have hBx:=(hB3.alloc hB3.size (.cells #[.string (⟨#[116]⟩:ByteArray), .int .i64 1, .string (⟨#[112]⟩:ByteArray), .int .i64 1, .string (⟨#[107]⟩:ByteArray), .int .i64 2, .slice (some ⟨g3,0,none⟩) 4 4] 27)).drew
     have HF:=Lib.hid hkp
     have HR:=Lib.hid h3
     clear hkp h3
     go_wp2_with fail
     go_meet
     case rel=>exact ⟨⟨2, [⟨spT, .slice (some ⟨g3,0,none⟩) 4 4⟩,⟨spT, .slice (some ⟨g3,0,none⟩) 4 4⟩], [⟨spV, .slice (some ⟨g4,0,none⟩) 2 2⟩], .slice (some ⟨gx,0,none⟩) 2 iR, .slice (some ⟨g2,0,none⟩) 1 1⟩,by rw [bG hb3 1 _];rfl,⟨Rd.own (ownsRow_setCell_other HR.out (fun e=>hgx (by simpa [Value.ownBlock]using e)) _),Rd.blk (HF.out g2 _ HQ.out.h2 (by omega) (by omega)) rfl,fun q hq=>by
      simp only [List.mem_cons,List.not_mem_nil,or_false,or_self]at hq
      rw [hq];exact Rd.blk (HF.out g3 _ HQ.out.h3 (by omega) (by omega)) rfl,fun q hq=>by rw [List.mem_singleton.1 hq];exact Rd.blk (HF.out g4 _ HQ.out.h4 (by omega) (by omega)) rfl⟩,sc_ok2,sp_10,(below_app (v:= .slice (some ⟨g1,0,none⟩) 1 1) hBx hBx.size hg3 (fun g e=>by have e2:g1=g:=Option.some.inj e;omega)).setCell (by show _≤w1.heap.size;omega) _⟩
 obtain ⟨s,hbs,hin,hok,hck,hB4⟩:=hcut
 clear b0 b1 b2 f0 f1 t0 t1 t6 tf0 tf1 v0 v2 v3 vf0 vf2 vf3 q1 q2 qf1 qf2 v4 vf4 HQ HX
 rename World=>W4
 have HC:Hid (∀w',Below W4.heap.size W4 w' →Calls Tryz.prog 17 #[.agg s.arr] w' fun e w'' =>e= .returned (.bool false)∧Below w'.heap.size w' w''):=fun w' hb=>by
  have:=xX ((HG.out.below hB4).below hb) (hin.below hb) hok
  rwa [hck]at this
 have HSm:Hid (∀w' a1 a2 a3 a4,Below W4.heap.size W4 w' →w'.heap[a1]? =some (.cells (spTa a3) 27 (0,0))→w'.heap[a2]? =some (.cells (spVa a4) 46 (0,0))→w'.heap[a3]? =some (.cells spCa 24 (0,0))→w'.heap[a4]? =some (.cells spNa 9 (0,0))→∀w'',Below w'.heap.size w' w'' →Calls Tryz.prog 20 #[.agg s.arr, .agg #[.int .i64 2, .slice (some ⟨a1,0,none⟩) 1 1, .slice (some ⟨a2,0,none⟩) 1 1]] w'' fun e w3=>e= .returned (.bool false)∧Below w''.heap.size w'' w3):=fun w' a1 a2 a3 a4 hb q1 q2 q3 q4 w'' hb2=>by
  refine (ssame_any (s:=s) (r:=spSw a1 a2 a3 a4) ((hin.below hb).below hb2) ((sp_in q1 q2 q3 q4).below hb2) hok sp_ok).mono ?_
  rintro e w3 ⟨b,rfl,hbt,hb3⟩
  cases b with
  |false=>exact ⟨rfl,hb3⟩
  |true=>exact absurd (hbt.1 rfl) (check_ne hck sp_check)
 have HSc:Hid (∀w',Calls Tryz.prog 19 #[] w' fun e w'' =>∃g1 g2 g3 g4,e= .returned (.agg #[.int .i64 2, .slice (some ⟨g1,0,none⟩) 1 1, .slice (some ⟨g2,0,none⟩) 1 1])∧(w'.heap.size≤g3∧g3<g4∧g4<g1∧g1<g2)∧w''.heap[g1]? =some (.cells (spTa g3) 27 (0,0))∧w''.heap[g2]? =some (.cells (spVa g4) 46 (0,0))∧w''.heap[g3]? =some (.cells spCa 24 (0,0))∧w''.heap[g4]? =some (.cells spNa 9 (0,0))∧Below w'.heap.size w' w''):=fun w' =>s00_any w'
 have HAw:Hid (∀w',Below W4.heap.size W4 w' →Calls Tryz.prog 15 #[] w' fun e w'' =>e= .returned (.bool true)∧Below w'.heap.size w' w''):=fun w' hb=>HA.out w' (hB4.trans (hb.mono hB4.size))
 obtain ⟨la,T,V,tv,vv⟩:=s
 unfold Sw.arr at *
 dsimp only at *
 obtain ⟨c0,c1,c2,cf⟩:=cells3 hbs
 clear hin hok hck HG HA
 go_upto_region 27 with fail
 go_region_law (first
  |(go_simp;go_at_call 17;refine (HC.out _ (by repeat (first|exact Below.refl _ _|refine Cz ?_))).mono ?_;rintro e w5 ⟨rfl,h5⟩;have hBox5:=aH h5 hbs;obtain ⟨c0,c1,c2,cf⟩:=cells3 hBox5)
  |(go_simp;go_at_call 19;refine (HSc.out _).mono ?_;rintro e w6 ⟨a1,a2,a3,a4,rfl,ha,q1,q2,q3,q4,h6⟩;have hBox6:=aH h6 hBox5;obtain ⟨d0,d1,d2,df⟩:=cells3 hBox6)
  |(go_simp;go_at_call 20;refine (HSm.out w6 a1 a2 a3 a4 (by with_reducible repeat (first|exact Below.refl _ _|refine Cz ?_|refine wm ?_ h6|refine wm ?_ h5)) q1 q2 q3 q4 _ (by repeat (first|exact Below.refl _ _|refine Cz ?_))).mono ?_;rintro e w7 ⟨rfl,h7⟩)
  |(go_simp;go_at_call 15;refine (HAw.out _ (by with_reducible repeat (first|exact Below.refl _ _|refine Cz ?_|refine wm ?_ h7|refine wm ?_ h6|refine wm ?_ h5))).mono ?_;rintro e w8 ⟨rfl,h8⟩))
 all_goals
  go_wp2_with fail
  go_ret
  refine ⟨rfl,hB4.trans (Below.mono (B:=W4.heap.size) ?_ hB4.size)⟩
  with_reducible repeat (first|exact Below.refl _ _|refine Cz ?_|refine wm ?_ h8|refine wm ?_ h7|refine wm ?_ h6|refine wm ?_ h5)
end Go.Proofs.YtnngbhpeeakfaaaGreatDoor
