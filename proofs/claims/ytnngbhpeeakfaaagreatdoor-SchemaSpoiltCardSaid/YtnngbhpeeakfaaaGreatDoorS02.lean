/- Plain: the schema of one table and one view, and what it becomes with one thing wrong. -/
import Derived.Test.YtnngbhpeeakfaaaGreatDoorB09
import Derived.Test.YtnngbhpeeakfaaaGreatDoorB13
import Derived.Test.YtnngbhpeeakfaaaGreatDoorB38
import Derived.Test.YtnngbhpeeakfaaaGreatDoorB42
namespace Go.Proofs.YtnngbhpeeakfaaaGreatDoor
namespace aK
def spC:List Cl:= [⟨(⟨#[97]⟩:ByteArray),1⟩,⟨(⟨#[98]⟩:ByteArray),1⟩,⟨(⟨#[99]⟩:ByteArray),1⟩,⟨(⟨#[100]⟩:ByteArray),1⟩]
def spT:Tb:=⟨(⟨#[116]⟩:ByteArray),1,⟨(⟨#[112]⟩:ByteArray),1⟩,⟨(⟨#[107]⟩:ByteArray),2⟩,spC⟩
def spV:Vw:=⟨(⟨#[118]⟩:ByteArray),2,(⟨#[116]⟩:ByteArray),(⟨#[97]⟩:ByteArray), [(⟨#[98]⟩:ByteArray),(⟨#[100]⟩:ByteArray)]⟩
def spS:Sc:=⟨2, [spT], [spV]⟩
theorem sp_check:spS.check=true:=by decide+kernel
theorem sp_0:(⟨1, [spT], [spV]⟩:Sc).check=false:=by decide+kernel
theorem sp_1:(⟨2, [{spT with id:=2}], [spV]⟩:Sc).check=false:=by decide+kernel
theorem sp_2:(⟨2, [{spT with name:=(⟨#[84]⟩:ByteArray)}], [spV]⟩:Sc).check=false:=by decide+kernel
theorem sp_3:(⟨2, [spT], [{spV with dA:=(⟨#[117]⟩:ByteArray)}]⟩:Sc).check=false:=by decide+kernel
theorem sp_4:(⟨2, [spT], [{spV with on:=(⟨#[107]⟩:ByteArray)}]⟩:Sc).check=false:=by decide+kernel
theorem sp_5:(⟨2, [spT], [{spV with aD:= [(⟨#[100]⟩:ByteArray),(⟨#[98]⟩:ByteArray)]}]⟩:Sc).check=false:=by decide+kernel
theorem sp_6:(⟨2, [spT], [{spV with aD:= [(⟨#[97]⟩:ByteArray)]}]⟩:Sc).check=false:=by decide+kernel
theorem sp_7:(⟨2, [{spT with aD:= [⟨(⟨#[97]⟩:ByteArray),1⟩,⟨(⟨#[97]⟩:ByteArray),1⟩,⟨(⟨#[99]⟩:ByteArray),1⟩,⟨(⟨#[100]⟩:ByteArray),1⟩]}], [spV]⟩:Sc).check=false:=by decide+kernel
theorem sp_9:(⟨2, [spT], [{spV with name:=(⟨#[116]⟩:ByteArray)}]⟩:Sc).check=false:=by decide+kernel
theorem sp_10:(⟨2, [spT,spT], [spV]⟩:Sc).check=false:=by decide+kernel
theorem tabF_bad {c:Cl}{l:List Cl}(h1:¬c.ty=1) (h2:¬c.ty=2):∀(m:List Cl) (seen:List ByteArray),AJ seen (m++c::l)=false
 | [],seen=>by simp [AJ,h1,h2]
 |d::m,seen=>by
  show (_&&AJ _ (m++c::l))=false
  rw [tabF_bad h1 h2 m,Bool.and_false]
theorem sp_8 (k:Int) (h:1≤k):(⟨2, [{spT with aD:= [⟨(⟨#[97]⟩:ByteArray),2+k⟩,⟨(⟨#[98]⟩:ByteArray),1⟩,⟨(⟨#[99]⟩:ByteArray),1⟩,⟨(⟨#[100]⟩:ByteArray),1⟩]}], [spV]⟩:Sc).check=false:=by
 have h0:Ik {spT with aD:= [⟨(⟨#[97]⟩:ByteArray),2+k⟩,⟨(⟨#[98]⟩:ByteArray),1⟩,⟨(⟨#[99]⟩:ByteArray),1⟩,⟨(⟨#[100]⟩:ByteArray),1⟩]}=false:=by
  have:=tabF_bad (c:=⟨(⟨#[97]⟩:ByteArray),2+k⟩) (l:= [⟨(⟨#[98]⟩:ByteArray),1⟩,⟨(⟨#[99]⟩:ByteArray),1⟩,⟨(⟨#[100]⟩:ByteArray),1⟩]) (show¬2+k=1 by omega) (show¬2+k=2 by omega) [⟨(⟨#[112]⟩:ByteArray),1⟩,⟨(⟨#[107]⟩:ByteArray),2⟩] []
  show (AJ [] ([⟨(⟨#[112]⟩:ByteArray),1⟩,⟨(⟨#[107]⟩:ByteArray),2⟩]++⟨(⟨#[97]⟩:ByteArray),2+k⟩:: [⟨(⟨#[98]⟩:ByteArray),1⟩,⟨(⟨#[99]⟩:ByteArray),1⟩,⟨(⟨#[100]⟩:ByteArray),1⟩])&&_)=false
  rw [this,Bool.false_and]
 show (_&&((Ik _&&_)&&true&&_))=false
 rw [h0]
 simp
theorem check_ne {a b:Sc}(h:a.check=false) (h2:b.check=true):¬a=b:=fun e=>by rw [e,h2]at h;exact Bool.noConfusion h
end aK
end Go.Proofs.YtnngbhpeeakfaaaGreatDoor
namespace Go.Proofs.YtnngbhpeeakfaaaGreatDoor
open Go.RowKit
open aK
theorem Tryz.rtC:FD Tryz.prog 24 2:=⟨⟨_,Tryz.underlying24,rfl⟩,by kernel_rfl⟩
end Go.Proofs.YtnngbhpeeakfaaaGreatDoor
namespace Go.Proofs.YtnngbhpeeakfaaaGreatDoor
open Go.RowKit
open aK
theorem results_two {P:Program}{fn:Func}{s r:Tmp}{T U:TypeId}{k l:Nat}{tm:Array Value}{b c:Nat}{V X:Array Value}{T' U' :TypeId}{w:World}(R:FD P T k) (S:FD P U l) (h:fn.results= #[.cell s T, .cell r U]) (hs:tm[s]? =some (.pointer (some ⟨b,0,none⟩))) (hr:tm[r]? =some (.pointer (some ⟨c,0,none⟩))) (hb:w.heap[b]? =some (.cells V T' (0,0))) (hc:w.heap[c]? =some (.cells X U' (0,0))) (hV:V.size=k) (hX:X.size=l):
 (results fn tm).run P w= .ok (.tuple #[.agg V, .agg X]) w:=by
 have hl:=V8 R hb hV
 have hm:=V8 S hc hX
 unfold results
 rw [h]
 simp [hs,hr,asAddr,hl,hm,Sem.run_bind,Result.andThen_ok]
theorem build_cl (s:ByteArray) (w:World):(Instr.build 24 #[(0, .string s),(1, .int .i64 1)]).run Tryz.prog w= .ok (.agg #[.string s, .int .i64 1]) w:=by kernel_rfl
set_option maxHeartbeats 1000000 in
theorem col_any (s:ByteArray) (w:World):
 Calls Tryz.prog 98 #[.string s] w fun e w' =>e= .returned (.agg #[.string s, .int .i64 1])∧Below w.heap.size w w' :=by
 have hB1:=(Below.refl w.heap.size w).alloc (Nat.le_refl _) (.cells #[.string ⟨#[]⟩, .int .i64 0] 24)
 have hb1:=aB w (.cells #[.string ⟨#[]⟩, .int .i64 0] 24)
 have hsz:=av w (.cells #[.string ⟨#[]⟩, .int .i64 0] 24)
 go_enter Tryz.func98,Tryz.ntmps98
 go_upto_region 1 with (fail)
 generalize (w.alloc (.cells _ 24))=W at *
 go_wp2_with (refine pJ Tryz.rtC rfl _ _ rfl rfl rfl hb1 rfl rfl rfl ?_;intro w9 Ej)
 refine bodyPost_ret (LG rfl rfl (V8 Tryz.rtC Ej.blk rfl)) rfl ?_
 exact ⟨rfl,Ej.below _ _ hB1 (Nat.le_refl _)⟩
def spTa (g:Nat):Array Value:= #[.string (⟨#[116]⟩:ByteArray), .int .i64 1, .string (⟨#[112]⟩:ByteArray), .int .i64 1, .string (⟨#[107]⟩:ByteArray), .int .i64 2, .slice (some ⟨g,0,none⟩) 4 4]
def spVa (g:Nat):Array Value:= #[.string (⟨#[118]⟩:ByteArray), .int .i64 2, .string (⟨#[116]⟩:ByteArray), .string (⟨#[97]⟩:ByteArray), .slice (some ⟨g,0,none⟩) 2 2]
def spCa:Array Value:= #[.string (⟨#[97]⟩:ByteArray), .int .i64 1, .string (⟨#[98]⟩:ByteArray), .int .i64 1, .string (⟨#[99]⟩:ByteArray), .int .i64 1, .string (⟨#[100]⟩:ByteArray), .int .i64 1]
def spNa:Array Value:= #[.string (⟨#[98]⟩:ByteArray), .string (⟨#[100]⟩:ByteArray)]
theorem build_sk (w:World):(Instr.build 24 #[(0, .string (⟨#[107]⟩:ByteArray)),(1, .int .i64 2)]).run Tryz.prog w= .ok (.agg #[.string (⟨#[107]⟩:ByteArray), .int .i64 2]) w:=by kernel_rfl
theorem build_spT (a:Option Addr) (n c:Nat) (w:World):(Instr.build 27 #[(0, .string (⟨#[116]⟩:ByteArray)),(1, .int .i64 1),(2, .agg #[.string (⟨#[112]⟩:ByteArray), .int .i64 1]),(3, .agg #[.string (⟨#[107]⟩:ByteArray), .int .i64 2]),(4, .slice a n c)]).run Tryz.prog w= .ok (.agg #[.string (⟨#[116]⟩:ByteArray), .int .i64 1, .string (⟨#[112]⟩:ByteArray), .int .i64 1, .string (⟨#[107]⟩:ByteArray), .int .i64 2, .slice a n c]) w:=by kernel_rfl
theorem build_spV (a:Option Addr) (n c:Nat) (w:World):(Instr.build 46 #[(0, .string (⟨#[118]⟩:ByteArray)),(1, .int .i64 2),(2, .string (⟨#[116]⟩:ByteArray)),(3, .string (⟨#[97]⟩:ByteArray)),(4, .slice a n c)]).run Tryz.prog w= .ok (.agg #[.string (⟨#[118]⟩:ByteArray), .int .i64 2, .string (⟨#[116]⟩:ByteArray), .string (⟨#[97]⟩:ByteArray), .slice a n c]) w:=by kernel_rfl
set_option maxRecDepth 100000 in
set_option maxHeartbeats 8000000 in
theorem v00_any (w:World):Calls Tryz.prog 40 #[] w fun e w' =>∃g3 g4,e= .returned (.tuple #[.agg (spTa g3), .agg (spVa g4)])∧w.heap.size≤g3∧g3<g4∧g4<w'.heap.size∧w'.heap[g3]? =some (.cells spCa 24 (0,0))∧w'.heap[g4]? =some (.cells spNa 9 (0,0))∧Below w.heap.size w w' :=by
 have hB1:=(Below.refl w.heap.size w).alloc (Nat.le_refl _) (.cells #[.string ⟨#[]⟩, .int .i64 0, .string ⟨#[]⟩, .int .i64 0, .string ⟨#[]⟩, .int .i64 0, .slice none 0 0] 27)
 have hB2:=hB1.alloc hB1.size (.cells #[.string ⟨#[]⟩, .int .i64 0, .string ⟨#[]⟩, .string ⟨#[]⟩, .slice none 0 0] 46)
 have hb1:=ay (aB w (.cells #[.string ⟨#[]⟩, .int .i64 0, .string ⟨#[]⟩, .int .i64 0, .string ⟨#[]⟩, .int .i64 0, .slice none 0 0] 27)) (.cells #[.string ⟨#[]⟩, .int .i64 0, .string ⟨#[]⟩, .string ⟨#[]⟩, .slice none 0 0] 46)
 have hb2:=aB (w.alloc (.cells #[.string ⟨#[]⟩, .int .i64 0, .string ⟨#[]⟩, .int .i64 0, .string ⟨#[]⟩, .int .i64 0, .slice none 0 0] 27)) (.cells #[.string ⟨#[]⟩, .int .i64 0, .string ⟨#[]⟩, .string ⟨#[]⟩, .slice none 0 0] 46)
 rw [av]at hb2
 have HC:Hid (∀s w',Calls Tryz.prog 98 #[.string s] w' fun e w'' =>e= .returned (.agg #[.string s, .int .i64 1])∧Below w'.heap.size w' w''):=col_any
 have hbk:=fun W=>build_sk W
 have hbt:=fun a n c W=>build_spT a n c W
 have hbv:=fun a n c W=>build_spV a n c W
 go_enter Tryz.func40,Tryz.ntmps40
 go_upto_region 1 with (fail)
 generalize ((w.alloc (.cells _ 27)).alloc _)=W at *
 have c1:=HC.out (⟨#[112]⟩:ByteArray) W
 go_wp2_with fail
 refine c1.mono ?_;rintro e w1 ⟨rfl,h1⟩
 have c2:=HC.out (⟨#[97]⟩:ByteArray) w1
 clear c1
 go_wp2_with fail
 refine c2.mono ?_;rintro e w2 ⟨rfl,h2⟩
 have c3:=HC.out (⟨#[98]⟩:ByteArray) w2
 clear c2
 go_wp2_with fail
 refine c3.mono ?_;rintro e w3 ⟨rfl,h3⟩
 have c4:=HC.out (⟨#[99]⟩:ByteArray) w3
 clear c3
 go_wp2_with fail
 refine c4.mono ?_;rintro e w4 ⟨rfl,h4⟩
 have c5:=HC.out (⟨#[100]⟩:ByteArray) w4
 clear c4
 go_wp2_with fail
 refine c5.mono ?_;rintro e w5 ⟨rfl,h5⟩
 have kU:=((((hB2.trans (h1.mono hB2.size)).trans (h2.mono (hB2.trans (h1.mono hB2.size)).size)).trans (h3.mono ((hB2.trans (h1.mono hB2.size)).trans (h2.mono (hB2.trans (h1.mono hB2.size)).size)).size)))
 have k1:=aH h5 (aH h4 (aH h3 (aH h2 (aH h1 hb1))))
 have k2:=aH h5 (aH h4 (aH h3 (aH h2 (aH h1 hb2))))
 have uf:=kU.trans (h4.mono kU.size)
 have Y0:=uf.trans (h5.mono uf.size)
 clear c5 hb1 hb2 h1 h2 h3 h4 h5 hB1 hB2 kU uf HC
 have hsa:=av w5 (.cells #[.string (⟨#[97]⟩:ByteArray), .int .i64 1, .string (⟨#[98]⟩:ByteArray), .int .i64 1, .string (⟨#[99]⟩:ByteArray), .int .i64 1, .string (⟨#[100]⟩:ByteArray), .int .i64 1] 24)
 have hr1:=aB w5 (.cells #[.string (⟨#[97]⟩:ByteArray), .int .i64 1, .string (⟨#[98]⟩:ByteArray), .int .i64 1, .string (⟨#[99]⟩:ByteArray), .int .i64 1, .string (⟨#[100]⟩:ByteArray), .int .i64 1] 24)
 have hB8:=Y0.alloc Y0.size (.cells #[.string (⟨#[97]⟩:ByteArray), .int .i64 1, .string (⟨#[98]⟩:ByteArray), .int .i64 1, .string (⟨#[99]⟩:ByteArray), .int .i64 1, .string (⟨#[100]⟩:ByteArray), .int .i64 1] 24)
 have k3:=ay k1 (.cells #[.string (⟨#[97]⟩:ByteArray), .int .i64 1, .string (⟨#[98]⟩:ByteArray), .int .i64 1, .string (⟨#[99]⟩:ByteArray), .int .i64 1, .string (⟨#[100]⟩:ByteArray), .int .i64 1] 24)
 have k4:=ay k2 (.cells #[.string (⟨#[97]⟩:ByteArray), .int .i64 1, .string (⟨#[98]⟩:ByteArray), .int .i64 1, .string (⟨#[99]⟩:ByteArray), .int .i64 1, .string (⟨#[100]⟩:ByteArray), .int .i64 1] 24)
 have El:=aB (w5.alloc (.cells #[.string (⟨#[97]⟩:ByteArray), .int .i64 1, .string (⟨#[98]⟩:ByteArray), .int .i64 1, .string (⟨#[99]⟩:ByteArray), .int .i64 1, .string (⟨#[100]⟩:ByteArray), .int .i64 1] 24)) (.cells #[.string (⟨#[116]⟩:ByteArray), .int .i64 1, .string (⟨#[112]⟩:ByteArray), .int .i64 1, .string (⟨#[107]⟩:ByteArray), .int .i64 2, .slice (some ⟨w5.heap.size,0,none⟩) 4 4] 27)
 rw [hsa]at El
 have KP:=ay hr1 (.cells #[.string (⟨#[116]⟩:ByteArray), .int .i64 1, .string (⟨#[112]⟩:ByteArray), .int .i64 1, .string (⟨#[107]⟩:ByteArray), .int .i64 2, .slice (some ⟨w5.heap.size,0,none⟩) 4 4] 27)
 have k5:=ay k3 (.cells #[.string (⟨#[116]⟩:ByteArray), .int .i64 1, .string (⟨#[112]⟩:ByteArray), .int .i64 1, .string (⟨#[107]⟩:ByteArray), .int .i64 2, .slice (some ⟨w5.heap.size,0,none⟩) 4 4] 27)
 have k6:=ay k4 (.cells #[.string (⟨#[116]⟩:ByteArray), .int .i64 1, .string (⟨#[112]⟩:ByteArray), .int .i64 1, .string (⟨#[107]⟩:ByteArray), .int .i64 2, .slice (some ⟨w5.heap.size,0,none⟩) 4 4] 27)
 have hB9:=hB8.alloc hB8.size (.cells #[.string (⟨#[116]⟩:ByteArray), .int .i64 1, .string (⟨#[112]⟩:ByteArray), .int .i64 1, .string (⟨#[107]⟩:ByteArray), .int .i64 2, .slice (some ⟨w5.heap.size,0,none⟩) 4 4] 27)
 have hl9:w5.heap.size+1+1≤((w5.alloc (.cells #[.string (⟨#[97]⟩:ByteArray), .int .i64 1, .string (⟨#[98]⟩:ByteArray), .int .i64 1, .string (⟨#[99]⟩:ByteArray), .int .i64 1, .string (⟨#[100]⟩:ByteArray), .int .i64 1] 24)).alloc (.cells #[.string (⟨#[116]⟩:ByteArray), .int .i64 1, .string (⟨#[112]⟩:ByteArray), .int .i64 1, .string (⟨#[107]⟩:ByteArray), .int .i64 2, .slice (some ⟨w5.heap.size,0,none⟩) 4 4] 27)).heap.size:=by rw [av,av];exact Nat.le_refl _
 have hw5:=Y0.size
 have hl5:=aG k2
 clear k1 k2 k3 k4 hr1 hB8 Y0
 go_upto_region 3 with (first|refine fq Tryz.Ac rfl _ _ rfl rfl rfl rfl rfl rfl rfl ?_|refine fq (b:=w5.heap.size+1) Tryz.Ac rfl _ _ rfl (av _ _).symm rfl rfl rfl rfl rfl ?_)
 generalize ((w5.alloc (.cells _ 24)).alloc _)=w9 at *
 have m0:=ay k5 (.cells #[.string (⟨#[98]⟩:ByteArray), .string (⟨#[100]⟩:ByteArray)] 9)
 have m1:=ay k6 (.cells #[.string (⟨#[98]⟩:ByteArray), .string (⟨#[100]⟩:ByteArray)] 9)
 have m2:=ay KP (.cells #[.string (⟨#[98]⟩:ByteArray), .string (⟨#[100]⟩:ByteArray)] 9)
 have m3:=aB w9 (.cells #[.string (⟨#[98]⟩:ByteArray), .string (⟨#[100]⟩:ByteArray)] 9)
 have hBa:=hB9.alloc hB9.size (.cells #[.string (⟨#[98]⟩:ByteArray), .string (⟨#[100]⟩:ByteArray)] 9)
 have hla:=av w9 (.cells #[.string (⟨#[98]⟩:ByteArray), .string (⟨#[100]⟩:ByteArray)] 9)
 have hn1:w.heap.size+1≠w.heap.size:=by omega
 have hl0:=aG k5
 have hl1:=aG k6
 go_wp2_with (first|refine cZ Tryz.Ac rfl _ rfl rfl rfl (dz El) ?_|(refine pJ Tryz.Ac rfl _ _ rfl rfl rfl m0 rfl rfl rfl ?_;intro wa ha;have m1a:=(ha.rest _ hn1).trans m1)|(refine pJ Tryz.Jf rfl _ _ rfl rfl rfl m1a rfl rfl rfl ?_;intro wb hb))
 refine bodyPost_ret (results_two Tryz.Ac Tryz.Jf rfl rfl rfl ((hb.rest _ hn1.symm).trans ha.blk) hb.blk rfl rfl) rfl ?_
 have hBb:=ha.below _ _ hBa (Nat.le_refl _)
 have SF:=hb.below _ _ hBb (by omega)
 refine ⟨w5.heap.size,w9.heap.size,rfl,by omega,by omega, ?_, ?_, ?_,SF⟩
 · have:=hb.size
   have:=ha.size
   omega
 · exact (hb.rest _ (by omega)).trans ((ha.rest _ (by omega)).trans m2)
 · exact (hb.rest _ (by omega)).trans ((ha.rest _ (by omega)).trans m3)
set_option maxRecDepth 100000 in
set_option maxHeartbeats 8000000 in
theorem s00_any (w:World):Calls Tryz.prog 19 #[] w fun e w' =>∃g1 g2 g3 g4,e= .returned (.agg #[.int .i64 2, .slice (some ⟨g1,0,none⟩) 1 1, .slice (some ⟨g2,0,none⟩) 1 1])∧(w.heap.size≤g3∧g3<g4∧g4<g1∧g1<g2)∧w'.heap[g1]? =some (.cells (spTa g3) 27 (0,0))∧w'.heap[g2]? =some (.cells (spVa g4) 46 (0,0))∧w'.heap[g3]? =some (.cells spCa 24 (0,0))∧w'.heap[g4]? =some (.cells spNa 9 (0,0))∧Below w.heap.size w w' :=by
 have hB1:=(Below.refl w.heap.size w).alloc (Nat.le_refl _) (.cells #[.int .i64 0, .slice none 0 0, .slice none 0 0] 31)
 have hb1:=aB w (.cells #[.int .i64 0, .slice none 0 0, .slice none 0 0] 31)
 have hbs:=fun l a b n c m d W=>Wq l a b n c m d W
 go_enter Tryz.func19,Tryz.ntmps19
 go_upto_region 1 with (fail)
 generalize (w.alloc (.cells _ 31))=W at *
 have hv:=v00_any W
 go_wp2_with fail
 refine hv.mono ?_;rintro e w1 ⟨g3,g4,rfl,h3,h34,h4,r3,r4,hw1⟩
 have hB2:=hB1.trans (hw1.mono hB1.size)
 have k1:=aH hw1 hb1
 have hWs:=aG hb1
 have hl1:=aG k1
 have n0:=ay (aB w1 (.cells #[.string ⟨#[]⟩, .int .i64 0, .string ⟨#[]⟩, .int .i64 0, .string ⟨#[]⟩, .int .i64 0, .slice none 0 0] 27)) (.cells #[.string ⟨#[]⟩, .int .i64 0, .string ⟨#[]⟩, .string ⟨#[]⟩, .slice none 0 0] 46)
 have n1:=aB (w1.alloc (.cells #[.string ⟨#[]⟩, .int .i64 0, .string ⟨#[]⟩, .int .i64 0, .string ⟨#[]⟩, .int .i64 0, .slice none 0 0] 27)) (.cells #[.string ⟨#[]⟩, .int .i64 0, .string ⟨#[]⟩, .string ⟨#[]⟩, .slice none 0 0] 46)
 rw [av]at n1
 have k2:=ay (ay k1 (.cells #[.string ⟨#[]⟩, .int .i64 0, .string ⟨#[]⟩, .int .i64 0, .string ⟨#[]⟩, .int .i64 0, .slice none 0 0] 27)) (.cells #[.string ⟨#[]⟩, .int .i64 0, .string ⟨#[]⟩, .string ⟨#[]⟩, .slice none 0 0] 46)
 have q3:=ay (ay r3 (.cells #[.string ⟨#[]⟩, .int .i64 0, .string ⟨#[]⟩, .int .i64 0, .string ⟨#[]⟩, .int .i64 0, .slice none 0 0] 27)) (.cells #[.string ⟨#[]⟩, .int .i64 0, .string ⟨#[]⟩, .string ⟨#[]⟩, .slice none 0 0] 46)
 have q4:=ay (ay r4 (.cells #[.string ⟨#[]⟩, .int .i64 0, .string ⟨#[]⟩, .int .i64 0, .string ⟨#[]⟩, .int .i64 0, .slice none 0 0] 27)) (.cells #[.string ⟨#[]⟩, .int .i64 0, .string ⟨#[]⟩, .string ⟨#[]⟩, .slice none 0 0] 46)
 have hB3:=hB2.alloc hB2.size (.cells #[.string ⟨#[]⟩, .int .i64 0, .string ⟨#[]⟩, .int .i64 0, .string ⟨#[]⟩, .int .i64 0, .slice none 0 0] 27)
 have hB4:=hB3.alloc hB3.size (.cells #[.string ⟨#[]⟩, .int .i64 0, .string ⟨#[]⟩, .string ⟨#[]⟩, .slice none 0 0] 46)
 have hne:w1.heap.size+1≠w1.heap.size:=by omega
 have hs4:((w1.alloc (.cells #[.string ⟨#[]⟩, .int .i64 0, .string ⟨#[]⟩, .int .i64 0, .string ⟨#[]⟩, .int .i64 0, .slice none 0 0] 27)).alloc (.cells #[.string ⟨#[]⟩, .int .i64 0, .string ⟨#[]⟩, .string ⟨#[]⟩, .slice none 0 0] 46)).heap.size=w1.heap.size+1+1:=by rw [av,av]
 unfold spTa spVa
 clear hv hb1 r3 r4 k1 hB1 hB2 hB3 hw1
 go_upto_region 2 with (first|(refine pJ Tryz.Ac rfl _ _ rfl rfl rfl n0 rfl rfl rfl ?_;intro wa ha;have n1a:=(ha.rest _ hne).trans n1)|(refine pJ Tryz.Jf rfl _ _ rfl rfl rfl n1a rfl rfl rfl ?_;intro wb hb))
 have hBa:=ha.below _ _ hB4 (by omega)
 have hBb:=hb.below _ _ hBa (by omega)
 have pT:=(hb.rest _ hne.symm).trans ha.blk
 have pV:=ay hb.blk (.cells #[.string (⟨#[116]⟩:ByteArray), .int .i64 1, .string (⟨#[112]⟩:ByteArray), .int .i64 1, .string (⟨#[107]⟩:ByteArray), .int .i64 2, .slice (some ⟨g3,0,none⟩) 4 4] 27)
 have hsb:wb.heap.size=w1.heap.size+1+1:=by rw [hb.size,ha.size,hs4]
 have k3:=(hb.rest _ (show w.heap.size≠w1.heap.size+1 by omega)).trans ((ha.rest _ (show w.heap.size≠w1.heap.size by omega)).trans k2)
 have s3:=(hb.rest _ (show g3≠w1.heap.size+1 by omega)).trans ((ha.rest _ (show g3≠w1.heap.size by omega)).trans q3)
 have s4:=(hb.rest _ (show g4≠w1.heap.size+1 by omega)).trans ((ha.rest _ (show g4≠w1.heap.size by omega)).trans q4)
 have k4:=ay (ay k3 (.cells #[.string (⟨#[116]⟩:ByteArray), .int .i64 1, .string (⟨#[112]⟩:ByteArray), .int .i64 1, .string (⟨#[107]⟩:ByteArray), .int .i64 2, .slice (some ⟨g3,0,none⟩) 4 4] 27)) (.cells #[.string (⟨#[118]⟩:ByteArray), .int .i64 2, .string (⟨#[116]⟩:ByteArray), .string (⟨#[97]⟩:ByteArray), .slice (some ⟨g4,0,none⟩) 2 2] 46)
 have t3:=ay (ay s3 (.cells #[.string (⟨#[116]⟩:ByteArray), .int .i64 1, .string (⟨#[112]⟩:ByteArray), .int .i64 1, .string (⟨#[107]⟩:ByteArray), .int .i64 2, .slice (some ⟨g3,0,none⟩) 4 4] 27)) (.cells #[.string (⟨#[118]⟩:ByteArray), .int .i64 2, .string (⟨#[116]⟩:ByteArray), .string (⟨#[97]⟩:ByteArray), .slice (some ⟨g4,0,none⟩) 2 2] 46)
 have t4:=ay (ay s4 (.cells #[.string (⟨#[116]⟩:ByteArray), .int .i64 1, .string (⟨#[112]⟩:ByteArray), .int .i64 1, .string (⟨#[107]⟩:ByteArray), .int .i64 2, .slice (some ⟨g3,0,none⟩) 4 4] 27)) (.cells #[.string (⟨#[118]⟩:ByteArray), .int .i64 2, .string (⟨#[116]⟩:ByteArray), .string (⟨#[97]⟩:ByteArray), .slice (some ⟨g4,0,none⟩) 2 2] 46)
 have t1:=ay (aB wb (.cells #[.string (⟨#[116]⟩:ByteArray), .int .i64 1, .string (⟨#[112]⟩:ByteArray), .int .i64 1, .string (⟨#[107]⟩:ByteArray), .int .i64 2, .slice (some ⟨g3,0,none⟩) 4 4] 27)) (.cells #[.string (⟨#[118]⟩:ByteArray), .int .i64 2, .string (⟨#[116]⟩:ByteArray), .string (⟨#[97]⟩:ByteArray), .slice (some ⟨g4,0,none⟩) 2 2] 46)
 have t2:=aB (wb.alloc (.cells #[.string (⟨#[116]⟩:ByteArray), .int .i64 1, .string (⟨#[112]⟩:ByteArray), .int .i64 1, .string (⟨#[107]⟩:ByteArray), .int .i64 2, .slice (some ⟨g3,0,none⟩) 4 4] 27)) (.cells #[.string (⟨#[118]⟩:ByteArray), .int .i64 2, .string (⟨#[116]⟩:ByteArray), .string (⟨#[97]⟩:ByteArray), .slice (some ⟨g4,0,none⟩) 2 2] 46)
 have hsz:=av wb (.cells #[.string (⟨#[116]⟩:ByteArray), .int .i64 1, .string (⟨#[112]⟩:ByteArray), .int .i64 1, .string (⟨#[107]⟩:ByteArray), .int .i64 2, .slice (some ⟨g3,0,none⟩) 4 4] 27)
 rw [hsz]at t2
 rw [hsb]at t1 t2
 have SF:=hBb.alloc hBb.size (.cells #[.string (⟨#[116]⟩:ByteArray), .int .i64 1, .string (⟨#[112]⟩:ByteArray), .int .i64 1, .string (⟨#[107]⟩:ByteArray), .int .i64 2, .slice (some ⟨g3,0,none⟩) 4 4] 27)
 have hBd:=SF.alloc SF.size (.cells #[.string (⟨#[118]⟩:ByteArray), .int .i64 2, .string (⟨#[116]⟩:ByteArray), .string (⟨#[97]⟩:ByteArray), .slice (some ⟨g4,0,none⟩) 2 2] 46)
 have hbn:=hb.blk
 clear k2 k3 n0 n1 n1a q3 q4 s3 s4 ha hb hBa hBb SF
 go_wp2_with (first|refine cZ Tryz.Ac rfl _ rfl rfl rfl (dz pT) ?_|refine cZ Tryz.Jf rfl _ rfl rfl rfl (dz pV) ?_|(refine pJ Tryz.ug rfl _ _ rfl rfl rfl k4 rfl rfl rfl ?_;intro wc hc))
 refine bodyPost_ret (LG rfl rfl (V8 Tryz.ug hc.blk rfl)) rfl ?_
 exact ⟨w1.heap.size+1+1,w1.heap.size+1+1+1,g3,g4,rfl,by omega,(hc.rest _ (by omega)).trans t1,(hc.rest _ (by omega)).trans t2,(hc.rest _ (by omega)).trans t3,(hc.rest _ (by omega)).trans t4,hc.below _ _ hBd (Nat.le_refl _)⟩
end Go.Proofs.YtnngbhpeeakfaaaGreatDoor
namespace Go.Proofs.YtnngbhpeeakfaaaGreatDoor
open Go.RowKit
open aK
theorem Rd.blk {w:World}{g n c:Nat}{A:Array Value}{T:TypeId}{xs:List Value}(h:w.heap[g]? =some (.cells A T (0,0))) (hx:A.toList=xs):Rd w (.slice (some ⟨g,0,none⟩) n c) n xs:=
 ⟨_,_,rfl,fun _=>⟨g,0,rfl,fun k v hk=>by rw [Nat.zero_add,aj h,←Array.getElem?_toList,hx];exact hk⟩⟩
def sqSw (l:Int) (t:Tb) (u:Vw) (g1 g2 g3 g4 c3 c4:Nat):Sw:=⟨l, [⟨t, .slice (some ⟨g3,0,none⟩) t.aD.length c3⟩], [⟨u, .slice (some ⟨g4,0,none⟩) u.aD.length c4⟩], .slice (some ⟨g1,0,none⟩) 1 1, .slice (some ⟨g2,0,none⟩) 1 1⟩
theorem sq_in {w:World}{l:Int}{t:Tb}{u:Vw}{g1 g2 g3 g4 c3 c4:Nat}{A1 A2 A3 A4:Array Value}{T1 T2 T3 T4:TypeId}(h1:w.heap[g1]? =some (.cells A1 T1 (0,0))) (h2:w.heap[g2]? =some (.cells A2 T2 (0,0))) (h3:w.heap[g3]? =some (.cells A3 T3 (0,0))) (h4:w.heap[g4]? =some (.cells A4 T4 (0,0)))
 (e1:A1=(Tw.mk t (.slice (some ⟨g3,0,none⟩) t.aD.length c3)).arr) (e2:A2=(Vv.mk u (.slice (some ⟨g4,0,none⟩) u.aD.length c4)).arr) (e3:A3.toList=gH t.aD) (e4:A4.toList=u.aD.map Value.string):pK w (sqSw l t u g1 g2 g3 g4 c3 c4):=
 ⟨Rd.blk h1 (by rw [e1];exact (List.append_nil _).symm),Rd.blk h2 (by rw [e2];exact (List.append_nil _).symm),fun q hq=>by rw [List.mem_singleton.1 hq];exact Rd.blk h3 e3,fun q hq=>by rw [List.mem_singleton.1 hq];exact Rd.blk h4 e4⟩
theorem cl_ok {t:List Cl}(h:∀q∈t.map Cl.name,q.size≤1000000):∀q∈t,q.name.size≤1000000:=fun _q hq=>h _ (List.mem_map_of_mem hq)
theorem spT_ok (i:Int) (hi:0≤i∧i≤10) (n:ByteArray) (hn:n.size≤10) (l:List Cl) (hl:∀q∈l.map Cl.name,q.size≤1000000) (hk:l.length≤900):FE ⟨n,i,⟨(⟨#[112]⟩:ByteArray),1⟩,⟨(⟨#[107]⟩:ByteArray),2⟩,l⟩:=
 ⟨by show n.size≤_;omega,⟨by show _≤i;omega,by show i≤_;omega⟩,by show ((⟨#[112]⟩:ByteArray)).size≤_;decide,by show ((⟨#[107]⟩:ByteArray)).size≤_;decide,cl_ok hl,hk⟩
theorem sc_ok {l:Int}{t:Tb}{u:Vw}(ht:FE t) (hu:abA u):FH ⟨l, [t], [u]⟩:=
 ⟨fun q hq=>by rw [List.mem_singleton.1 hq];exact ht,fun q hq=>by rw [List.mem_singleton.1 hq];exact hu,by show (1:Nat)≤100;decide,by show (1:Nat)≤100;decide⟩
theorem spV_ok (n o p:ByteArray) (hn:n.size≤10) (l:List ByteArray) (hk:l.length≤900):abA ⟨n,2,o,p,l⟩:=
 ⟨by show n.size≤_;omega,⟨by show (-9223372036854775808:Int)≤2;decide,by show (2:Int)≤9223372036854775807;decide⟩,hk⟩
theorem spT_ok0:FE spT:=spT_ok 1 (by decide) _ (by decide) _ (by decide) (by decide)
theorem spV_ok0:abA spV:=spV_ok _ _ _ (by decide) _ (by decide)
def spSw (g1 g2 g3 g4:Nat):Sw:=sqSw 2 spT spV g1 g2 g3 g4 4 2
theorem sp_in {w:World}{g1 g2 g3 g4:Nat}{T1 T2 T3 T4:TypeId}(h1:w.heap[g1]? =some (.cells (spTa g3) T1 (0,0))) (h2:w.heap[g2]? =some (.cells (spVa g4) T2 (0,0))) (h3:w.heap[g3]? =some (.cells spCa T3 (0,0))) (h4:w.heap[g4]? =some (.cells spNa T4 (0,0))):pK w (spSw g1 g2 g3 g4):=
 sq_in h1 h2 h3 h4 rfl rfl rfl rfl
theorem sp_ok:FH spS:=sc_ok spT_ok0 spV_ok0
theorem sc_ok2:FH ⟨2, [spT,spT], [spV]⟩:=
 ⟨fun q hq=>by
  simp only [List.mem_cons,List.not_mem_nil,or_false,or_self]at hq
  rw [hq];exact spT_ok0,fun q hq=>by rw [List.mem_singleton.1 hq];exact spV_ok0,by decide,by decide⟩
structure SqB (w:World) (n b g1 g2 g3 g4:Nat) (l:Int) (A1 A2 A3 A4:Array Value):Prop where
 hb:w.heap[b]? =some (.cells #[.int .i64 l, .slice (some ⟨g1,0,none⟩) 1 1, .slice (some ⟨g2,0,none⟩) 1 1] 31 (0,0))
 h1:w.heap[g1]? =some (.cells A1 27 (0,0))
 h2:w.heap[g2]? =some (.cells A2 46 (0,0))
 h3:w.heap[g3]? =some (.cells A3 24 (0,0))
 h4:w.heap[g4]? =some (.cells A4 9 (0,0))
 o:n≤g3∧g3<g4∧g4<g1∧g1<g2∧g2<b
section
variable {w w' :World}{n b g1 g2 g3 g4:Nat}{l:Int}{A1 A2 A3 A4:Array Value}
theorem SqB.call (h:SqB w n b g1 g2 g3 g4 l A1 A2 A3 A4) (hb:Below w.heap.size w w'):SqB w' n b g1 g2 g3 g4 l A1 A2 A3 A4:=
 ⟨aH hb h.hb,aH hb h.h1,aH hb h.h2,aH hb h.h3,aH hb h.h4,h.o⟩
theorem SqB.alloc (h:SqB w n b g1 g2 g3 g4 l A1 A2 A3 A4) (x:Obj):SqB (w.alloc x) n b g1 g2 g3 g4 l A1 A2 A3 A4:=h.call ((Below.refl _ _).alloc (Nat.le_refl _) x)
theorem SqB.drew (h:SqB w n b g1 g2 g3 g4 l A1 A2 A3 A4):SqB w.drew n b g1 g2 g3 g4 l A1 A2 A3 A4:=⟨h.hb,h.h1,h.h2,h.h3,h.h4,h.o⟩
theorem SqB.set0 (h:SqB w n b g1 g2 g3 g4 l A1 A2 A3 A4) (k:Int):SqB (w.setCell ⟨b,0,none⟩ (.int .i64 k)) n b g1 g2 g3 g4 k A1 A2 A3 A4:=by
 obtain ⟨h0,h1,h2,h3,h4,o⟩:=h
 exact ⟨by rw [bG h0 0 _];rfl,bg h1 _ _ (by show g1≠b;omega),bg h2 _ _ (by show g2≠b;omega),bg h3 _ _ (by show g3≠b;omega),bg h4 _ _ (by show g4≠b;omega),o⟩
theorem SqB.set1 (h:SqB w n b g1 g2 g3 g4 l A1 A2 A3 A4) (j:Nat) (v:Value):SqB (w.setCell ⟨g1,j,none⟩ v) n b g1 g2 g3 g4 l (A1.setIfInBounds j v) A2 A3 A4:=by
 obtain ⟨h0,h1,h2,h3,h4,o⟩:=h
 exact ⟨bg h0 _ _ (by show b≠g1;omega),bG h1 j v,bg h2 _ _ (by show g2≠g1;omega),bg h3 _ _ (by show g3≠g1;omega),bg h4 _ _ (by show g4≠g1;omega),o⟩
theorem SqB.set2 (h:SqB w n b g1 g2 g3 g4 l A1 A2 A3 A4) (j:Nat) (v:Value):SqB (w.setCell ⟨g2,j,none⟩ v) n b g1 g2 g3 g4 l A1 (A2.setIfInBounds j v) A3 A4:=by
 obtain ⟨h0,h1,h2,h3,h4,o⟩:=h
 exact ⟨bg h0 _ _ (by show b≠g2;omega),bg h1 _ _ (by show g1≠g2;omega),bG h2 j v,bg h3 _ _ (by show g3≠g2;omega),bg h4 _ _ (by show g4≠g2;omega),o⟩
theorem SqB.set3 (h:SqB w n b g1 g2 g3 g4 l A1 A2 A3 A4) (j:Nat) (v:Value):SqB (w.setCell ⟨g3,j,none⟩ v) n b g1 g2 g3 g4 l A1 A2 (A3.setIfInBounds j v) A4:=by
 obtain ⟨h0,h1,h2,h3,h4,o⟩:=h
 exact ⟨bg h0 _ _ (by show b≠g3;omega),bg h1 _ _ (by show g1≠g3;omega),bg h2 _ _ (by show g2≠g3;omega),bG h3 j v,bg h4 _ _ (by show g4≠g3;omega),o⟩
def Spoilt (n b:Nat) (w0 w:World):Prop:=∃s:Sw,w.heap[b]? =some (.cells s.arr 31 (0,0))∧pK w s∧FH s.x∧s.x.check=false∧Below n w0 w
end
end Go.Proofs.YtnngbhpeeakfaaaGreatDoor
