/- Parts of a proof. -/
import Derived.Deep.RegionHeld3
import Derived.Test.YtcgadodckoalnaaGreatDoorB25
set_option maxHeartbeats 8000000
set_option maxRecDepth 100000
namespace Go.Proofs.YtcgadodckoalnaaGreatDoor
open Go.Proofs.Tryz
open Go.RowKit
open aN
theorem Vj {w:World}{x:Sx}{tc c s wv pv:Value}(hk:x.kind=2) (hG:Gp w) (hok:gB x) (hin:iJ w x tc c s wv) (hpv:pv.oneCell' =true):
 Calls prog 14 #[.agg (aG x tc c s wv pv)] w fun e w' =>e= .returned (.string (aF (uH x)))∧Below w.heap.size w w' :=by
 have hone:=hin.one hpv;have hB1:=(Below.refl w.heap.size w).alloc (Nat.le_refl _) (.cells (aG x tc c s wv pv) 31);have hbl:(w.alloc (.cells (aG x tc c s wv pv) 31)).heap[w.heap.size]? =some (.cells (aG x tc c s wv pv) 31 (0,0)):=aA w _;have hof:=pY (w:=w.alloc (.cells (aG x tc c s wv pv) 31)) x tc c s wv pv;have hkv:fD x.kind (aG x tc c s wv pv)= .iface 58 (.agg (aG x tc c s wv pv)):=by unfold fD;rw [hk];rfl
 rw [hkv]at hof;clear hkv;obtain ⟨Js,vo⟩:∃r,aF (fZ x.aI)=r:=⟨_,rfl⟩;have L9:Js.size≤200000600:=by rw [←vo];exact lN (Nat.le_trans hok.aI.1 (by decide)) hok.aI.2
 obtain ⟨Jk,eJk⟩:∃r,dF (⟨#[44,32]⟩:ah) ((⟨x.on,Tm.zero⟩::x.aH).map Pr.name)=r:=⟨_,rfl⟩;have hnm:∀q∈(⟨x.on,Tm.zero⟩::x.aH:List Pr).map Pr.name,q.size≤2000000:=by intro q hq;rcases List.mem_cons.1 hq with rfl|hq;exact hok.on;obtain ⟨r,hr,rfl⟩:=List.mem_map.1 hq;exact (hok.aH.2 r hr).2
 have hln:(⟨x.on,Tm.zero⟩::x.aH:List Pr).length≤100:=by have:=hok.Ij;simp;omega
 have zJk:Jk.size≤100*2000004:=by
  rw [←eJk];have:=iB (⟨#[44,32]⟩:ah) ((⟨x.on,Tm.zero⟩::x.aH:List Pr).map Pr.name) 2000000 hnm;rw [List.length_map]at this;exact Nat.le_trans this (Nat.mul_le_mul hln (by decide))
 have nJ:((⟨#[67,82,69,65,84,69,32,77,65,84,69,82,73,65,76,73,90,69,68,32,86,73,69,87,32]⟩:ah)).size≤25:=by decide
 obtain ⟨A1,nK,LZ,nO⟩:=aM nJ (show (x.name).size≤2000000 from hok.name) (by decide);obtain ⟨A2,pF,Oq,pG⟩:=aM nO (show ((⟨#[32,65,83,32,83,69,76,69,67,84,32]⟩:ah)).size≤11 from by decide) (by decide);obtain ⟨A3,pI,Ot,pJ⟩:=aM pG (show (Js).size≤200000600 from L9) (by decide);obtain ⟨A4,pK,Ou,pO⟩:=aM pJ (show ((⟨#[32,70,82,79,77,32]⟩:ah)).size≤6 from by decide) (by decide);obtain ⟨A5,pQ,Ov,sj⟩:=aM pO (show (x.bT).size≤2000000 from hok.bT) (by decide);obtain ⟨A6,Cz,Ah6,EK⟩:=aM sj (show ((⟨#[32,87,72,69,82,69,32]⟩:ah)).size≤7 from by decide) (by decide);obtain ⟨A7,Kn,Ah7,Pm⟩:=aM EK (show (x.on).size≤2000000 from hok.on) (by decide);obtain ⟨A8,Ae8,Ah8,Az8⟩:=aM Pm (show ((⟨#[32,73,83,32,78,79,84,32,78,85,76,76,32,80,82,73,77,65,82,89,32,75,69,89,32,40]⟩:ah)).size≤26 from by decide) (by decide);obtain ⟨A9,Ae9,Ah9,Az9⟩:=aM Az8 (show (Jk).size≤200000400 from zJk) (by decide);obtain ⟨A10,af5,alb,ahX⟩:=aM Az9 (show ((⟨#[41]⟩:ah)).size≤1 from by decide) (by decide)
 have HE:Hid (A10=aF (uH x)):=by
  show _=_;rw [←af5,←Ae9,←Ae8,←Kn,←Cz,←pQ,←pK,←pI,←pF,←nK,←eJk,←vo];unfold uH;rw [bq,bq,bq,bq,←iQ,iI,←LP];apply ByteArray.ext;apply Array.ext';simp [aF,Pc.text]
 clear nK pF pI pK pQ Cz Kn Ae8 Ae9 af5;clear nJ nO pG pJ pO sj EK Pm Az8 Az9 ahX;clear zJk L9;have HC:=Lib.hid (fun (wq:World) (Bb:Below w.heap.size w wq)=>And.intro (hG.below Bb) (hin.below Bb));have HNM:=Lib.hid hnm;have HLN:=Lib.hid hln;have HJ:=Lib.hid eJk;have HJs:=Lib.hid vo;have HTL:Hid (x.aH.length≤90):=hok.Ij;have Ao:=Lib.hid hok;clear eJk vo hnm hln hok hin hG hk;have Gt:=abn;have yH:=Jj;go_enter func14,ntmps14;go_wp2_with (refine aT rfl _ rfl rfl rfl hbl ?_);refine hof.mono ?_;rintro e w2 ⟨rfl,hb2⟩;have hB2:=hB1.trans (hb2.mono hB1.size);have hV:(w2.alloc (.cells (aG x tc c s wv pv) 58)).heap[w2.heap.size]? =some (.cells (aG x tc c s wv pv) 58 (0,0)):=aA w2 _;have hB3:=hB2.alloc hB2.size (.cells (aG x tc c s wv pv) 58);have m3:=(aK hV).2.2.2.1;have m13:=(aK hV).2.2.2.2.2.2.2.2.2.2.2.2.2.1;have hs0:=av w2 (.cells (aG x tc c s wv pv) 58);have hlit:=sN (w2.alloc (.cells (aG x tc c s wv pv) 58)) [.string x.on, .int .i64 0, .string ⟨#[]⟩, .int .i64 0] 62 1 4 (w2.heap.size+1) rfl (by decide) (Nat.le_of_eq hs0.symm);rw [hs0]at hlit;have AA:=hB3.alloc hB3.size (.cells #[.string x.on, .int .i64 0, .string ⟨#[]⟩, .int .i64 0] 62);have ahY:((w2.alloc (.cells (aG x tc c s wv pv) 58)).alloc (.cells #[.string x.on, .int .i64 0, .string ⟨#[]⟩, .int .i64 0] 62)).cell? ⟨w2.heap.size,13,none⟩=some wv:=by rw [au (aC hV _)];rfl
 have hrd:=((HC.out _ AA).2).wv;have HT9:=HTL.out;go_wp2_with (first|refine nI abk rfl _ _ rfl rfl rfl rfl rfl hone ?_|(at_builtin;refine af0 Tryz.vV rfl _ _ rfl (w2.heap.size+1) _ _ _ rfl hlit _ _ _ rfl hrd (Vi _) (Vg _) (by omega) (Nat.le_of_lt (by rw [av,hs0];omega)) ?_;intro a6 c6 wq h6 Wo));have QU:=aC hV (.cells #[.string x.on, .int .i64 0, .string ⟨#[]⟩, .int .i64 0] 62);have hW0:=(Wo.block _ (aD QU) (fun e=>by have:=(hlit.lt _ e.symm).1;omega)).trans QU;have Bb:=below_app AA AA.size Wo (fun g2 hg2=>by have:=(hlit.lt g2 hg2).1;have:=hB2.size;omega);have d0:wq.cell? ⟨w2.heap.size,1,none⟩=some (.string x.name):=by rw [au hW0];rfl
 have d1:wq.cell? ⟨w2.heap.size,2,none⟩=some (.string x.bT):=by rw [au hW0];rfl
 have d2:wq.cell? ⟨w2.heap.size,3,none⟩=some (.string x.on):=by rw [au hW0];rfl
 have d3:wq.cell? ⟨w2.heap.size,11,none⟩=some c:=by rw [au hW0];rfl
 have hrow:Rd wq (.slice a6 (⟨x.on,Tm.zero⟩::x.aH:List Pr).length c6) (⟨x.on,Tm.zero⟩::x.aH:List Pr).length (dI (⟨x.on,Tm.zero⟩::x.aH)):=by
  have e:(⟨x.on,Tm.zero⟩::x.aH:List Pr).length=1+x.aH.length:=by simp;omega
  rw [e];exact Rd.own h6
 have HJk:Hid (∀(w' :World),Below wq.heap.size wq w' →Calls prog 32 #[.slice a6 (1+x.aH.length) c6, .string (⟨#[44,32]⟩:ah), .func (.func 33) #[] #[]] w' (fun e w'' =>e= .returned (.string Jk)∧Below w'.heap.size w' w'')):=fun w' hB' =>by
  rw [←HJ.out];have e:(⟨x.on,Tm.zero⟩::x.aH:List Pr).length=1+x.aH.length:=by simp;omega
  have:=YT (T:=Pr.name) (sep:=(⟨#[44,32]⟩:ah)) HLN.out (hrow.below hB') (fun q _ w'' _=>EH q w'') (by
   have:=iB (⟨#[44,32]⟩:ah) ((⟨x.on,Tm.zero⟩::x.aH:List Pr).map Pr.name) 2000000 HNM.out;rw [List.length_map]at this;exact Nat.le_trans this (Nat.le_trans (Nat.mul_le_mul HLN.out (Nat.le_refl _)) (by decide)))
  rw [e]at this;exact this
 have ahZ:Hid (∀(w' :World),Below wq.heap.size wq w' →Calls prog 31 #[c] w' (fun e w'' =>e= .returned (.string Js)∧Below w'.heap.size w' w'')):=fun w' hB' =>by
  rw [←HJs.out];exact zh (Nat.le_trans Ao.out.aI.1 (by decide)) (((HC.out wq Bb).2).c.below hB') Ao.out.aI.2
 clear HC HNM HLN HJ HTL Ao hof hbl hB1 hb2 hB2 hone Gt yH hB3 AA hV hs0 ahY hlit hrd HT9 QU hW0 hrow h6 Wo m3 m13;go_wp2_with fail;have hS:Below wq.heap.size wq wq∧wq.cell? ⟨w2.heap.size,1,none⟩=some (.string x.name)∧wq.cell? ⟨w2.heap.size,2,none⟩=some (.string x.bT)∧wq.cell? ⟨w2.heap.size,3,none⟩=some (.string x.on)∧wq.cell? ⟨w2.heap.size,11,none⟩=some (c):=⟨Below.refl _ _,d0,d1,d2,d3⟩
 go_region_held3 (fun w' =>Below wq.heap.size wq w' ∧w'.cell? ⟨w2.heap.size,1,none⟩=some (.string x.name)∧w'.cell? ⟨w2.heap.size,2,none⟩=some (.string x.bT)∧w'.cell? ⟨w2.heap.size,3,none⟩=some (.string x.on)∧w'.cell? ⟨w2.heap.size,11,none⟩=some (c)) (first|exact LY (by assumption) af6|exact LY (by assumption) ah0|exact ⟨(Below.refl _ _).drew,d0,d1,d2,d3⟩)
  (first
  |(go_at_call 31;with_reducible refine (ahZ.out _ (And.left (by assumption))).mono ?_;rintro e ald ⟨rfl,af6⟩)
  |(go_at_call 32;with_reducible refine (HJk.out _ (And.left (by assumption))).mono ?_;rintro e wJk ⟨rfl,ah0⟩))
 go_wp2_with fail;go_ret;rw [←HE.out];exact ⟨rfl,Bb.trans (Below.mono (And.left (by assumption)) Bb.size)⟩
end Go.Proofs.YtcgadodckoalnaaGreatDoor
