/- Parts of a proof. -/
import Derived.Deep.RegionHeld3
import Derived.Test.YtcgadodckoalnaaGreatDoorB22
set_option maxHeartbeats 8000000
set_option maxRecDepth 100000
namespace Go.Proofs.YtcgadodckoalnaaGreatDoor
open Go.Proofs.Tryz
open Go.RowKit
open aN
theorem Vd {w:World}{x:Sx}{tc c s wv pv:Value}(hl0:x.limit=0) (hk:x.kind=8) (hG:Gp w) (hok:gB x) (hin:iJ w x tc c s wv) (hpv:pv.oneCell' =true):
 Calls prog 14 #[.agg (aG x tc c s wv pv)] w fun e w' =>e= .returned (.string (aF (zx x)))∧Below w.heap.size w w' :=by
 have hone:=hin.one hpv;have hB1:=(Below.refl w.heap.size w).alloc (Nat.le_refl _) (.cells (aG x tc c s wv pv) 31);have hbl:(w.alloc (.cells (aG x tc c s wv pv) 31)).heap[w.heap.size]? =some (.cells (aG x tc c s wv pv) 31 (0,0)):=aA w _;have hof:=pY (w:=w.alloc (.cells (aG x tc c s wv pv) 31)) x tc c s wv pv;have hkv:fD x.kind (aG x tc c s wv pv)= .iface 74 (.agg (aG x tc c s wv pv)):=by unfold fD;rw [hk];rfl
 rw [hkv]at hof;clear hkv;obtain ⟨Js,vo⟩:∃r,aF (fZ x.aI)=r:=⟨_,rfl⟩;have L9:Js.size≤200000600:=by rw [←vo];exact lN (Nat.le_trans hok.aI.1 (by decide)) hok.aI.2
 obtain ⟨Jw,mM⟩:∃r,aF (eF x.aH)=r:=⟨_,rfl⟩;have CF:Jw.size≤800004000:=by rw [←mM];exact pE hok.aH
 have nJ:((⟨#[83,69,76,69,67,84,32]⟩:ah)).size≤7:=by decide
 obtain ⟨A1,nK,LZ,nO⟩:=aM nJ (show (Js).size≤200000600 from L9) (by decide);obtain ⟨A2,pF,Oq,pG⟩:=aM nO (show ((⟨#[32,70,82,79,77,32]⟩:ah)).size≤6 from by decide) (by decide);obtain ⟨A3,pI,Ot,pJ⟩:=aM pG (show (x.bT).size≤2000000 from hok.bT) (by decide);obtain ⟨A4,pK,Ou,pO⟩:=aM pJ (show (Jw).size≤800004000 from CF) (by decide);obtain ⟨A5,pQ,Ov,sj⟩:=aM pO (show ((⟨#[]⟩:ah)).size≤0 from by decide) (by decide)
 have HE:Hid (A5=aF (zx x)):=by
  show _=_;rw [←pQ,←pK,←pI,←pF,←nK,←vo,←mM];unfold zx;rw [if_pos hl0];apply ByteArray.ext;apply Array.ext';simp [bq,aF,Pc.text]
 clear nK pF pI pK pQ;clear nJ nO pG pJ pO sj;clear L9 CF;have HC:=Lib.hid (fun (wq:World) (Bb:Below w.heap.size w wq)=>And.intro (hG.below Bb) (hin.below Bb));have Ao:=Lib.hid hok;have HJ:Hid (aF (fZ x.aI)=Js∧aF (eF x.aH)=Jw):=⟨vo,mM⟩;clear vo mM hok hin hG hk;have Gt:=Y4;have yH:=Cv;have AB:=EI;have CB:=Cw;have DY:=EJ;have Im:=zM;have Ma:=zN;have Y7:=zO;go_enter func14,ntmps14;go_wp2_with (refine aT rfl _ rfl rfl rfl hbl ?_);refine hof.mono ?_;rintro e w2 ⟨rfl,hb2⟩;have hB2:=hB1.trans (hb2.mono hB1.size);have hV:(w2.alloc (.cells (aG x tc c s wv pv) 74)).heap[w2.heap.size]? =some (.cells (aG x tc c s wv pv) 74 (0,0)):=aA w2 _;have hB3:=hB2.alloc hB2.size (.cells (aG x tc c s wv pv) 74);have m16:=(aK hV).2.2.2.2.2.2.2.2.2.2.2.2.2.2.2.2.1;have p0:(x.limit !=0)=false:=by rw [hl0];rfl
 clear hl0;go_wp2_with (refine nI Y0 rfl _ _ rfl rfl rfl rfl rfl hone ?_);obtain ⟨wq,hwq⟩:∃wq,wq=w2.alloc (.cells (aG x tc c s wv pv) 74):=⟨_,rfl⟩;rw [←hwq]at hV hB3⊢;clear hwq;obtain ⟨I8,tX⟩:=HC.out wq hB3;have hok:=Ao.out;obtain ⟨vo,mM⟩:=HJ.out;have HJs:Hid (∀(w' :World),Below wq.heap.size wq w' →Calls prog 31 #[c] w' (fun e w'' =>e= .returned (.string Js)∧Below w'.heap.size w' w'')):=fun w' hB' =>by rw [←vo];exact zh (Nat.le_trans hok.aI.1 (by decide)) (tX.c.below hB') hok.aI.2
 have HJw:Hid (∀(w' :World),Below wq.heap.size wq w' →Calls prog 38 #[wv] w' (fun e w'' =>e= .returned (.string Jw)∧Below w'.heap.size w' w'')):=fun w' hB' =>by rw [←mM];exact rQ (I8.below hB') hok.aH (tX.wv.below hB')
 clear I8 tX hok vo mM;clear HC Ao HJ hof hbl hB1 hb2 hB2 hone Gt yH AB CB DY Im Ma Y7;have d2:wq.cell? ⟨w2.heap.size,2,none⟩=some (.string x.bT):=(aK hV).2.2.1;have uV:wq.cell? ⟨w2.heap.size,11,none⟩=some (c):=(aK hV).2.2.2.2.2.2.2.2.2.2.2.1;have qE:wq.cell? ⟨w2.heap.size,13,none⟩=some (wv):=(aK hV).2.2.2.2.2.2.2.2.2.2.2.2.2.1;have hS:Below wq.heap.size wq wq∧wq.cell? ⟨w2.heap.size,2,none⟩=some (.string x.bT)∧wq.cell? ⟨w2.heap.size,11,none⟩=some (c)∧wq.cell? ⟨w2.heap.size,13,none⟩=some (wv):=⟨Below.refl _ _,d2,uV,qE⟩
 go_region_held3 (fun w' =>Below wq.heap.size wq w' ∧w'.cell? ⟨w2.heap.size,2,none⟩=some (.string x.bT)∧w'.cell? ⟨w2.heap.size,11,none⟩=some (c)∧w'.cell? ⟨w2.heap.size,13,none⟩=some (wv)) (first|exact Y6 (by assumption) adT|exact Y6 (by assumption) L6|exact ⟨(Below.refl _ _).drew,d2,uV,qE⟩)
  (first
  |(go_at_call 31;with_reducible refine (HJs.out _ (And.left (by assumption))).mono ?_;rintro e wJs ⟨rfl,adT⟩)
  |(go_at_call 38;with_reducible refine (HJw.out _ (And.left (by assumption))).mono ?_;rintro e wJw ⟨rfl,L6⟩))
 go_wp2_with fail;go_ret;rw [←HE.out];exact ⟨rfl,hB3.trans (Below.mono (And.left (by assumption)) hB3.size)⟩
theorem Ve {w:World}{x:Sx}{tc c s wv pv:Value}(hl0:¬x.limit=0) (hk:x.kind=8) (hG:Gp w) (hok:gB x) (hin:iJ w x tc c s wv) (hpv:pv.oneCell' =true):
 Calls prog 14 #[.agg (aG x tc c s wv pv)] w fun e w' =>e= .returned (.string (aF (zx x)))∧Below w.heap.size w w' :=by
 have hone:=hin.one hpv;have hB1:=(Below.refl w.heap.size w).alloc (Nat.le_refl _) (.cells (aG x tc c s wv pv) 31);have hbl:(w.alloc (.cells (aG x tc c s wv pv) 31)).heap[w.heap.size]? =some (.cells (aG x tc c s wv pv) 31 (0,0)):=aA w _;have hof:=pY (w:=w.alloc (.cells (aG x tc c s wv pv) 31)) x tc c s wv pv;have hkv:fD x.kind (aG x tc c s wv pv)= .iface 74 (.agg (aG x tc c s wv pv)):=by unfold fD;rw [hk];rfl
 rw [hkv]at hof;clear hkv;obtain ⟨Js,vo⟩:∃r,aF (fZ x.aI)=r:=⟨_,rfl⟩;have L9:Js.size≤200000600:=by rw [←vo];exact lN (Nat.le_trans hok.aI.1 (by decide)) hok.aI.2
 obtain ⟨Jw,mM⟩:∃r,aF (eF x.aH)=r:=⟨_,rfl⟩;have CF:Jw.size≤800004000:=by rw [←mM];exact pE hok.aH
 obtain ⟨Ji,eJi⟩:∃r,gY x.limit=r:=⟨_,rfl⟩;have zJi:Ji.size≤21:=by rw [←eJi];exact o9 _ hok.limit
 have hPa:=cZ (⟨#[32,76,73,77,73,84,32]⟩:ah) Ji (by show 7+_≤_;omega);obtain ⟨P,eP⟩:∃r,(⟨#[32,76,73,77,73,84,32]⟩:ah)++Ji=r:=⟨_,rfl⟩;have zP:P.size≤28:=by rw [←eP,ByteArray.size_append];show 7+_≤_;omega
 rw [eP]at hPa;have nJ:((⟨#[83,69,76,69,67,84,32]⟩:ah)).size≤7:=by decide
 obtain ⟨A1,nK,LZ,nO⟩:=aM nJ (show (Js).size≤200000600 from L9) (by decide);obtain ⟨A2,pF,Oq,pG⟩:=aM nO (show ((⟨#[32,70,82,79,77,32]⟩:ah)).size≤6 from by decide) (by decide);obtain ⟨A3,pI,Ot,pJ⟩:=aM pG (show (x.bT).size≤2000000 from hok.bT) (by decide);obtain ⟨A4,pK,Ou,pO⟩:=aM pJ (show (Jw).size≤800004000 from CF) (by decide);obtain ⟨A5,pQ,Ov,sj⟩:=aM pO (show (P).size≤28 from zP) (by decide)
 have HE:Hid (A5=aF (zx x)):=by
  show _=_;rw [←pQ,←pK,←pI,←pF,←nK,←vo,←mM,←eP,←eJi];unfold zx;rw [if_neg hl0];apply ByteArray.ext;apply Array.ext';simp [bq,aF,Pc.text]
 clear nK pF pI pK pQ;clear nJ nO pG pJ pO sj;clear L9 CF;have HC:=Lib.hid (fun (wq:World) (Bb:Below w.heap.size w wq)=>And.intro (hG.below Bb) (hin.below Bb));have Ao:=Lib.hid hok;have HJ:Hid (aF (fZ x.aI)=Js∧aF (eF x.aH)=Jw):=⟨vo,mM⟩;clear vo mM hok hin hG hk;have Gt:=Y4;have yH:=Cv;have AB:=EI;have CB:=Cw;have DY:=EJ;have Im:=zM;have Ma:=zN;have Y7:=zO;go_enter func14,ntmps14;go_wp2_with (refine aT rfl _ rfl rfl rfl hbl ?_);refine hof.mono ?_;rintro e w2 ⟨rfl,hb2⟩;have hB2:=hB1.trans (hb2.mono hB1.size);have hV:(w2.alloc (.cells (aG x tc c s wv pv) 74)).heap[w2.heap.size]? =some (.cells (aG x tc c s wv pv) 74 (0,0)):=aA w2 _;have hB3:=hB2.alloc hB2.size (.cells (aG x tc c s wv pv) 74);have m16:=(aK hV).2.2.2.2.2.2.2.2.2.2.2.2.2.2.2.2.1;have p0:(x.limit !=0)=true:=bne_iff_ne.2 hl0;clear hl0;obtain ⟨hG0,abr⟩:=HC.out _ hB3;have hok:=Ao.out;have hmid:Calls prog 39 #[.int .i64 x.limit] (w2.alloc (.cells (aG x tc c s wv pv) 74)) fun e w'' =>e= .returned (.string Ji)∧Below (w2.alloc (.cells (aG x tc c s wv pv) 74)).heap.size (w2.alloc (.cells (aG x tc c s wv pv) 74)) w'' :=by rw [←eJi];exact Cq x.limit hok.limit.1 hok.limit.2 _ hG0
 clear eJi eP zP zJi;clear hG0 abr hok;go_wp2_with (refine nI Y0 rfl _ _ rfl rfl rfl rfl rfl hone ?_);refine hmid.mono ?_;rintro e wq ⟨rfl,hbq⟩;replace hV:=aZ hV hbq (aD hV);replace hB3:=hB3.trans (hbq.mono hB3.size);go_wp2_with fail;obtain ⟨I8,tX⟩:=HC.out wq hB3;have hok:=Ao.out;obtain ⟨vo,mM⟩:=HJ.out;have HJs:Hid (∀(w' :World),Below wq.heap.size wq w' →Calls prog 31 #[c] w' (fun e w'' =>e= .returned (.string Js)∧Below w'.heap.size w' w'')):=fun w' hB' =>by rw [←vo];exact zh (Nat.le_trans hok.aI.1 (by decide)) (tX.c.below hB') hok.aI.2
 have HJw:Hid (∀(w' :World),Below wq.heap.size wq w' →Calls prog 38 #[wv] w' (fun e w'' =>e= .returned (.string Jw)∧Below w'.heap.size w' w'')):=fun w' hB' =>by rw [←mM];exact rQ (I8.below hB') hok.aH (tX.wv.below hB')
 clear I8 tX hok vo mM;clear HC Ao HJ hof hbl hB1 hb2 hB2 hone Gt yH AB CB DY Im Ma Y7;have d2:wq.cell? ⟨w2.heap.size,2,none⟩=some (.string x.bT):=(aK hV).2.2.1;have uV:wq.cell? ⟨w2.heap.size,11,none⟩=some (c):=(aK hV).2.2.2.2.2.2.2.2.2.2.2.1;have qE:wq.cell? ⟨w2.heap.size,13,none⟩=some (wv):=(aK hV).2.2.2.2.2.2.2.2.2.2.2.2.2.1;have hS:Below wq.heap.size wq wq∧wq.cell? ⟨w2.heap.size,2,none⟩=some (.string x.bT)∧wq.cell? ⟨w2.heap.size,11,none⟩=some (c)∧wq.cell? ⟨w2.heap.size,13,none⟩=some (wv):=⟨Below.refl _ _,d2,uV,qE⟩
 go_region_held3 (fun w' =>Below wq.heap.size wq w' ∧w'.cell? ⟨w2.heap.size,2,none⟩=some (.string x.bT)∧w'.cell? ⟨w2.heap.size,11,none⟩=some (c)∧w'.cell? ⟨w2.heap.size,13,none⟩=some (wv)) (first|exact Y6 (by assumption) adT|exact Y6 (by assumption) L6|exact ⟨(Below.refl _ _).drew,d2,uV,qE⟩)
  (first
  |(go_at_call 31;with_reducible refine (HJs.out _ (And.left (by assumption))).mono ?_;rintro e wJs ⟨rfl,adT⟩)
  |(go_at_call 38;with_reducible refine (HJw.out _ (And.left (by assumption))).mono ?_;rintro e wJw ⟨rfl,L6⟩))
 go_wp2_with fail;go_ret;rw [←HE.out];exact ⟨rfl,hB3.trans (Below.mono (And.left (by assumption)) hB3.size)⟩
end Go.Proofs.YtcgadodckoalnaaGreatDoor
