/- Parts of a proof. -/
import Derived.Deep.RegionHeld3
import Derived.Test.YtnngbhpeeakfaaaGreatDoorB23
set_option maxHeartbeats 8000000
set_option maxRecDepth 100000
namespace Go.Proofs.YtnngbhpeeakfaaaGreatDoor
open Go.Proofs.Tryz
open Go.RowKit
open aK
theorem Ro {w:World}{x:Sx}{tc c s wv pv:Value}(hl0:x.limit=0) (hk:x.kind=8) (hG:Gp w) (hok:iG x) (hin:kL w x tc c s wv) (hpv:pv.oneCell' =true):
 Calls prog 68 #[.agg (aP x tc c s wv pv)] w fun e w' =>e= .returned (.string (aW (Hu x)))∧Below w.heap.size w w' :=by
 have hone:=hin.one hpv;have hB1:=(Below.refl w.heap.size w).alloc (Nat.le_refl _) (.cells (aP x tc c s wv pv) 39);have hbl:(w.alloc (.cells (aP x tc c s wv pv) 39)).heap[w.heap.size]? =some (.cells (aP x tc c s wv pv) 39 (0,0)):=aB w _;have hof:=nI (w:=w.alloc (.cells (aP x tc c s wv pv) 39)) x tc c s wv pv;have hkv:dZ x.kind (aP x tc c s wv pv)= .iface 218 (.agg (aP x tc c s wv pv)):=by unfold dZ;rw [hk];rfl
 rw [hkv]at hof;clear hkv;obtain ⟨Js,Ch⟩:∃r,aW (jo x.aD)=r:=⟨_,rfl⟩;have WJ:Js.size≤200000600:=by rw [←Ch];exact mR (Nat.le_trans hok.aD.1 (by decide)) hok.aD.2
 obtain ⟨Jw,sW⟩:∃r,aW (eX x.aO)=r:=⟨_,rfl⟩;have Pf:Jw.size≤800004000:=by rw [←sW];exact nD hok.aO
 have wO:((⟨#[83,69,76,69,67,84,32]⟩:ah)).size≤7:=by decide
 obtain ⟨A1,wP,WH,xP⟩:=bE wO (show (Js).size≤200000600 from WJ) (by decide);obtain ⟨A2,zG,Yv,zH⟩:=bE xP (show ((⟨#[32,70,82,79,77,32]⟩:ah)).size≤6 from by decide) (by decide);obtain ⟨A3,zI,Yw,zJ⟩:=bE zH (show (x.dA).size≤2000000 from hok.dA) (by decide);obtain ⟨A4,zK,Yx,zL⟩:=bE zJ (show (Jw).size≤800004000 from Pf) (by decide);obtain ⟨A5,zM,Yy,Ez⟩:=bE zL (show ((⟨#[]⟩:ah)).size≤0 from by decide) (by decide)
 have HE:Hid (A5=aW (Hu x)):=by
  show _=_;rw [←zM,←zK,←zI,←zG,←wP,←Ch,←sW];unfold Hu;rw [if_pos hl0];apply ByteArray.ext;apply Array.ext';simp [bM,aW,Pc.text]
 clear wP zG zI zK zM;clear wO xP zH zJ zL Ez;clear WJ Pf;have HC:=Lib.hid (fun (wq:World) (vI:Below w.heap.size w wq)=>And.intro (hG.below vI) (hin.below vI));have xD:=Lib.hid hok;have HJ:Hid (aW (jo x.aD)=Js∧aW (eX x.aO)=Jw):=⟨Ch,sW⟩;clear Ch sW hok hin hG hk;have Dr:=VO;have vH:=zD;have xQ:=BM;have zN:=zF;have Ba:=BN;have EA:=wL;have I6:=wM;have VU:=wN;go_enter func68,ntmps68;go_wp2_with (refine bK rfl _ rfl rfl rfl hbl ?_);refine hof.mono ?_;rintro e w2 ⟨rfl,hb2⟩;have hB2:=hB1.trans (hb2.mono hB1.size);have hV:(w2.alloc (.cells (aP x tc c s wv pv) 218)).heap[w2.heap.size]? =some (.cells (aP x tc c s wv pv) 218 (0,0)):=aB w2 _;have hB3:=hB2.alloc hB2.size (.cells (aP x tc c s wv pv) 218);have m16:=(bn hV).2.2.2.2.2.2.2.2.2.2.2.2.2.2.2.2.1;have p0:(x.limit !=0)=false:=by rw [hl0];rfl
 clear hl0;go_wp2_with (refine lT VJ rfl _ _ rfl rfl rfl rfl rfl hone ?_);obtain ⟨wq,hwq⟩:∃wq,wq=w2.alloc (.cells (aP x tc c s wv pv) 218):=⟨_,rfl⟩;rw [←hwq]at hV hB3⊢;clear hwq;obtain ⟨EX,qB⟩:=HC.out wq hB3;have hok:=xD.out;obtain ⟨Ch,sW⟩:=HJ.out;have HJs:Hid (∀(w' :World),Below wq.heap.size wq w' →Calls prog 130 #[c] w' (fun e w'' =>e= .returned (.string Js)∧Below w'.heap.size w' w'')):=fun w' hB' =>by rw [←Ch];exact vY (Nat.le_trans hok.aD.1 (by decide)) (qB.c.below hB') hok.aD.2
 have Yz:Hid (∀(w' :World),Below wq.heap.size wq w' →Calls prog 137 #[wv] w' (fun e w'' =>e= .returned (.string Jw)∧Below w'.heap.size w' w'')):=fun w' hB' =>by rw [←sW];exact pE (EX.below hB') hok.aO (qB.wv.below hB')
 clear EX qB hok Ch sW;clear HC xD HJ hof hbl hB1 hb2 hB2 hone Dr vH xQ zN Ba EA I6 VU;have d2:wq.cell? ⟨w2.heap.size,2,none⟩=some (.string x.dA):=(bn hV).2.2.1;have zQ:wq.cell? ⟨w2.heap.size,11,none⟩=some (c):=(bn hV).2.2.2.2.2.2.2.2.2.2.2.1;have tO:wq.cell? ⟨w2.heap.size,13,none⟩=some (wv):=(bn hV).2.2.2.2.2.2.2.2.2.2.2.2.2.1;have hS:Below wq.heap.size wq wq∧wq.cell? ⟨w2.heap.size,2,none⟩=some (.string x.dA)∧wq.cell? ⟨w2.heap.size,11,none⟩=some (c)∧wq.cell? ⟨w2.heap.size,13,none⟩=some (wv):=⟨Below.refl _ _,d2,zQ,tO⟩
 go_region_held3 (fun w' =>Below wq.heap.size wq w' ∧w'.cell? ⟨w2.heap.size,2,none⟩=some (.string x.dA)∧w'.cell? ⟨w2.heap.size,11,none⟩=some (c)∧w'.cell? ⟨w2.heap.size,13,none⟩=some (wv)) (first|exact VQ (by assumption) abk|exact VQ (by assumption) I4|exact ⟨(Below.refl _ _).drew,d2,zQ,tO⟩)
  (first
  |(go_at_call 130;with_reducible refine (HJs.out _ (And.left (by assumption))).mono ?_;rintro e wJs ⟨rfl,abk⟩)
  |(go_at_call 137;with_reducible refine (Yz.out _ (And.left (by assumption))).mono ?_;rintro e wJw ⟨rfl,I4⟩))
 go_wp2_with fail;go_ret;rw [←HE.out];exact ⟨rfl,hB3.trans (Below.mono (And.left (by assumption)) hB3.size)⟩
theorem Rp {w:World}{x:Sx}{tc c s wv pv:Value}(hl0:¬x.limit=0) (hk:x.kind=8) (hG:Gp w) (hok:iG x) (hin:kL w x tc c s wv) (hpv:pv.oneCell' =true):
 Calls prog 68 #[.agg (aP x tc c s wv pv)] w fun e w' =>e= .returned (.string (aW (Hu x)))∧Below w.heap.size w w' :=by
 have hone:=hin.one hpv;have hB1:=(Below.refl w.heap.size w).alloc (Nat.le_refl _) (.cells (aP x tc c s wv pv) 39);have hbl:(w.alloc (.cells (aP x tc c s wv pv) 39)).heap[w.heap.size]? =some (.cells (aP x tc c s wv pv) 39 (0,0)):=aB w _;have hof:=nI (w:=w.alloc (.cells (aP x tc c s wv pv) 39)) x tc c s wv pv;have hkv:dZ x.kind (aP x tc c s wv pv)= .iface 218 (.agg (aP x tc c s wv pv)):=by unfold dZ;rw [hk];rfl
 rw [hkv]at hof;clear hkv;obtain ⟨Js,Ch⟩:∃r,aW (jo x.aD)=r:=⟨_,rfl⟩;have WJ:Js.size≤200000600:=by rw [←Ch];exact mR (Nat.le_trans hok.aD.1 (by decide)) hok.aD.2
 obtain ⟨Jw,sW⟩:∃r,aW (eX x.aO)=r:=⟨_,rfl⟩;have Pf:Jw.size≤800004000:=by rw [←sW];exact nD hok.aO
 obtain ⟨Ji,eJi⟩:∃r,kr x.limit=r:=⟨_,rfl⟩;have zJi:Ji.size≤21:=by rw [←eJi];exact lS _ hok.limit
 have hPa:=fU (⟨#[32,76,73,77,73,84,32]⟩:ah) Ji (by show 7+_≤_;omega);obtain ⟨P,eP⟩:∃r,(⟨#[32,76,73,77,73,84,32]⟩:ah)++Ji=r:=⟨_,rfl⟩;have zP:P.size≤28:=by rw [←eP,ByteArray.size_append];show 7+_≤_;omega
 rw [eP]at hPa;have wO:((⟨#[83,69,76,69,67,84,32]⟩:ah)).size≤7:=by decide
 obtain ⟨A1,wP,WH,xP⟩:=bE wO (show (Js).size≤200000600 from WJ) (by decide);obtain ⟨A2,zG,Yv,zH⟩:=bE xP (show ((⟨#[32,70,82,79,77,32]⟩:ah)).size≤6 from by decide) (by decide);obtain ⟨A3,zI,Yw,zJ⟩:=bE zH (show (x.dA).size≤2000000 from hok.dA) (by decide);obtain ⟨A4,zK,Yx,zL⟩:=bE zJ (show (Jw).size≤800004000 from Pf) (by decide);obtain ⟨A5,zM,Yy,Ez⟩:=bE zL (show (P).size≤28 from zP) (by decide)
 have HE:Hid (A5=aW (Hu x)):=by
  show _=_;rw [←zM,←zK,←zI,←zG,←wP,←Ch,←sW,←eP,←eJi];unfold Hu;rw [if_neg hl0];apply ByteArray.ext;apply Array.ext';simp [bM,aW,Pc.text]
 clear wP zG zI zK zM;clear wO xP zH zJ zL Ez;clear WJ Pf;have HC:=Lib.hid (fun (wq:World) (vI:Below w.heap.size w wq)=>And.intro (hG.below vI) (hin.below vI));have xD:=Lib.hid hok;have HJ:Hid (aW (jo x.aD)=Js∧aW (eX x.aO)=Jw):=⟨Ch,sW⟩;clear Ch sW hok hin hG hk;have Dr:=VO;have vH:=zD;have xQ:=BM;have zN:=zF;have Ba:=BN;have EA:=wL;have I6:=wM;have VU:=wN;go_enter func68,ntmps68;go_wp2_with (refine bK rfl _ rfl rfl rfl hbl ?_);refine hof.mono ?_;rintro e w2 ⟨rfl,hb2⟩;have hB2:=hB1.trans (hb2.mono hB1.size);have hV:(w2.alloc (.cells (aP x tc c s wv pv) 218)).heap[w2.heap.size]? =some (.cells (aP x tc c s wv pv) 218 (0,0)):=aB w2 _;have hB3:=hB2.alloc hB2.size (.cells (aP x tc c s wv pv) 218);have m16:=(bn hV).2.2.2.2.2.2.2.2.2.2.2.2.2.2.2.2.1;have p0:(x.limit !=0)=true:=bne_iff_ne.2 hl0;clear hl0;obtain ⟨hG0,YA⟩:=HC.out _ hB3;have hok:=xD.out;have hmid:Calls prog 39 #[.int .i64 x.limit] (w2.alloc (.cells (aP x tc c s wv pv) 218)) fun e w'' =>e= .returned (.string Ji)∧Below (w2.alloc (.cells (aP x tc c s wv pv) 218)).heap.size (w2.alloc (.cells (aP x tc c s wv pv) 218)) w'' :=by rw [←eJi];exact vD x.limit hok.limit.1 hok.limit.2 _ hG0
 clear eJi eP zP zJi;clear hG0 YA hok;go_wp2_with (refine lT VJ rfl _ _ rfl rfl rfl rfl rfl hone ?_);refine hmid.mono ?_;rintro e wq ⟨rfl,hbq⟩;replace hV:=bf hV hbq (aG hV);replace hB3:=hB3.trans (hbq.mono hB3.size);go_wp2_with fail;obtain ⟨EX,qB⟩:=HC.out wq hB3;have hok:=xD.out;obtain ⟨Ch,sW⟩:=HJ.out;have HJs:Hid (∀(w' :World),Below wq.heap.size wq w' →Calls prog 130 #[c] w' (fun e w'' =>e= .returned (.string Js)∧Below w'.heap.size w' w'')):=fun w' hB' =>by rw [←Ch];exact vY (Nat.le_trans hok.aD.1 (by decide)) (qB.c.below hB') hok.aD.2
 have Yz:Hid (∀(w' :World),Below wq.heap.size wq w' →Calls prog 137 #[wv] w' (fun e w'' =>e= .returned (.string Jw)∧Below w'.heap.size w' w'')):=fun w' hB' =>by rw [←sW];exact pE (EX.below hB') hok.aO (qB.wv.below hB')
 clear EX qB hok Ch sW;clear HC xD HJ hof hbl hB1 hb2 hB2 hone Dr vH xQ zN Ba EA I6 VU;have d2:wq.cell? ⟨w2.heap.size,2,none⟩=some (.string x.dA):=(bn hV).2.2.1;have zQ:wq.cell? ⟨w2.heap.size,11,none⟩=some (c):=(bn hV).2.2.2.2.2.2.2.2.2.2.2.1;have tO:wq.cell? ⟨w2.heap.size,13,none⟩=some (wv):=(bn hV).2.2.2.2.2.2.2.2.2.2.2.2.2.1;have hS:Below wq.heap.size wq wq∧wq.cell? ⟨w2.heap.size,2,none⟩=some (.string x.dA)∧wq.cell? ⟨w2.heap.size,11,none⟩=some (c)∧wq.cell? ⟨w2.heap.size,13,none⟩=some (wv):=⟨Below.refl _ _,d2,zQ,tO⟩
 go_region_held3 (fun w' =>Below wq.heap.size wq w' ∧w'.cell? ⟨w2.heap.size,2,none⟩=some (.string x.dA)∧w'.cell? ⟨w2.heap.size,11,none⟩=some (c)∧w'.cell? ⟨w2.heap.size,13,none⟩=some (wv)) (first|exact VQ (by assumption) abk|exact VQ (by assumption) I4|exact ⟨(Below.refl _ _).drew,d2,zQ,tO⟩)
  (first
  |(go_at_call 130;with_reducible refine (HJs.out _ (And.left (by assumption))).mono ?_;rintro e wJs ⟨rfl,abk⟩)
  |(go_at_call 137;with_reducible refine (Yz.out _ (And.left (by assumption))).mono ?_;rintro e wJw ⟨rfl,I4⟩))
 go_wp2_with fail;go_ret;rw [←HE.out];exact ⟨rfl,hB3.trans (Below.mono (And.left (by assumption)) hB3.size)⟩
end Go.Proofs.YtnngbhpeeakfaaaGreatDoor
