/- Parts of a proof. -/
import Derived.Deep.RegionHeld3
import Derived.Test.YtnngbhpeeakfaaaGreatDoorB23
import Derived.Test.YtnngbhpeeakfaaaGreatDoorB24
import Derived.Test.YtnngbhpeeakfaaaGreatDoorB25
import Derived.Test.YtnngbhpeeakfaaaGreatDoorB26
import Derived.Test.YtnngbhpeeakfaaaGreatDoorB27
set_option maxHeartbeats 8000000
set_option maxRecDepth 100000
namespace Go.Proofs.YtnngbhpeeakfaaaGreatDoor
open Go.Proofs.Tryz
open Go.RowKit
open aK
theorem Rt {w:World}{x:Sx}{tc c s wv pv:Value}(hk:x.kind=2) (hG:Gp w) (hok:iG x) (hin:kL w x tc c s wv) (hpv:pv.oneCell' =true):
 Calls prog 68 #[.agg (aP x tc c s wv pv)] w fun e w' =>e= .returned (.string (aW (Bq x)))∧Below w.heap.size w w' :=by
 have hone:=hin.one hpv;have hB1:=(Below.refl w.heap.size w).alloc (Nat.le_refl _) (.cells (aP x tc c s wv pv) 39);have hbl:(w.alloc (.cells (aP x tc c s wv pv) 39)).heap[w.heap.size]? =some (.cells (aP x tc c s wv pv) 39 (0,0)):=aB w _;have hof:=nI (w:=w.alloc (.cells (aP x tc c s wv pv) 39)) x tc c s wv pv;have hkv:dZ x.kind (aP x tc c s wv pv)= .iface 206 (.agg (aP x tc c s wv pv)):=by unfold dZ;rw [hk];rfl
 rw [hkv]at hof;clear hkv;obtain ⟨Js,Ch⟩:∃r,aW (jo x.aD)=r:=⟨_,rfl⟩;have WJ:Js.size≤200000600:=by rw [←Ch];exact mR (Nat.le_trans hok.aD.1 (by decide)) hok.aD.2
 obtain ⟨Jk,eJk⟩:∃r,dh (⟨#[44,32]⟩:ah) ((⟨x.on,Tm.zero⟩::x.aO).map Pr.name)=r:=⟨_,rfl⟩;have hnm:∀q∈(⟨x.on,Tm.zero⟩::x.aO:List Pr).map Pr.name,q.size≤2000000:=by intro q hq;rcases List.mem_cons.1 hq with rfl|hq;exact hok.on;obtain ⟨r,hr,rfl⟩:=List.mem_map.1 hq;exact (hok.aO.2 r hr).2
 have hln:(⟨x.on,Tm.zero⟩::x.aO:List Pr).length≤100:=by have:=hok.IY;simp;omega
 have zJk:Jk.size≤100*2000004:=by
  rw [←eJk];have:=gJ (⟨#[44,32]⟩:ah) ((⟨x.on,Tm.zero⟩::x.aO:List Pr).map Pr.name) 2000000 hnm;rw [List.length_map]at this;exact Nat.le_trans this (Nat.mul_le_mul hln (by decide))
 have wO:((⟨#[67,82,69,65,84,69,32,77,65,84,69,82,73,65,76,73,90,69,68,32,86,73,69,87,32]⟩:ah)).size≤25:=by decide
 obtain ⟨A1,wP,WH,xP⟩:=bE wO (show (x.name).size≤2000000 from hok.name) (by decide);obtain ⟨A2,zG,Yv,zH⟩:=bE xP (show ((⟨#[32,65,83,32,83,69,76,69,67,84,32]⟩:ah)).size≤11 from by decide) (by decide);obtain ⟨A3,zI,Yw,zJ⟩:=bE zH (show (Js).size≤200000600 from WJ) (by decide);obtain ⟨A4,zK,Yx,zL⟩:=bE zJ (show ((⟨#[32,70,82,79,77,32]⟩:ah)).size≤6 from by decide) (by decide);obtain ⟨A5,zM,Yy,Ez⟩:=bE zL (show (x.dA).size≤2000000 from hok.dA) (by decide);obtain ⟨A6,VR,Ah6,WI⟩:=bE Ez (show ((⟨#[32,87,72,69,82,69,32]⟩:ah)).size≤7 from by decide) (by decide);obtain ⟨A7,ZA,Ah7,Az7⟩:=bE WI (show (x.on).size≤2000000 from hok.on) (by decide);obtain ⟨A8,Ae8,Ah8,Az8⟩:=bE Az7 (show ((⟨#[32,73,83,32,78,79,84,32,78,85,76,76,32,80,82,73,77,65,82,89,32,75,69,89,32,40]⟩:ah)).size≤26 from by decide) (by decide);obtain ⟨A9,Ae9,Ah9,Az9⟩:=bE Az8 (show (Jk).size≤200000400 from zJk) (by decide);obtain ⟨A10,adq,ai9,afx⟩:=bE Az9 (show ((⟨#[41]⟩:ah)).size≤1 from by decide) (by decide)
 have HE:Hid (A10=aW (Bq x)):=by
  show _=_;rw [←adq,←Ae9,←Ae8,←ZA,←VR,←zM,←zK,←zI,←zG,←wP,←eJk,←Ch];unfold Bq;rw [bM,bM,bM,bM,←iI,jy,←IL];apply ByteArray.ext;apply Array.ext';simp [aW,Pc.text]
 clear wP zG zI zK zM VR ZA Ae8 Ae9 adq;clear wO xP zH zJ zL Ez WI Az7 Az8 Az9 afx;clear zJk WJ;have HC:=Lib.hid (fun (wq:World) (vI:Below w.heap.size w wq)=>And.intro (hG.below vI) (hin.below vI));have HNM:=Lib.hid hnm;have HLN:=Lib.hid hln;have HJ:=Lib.hid eJk;have HJs:=Lib.hid Ch;have HTL:Hid (x.aO.length≤90):=hok.IY;have xD:=Lib.hid hok;clear eJk Ch hnm hln hok hin hG hk;have Dr:=Yt;have vH:=Fj;go_enter func68,ntmps68;go_wp2_with (refine bK rfl _ rfl rfl rfl hbl ?_);refine hof.mono ?_;rintro e w2 ⟨rfl,hb2⟩;have hB2:=hB1.trans (hb2.mono hB1.size);have hV:(w2.alloc (.cells (aP x tc c s wv pv) 206)).heap[w2.heap.size]? =some (.cells (aP x tc c s wv pv) 206 (0,0)):=aB w2 _;have hB3:=hB2.alloc hB2.size (.cells (aP x tc c s wv pv) 206);have m3:=(bn hV).2.2.2.1;have m13:=(bn hV).2.2.2.2.2.2.2.2.2.2.2.2.2.1;have hs0:=av w2 (.cells (aP x tc c s wv pv) 206);have hlit:=kR (w2.alloc (.cells (aP x tc c s wv pv) 206)) [.string x.on, .int .i64 0, .string ⟨#[]⟩, .int .i64 0] 43 1 4 (w2.heap.size+1) rfl (by decide) (Nat.le_of_eq hs0.symm);rw [hs0]at hlit;have kU:=hB3.alloc hB3.size (.cells #[.string x.on, .int .i64 0, .string ⟨#[]⟩, .int .i64 0] 43);have afy:((w2.alloc (.cells (aP x tc c s wv pv) 206)).alloc (.cells #[.string x.on, .int .i64 0, .string ⟨#[]⟩, .int .i64 0] 43)).cell? ⟨w2.heap.size,13,none⟩=some wv:=by rw [aj (ay hV _)];rfl
 have hrd:=((HC.out _ kU).2).wv;have HT9:=HTL.out;go_wp2_with (first|refine lT Yp rfl _ _ rfl rfl rfl rfl rfl hone ?_|(at_builtin;refine MN Tryz.Fe rfl _ _ rfl (w2.heap.size+1) _ _ _ rfl hlit _ _ _ rfl hrd (Rs _) (Rq _) (by omega) (Nat.le_of_lt (by rw [av,hs0];omega)) ?_;intro a6 c6 wq h6 EW));have Nn:=ay hV (.cells #[.string x.on, .int .i64 0, .string ⟨#[]⟩, .int .i64 0] 43);have hW0:=(EW.block _ (aG Nn) (fun e=>by have:=(hlit.lt _ e.symm).1;omega)).trans Nn;have vI:=below_app kU kU.size EW (fun g2 hg2=>by have:=(hlit.lt g2 hg2).1;have:=hB2.size;omega);have d0:wq.cell? ⟨w2.heap.size,1,none⟩=some (.string x.name):=by rw [aj hW0];rfl
 have d1:wq.cell? ⟨w2.heap.size,2,none⟩=some (.string x.dA):=by rw [aj hW0];rfl
 have d2:wq.cell? ⟨w2.heap.size,3,none⟩=some (.string x.on):=by rw [aj hW0];rfl
 have d3:wq.cell? ⟨w2.heap.size,11,none⟩=some c:=by rw [aj hW0];rfl
 have hrow:Rd wq (.slice a6 (⟨x.on,Tm.zero⟩::x.aO:List Pr).length c6) (⟨x.on,Tm.zero⟩::x.aO:List Pr).length (fG (⟨x.on,Tm.zero⟩::x.aO)):=by
  have e:(⟨x.on,Tm.zero⟩::x.aO:List Pr).length=1+x.aO.length:=by simp;omega
  rw [e];exact Rd.own h6
 have HJk:Hid (∀(w' :World),Below wq.heap.size wq w' →Calls prog 131 #[.slice a6 (1+x.aO.length) c6, .string (⟨#[44,32]⟩:ah), .func (.func 132) #[] #[]] w' (fun e w'' =>e= .returned (.string Jk)∧Below w'.heap.size w' w'')):=fun w' hB' =>by
  rw [←HJ.out];have e:(⟨x.on,Tm.zero⟩::x.aO:List Pr).length=1+x.aO.length:=by simp;omega
  have:=VD (T:=Pr.name) (sep:=(⟨#[44,32]⟩:ah)) HLN.out (hrow.below hB') (fun q _ w'' _=>BL q w'') (by
   have:=gJ (⟨#[44,32]⟩:ah) ((⟨x.on,Tm.zero⟩::x.aO:List Pr).map Pr.name) 2000000 HNM.out;rw [List.length_map]at this;exact Nat.le_trans this (Nat.le_trans (Nat.mul_le_mul HLN.out (Nat.le_refl _)) (by decide)))
  rw [e]at this;exact this
 have afz:Hid (∀(w' :World),Below wq.heap.size wq w' →Calls prog 130 #[c] w' (fun e w'' =>e= .returned (.string Js)∧Below w'.heap.size w' w'')):=fun w' hB' =>by
  rw [←HJs.out];exact vY (Nat.le_trans xD.out.aD.1 (by decide)) (((HC.out wq vI).2).c.below hB') xD.out.aD.2
 clear HC HNM HLN HJ HTL xD hof hbl hB1 hb2 hB2 hone Dr vH hB3 kU hV hs0 afy hlit hrd HT9 Nn hW0 hrow h6 EW m3 m13;go_wp2_with fail;have hS:Below wq.heap.size wq wq∧wq.cell? ⟨w2.heap.size,1,none⟩=some (.string x.name)∧wq.cell? ⟨w2.heap.size,2,none⟩=some (.string x.dA)∧wq.cell? ⟨w2.heap.size,3,none⟩=some (.string x.on)∧wq.cell? ⟨w2.heap.size,11,none⟩=some (c):=⟨Below.refl _ _,d0,d1,d2,d3⟩
 go_region_held3 (fun w' =>Below wq.heap.size wq w' ∧w'.cell? ⟨w2.heap.size,1,none⟩=some (.string x.name)∧w'.cell? ⟨w2.heap.size,2,none⟩=some (.string x.dA)∧w'.cell? ⟨w2.heap.size,3,none⟩=some (.string x.on)∧w'.cell? ⟨w2.heap.size,11,none⟩=some (c)) (first|exact IZ (by assumption) adr|exact IZ (by assumption) afA|exact ⟨(Below.refl _ _).drew,d0,d1,d2,d3⟩)
  (first
  |(go_at_call 130;with_reducible refine (afz.out _ (And.left (by assumption))).mono ?_;rintro e ajb ⟨rfl,adr⟩)
  |(go_at_call 131;with_reducible refine (HJk.out _ (And.left (by assumption))).mono ?_;rintro e wJk ⟨rfl,afA⟩))
 go_wp2_with fail;go_ret;rw [←HE.out];exact ⟨rfl,vI.trans (Below.mono (And.left (by assumption)) vI.size)⟩
theorem Np {w:World}{x:Sx}{tc c s wv pv:Value}{J:ByteArray}(hk:x.kind=9) (hin:kL w x tc c s wv) (hpv:pv.oneCell' =true) (hJ:J.size≤500000000000000)
 (hls:∀w',Below w.heap.size w w' →Calls prog 138 #[pv, .string ⟨#[]⟩, .func (.func 139) #[] #[]] w' fun e w'' =>e= .returned (.string J)∧Below w'.heap.size w' w''):
 Calls prog 68 #[.agg (aP x tc c s wv pv)] w fun e w' =>e= .returned (.string (((⟨#[66,69,71,73,78,32,66,65,84,67,72,32]⟩:ah)++J)++(⟨#[65,80,80,76,89,32,66,65,84,67,72]⟩:ah)))∧Below w.heap.size w w' :=by
 have hone:=hin.one hpv;have hB1:=(Below.refl w.heap.size w).alloc (Nat.le_refl _) (.cells (aP x tc c s wv pv) 39);have hbl:(w.alloc (.cells (aP x tc c s wv pv) 39)).heap[w.heap.size]? =some (.cells (aP x tc c s wv pv) 39 (0,0)):=aB w _;have hof:=nI (w:=w.alloc (.cells (aP x tc c s wv pv) 39)) x tc c s wv pv;have hkv:dZ x.kind (aP x tc c s wv pv)= .iface 219 (.agg (aP x tc c s wv pv)):=by unfold dZ;rw [hk];rfl
 rw [hkv]at hof;clear hkv;have ha1:=fU (⟨#[66,69,71,73,78,32,66,65,84,67,72,32]⟩:ah) J (by show 12+_≤_;omega);have ha2:=fU ((⟨#[66,69,71,73,78,32,66,65,84,67,72,32]⟩:ah)++J) (⟨#[65,80,80,76,89,32,66,65,84,67,72]⟩:ah) (by rw [ByteArray.size_append];show 12+_+11≤_;omega);have HLS:=Lib.hid hls;clear hls hin hk hJ;have Dr:=VP;have vH:=Et;have xQ:=Fv;have zN:=Eu;have Ba:=Fw;have EA:=Cc;have I6:=Ce;have VU:=Cg;have afB:=IU;go_enter func68,ntmps68;go_wp2_with (refine bK rfl _ rfl rfl rfl hbl ?_);refine hof.mono ?_;rintro e w2 ⟨rfl,hb2⟩;have hB2:=hB1.trans (hb2.mono hB1.size);have hV:(w2.alloc (.cells (aP x tc c s wv pv) 219)).heap[w2.heap.size]? =some (.cells (aP x tc c s wv pv) 219 (0,0)):=aB w2 _;have hB3:=hB2.alloc hB2.size (.cells (aP x tc c s wv pv) 219);have m17:=(bn hV).2.2.2.2.2.2.2.2.2.2.2.2.2.2.2.2.2;have hc:=HLS.out _ hB3;go_wp2_with (refine lT VK rfl _ _ rfl rfl rfl rfl rfl hone ?_);refine hc.mono ?_;rintro e w3 ⟨rfl,hb3⟩;go_wp2_with fail;go_ret;exact ⟨rfl,hB3.trans (hb3.mono hB3.size)⟩
theorem Ru {w:World}{x:Sx}{tc c s wv pv:Value}(hk:∀k:Int,1≤k→k≤9→x.kind≠k):
 Calls prog 68 #[.agg (aP x tc c s wv pv)] w fun e w' =>e= .returned (.string ⟨#[]⟩)∧Below w.heap.size w w' :=by
 have hB1:=(Below.refl w.heap.size w).alloc (Nat.le_refl _) (.cells (aP x tc c s wv pv) 39);have hbl:(w.alloc (.cells (aP x tc c s wv pv) 39)).heap[w.heap.size]? =some (.cells (aP x tc c s wv pv) 39 (0,0)):=aB w _;have hof:=nI (w:=w.alloc (.cells (aP x tc c s wv pv) 39)) x tc c s wv pv;have hkv:dZ x.kind (aP x tc c s wv pv)= .nilIface:=by unfold dZ;rw [if_neg (hk 1 (by decide) (by decide)),if_neg (hk 2 (by decide) (by decide)),if_neg (hk 3 (by decide) (by decide)),if_neg (hk 4 (by decide) (by decide)),if_neg (hk 5 (by decide) (by decide)),if_neg (hk 6 (by decide) (by decide)),if_neg (hk 7 (by decide) (by decide)),if_neg (hk 8 (by decide) (by decide)),if_neg (hk 9 (by decide) (by decide))]
 rw [hkv]at hof;clear hkv;clear hk;have vH:=IV;have xQ:=K5;have zN:=IW;have Ba:=K6;have EA:=Fx;have I6:=Fy;have VU:=Fz;have afB:=Ni;have ajd:=IX;go_enter func68,ntmps68;go_wp2_with (refine bK rfl _ rfl rfl rfl hbl ?_);refine hof.mono ?_;rintro e w2 ⟨rfl,hb2⟩;have hB2:=hB1.trans (hb2.mono hB1.size);go_wp2_with fail;go_ret;exact ⟨rfl,hB2⟩
theorem I7 {w:World}{x:Sx}{tc c s wv pv:Value}(hc0:x.aD= []) (hk:x.kind=7) (hG:Gp w) (hok:iG x) (hin:kL w x tc c s wv) (hpv:pv.oneCell' =true):
 Calls prog 68 #[.agg (aP x tc c s wv pv)] w fun e w' =>e= .returned (.string (aW (om x)))∧Below w.heap.size w w' :=by
 obtain ⟨cA,cC,hce,_⟩:=hin.c;rw [hc0]at hce;replace hce:c= .slice cA 0 cC:=hce;subst hce;have hone:=hin.one hpv;have hB1:=(Below.refl w.heap.size w).alloc (Nat.le_refl _) (.cells (aP x tc (.slice cA 0 cC) s wv pv) 39);have hbl:(w.alloc (.cells (aP x tc (.slice cA 0 cC) s wv pv) 39)).heap[w.heap.size]? =some (.cells (aP x tc (.slice cA 0 cC) s wv pv) 39 (0,0)):=aB w _;have hof:=nI (w:=w.alloc (.cells (aP x tc (.slice cA 0 cC) s wv pv) 39)) x tc (.slice cA 0 cC) s wv pv;have hkv:dZ x.kind (aP x tc (.slice cA 0 cC) s wv pv)= .iface 217 (.agg (aP x tc (.slice cA 0 cC) s wv pv)):=by unfold dZ;rw [hk];rfl
 rw [hkv]at hof;clear hkv;obtain ⟨Ju,xR⟩:∃r,aW (dQ x.stamp x.ttl)=r:=⟨_,rfl⟩;have VT:Ju.size≤1000:=by rw [←xR];exact jK _ _ hok.stamp hok.ttl
 obtain ⟨Jw,sW⟩:∃r,aW (eX x.aO)=r:=⟨_,rfl⟩;have Pf:Jw.size≤800004000:=by rw [←sW];exact nD hok.aO
 have wO:((⟨#[68,69,76,69,84,69,32]⟩:ah)).size≤7:=by decide
 obtain ⟨A1,wP,WH,xP⟩:=bE wO (show ((⟨#[]⟩:ah)).size≤0 from by decide) (by decide);obtain ⟨A2,zG,Yv,zH⟩:=bE xP (show ((⟨#[70,82,79,77,32]⟩:ah)).size≤5 from by decide) (by decide);obtain ⟨A3,zI,Yw,zJ⟩:=bE zH (show (x.dA).size≤2000000 from hok.dA) (by decide);obtain ⟨A4,zK,Yx,zL⟩:=bE zJ (show (Ju).size≤1000 from VT) (by decide);obtain ⟨A5,zM,Yy,Ez⟩:=bE zL (show (Jw).size≤800004000 from Pf) (by decide)
 have HE:Hid (A5=aW (om x)):=by
  show _=_;rw [←zM,←zK,←zI,←zG,←wP,←xR,←sW];unfold om;rw [if_pos hc0];apply ByteArray.ext;apply Array.ext';simp [bM,aW,Pc.text]
 clear wP zG zI zK zM;clear wO xP zH zJ zL Ez;clear VT Pf;have HC:=Lib.hid (fun (wq:World) (vI:Below w.heap.size w wq)=>And.intro (hG.below vI) (hin.below vI));have xD:=Lib.hid hok;have HJ:Hid (aW (dQ x.stamp x.ttl)=Ju∧aW (eX x.aO)=Jw):=⟨xR,sW⟩;clear xR sW hok hin hG hk;have Dr:=Gm;have vH:=tL;have xQ:=vE;have zN:=tN;have Ba:=vG;have EA:=rE;have I6:=rF;go_enter func68,ntmps68;go_wp2_with (refine bK rfl _ rfl rfl rfl hbl ?_);refine hof.mono ?_;rintro e w2 ⟨rfl,hb2⟩;have hB2:=hB1.trans (hb2.mono hB1.size);have hV:(w2.alloc (.cells (aP x tc (.slice cA 0 cC) s wv pv) 217)).heap[w2.heap.size]? =some (.cells (aP x tc (.slice cA 0 cC) s wv pv) 217 (0,0)):=aB w2 _;have hB3:=hB2.alloc hB2.size (.cells (aP x tc (.slice cA 0 cC) s wv pv) 217);have m11:=(bn hV).2.2.2.2.2.2.2.2.2.2.2.1;clear hc0;go_wp2_with (refine lT Gl rfl _ _ rfl rfl rfl rfl rfl hone ?_);obtain ⟨wq,hwq⟩:∃wq,wq=w2.alloc (.cells (aP x tc (.slice cA 0 cC) s wv pv) 217):=⟨_,rfl⟩;rw [←hwq]at hV hB3⊢;clear hwq;obtain ⟨EX,qB⟩:=HC.out wq hB3;have hok:=xD.out;obtain ⟨xR,sW⟩:=HJ.out;have HJu:Hid (∀(w' :World),Below wq.heap.size wq w' →Calls prog 135 #[.int .i64 x.stamp, .int .i64 x.ttl] w' (fun e w'' =>e= .returned (.string Ju)∧Below w'.heap.size w' w'')):=fun w' hB' =>by rw [←xR];exact sV (EX.below hB') hok.stamp hok.ttl
 have Yz:Hid (∀(w' :World),Below wq.heap.size wq w' →Calls prog 137 #[wv] w' (fun e w'' =>e= .returned (.string Jw)∧Below w'.heap.size w' w'')):=fun w' hB' =>by rw [←sW];exact pE (EX.below hB') hok.aO (qB.wv.below hB')
 clear EX qB hok xR sW;clear HC xD HJ hof hbl hB1 hb2 hB2 hone Dr vH xQ zN Ba EA I6;have d2:wq.cell? ⟨w2.heap.size,2,none⟩=some (.string x.dA):=(bn hV).2.2.1;have tO:wq.cell? ⟨w2.heap.size,13,none⟩=some (wv):=(bn hV).2.2.2.2.2.2.2.2.2.2.2.2.2.1;have wQ:wq.cell? ⟨w2.heap.size,14,none⟩=some (.int .i64 x.stamp):=(bn hV).2.2.2.2.2.2.2.2.2.2.2.2.2.2.1;have wR:wq.cell? ⟨w2.heap.size,15,none⟩=some (.int .i64 x.ttl):=(bn hV).2.2.2.2.2.2.2.2.2.2.2.2.2.2.2.1;have hS:Below wq.heap.size wq wq∧wq.cell? ⟨w2.heap.size,2,none⟩=some (.string x.dA)∧wq.cell? ⟨w2.heap.size,13,none⟩=some (wv)∧wq.cell? ⟨w2.heap.size,14,none⟩=some (.int .i64 x.stamp)∧wq.cell? ⟨w2.heap.size,15,none⟩=some (.int .i64 x.ttl):=⟨Below.refl _ _,d2,tO,wQ,wR⟩
 go_region_held3 (fun w' =>Below wq.heap.size wq w' ∧w'.cell? ⟨w2.heap.size,2,none⟩=some (.string x.dA)∧w'.cell? ⟨w2.heap.size,13,none⟩=some (wv)∧w'.cell? ⟨w2.heap.size,14,none⟩=some (.int .i64 x.stamp)∧w'.cell? ⟨w2.heap.size,15,none⟩=some (.int .i64 x.ttl)) (first|exact IZ (by assumption) Nk|exact IZ (by assumption) I4|exact ⟨(Below.refl _ _).drew,d2,tO,wQ,wR⟩)
  (first
  |(go_at_call 135;with_reducible refine (HJu.out _ (And.left (by assumption))).mono ?_;rintro e wJu ⟨rfl,Nk⟩)
  |(go_at_call 137;with_reducible refine (Yz.out _ (And.left (by assumption))).mono ?_;rintro e wJw ⟨rfl,I4⟩))
 go_wp2_with fail;go_ret;rw [←HE.out];exact ⟨rfl,hB3.trans (Below.mono (And.left (by assumption)) hB3.size)⟩
theorem jW (M:Nat):∀(l:List Pc),(∀p∈l,p.text.size≤M)→(aW l).size≤l.length*M
 | [],_=>Nat.zero_le _
 |p::l,h=>by
  have ih:=jW M l fun q hq=>h q (List.mem_cons_of_mem _ hq)
  have hp:=h p (List.mem_cons_self ..);show (p.text++aW l).size≤_;rw [ByteArray.size_append,List.length_cons,Nat.succ_mul];omega
theorem Gr {x:Sx}(h:iG x):(aW (gG dx ((x.part::x.aY::x.aF).map dB))).size≤100*2000014:=by
 rw [←iI,jy]
 have:=gJ (⟨#[44,32]⟩:ah) (((x.part::x.aY::x.aF).map dB).map aW) 2000010 (fun y hy=>by
  rw [List.map_map]at hy;obtain ⟨q,hq,rfl⟩:=List.mem_map.1 hy;refine rG q ?_;rcases List.mem_cons.1 hq with rfl|hq
  · exact h.part
  rcases List.mem_cons.1 hq with rfl|hq
  · exact h.aY
  · exact h.aF.2 q hq)
 rw [List.length_map,List.length_map]at this;have hl:=h.aF.1;exact Nat.le_trans this (Nat.mul_le_mul (by simp;omega) (by decide))
theorem YD {x:Sx}(h:iG x):(aW (gG dx ((x.on::x.aO.map Pr.name).map fun s=> [Pc.wd s]))).size≤100*2000004:=by
 rw [←iI,jy,←IL]
 have:=gJ (⟨#[44,32]⟩:ah) (x.on::x.aO.map Pr.name) 2000000 (fun y hy=>by
  rcases List.mem_cons.1 hy with rfl|hy
  · exact h.on
  · obtain ⟨q,hq,rfl⟩:=List.mem_map.1 hy;exact (h.aO.2 q hq).2)
 have hl:=h.IY;rw [List.length_cons,List.length_map]at this;exact Nat.le_trans this (Nat.mul_le_mul (by omega) (by decide))
theorem Rv {x:Sx}(h:iG x):(aW (qw x)).size≤2000000000:=by
 unfold qw
 have e1:(aW [.wd (⟨#[67,82,69,65,84,69]⟩:ah), .bl, .wd (⟨#[84,65,66,76,69]⟩:ah), .bl, .wd x.name, .bl, .sg 40]).size≤7*2000000:=jW 2000000 _ (by
  intro p hp;simp only [List.mem_cons,List.not_mem_nil,or_false]at hp;rcases hp with rfl|rfl|rfl|rfl|rfl|rfl|rfl<;>first|decide|exact h.name|exact h.dA|exact h.on|exact h.part|exact h.aY)
 have e2:=Gr h
 have e3:(aW [.sg 44, .bl, .wd (⟨#[80,82,73,77,65,82,89]⟩:ah), .bl, .wd (⟨#[75,69,89]⟩:ah), .bl, .sg 40, .wd x.part.name, .sg 44, .bl, .wd x.aY.name, .sg 41, .sg 41]).size≤13*2000000:=jW 2000000 _ (by
  intro p hp;simp only [List.mem_cons,List.not_mem_nil,or_false]at hp;rcases hp with rfl|rfl|rfl|rfl|rfl|rfl|rfl|rfl|rfl|rfl|rfl|rfl|rfl<;>first|decide|exact h.name|exact h.dA|exact h.on|exact h.part|exact h.aY)
 try simp only [bM,ByteArray.size_append]at *
 omega
theorem VW {x:Sx}(h:iG x):(aW (Bq x)).size≤2000000000:=by
 unfold Bq
 have e1:(aW [.wd (⟨#[67,82,69,65,84,69]⟩:ah), .bl, .wd (⟨#[77,65,84,69,82,73,65,76,73,90,69,68]⟩:ah), .bl, .wd (⟨#[86,73,69,87]⟩:ah), .bl, .wd x.name, .bl, .wd (⟨#[65,83]⟩:ah), .bl, .wd (⟨#[83,69,76,69,67,84]⟩:ah), .bl]).size≤12*2000000:=jW 2000000 _ (by
  intro p hp;simp only [List.mem_cons,List.not_mem_nil,or_false]at hp;rcases hp with rfl|rfl|rfl|rfl|rfl|rfl|rfl|rfl|rfl|rfl|rfl|rfl<;>first|decide|exact h.name|exact h.dA|exact h.on|exact h.part|exact h.aY)
 have e2:=mR (Nat.le_trans h.aD.1 (by decide)) h.aD.2
 have e3:(aW [.bl, .wd (⟨#[70,82,79,77]⟩:ah), .bl, .wd x.dA, .bl, .wd (⟨#[87,72,69,82,69]⟩:ah), .bl, .wd x.on, .bl, .wd (⟨#[73,83]⟩:ah), .bl, .wd (⟨#[78,79,84]⟩:ah), .bl, .wd (⟨#[78,85,76,76]⟩:ah), .bl, .wd (⟨#[80,82,73,77,65,82,89]⟩:ah), .bl, .wd (⟨#[75,69,89]⟩:ah), .bl, .sg 40]).size≤20*2000000:=jW 2000000 _ (by
  intro p hp;simp only [List.mem_cons,List.not_mem_nil,or_false]at hp;rcases hp with rfl|rfl|rfl|rfl|rfl|rfl|rfl|rfl|rfl|rfl|rfl|rfl|rfl|rfl|rfl|rfl|rfl|rfl|rfl|rfl<;>first|decide|exact h.name|exact h.dA|exact h.on|exact h.part|exact h.aY)
 have e4:=YD h
 have e5:(aW [.sg 41]).size≤1*2000000:=jW 2000000 _ (by
  intro p hp;simp only [List.mem_cons,List.not_mem_nil,or_false]at hp;rcases hp with rfl<;>first|decide|exact h.name|exact h.dA|exact h.on|exact h.part|exact h.aY)
 try simp only [bM,ByteArray.size_append]at *
 omega
theorem Rw {x:Sx}(h:iG x):(aW (Ar x)).size≤2000000000:=by
 unfold Ar
 have e1:(aW [.wd (⟨#[67,82,69,65,84,69]⟩:ah), .bl, .wd (⟨#[73,78,68,69,88]⟩:ah), .bl, .wd x.name, .bl, .wd (⟨#[79,78]⟩:ah), .bl, .wd x.dA, .bl, .sg 40, .wd x.on, .sg 41]).size≤13*2000000:=jW 2000000 _ (by
  intro p hp;simp only [List.mem_cons,List.not_mem_nil,or_false]at hp;rcases hp with rfl|rfl|rfl|rfl|rfl|rfl|rfl|rfl|rfl|rfl|rfl|rfl|rfl<;>first|decide|exact h.name|exact h.dA|exact h.on|exact h.part|exact h.aY)
 try simp only [bM,ByteArray.size_append]at *
 omega
theorem VX {x:Sx}(h:iG x):(aW (F4 x)).size≤2000000000:=by
 unfold F4
 have e1:(aW [.wd (⟨#[68,82,79,80]⟩:ah), .bl, .wd x.name]).size≤3*2000000:=jW 2000000 _ (by
  intro p hp;simp only [List.mem_cons,List.not_mem_nil,or_false]at hp;rcases hp with rfl|rfl|rfl<;>first|decide|exact h.name|exact h.dA|exact h.on|exact h.part|exact h.aY)
 try simp only [bM,ByteArray.size_append]at *
 omega
theorem Nq {x:Sx}(h:iG x):(aW (vT x)).size≤2000000000:=by
 unfold vT
 have e1:(aW [.wd (⟨#[73,78,83,69,82,84]⟩:ah), .bl, .wd (⟨#[73,78,84,79]⟩:ah), .bl, .wd x.dA, .bl, .sg 40]).size≤7*2000000:=jW 2000000 _ (by
  intro p hp;simp only [List.mem_cons,List.not_mem_nil,or_false]at hp;rcases hp with rfl|rfl|rfl|rfl|rfl|rfl|rfl<;>first|decide|exact h.name|exact h.dA|exact h.on|exact h.part|exact h.aY)
 have e2:=Gn x.sets▸Ev h.sets
 have e3:(aW [.sg 41, .bl, .wd (⟨#[86,65,76,85,69,83]⟩:ah), .bl, .sg 40]).size≤5*2000000:=jW 2000000 _ (by
  intro p hp;simp only [List.mem_cons,List.not_mem_nil,or_false]at hp;rcases hp with rfl|rfl|rfl|rfl|rfl<;>first|decide|exact h.name|exact h.dA|exact h.on|exact h.part|exact h.aY)
 have e4:=Gq x.sets▸Ew h.sets
 have e5:(aW [.sg 41]).size≤1*2000000:=jW 2000000 _ (by
  intro p hp;simp only [List.mem_cons,List.not_mem_nil,or_false]at hp;rcases hp with rfl<;>first|decide|exact h.name|exact h.dA|exact h.on|exact h.part|exact h.aY)
 have e6:=jK x.stamp x.ttl h.stamp h.ttl;try simp only [bM,ByteArray.size_append]at *
 omega
theorem Nr {x:Sx}(h:iG x):(aW (vU x)).size≤2000000000:=by
 unfold vU
 have e1:(aW [.wd (⟨#[85,80,68,65,84,69]⟩:ah), .bl, .wd x.dA]).size≤3*2000000:=jW 2000000 _ (by
  intro p hp;simp only [List.mem_cons,List.not_mem_nil,or_false]at hp;rcases hp with rfl|rfl|rfl<;>first|decide|exact h.name|exact h.dA|exact h.on|exact h.part|exact h.aY)
 have e2:=jK x.stamp x.ttl h.stamp h.ttl
 have e3:(aW [.bl, .wd (⟨#[83,69,84]⟩:ah), .bl]).size≤3*2000000:=jW 2000000 _ (by
  intro p hp;simp only [List.mem_cons,List.not_mem_nil,or_false]at hp;rcases hp with rfl|rfl|rfl<;>first|decide|exact h.name|exact h.dA|exact h.on|exact h.part|exact h.aY)
 have e4:=Ey x.sets▸AZ h.sets (⟨#[44,32]⟩:ah) (by decide);have e5:=nD h.aO;try simp only [bM,ByteArray.size_append]at *
 omega
theorem Ns {x:Sx}(h:iG x):(aW (om x)).size≤2000000000:=by
 unfold om
 have e1:(aW [.wd (⟨#[68,69,76,69,84,69]⟩:ah), .bl]).size≤2*2000000:=jW 2000000 _ (by
  intro p hp;simp only [List.mem_cons,List.not_mem_nil,or_false]at hp;rcases hp with rfl|rfl<;>first|decide|exact h.name|exact h.dA|exact h.on|exact h.part|exact h.aY)
 have e2:=show (aW (if x.aD= []then []else jo x.aD++ [.bl])).size≤100*2000006+1 from (by
  split
  · decide
  · rw [bM,ByteArray.size_append];have:=mR (Nat.le_trans h.aD.1 (by decide)) h.aD.2;show _+1≤_;omega)
 have e3:(aW [.wd (⟨#[70,82,79,77]⟩:ah), .bl, .wd x.dA]).size≤3*2000000:=jW 2000000 _ (by
  intro p hp;simp only [List.mem_cons,List.not_mem_nil,or_false]at hp;rcases hp with rfl|rfl|rfl<;>first|decide|exact h.name|exact h.dA|exact h.on|exact h.part|exact h.aY)
 have e4:=jK x.stamp x.ttl h.stamp h.ttl;have e5:=nD h.aO;try simp only [bM,ByteArray.size_append]at *
 omega
theorem YE {x:Sx}(h:iG x):(aW (Hu x)).size≤2000000000:=by
 unfold Hu
 have e1:(aW [.wd (⟨#[83,69,76,69,67,84]⟩:ah), .bl]).size≤2*2000000:=jW 2000000 _ (by
  intro p hp;simp only [List.mem_cons,List.not_mem_nil,or_false]at hp;rcases hp with rfl|rfl<;>first|decide|exact h.name|exact h.dA|exact h.on|exact h.part|exact h.aY)
 have e2:=mR (Nat.le_trans h.aD.1 (by decide)) h.aD.2
 have e3:(aW [.bl, .wd (⟨#[70,82,79,77]⟩:ah), .bl, .wd x.dA]).size≤4*2000000:=jW 2000000 _ (by
  intro p hp;simp only [List.mem_cons,List.not_mem_nil,or_false]at hp;rcases hp with rfl|rfl|rfl|rfl<;>first|decide|exact h.name|exact h.dA|exact h.on|exact h.part|exact h.aY)
 have e4:=nD h.aO
 have e5:=show (aW (if x.limit=0 then []else [.bl, .wd (⟨#[76,73,77,73,84]⟩:ah), .bl, .nm x.limit])).size≤100 from (by
  split
  · decide
  · have:=lS x.limit h.limit;show (⟨#[32]⟩++((⟨#[76,73,77,73,84]⟩:ah)++(⟨#[32]⟩++(kr x.limit++⟨#[]⟩)))).size≤_;rw [ByteArray.size_append,ByteArray.size_append,ByteArray.size_append,ByteArray.size_append];show 1+(5+(1+(_+0)))≤_;omega)
 try simp only [bM,ByteArray.size_append]at *
 omega
theorem ZB {x:Sx}(h:iG x):(aW (stP x)).size≤2000000000:=by
 unfold stP;split
 · exact Rv h
 split
 · exact VW h
 split
 · exact Rw h
 split
 · exact VX h
 split
 · exact Nq h
 split
 · exact Nr h
 split
 · exact Ns h
 split
 · exact YE h
 split
 · decide+kernel
 · decide
structure Pw where
 x:Sx
 tc:Value
 c:Value
 s:Value
 wv:Value
 pv:Value
def Pw.arr (p:Pw):Array Value:=aP p.x p.tc p.c p.s p.wv p.pv
structure EB (w:World) (p:Pw):Prop where
 ok:iG p.x
 rd:kL w p.x p.tc p.c p.s p.wv
 one:p.pv.oneCell' =true
theorem EB.below {w w' :World}{p:Pw}(h:EB w p) (hb:Below w.heap.size w w'):EB w' p:=⟨h.ok,h.rd.below hb,h.one⟩
def nE (L:List Pw):List Value:=L.flatMap fun p=>p.arr.toList
theorem zR:∀{L:List Pw}{j:Nat}{q:Pw}(_:L[j]? =some q) (i:Nat) (_:i<18),(nE L)[j*18+i]? =q.arr.toList[i]?
 |p::l,0,q,h,i,hi=>by
  cases h;simp only [nE,List.flatMap_cons,Nat.zero_mul,Nat.zero_add];rw [List.getElem?_append_left (by simp [Pw.arr];omega)]
 |p::l,k+1,q,h,i,hi=>by
  have:=zR (L:=l) (j:=k) (q:=q) (by simpa using h) i hi;simp only [nE,List.flatMap_cons]at this⊢;rw [List.getElem?_append_right (by simp [Pw.arr];omega)];have e:(k+1)*18+i - p.arr.toList.length=k*18+i:=by simp [Pw.arr];omega
  rw [e];exact this
theorem zU {ops:Array Oper}{rest:List Oper}{op:Oper}{a:Act}{w:World}{Q:Exit→Act→World→Prop}{b o:Nat}{V:Array Value}(hgd:op.guard=none) (x:Operand) (ho:op.op= .load 39 x)
 (hx:a.eval x= .pointer (some ⟨b,o,none⟩)) (hV:V.size=18) (hc:w.rangeAt b o V.toList) (h:wpList prog ops Q rest (a.put op.dst (.agg V)) w):wpList prog ops Q (op::rest) a w:=by
 obtain ⟨d,hu,hd⟩:=Tryz.OY;exact wpList_load_mid hgd 39 x ho b o hx V.toList d hc hu hd (by rw [show V.toList.length=18 by simpa using hV];exact Tryz.xH) (by simpa using h)
theorem abn {w:World}{u:Value}{L:List Pw}{sep:ByteArray}{T:Pw→ByteArray}(hl:L.length≤100) (hr:Rd w u L.length (nE L)) (h1:∀p∈L,p.arr.toList.all (·.oneCell')=true)
 (hf:∀q∈L,∀w',Below w.heap.size w w' →Calls prog 139 #[.agg q.arr] w' fun e w'' =>e= .returned (.string (T q))∧Below w'.heap.size w' w'')
 (hs:(dh sep (L.map T)).size≤140737488355328):
 Calls prog 138 #[u, .string sep, .func (.func 139) #[] #[]] w fun e w' =>e= .returned (.string (dh sep (L.map T)))∧Below w.heap.size w w' :=by
 obtain ⟨a,cap,rfl,hx0⟩:=hr;go_enter func138,ntmps138;go_wp2_with fail
 go_loopw [7,12] (fun out i wr=>∃(j:Nat) (a3:Option Addr) (c3:Nat),out= .slice a3 j c3∧i= .int .i64 j∧j≤L.length∧Below w.heap.size w wr∧wr.ownsRow w.heap.size 9 1 (.slice a3 j c3) j (((L.take j).map T).map Value.string)) (fun _ i _=>L.length - (intOf i).toNat)
 case atStart=>exact ⟨0,none,0,rfl,rfl,Nat.zero_le _,Below.refl _ _,World.ownsRow_nil _ _ _ _⟩
 case round=>
  obtain ⟨j,a3,c3,rfl,rfl,hj,hBr,hown⟩:=hrel;have hsz:=hBr.size;by_cases hjl:j<L.length
  · have p0:(j:Int)<(L.length:Int):=by omega
    have p1:(0:Int)≤(j:Int):=by omega
    have HJ:=Lib.hid (show j+1≤L.length from hjl);obtain ⟨g,o,rfl,hx⟩:=hx0 (by omega);obtain ⟨q,hq⟩:∃q,L[j]? =some q:=⟨_,List.getElem?_eq_getElem hjl⟩;have hone:=h1 q (List.mem_of_getElem? hq)
    have hR:wr.rangeAt g (o+j*18) q.arr.toList:=fun i v hv=>by
     have hi:i<18:=by have:=(List.getElem?_eq_some_iff.1 hv).1;simp [Pw.arr]at this;omega
     have:=hx (j*18+i) v (by rw [zR hq i hi];exact hv);rw [Nat.add_assoc];exact aI hBr this
    have hB1:=hBr.alloc hBr.size (.cells q.arr 39);have hbl:(wr.alloc (.cells q.arr 39)).heap[wr.heap.size]? =some (.cells q.arr 39 (0,0)):=aB wr _;have hc:=hf q (List.mem_of_getElem? hq) _ hB1
    have HT:Hid (((L.take (j+1)).map T).map Value.string=((L.take j).map T).map Value.string++ [.string (T q)]):=by
     obtain ⟨hj2,rfl⟩:=List.getElem?_eq_some_iff.1 hq;show _=_;rw [List.take_succ_eq_append_getElem hj2,List.map_append,List.map_append];rfl
    clear hq hx;generalize T q=t at *;obtain ⟨x,tc,c,s,wv,pv⟩:=q;go_wp2_with (first|refine zU rfl _ rfl rfl rfl hR ?_|refine jw rfl _ _ rfl rfl rfl rfl rfl hone ?_|refine bK rfl _ rfl rfl rfl hbl ?_);refine hc.mono ?_;rintro e w2 ⟨rfl,hb2⟩;have hB2:=hB1.trans (hb2.mono hB1.size);have hown2:=bP (hown.alloc _) hb2;have hs2:=hB2.size;go_wp2_with (at_builtin;refine app1 Tryz.tY rfl _ _ rfl w.heap.size _ _ _ rfl (hown2.alloc _) _ _ [.string t] rfl rfl (bA _ _ _) (by intro u hu;rw [List.mem_singleton.1 hu];rfl) (by have:=HJ.out;omega) (by simp;omega) ?_;intro a5 c5 w5 h5 hg5 Ab);have kU:=below_app (hB2.alloc hs2 _) (by rw [av];omega) hg5 (fun g2 hg2=>(hown2.lt g2 hg2).1);go_wp2_with fail;go_roundw
    case rel=>exact ⟨j+1,a5,c5,rfl,by go_num,HJ.out,kU,by rw [HT.out];exact h5⟩
    case measure=>have hjj:=HJ.out;simp [intOf];omega
  · have jV:j=L.length:=by omega
    subst jV;rw [List.take_length]at hown;have hlen:(L.map T).length=L.length:=List.length_map ..;have hj:=rC (.slice a3 L.length c3) (L.map T) sep wr (by rw [hlen];exact Rd.own hown) (by rw [hlen];exact jQ hown) hs (by omega);go_wp2_with fail;refine hj.mono ?_;rintro e w9 ⟨rfl,El⟩;go_wp2_with fail;go_ret;exact ⟨rfl,hBr.trans (El.mono hsz)⟩
theorem Rx {w:World}{q:Pw}{t:ByteArray}(ht:t.size≤4000000000)
 (hT:∀w',Below w.heap.size w w' →Calls prog 68 #[.agg q.arr] w' fun e w'' =>e= .returned (.string t)∧Below w'.heap.size w' w''):
 Calls prog 139 #[.agg q.arr] w fun e w' =>e= .returned (.string (t++(⟨#[59,32]⟩:ah)))∧Below w.heap.size w w' :=by
 have hB1:=(Below.refl w.heap.size w).alloc (Nat.le_refl _) (.cells q.arr 39);have hbl:(w.alloc (.cells q.arr 39)).heap[w.heap.size]? =some (.cells q.arr 39 (0,0)):=aB w _;have ha:=fU t (⟨#[59,32]⟩:ah) (by show _+2≤_;omega);have hc:=hT _ hB1;clear hT;obtain ⟨x,tc,c,s,wv,pv⟩:=q;go_enter func139,ntmps139;go_wp2_with (refine bK rfl _ rfl rfl rfl hbl ?_);refine hc.mono ?_;rintro e w2 ⟨rfl,hb2⟩;go_wp2_with fail;go_ret;exact ⟨rfl,hB1.trans (hb2.mono hB1.size)⟩
theorem Gs {w:World}{p:Pw}(hG:Gp w) (hk:p.x.kind≠9) (h:EB w p):
 Calls prog 68 #[.agg p.arr] w fun e w' =>e= .returned (.string (aW (stP p.x)))∧Below w.heap.size w w' :=by
 obtain ⟨x,tc,c,s,wv,pv⟩:=p;obtain ⟨hok,hin,hpv⟩:=h;replace hk:x.kind≠9:=hk;show Calls _ _ #[.agg (aP x tc c s wv pv)] w _;unfold stP;simp only;by_cases h1:x.kind=1
 · rw [if_pos h1];exact Nl h1 hG hok hin hpv
 rw [if_neg h1];by_cases h2:x.kind=2
 · rw [if_pos h2];exact Rt h2 hG hok hin hpv
 rw [if_neg h2];by_cases h3:x.kind=3
 · rw [if_pos h3];exact Nj h3 hG hok hin hpv
 rw [if_neg h3];by_cases h4:x.kind=4
 · rw [if_pos h4];exact Rn h4 hG hok hin hpv
 rw [if_neg h4];by_cases h5:x.kind=5
 · rw [if_pos h5];exact K7 h5 hG hok hin hpv
 rw [if_neg h5];by_cases h6:x.kind=6
 · rw [if_pos h6];exact K8 h6 hG hok hin hpv
 rw [if_neg h6];by_cases h7:x.kind=7
 · rw [if_pos h7];by_cases hc:x.aD= []
   · exact I7 hc h7 hG hok hin hpv
   · exact I5 hc h7 hG hok hin hpv
 rw [if_neg h7];by_cases h8:x.kind=8
 · rw [if_pos h8];by_cases hc:x.limit=0
   · exact Ro hc h8 hG hok hin hpv
   · exact Rp hc h8 hG hok hin hpv
 rw [if_neg h8,if_neg hk]
 exact Ru (fun k a b=>by
  intro e;have:k=1∨k=2∨k=3∨k=4∨k=5∨k=6∨k=7∨k=8∨k=9:=by omega
  rcases this with rfl|rfl|rfl|rfl|rfl|rfl|rfl|rfl|rfl
  · exact h1 e
  · exact h2 e
  · exact h3 e
  · exact h4 e
  · exact h5 e
  · exact h6 e
  · exact h7 e
  · exact h8 e
  · exact hk e)
theorem K9:∀l:List (List Pc),(l.flatMap fun b=>([]:List Pc)++b)=l.flatten
 | []=>rfl
 |a::l=>by rw [List.flatMap_cons,K9 l];rfl
theorem VY:∀l:List (List Pc),gG [] l=l.flatten
 | []=>rfl
 |a::l=>by
  show a++_=_;rw [List.flatten_cons];exact congrArg _ (K9 l)
def zW (x:Sx):ByteArray:=aW (stP x)++(⟨#[59,32]⟩:ah)
theorem Ry (l:List Sx):dh ⟨#[]⟩ (l.map zW)=aW ((l.map stP).flatMap fun a=>a++ [.sg 59, .bl]):=by
 have h:=iI [] ((l.map stP).map fun a=>a++ [Pc.sg 59, .bl]);rw [VY,List.map_map,List.map_map]at h;rw [List.flatMap_def,←h];show dh _ _=dh ⟨#[]⟩ _;congr 1;refine List.map_congr_left fun x _=> ?_
 show zW x=aW (stP x++ [Pc.sg 59, .bl]);rw [bM];rfl
theorem Rz (l:List Sx):((⟨#[66,69,71,73,78,32,66,65,84,67,72,32]⟩:ah)++dh ⟨#[]⟩ (l.map zW))++(⟨#[65,80,80,76,89,32,66,65,84,67,72]⟩:ah)=aW (Au (l.map stP)):=by
 rw [Ry];unfold Au;rw [bM,bM];congr 1
theorem VZ {L:List Pw}(hl:L.length≤100) (h:∀q∈L,(aW (stP q.x)).size≤2000000000):(dh ⟨#[]⟩ (L.map fun q=>zW q.x)).size≤240000000000:=by
 have:=gJ ⟨#[]⟩ (L.map fun q=>zW q.x) 2000000004 (fun y hy=>by
  obtain ⟨q,hq,rfl⟩:=List.mem_map.1 hy;have:=h q hq;unfold zW;rw [ByteArray.size_append];show _+2≤_;omega)
 rw [List.length_map]at this;refine Nat.le_trans this (Nat.le_trans (Nat.mul_le_mul hl (Nat.le_refl _)) ?_);decide
theorem Gt {w:World}{p:Pw}{L:List Pw}(h:EB w p) (hk:p.x.kind=9) (hl:L.length≤100) (hr:Rd w p.pv L.length (nE L)) (hp:∀q∈L,EB w q)
 (hT:∀q∈L,∀w',Below w.heap.size w w' →Calls prog 68 #[.agg q.arr] w' fun e w'' =>e= .returned (.string (aW (stP q.x)))∧Below w'.heap.size w' w''):
 Calls prog 68 #[.agg p.arr] w fun e w' =>e= .returned (.string (aW (Au ((L.map Pw.x).map stP))))∧Below w.heap.size w w' :=by
 have hJ:=VZ hl (fun q hq=>(ZB (hp q hq).ok));have e:L.map (fun q=>zW q.x)=(L.map Pw.x).map zW:=by rw [List.map_map];rfl
 rw [←Rz,←e];refine Np (x:=p.x) hk h.rd h.one (Nat.le_trans hJ (by decide)) (fun w' hb=> ?_);refine abn (T:=fun q=>zW q.x) hl (hr.below hb) (fun q hq=>(hp q hq).rd.one (hp q hq).one) (fun q hq w'' hb' => ?_) (Nat.le_trans hJ (by decide));exact Rx (t:=aW (stP q.x)) (Nat.le_trans (ZB (hp q hq).ok) (by decide)) (fun w3 hb3=>hT q hq w3 (hb.trans ((hb'.trans (hb3.mono hb'.size)).mono hb.size)))
theorem RA {w:World}{p:Pw}(hG:Gp w) (h:EB w p) (hp:Rd w p.pv 0 []):
 Calls prog 68 #[.agg p.arr] w fun e w' =>e= .returned (.string (aW (stP p.x)))∧Below w.heap.size w w' :=by
 by_cases hk:p.x.kind=9
 · have:=Gt (L:= []) h hk (by decide) hp (fun q hq=>absurd hq (by simp)) (fun q hq=>absurd hq (by simp));have e:stP p.x=Au []:=by unfold stP;rw [hk];rfl
   rw [e];exact this
 · exact Gs hG hk h
theorem vZ {w:World}{p:Pw}{L:List Pw}(hG:Gp w) (h:EB w p) (hL:p.x.kind=9→L.length≤100∧Rd w p.pv L.length (nE L)∧∀q∈L,EB w q∧Rd w q.pv 0 []):
 Calls prog 68 #[.agg p.arr] w fun e w' =>e= .returned (.string (iA ⟨p.x,L.map Pw.x⟩))∧Below w.heap.size w w' :=by
 unfold iA Ml;by_cases hk:p.x.kind=9
 · obtain ⟨h1,h2,h3⟩:=hL hk;rw [if_pos hk];exact Gt h hk h1 h2 (fun q hq=>(h3 q hq).1) (fun q hq w' hb=>RA (hG.below hb) ((h3 q hq).1.below hb) ((h3 q hq).2.below hb))
 · rw [if_neg hk];exact Gs hG hk h
theorem ads {q q' :Pr}(h:q≠q'):(q.name.toList==q'.name.toList)=false∨(q.name=q'.name∧(q.t.ty==q'.t.ty)=false)∨(q.name=q'.name∧q.t.ty=q'.t.ty∧(q.t.s.toList==q'.t.s.toList)=false)∨(q.name=q'.name∧q.t.ty=q'.t.ty∧q.t.s=q'.t.s∧(q.t.n==q'.t.n)=false):=by
 obtain ⟨a,b,c,d⟩:=q;obtain ⟨a',b',c',d'⟩:=q';by_cases h1:a=a'
 · subst h1;by_cases h2:b=b'
   · subst h2;by_cases h3:c=c'
     · subst h3;refine Or.inr (Or.inr (Or.inr ⟨rfl,rfl,rfl,beq_eq_false_iff_ne.2 fun h2=>h ?_⟩));have h2' :d=d' :=h2;rw [h2']
     · exact Or.inr (Or.inr (Or.inl ⟨rfl,rfl,by rw [bU];exact xA h3⟩))
   · exact Or.inr (Or.inl ⟨rfl,beq_eq_false_iff_ne.2 h2⟩)
 · exact Or.inl (by rw [bU];exact xA h1)
theorem YF {w:World}{u v:Value}{L M:List Cl}(hu:Rd w u L.length (gH L)) (hv:Rd w v M.length (gH M)) (hl:L.length≤100000) (_hm:M.length≤100000):
 Calls prog 43 #[u,v] w fun e w' =>∃b:Bool,e= .returned (.bool b)∧(b=true ↔ L=M)∧Below w.heap.size w w' :=by
 obtain ⟨a1,k1,rfl,hx0⟩:=hu;obtain ⟨a2,k2,rfl,hy0⟩:=hv;by_cases hlen:L.length=M.length
 · have HL:=Lib.hid hlen;obtain ⟨n,hn⟩:∃n,L.length=n:=⟨_,rfl⟩;have hn2:M.length=n:=by omega
   have HN:=Lib.hid hn;have HN2:=Lib.hid hn2;rw [hn]at hx0 hl⊢;rw [hn2]at hy0⊢;clear hlen hn hn2 _hm;have t0:((n:Int) !=(n:Int))=false:=by simp
   go_enter func43,ntmps43;go_wp2_with fail
   go_loopw [13] (fun i wr=>∃j:Nat,i= .int .i64 j∧j≤n∧Below w.heap.size w wr∧Hid (∀k,k<j→L[k]? =M[k]?)) (fun i _=>n - (intOf i).toNat)
   case atStart=>exact ⟨0,rfl,Nat.zero_le _,Below.refl _ _,fun k hk=>absurd hk (by omega)⟩
   case round=>
    obtain ⟨j,rfl,hj,hBr,HA⟩:=hrel;have hsz:=hBr.size;by_cases hjl:j<n
    · have p0:(j:Int)<(n:Int):=by omega
      have p1:(0:Int)≤(j:Int):=by omega
      have HJ:=Lib.hid (show j+1≤n from hjl);obtain ⟨g1,o1,rfl,hx⟩:=hx0 (by omega);obtain ⟨g2,o2,rfl,hy⟩:=hy0 (by omega);obtain ⟨q,hq⟩:∃q,L[j]? =some q:=⟨_,List.getElem?_eq_getElem (by have:=HN.out;omega)⟩;obtain ⟨q',hq'⟩:∃q,M[j]? =some q:=⟨_,List.getElem?_eq_getElem (by have:=HN2.out;omega)⟩;have k0:wr.cell? ⟨g1,o1+j*2,none⟩=some (.string q.name):=aI hBr (hx (j*2) (.string q.name) (by rw [show j*2=j*2+0 from rfl,iH hq 0 (by omega)];rfl));have k1:wr.cell? ⟨g1,o1+j*2+1,none⟩=some (.int .i64 q.ty):=aI hBr (hx (j*2+1) (.int .i64 q.ty) (by rw [show j*2+1=j*2+1 from rfl,iH hq 1 (by omega)];rfl));have l0:wr.cell? ⟨g2,o2+j*2,none⟩=some (.string q'.name):=aI hBr (hy (j*2) (.string q'.name) (by rw [show j*2=j*2+0 from rfl,iH hq' 0 (by omega)];rfl));have l1:wr.cell? ⟨g2,o2+j*2+1,none⟩=some (.int .i64 q'.ty):=aI hBr (hy (j*2+1) (.int .i64 q'.ty) (by rw [show j*2+1=j*2+1 from rfl,iH hq' 1 (by omega)];rfl));by_cases he:q=q'
      · have HT:Hid (∀k,k<j+1→L[k]? =M[k]?):=yU hq hq' HA.out he;clear hq hq' hx hy;subst he;go_wp2_with fail;go_quiet (fail);go_wp2_with fail;go_roundw
        case rel=>exact ⟨j+1,by go_num,HJ.out,aK.below_drewN hBr _,HT⟩
        case measure=>have hjj:=HJ.out;simp [intOf];omega
      · have HT:Hid (L≠M):=Il hq hq' he;clear hq hq' hx hy hx0 hy0;rcases acF he with hne|⟨e0,hne⟩
        · clear he;go_wp2_with fail;go_quiet (fail);go_wp2_with fail;go_ret;exact ⟨false,rfl,by simpa using HT.out,aK.below_drewN hBr _⟩
        · rw [e0]at k0;have s0:(q'.name.toList==q'.name.toList)=true:=by rw [bU];exact dY.2 rfl
          clear e0;clear he;go_wp2_with fail;go_quiet (fail);go_wp2_with fail;go_ret;exact ⟨false,rfl,by simpa using HT.out,aK.below_drewN hBr _⟩
    · have jV:j=n:=by omega
      subst jV;have HT:Hid (L=M):=yT HL.out (by rw [HN.out];exact HA.out);clear HA;go_wp2_with fail;go_ret;exact ⟨true,rfl,by simpa using HT.out,hBr⟩
 · have t0:((L.length:Int) !=(M.length:Int))=true:=by rw [bne_iff_ne];omega
   have HT:Hid (L≠M):=fun h=>hlen (by rw [h])
   clear hlen;go_enter func43,ntmps43;go_wp2_with fail;go_ret;exact ⟨false,rfl,by simpa using HT.out,Below.refl _ _⟩
theorem YG {w:World}{u v:Value}{L M:List ByteArray}(hu:Rd w u L.length (L.map Value.string)) (hv:Rd w v M.length (M.map Value.string)) (hl:L.length≤100000) (_hm:M.length≤100000):
 Calls prog 46 #[u,v] w fun e w' =>∃b:Bool,e= .returned (.bool b)∧(b=true ↔ L=M)∧Below w.heap.size w w' :=by
 obtain ⟨a1,k1,rfl,hx0⟩:=hu;obtain ⟨a2,k2,rfl,hy0⟩:=hv;by_cases hlen:L.length=M.length
 · have HL:=Lib.hid hlen;obtain ⟨n,hn⟩:∃n,L.length=n:=⟨_,rfl⟩;have hn2:M.length=n:=by omega
   have HN:=Lib.hid hn;have HN2:=Lib.hid hn2;rw [hn]at hx0 hl⊢;rw [hn2]at hy0⊢;clear hlen hn hn2 _hm;have t0:((n:Int) !=(n:Int))=false:=by simp
   go_enter func46,ntmps46;go_wp2_with fail
   go_loopw [13] (fun i wr=>∃j:Nat,i= .int .i64 j∧j≤n∧Below w.heap.size w wr∧Hid (∀k,k<j→L[k]? =M[k]?)) (fun i _=>n - (intOf i).toNat)
   case atStart=>exact ⟨0,rfl,Nat.zero_le _,Below.refl _ _,fun k hk=>absurd hk (by omega)⟩
   case round=>
    obtain ⟨j,rfl,hj,hBr,HA⟩:=hrel;have hsz:=hBr.size;by_cases hjl:j<n
    · have p0:(j:Int)<(n:Int):=by omega
      have p1:(0:Int)≤(j:Int):=by omega
      have HJ:=Lib.hid (show j+1≤n from hjl);obtain ⟨g1,o1,rfl,hx⟩:=hx0 (by omega);obtain ⟨g2,o2,rfl,hy⟩:=hy0 (by omega);obtain ⟨q,hq⟩:∃q,L[j]? =some q:=⟨_,List.getElem?_eq_getElem (by have:=HN.out;omega)⟩;obtain ⟨q',hq'⟩:∃q,M[j]? =some q:=⟨_,List.getElem?_eq_getElem (by have:=HN2.out;omega)⟩;have k0:wr.cell? ⟨g1,o1+j,none⟩=some (.string q):=aI hBr (hx (j) (.string q) (by rw [List.getElem?_map,hq];rfl));have l0:wr.cell? ⟨g2,o2+j,none⟩=some (.string q'):=aI hBr (hy (j) (.string q') (by rw [List.getElem?_map,hq'];rfl));by_cases he:q=q'
      · have HT:Hid (∀k,k<j+1→L[k]? =M[k]?):=yU hq hq' HA.out he;clear hq hq' hx hy;subst he;have s0:(q.toList==q.toList)=true:=by rw [bU];exact dY.2 rfl
        go_wp2_with fail;go_quiet (fail);go_wp2_with fail;go_roundw
        case rel=>exact ⟨j+1,by go_num,HJ.out,aK.below_drewN hBr _,HT⟩
        case measure=>have hjj:=HJ.out;simp [intOf];omega
      · have HT:Hid (L≠M):=Il hq hq' he;clear hq hq' hx hy hx0 hy0;have hne:(q.toList==q'.toList)=false:=by rw [bU];exact xA he
        clear he;go_wp2_with fail;go_quiet (fail);go_wp2_with fail;go_ret;exact ⟨false,rfl,by simpa using HT.out,aK.below_drewN hBr _⟩
    · have jV:j=n:=by omega
      subst jV;have HT:Hid (L=M):=yT HL.out (by rw [HN.out];exact HA.out);clear HA;go_wp2_with fail;go_ret;exact ⟨true,rfl,by simpa using HT.out,hBr⟩
 · have t0:((L.length:Int) !=(M.length:Int))=true:=by rw [bne_iff_ne];omega
   have HT:Hid (L≠M):=fun h=>hlen (by rw [h])
   clear hlen;go_enter func46,ntmps46;go_wp2_with fail;go_ret;exact ⟨false,rfl,by simpa using HT.out,Below.refl _ _⟩
theorem Pg {w:World}{u v:Value}{L M:List Pr}(hu:Rd w u L.length (fG L)) (hv:Rd w v M.length (fG M)) (hl:L.length≤100000) (_hm:M.length≤100000):
 Calls prog 140 #[u,v] w fun e w' =>∃b:Bool,e= .returned (.bool b)∧(b=true ↔ L=M)∧Below w.heap.size w w' :=by
 obtain ⟨a1,k1,rfl,hx0⟩:=hu;obtain ⟨a2,k2,rfl,hy0⟩:=hv;by_cases hlen:L.length=M.length
 · have HL:=Lib.hid hlen;obtain ⟨n,hn⟩:∃n,L.length=n:=⟨_,rfl⟩;have hn2:M.length=n:=by omega
   have HN:=Lib.hid hn;have HN2:=Lib.hid hn2;rw [hn]at hx0 hl⊢;rw [hn2]at hy0⊢;clear hlen hn hn2 _hm;have t0:((n:Int) !=(n:Int))=false:=by simp
   go_enter func140,ntmps140;go_wp2_with fail
   go_loopw [13] (fun i wr=>∃j:Nat,i= .int .i64 j∧j≤n∧Below w.heap.size w wr∧Hid (∀k,k<j→L[k]? =M[k]?)) (fun i _=>n - (intOf i).toNat)
   case atStart=>exact ⟨0,rfl,Nat.zero_le _,Below.refl _ _,fun k hk=>absurd hk (by omega)⟩
   case round=>
    obtain ⟨j,rfl,hj,hBr,HA⟩:=hrel;have hsz:=hBr.size;by_cases hjl:j<n
    · have p0:(j:Int)<(n:Int):=by omega
      have p1:(0:Int)≤(j:Int):=by omega
      have HJ:=Lib.hid (show j+1≤n from hjl);obtain ⟨g1,o1,rfl,hx⟩:=hx0 (by omega);obtain ⟨g2,o2,rfl,hy⟩:=hy0 (by omega);obtain ⟨q,hq⟩:∃q,L[j]? =some q:=⟨_,List.getElem?_eq_getElem (by have:=HN.out;omega)⟩;obtain ⟨q',hq'⟩:∃q,M[j]? =some q:=⟨_,List.getElem?_eq_getElem (by have:=HN2.out;omega)⟩;have k0:wr.cell? ⟨g1,o1+j*4,none⟩=some (.string q.name):=aI hBr (hx (j*4) (.string q.name) (by rw [show j*4=j*4+0 from rfl,dM hq 0 (by omega)];rfl));have k1:wr.cell? ⟨g1,o1+j*4+1,none⟩=some (.int .i64 q.t.ty):=aI hBr (hx (j*4+1) (.int .i64 q.t.ty) (by rw [show j*4+1=j*4+1 from rfl,dM hq 1 (by omega)];rfl));have k2:wr.cell? ⟨g1,o1+j*4+2,none⟩=some (.string q.t.s):=aI hBr (hx (j*4+2) (.string q.t.s) (by rw [show j*4+2=j*4+2 from rfl,dM hq 2 (by omega)];rfl));have k3:wr.cell? ⟨g1,o1+j*4+3,none⟩=some (.int .i64 q.t.n):=aI hBr (hx (j*4+3) (.int .i64 q.t.n) (by rw [show j*4+3=j*4+3 from rfl,dM hq 3 (by omega)];rfl));have l0:wr.cell? ⟨g2,o2+j*4,none⟩=some (.string q'.name):=aI hBr (hy (j*4) (.string q'.name) (by rw [show j*4=j*4+0 from rfl,dM hq' 0 (by omega)];rfl));have l1:wr.cell? ⟨g2,o2+j*4+1,none⟩=some (.int .i64 q'.t.ty):=aI hBr (hy (j*4+1) (.int .i64 q'.t.ty) (by rw [show j*4+1=j*4+1 from rfl,dM hq' 1 (by omega)];rfl));have l2:wr.cell? ⟨g2,o2+j*4+2,none⟩=some (.string q'.t.s):=aI hBr (hy (j*4+2) (.string q'.t.s) (by rw [show j*4+2=j*4+2 from rfl,dM hq' 2 (by omega)];rfl));have l3:wr.cell? ⟨g2,o2+j*4+3,none⟩=some (.int .i64 q'.t.n):=aI hBr (hy (j*4+3) (.int .i64 q'.t.n) (by rw [show j*4+3=j*4+3 from rfl,dM hq' 3 (by omega)];rfl));by_cases he:q=q'
      · have HT:Hid (∀k,k<j+1→L[k]? =M[k]?):=yU hq hq' HA.out he;clear hq hq' hx hy;subst he;go_wp2_with fail;go_quiet (fail);go_wp2_with fail;go_roundw
        case rel=>exact ⟨j+1,by go_num,HJ.out,aK.below_drewN hBr _,HT⟩
        case measure=>have hjj:=HJ.out;simp [intOf];omega
      · have HT:Hid (L≠M):=Il hq hq' he;clear hq hq' hx hy hx0 hy0;rcases ads he with hne|⟨e0,hne⟩|⟨e0,e1,hne⟩|⟨e0,e1,e2,hne⟩
        · clear he;go_wp2_with fail;go_quiet (fail);go_wp2_with fail;go_ret;exact ⟨false,rfl,by simpa using HT.out,aK.below_drewN hBr _⟩
        · rw [e0]at k0;have s0:(q'.name.toList==q'.name.toList)=true:=by rw [bU];exact dY.2 rfl
          clear e0;clear he;go_wp2_with fail;go_quiet (fail);go_wp2_with fail;go_ret;exact ⟨false,rfl,by simpa using HT.out,aK.below_drewN hBr _⟩
        · rw [e0]at k0;have s0:(q'.name.toList==q'.name.toList)=true:=by rw [bU];exact dY.2 rfl
          rw [e1]at k1;clear e0 e1;clear he;go_wp2_with fail;go_quiet (fail);go_wp2_with fail;go_ret;exact ⟨false,rfl,by simpa using HT.out,aK.below_drewN hBr _⟩
        · rw [e0]at k0;have s0:(q'.name.toList==q'.name.toList)=true:=by rw [bU];exact dY.2 rfl
          rw [e1]at k1;rw [e2]at k2;have s2:(q'.t.s.toList==q'.t.s.toList)=true:=by rw [bU];exact dY.2 rfl
          clear e0 e1 e2;clear he;go_wp2_with fail;go_quiet (fail);go_wp2_with fail;go_ret;exact ⟨false,rfl,by simpa using HT.out,aK.below_drewN hBr _⟩
    · have jV:j=n:=by omega
      subst jV;have HT:Hid (L=M):=yT HL.out (by rw [HN.out];exact HA.out);clear HA;go_wp2_with fail;go_ret;exact ⟨true,rfl,by simpa using HT.out,hBr⟩
 · have t0:((L.length:Int) !=(M.length:Int))=true:=by rw [bne_iff_ne];omega
   have HT:Hid (L≠M):=fun h=>hlen (by rw [h])
   clear hlen;go_enter func140,ntmps140;go_wp2_with fail;go_ret;exact ⟨false,rfl,by simpa using HT.out,Below.refl _ _⟩
end Go.Proofs.YtnngbhpeeakfaaaGreatDoor
