/- Parts of the proof, joined: GrmN GrmO GrmP GrmS GrmQ GrmR SamA PlainPK LgtA PrsU WdS SamB. -/
import Derived.Deep.RegionHeld3
import Derived.Test.YtfbgdjcnlnfoaaaGreatDoorB09
import Derived.Test.YtfbgdjcnlnfoaaaGreatDoorB10
set_option maxHeartbeats 8000000
set_option maxRecDepth 100000
namespace Go.Proofs.YtfbgdjcnlnfoaaaGreatDoor
open Go.RowKit
open aH
theorem N9 {w:World}{x:Sx}{tc c s wv pv:Value}(hk:x.kind=2) (hG:Gp w) (hok:iR x) (hin:jm w x tc c s wv) (hpv:pv.oneCell' =true):
 Calls Tryz.prog 30 #[.agg (aF x tc c s wv pv)] w fun e w' =>e= .returned (.string (aG (yX x)))∧Below w.heap.size w w' :=by
 have hone:=hin.one hpv
 have hB1:=(Below.refl w.heap.size w).alloc (Nat.le_refl _) (.cells (aF x tc c s wv pv) 31)
 have hbl:(w.alloc (.cells (aF x tc c s wv pv) 31)).heap[w.heap.size]? =some (.cells (aF x tc c s wv pv) 31 (0,0)):=aB w _
 have hof:=lI (w:=w.alloc (.cells (aF x tc c s wv pv) 31)) x tc c s wv pv
 have hkv:dV x.kind (aF x tc c s wv pv)= .iface 86 (.agg (aF x tc c s wv pv)):=by unfold dV;rw [hk];rfl
 rw [hkv]at hof
 clear hkv
 obtain ⟨Js,zC⟩:∃r,aG (gM x.aO)=r:=⟨_,rfl⟩
 have SN:Js.size≤100000300:=by rw [←zC];exact kW (Nat.le_trans hok.aO.1 (by decide)) hok.aO.2
 obtain ⟨Jk,eJk⟩:∃r,cB (⟨#[44,32]⟩:ByteArray) ((⟨x.on,Tm.zero⟩::x.aP).map Pr.name)=r:=⟨_,rfl⟩
 have hnm:∀q∈(⟨x.on,Tm.zero⟩::x.aP:List Pr).map Pr.name,q.size≤1000000:=by intro q hq;rcases List.mem_cons.1 hq with rfl|hq;exact hok.on;obtain ⟨r,hr,rfl⟩:=List.mem_map.1 hq;exact (hok.aP.2 r hr).2
 have hln:(⟨x.on,Tm.zero⟩::x.aP:List Pr).length≤100:=by have:=hok.Kc;simp;omega
 have zJk:Jk.size≤100*1000002:=by
  rw [←eJk]
  have:=gu (⟨#[44,32]⟩:ByteArray) ((⟨x.on,Tm.zero⟩::x.aP:List Pr).map Pr.name) 1000000 hnm
  rw [List.length_map]at this
  exact Nat.le_trans this (Nat.mul_le_mul hln (by decide))
 have Fe:((⟨#[67,82,69,65,84,69,32,77,65,84,69,82,73,65,76,73,90,69,68,32,86,73,69,87,32]⟩:ByteArray)).size≤25:=by decide
 have Fg:(x.name).size≤1000000:=hok.name
 obtain ⟨A1,lU⟩:∃r,(⟨#[67,82,69,65,84,69,32,77,65,84,69,82,73,65,76,73,90,69,68,32,86,73,69,87,32]⟩:ByteArray)++x.name=r:=⟨_,rfl⟩
 have Fh:=aU ((⟨#[67,82,69,65,84,69,32,77,65,84,69,82,73,65,76,73,90,69,68,32,86,73,69,87,32]⟩:ByteArray)) (x.name) (by omega)
 rw [lU]at Fh
 have Fj:A1.size≤1000025:=by rw [←lU,ByteArray.size_append];omega
 have Ib:((⟨#[32,65,83,32,83,69,76,69,67,84,32]⟩:ByteArray)).size≤11:=by decide
 obtain ⟨A2,nG⟩:∃r,A1++(⟨#[32,65,83,32,83,69,76,69,67,84,32]⟩:ByteArray)=r:=⟨_,rfl⟩
 have Ic:=aU (A1) ((⟨#[32,65,83,32,83,69,76,69,67,84,32]⟩:ByteArray)) (by omega)
 rw [nG]at Ic
 have Ie:A2.size≤1000036:=by rw [←nG,ByteArray.size_append];omega
 have Ig:(Js).size≤100000300:=SN
 obtain ⟨A3,nH⟩:∃r,A2++Js=r:=⟨_,rfl⟩
 have Ih:=aU (A2) (Js) (by omega)
 rw [nH]at Ih
 have Ii:A3.size≤101000336:=by rw [←nH,ByteArray.size_append];omega
 have Ij:((⟨#[32,70,82,79,77,32]⟩:ByteArray)).size≤6:=by decide
 obtain ⟨A4,nI⟩:∃r,A3++(⟨#[32,70,82,79,77,32]⟩:ByteArray)=r:=⟨_,rfl⟩
 have Ik:=aU (A3) ((⟨#[32,70,82,79,77,32]⟩:ByteArray)) (by omega)
 rw [nI]at Ik
 have Il:A4.size≤101000342:=by rw [←nI,ByteArray.size_append];omega
 have Im:(x.bM).size≤1000000:=hok.bM
 obtain ⟨A5,nJ⟩:∃r,A4++x.bM=r:=⟨_,rfl⟩
 have Io:=aU (A4) (x.bM) (by omega)
 rw [nJ]at Io
 have Ip:A5.size≤102000342:=by rw [←nJ,ByteArray.size_append];omega
 have XO:((⟨#[32,87,72,69,82,69,32]⟩:ByteArray)).size≤7:=by decide
 obtain ⟨A6,Fp⟩:∃r,A5++(⟨#[32,87,72,69,82,69,32]⟩:ByteArray)=r:=⟨_,rfl⟩
 have XP:=aU (A5) ((⟨#[32,87,72,69,82,69,32]⟩:ByteArray)) (by omega)
 rw [Fp]at XP
 have XQ:A6.size≤102000349:=by rw [←Fp,ByteArray.size_append];omega
 have ZI:(x.on).size≤1000000:=hok.on
 obtain ⟨A7,LB⟩:∃r,A6++x.on=r:=⟨_,rfl⟩
 have ZJ:=aU (A6) (x.on) (by omega)
 rw [LB]at ZJ
 have ZK:A7.size≤103000349:=by rw [←LB,ByteArray.size_append];omega
 have Ay8:((⟨#[32,73,83,32,78,79,84,32,78,85,76,76,32,80,82,73,77,65,82,89,32,75,69,89,32,40]⟩:ByteArray)).size≤26:=by decide
 obtain ⟨A8,U0⟩:∃r,A7++(⟨#[32,73,83,32,78,79,84,32,78,85,76,76,32,80,82,73,77,65,82,89,32,75,69,89,32,40]⟩:ByteArray)=r:=⟨_,rfl⟩
 have Ah8:=aU (A7) ((⟨#[32,73,83,32,78,79,84,32,78,85,76,76,32,80,82,73,77,65,82,89,32,75,69,89,32,40]⟩:ByteArray)) (by omega)
 rw [U0]at Ah8
 have Az8:A8.size≤103000375:=by rw [←U0,ByteArray.size_append];omega
 have Ay9:(Jk).size≤100000200:=zJk
 obtain ⟨A9,Ae9⟩:∃r,A8++Jk=r:=⟨_,rfl⟩
 have Ah9:=aU (A8) (Jk) (by omega)
 rw [Ae9]at Ah9
 have Az9:A9.size≤203000575:=by rw [←Ae9,ByteArray.size_append];omega
 have abJ:((⟨#[41]⟩:ByteArray)).size≤1:=by decide
 obtain ⟨A10,U3⟩:∃r,A9++(⟨#[41]⟩:ByteArray)=r:=⟨_,rfl⟩
 have abK:=aU (A9) ((⟨#[41]⟩:ByteArray)) (by omega)
 rw [U3]at abK
 have abL:A10.size≤203000576:=by rw [←U3,ByteArray.size_append];omega
 have HE:Hid (A10=aG (yX x)):=by
  show _=_
  rw [←U3,←Ae9,←U0,←LB,←Fp,←nJ,←nI,←nH,←nG,←lU,←eJk,←zC]
  unfold yX
  rw [bP,bP,bP,bP,←iw,jv,←EY]
  apply ByteArray.ext;apply Array.ext';simp [aG,Pc.text]
 clear lU nG nH nI nJ Fp LB U0 Ae9 U3
 clear Fe Fj Ie Ii Il Ip XQ ZK Az8 Az9 abL Fg Ib Ig Ij Im XO ZI Ay8 Ay9 abJ
 clear zJk SN
 have HC:=Lib.hid (fun (wq:World) (uS:Below w.heap.size w wq)=>And.intro (hG.below uS) (hin.below uS))
 have HNM:=Lib.hid hnm
 have XY:=Lib.hid hln
 have HJ:=Lib.hid eJk
 have ZL:=Lib.hid zC
 have ZN:Hid (x.aP.length≤90):=hok.Kc
 have wY:=Lib.hid hok
 clear eJk zC hnm hln hok hin hG hk
 have wZ:=UU
 have rZ:=Cy
 go_enter Tryz.func30,Tryz.ntmps30
 go_wp2_with (refine bA rfl _ rfl rfl rfl hbl ?_)
 refine hof.mono ?_;rintro e w2 ⟨rfl,hb2⟩
 have hB2:=hB1.trans (hb2.mono hB1.size)
 have hV:(w2.alloc (.cells (aF x tc c s wv pv) 86)).heap[w2.heap.size]? =some (.cells (aF x tc c s wv pv) 86 (0,0)):=aB w2 _
 have hB3:=hB2.alloc hB2.size (.cells (aF x tc c s wv pv) 86)
 have m3:=(aM hV).2.2.2.1
 have m13:=(aM hV).2.2.2.2.2.2.2.2.2.2.2.2.2.1
 have hs0:=aA w2 (.cells (aF x tc c s wv pv) 86)
 have hlit:=ng (w2.alloc (.cells (aF x tc c s wv pv) 86)) [.string x.on, .int .i64 0, .string ⟨#[]⟩, .int .i64 0] 61 1 4 (w2.heap.size+1) rfl (by decide) (Nat.le_of_eq hs0.symm)
 rw [hs0]at hlit
 have yZ:=hB3.alloc hB3.size (.cells #[.string x.on, .int .i64 0, .string ⟨#[]⟩, .int .i64 0] 61)
 have abM:((w2.alloc (.cells (aF x tc c s wv pv) 86)).alloc (.cells #[.string x.on, .int .i64 0, .string ⟨#[]⟩, .int .i64 0] 61)).cell? ⟨w2.heap.size,13,none⟩=some wv:=by rw [aj (au hV _)];rfl
 have hrd:=((HC.out _ yZ).2).wv
 have HT9:=ZN.out
 go_wp2_with (first|refine kg UO rfl _ _ rfl rfl rfl rfl rfl hone ?_|(at_builtin;refine ZM Tryz.vI rfl _ _ rfl (w2.heap.size+1) _ _ _ rfl hlit _ _ _ rfl hrd (xY _) (xX _) (by omega) (Nat.le_of_lt (by rw [aA,hs0];omega)) ?_;intro a6 c6 wq h6 O4))
 have Ki:=au hV (.cells #[.string x.on, .int .i64 0, .string ⟨#[]⟩, .int .i64 0] 61)
 have hW0:=(O4.block _ (aC Ki) (fun e=>by have:=(hlit.lt _ e.symm).1;omega)).trans Ki
 have uS:=below_app yZ yZ.size O4 (fun g2 hg2=>by have:=(hlit.lt g2 hg2).1;have:=hB2.size;omega)
 have d0:wq.cell? ⟨w2.heap.size,1,none⟩=some (.string x.name):=by rw [aj hW0];rfl
 have d1:wq.cell? ⟨w2.heap.size,2,none⟩=some (.string x.bM):=by rw [aj hW0];rfl
 have d2:wq.cell? ⟨w2.heap.size,3,none⟩=some (.string x.on):=by rw [aj hW0];rfl
 have d3:wq.cell? ⟨w2.heap.size,11,none⟩=some c:=by rw [aj hW0];rfl
 have hrow:Rd wq (.slice a6 (⟨x.on,Tm.zero⟩::x.aP:List Pr).length c6) (⟨x.on,Tm.zero⟩::x.aP:List Pr).length (bQ (⟨x.on,Tm.zero⟩::x.aP)):=by
  have e:(⟨x.on,Tm.zero⟩::x.aP:List Pr).length=1+x.aP.length:=by simp;omega
  rw [e];exact Rd.own h6
 have HJk:Hid (∀(w' :World),Below wq.heap.size wq w' →Calls Tryz.prog 52 #[.slice a6 (1+x.aP.length) c6, .string (⟨#[44,32]⟩:ByteArray), .func (.func 53) #[] #[]] w' (fun e w'' =>e= .returned (.string Jk)∧Below w'.heap.size w' w'')):=fun w' hB' =>by
  rw [←HJ.out]
  have e:(⟨x.on,Tm.zero⟩::x.aP:List Pr).length=1+x.aP.length:=by simp;omega
  have:=RB (T:=Pr.name) (sep:=(⟨#[44,32]⟩:ByteArray)) XY.out (hrow.below hB') (fun q _ w'' _=>za q w'') (by
   have:=gu (⟨#[44,32]⟩:ByteArray) ((⟨x.on,Tm.zero⟩::x.aP:List Pr).map Pr.name) 1000000 HNM.out
   rw [List.length_map]at this
   exact Nat.le_trans this (Nat.le_trans (Nat.mul_le_mul XY.out (Nat.le_refl _)) (by decide)))
  rw [e]at this;exact this
 have abN:Hid (∀(w' :World),Below wq.heap.size wq w' →Calls Tryz.prog 51 #[c] w' (fun e w'' =>e= .returned (.string Js)∧Below w'.heap.size w' w'')):=fun w' hB' =>by
  rw [←ZL.out]
  exact sN (Nat.le_trans wY.out.aO.1 (by decide)) (((HC.out wq uS).2).c.below hB') wY.out.aO.2
 clear HC HNM XY HJ ZN wY hof hbl hB1 hb2 hB2 hone wZ rZ hB3 yZ hV hs0 abM hlit hrd HT9 Ki hW0 hrow h6 O4 m3 m13
 go_wp2_with fail
 have hS:Below wq.heap.size wq wq∧wq.cell? ⟨w2.heap.size,1,none⟩=some (.string x.name)∧wq.cell? ⟨w2.heap.size,2,none⟩=some (.string x.bM)∧wq.cell? ⟨w2.heap.size,3,none⟩=some (.string x.on)∧wq.cell? ⟨w2.heap.size,11,none⟩=some (c):=⟨Below.refl _ _,d0,d1,d2,d3⟩
 go_region_held3 (fun w' =>Below wq.heap.size wq w' ∧w'.cell? ⟨w2.heap.size,1,none⟩=some (.string x.name)∧w'.cell? ⟨w2.heap.size,2,none⟩=some (.string x.bM)∧w'.cell? ⟨w2.heap.size,3,none⟩=some (.string x.on)∧w'.cell? ⟨w2.heap.size,11,none⟩=some (c)) (first|exact Fb (by assumption) ZO|exact Fb (by assumption) abO|exact ⟨(Below.refl _ _).drew,d0,d1,d2,d3⟩)
  (first
  |(go_at_call 51;with_reducible refine (abN.out _ (And.left (by assumption))).mono ?_;rintro e aeD ⟨rfl,ZO⟩)
  |(go_at_call 52;with_reducible refine (HJk.out _ (And.left (by assumption))).mono ?_;rintro e wJk ⟨rfl,abO⟩))
 go_wp2_with fail
 go_ret
 rw [←HE.out]
 exact ⟨rfl,uS.trans (Below.mono (And.left (by assumption)) uS.size)⟩
theorem Kj {w:World}{x:Sx}{tc c s wv pv:Value}{J:ByteArray}(hk:x.kind=9) (hin:jm w x tc c s wv) (hpv:pv.oneCell' =true) (hJ:J.size≤500000000000000)
 (hls:∀w',Below w.heap.size w w' →Calls Tryz.prog 60 #[pv, .string ⟨#[]⟩, .func (.func 61) #[] #[]] w' fun e w'' =>e= .returned (.string J)∧Below w'.heap.size w' w''):
 Calls Tryz.prog 30 #[.agg (aF x tc c s wv pv)] w fun e w' =>e= .returned (.string (((⟨#[66,69,71,73,78,32,66,65,84,67,72,32]⟩:ByteArray)++J)++(⟨#[65,80,80,76,89,32,66,65,84,67,72]⟩:ByteArray)))∧Below w.heap.size w w' :=by
 have hone:=hin.one hpv
 have hB1:=(Below.refl w.heap.size w).alloc (Nat.le_refl _) (.cells (aF x tc c s wv pv) 31)
 have hbl:(w.alloc (.cells (aF x tc c s wv pv) 31)).heap[w.heap.size]? =some (.cells (aF x tc c s wv pv) 31 (0,0)):=aB w _
 have hof:=lI (w:=w.alloc (.cells (aF x tc c s wv pv) 31)) x tc c s wv pv
 have hkv:dV x.kind (aF x tc c s wv pv)= .iface 100 (.agg (aF x tc c s wv pv)):=by unfold dV;rw [hk];rfl
 rw [hkv]at hof
 clear hkv
 have ha1:=aU (⟨#[66,69,71,73,78,32,66,65,84,67,72,32]⟩:ByteArray) J (by show 12+_≤_;omega)
 have ha2:=aU ((⟨#[66,69,71,73,78,32,66,65,84,67,72,32]⟩:ByteArray)++J) (⟨#[65,80,80,76,89,32,66,65,84,67,72]⟩:ByteArray) (by rw [ByteArray.size_append];show 12+_+11≤_;omega)
 have HLS:=Lib.hid hls
 clear hls hin hk hJ
 have wZ:=RQ
 have rZ:=BI
 have uN:=CG
 have wO:=BJ
 have xW:=CJ
 have BN:=zy
 have Fv:=zA
 have RV:=zB
 have abP:=E5
 go_enter Tryz.func30,Tryz.ntmps30
 go_wp2_with (refine bA rfl _ rfl rfl rfl hbl ?_)
 refine hof.mono ?_;rintro e w2 ⟨rfl,hb2⟩
 have hB2:=hB1.trans (hb2.mono hB1.size)
 have hV:(w2.alloc (.cells (aF x tc c s wv pv) 100)).heap[w2.heap.size]? =some (.cells (aF x tc c s wv pv) 100 (0,0)):=aB w2 _
 have hB3:=hB2.alloc hB2.size (.cells (aF x tc c s wv pv) 100)
 have m17:=(aM hV).2.2.2.2.2.2.2.2.2.2.2.2.2.2.2.2.2
 have hc:=HLS.out _ hB3
 go_wp2_with (refine kg RL rfl _ _ rfl rfl rfl rfl rfl hone ?_)
 refine hc.mono ?_;rintro e w3 ⟨rfl,hb3⟩
 go_wp2_with fail
 go_ret
 exact ⟨rfl,hB3.trans (hb3.mono hB3.size)⟩
theorem Oa {w:World}{x:Sx}{tc c s wv pv:Value}(hk:∀k:Int,1≤k→k≤9→x.kind≠k):
 Calls Tryz.prog 30 #[.agg (aF x tc c s wv pv)] w fun e w' =>e= .returned (.string ⟨#[]⟩)∧Below w.heap.size w w' :=by
 have hB1:=(Below.refl w.heap.size w).alloc (Nat.le_refl _) (.cells (aF x tc c s wv pv) 31)
 have hbl:(w.alloc (.cells (aF x tc c s wv pv) 31)).heap[w.heap.size]? =some (.cells (aF x tc c s wv pv) 31 (0,0)):=aB w _
 have hof:=lI (w:=w.alloc (.cells (aF x tc c s wv pv) 31)) x tc c s wv pv
 have hkv:dV x.kind (aF x tc c s wv pv)= .nilIface:=by unfold dV;rw [if_neg (hk 1 (by decide) (by decide)),if_neg (hk 2 (by decide) (by decide)),if_neg (hk 3 (by decide) (by decide)),if_neg (hk 4 (by decide) (by decide)),if_neg (hk 5 (by decide) (by decide)),if_neg (hk 6 (by decide) (by decide)),if_neg (hk 7 (by decide) (by decide)),if_neg (hk 8 (by decide) (by decide)),if_neg (hk 9 (by decide) (by decide))]
 rw [hkv]at hof
 clear hkv
 clear hk
 have rZ:=E8
 have uN:=H8
 have wO:=E9
 have xW:=Ia
 have BN:=CK
 have Fv:=CO
 have RV:=CP
 have abP:=Ka
 have aeF:=Fa
 go_enter Tryz.func30,Tryz.ntmps30
 go_wp2_with (refine bA rfl _ rfl rfl rfl hbl ?_)
 refine hof.mono ?_;rintro e w2 ⟨rfl,hb2⟩
 have hB2:=hB1.trans (hb2.mono hB1.size)
 go_wp2_with fail
 go_ret
 exact ⟨rfl,hB2⟩
theorem Fw {w:World}{x:Sx}{tc c s wv pv:Value}(hc0:x.aO= []) (hk:x.kind=7) (hG:Gp w) (hok:iR x) (hin:jm w x tc c s wv) (hpv:pv.oneCell' =true):
 Calls Tryz.prog 30 #[.agg (aF x tc c s wv pv)] w fun e w' =>e= .returned (.string (aG (j5 x)))∧Below w.heap.size w w' :=by
 obtain ⟨cA,cC,hce,_⟩:=hin.c
 rw [hc0]at hce
 replace hce:c= .slice cA 0 cC:=hce
 subst hce
 have hone:=hin.one hpv
 have hB1:=(Below.refl w.heap.size w).alloc (Nat.le_refl _) (.cells (aF x tc (.slice cA 0 cC) s wv pv) 31)
 have hbl:(w.alloc (.cells (aF x tc (.slice cA 0 cC) s wv pv) 31)).heap[w.heap.size]? =some (.cells (aF x tc (.slice cA 0 cC) s wv pv) 31 (0,0)):=aB w _
 have hof:=lI (w:=w.alloc (.cells (aF x tc (.slice cA 0 cC) s wv pv) 31)) x tc (.slice cA 0 cC) s wv pv
 have hkv:dV x.kind (aF x tc (.slice cA 0 cC) s wv pv)= .iface 97 (.agg (aF x tc (.slice cA 0 cC) s wv pv)):=by unfold dV;rw [hk];rfl
 rw [hkv]at hof
 clear hkv
 obtain ⟨Ju,uO⟩:∃r,aG (dG x.stamp x.ttl)=r:=⟨_,rfl⟩
 have RU:Ju.size≤1000:=by rw [←uO];exact jk _ _ hok.stamp hok.ttl
 obtain ⟨Jw,ql⟩:∃r,aG (dP x.aP)=r:=⟨_,rfl⟩
 have LC:Jw.size≤400002000:=by rw [←ql];exact lG hok.aP
 have Fe:((⟨#[68,69,76,69,84,69,32]⟩:ByteArray)).size≤7:=by decide
 have Fg:((⟨#[]⟩:ByteArray)).size≤0:=by decide
 obtain ⟨A1,lU⟩:∃r,(⟨#[68,69,76,69,84,69,32]⟩:ByteArray)++(⟨#[]⟩:ByteArray)=r:=⟨_,rfl⟩
 have Fh:=aU ((⟨#[68,69,76,69,84,69,32]⟩:ByteArray)) ((⟨#[]⟩:ByteArray)) (by omega)
 rw [lU]at Fh
 have Fj:A1.size≤7:=by rw [←lU,ByteArray.size_append];omega
 have Ib:((⟨#[70,82,79,77,32]⟩:ByteArray)).size≤5:=by decide
 obtain ⟨A2,nG⟩:∃r,A1++(⟨#[70,82,79,77,32]⟩:ByteArray)=r:=⟨_,rfl⟩
 have Ic:=aU (A1) ((⟨#[70,82,79,77,32]⟩:ByteArray)) (by omega)
 rw [nG]at Ic
 have Ie:A2.size≤12:=by rw [←nG,ByteArray.size_append];omega
 have Ig:(x.bM).size≤1000000:=hok.bM
 obtain ⟨A3,nH⟩:∃r,A2++x.bM=r:=⟨_,rfl⟩
 have Ih:=aU (A2) (x.bM) (by omega)
 rw [nH]at Ih
 have Ii:A3.size≤1000012:=by rw [←nH,ByteArray.size_append];omega
 have Ij:(Ju).size≤1000:=RU
 obtain ⟨A4,nI⟩:∃r,A3++Ju=r:=⟨_,rfl⟩
 have Ik:=aU (A3) (Ju) (by omega)
 rw [nI]at Ik
 have Il:A4.size≤1001012:=by rw [←nI,ByteArray.size_append];omega
 have Im:(Jw).size≤400002000:=LC
 obtain ⟨A5,nJ⟩:∃r,A4++Jw=r:=⟨_,rfl⟩
 have Io:=aU (A4) (Jw) (by omega)
 rw [nJ]at Io
 have Ip:A5.size≤401003012:=by rw [←nJ,ByteArray.size_append];omega
 have HE:Hid (A5=aG (j5 x)):=by
  show _=_
  rw [←nJ,←nI,←nH,←nG,←lU,←uO,←ql]
  unfold j5
  rw [if_pos hc0]
  apply ByteArray.ext;apply Array.ext';simp [bP,aG,Pc.text]
 clear lU nG nH nI nJ
 clear Fe Fj Ie Ii Il Ip Fg Ib Ig Ij Im
 clear RU LC
 have HC:=Lib.hid (fun (wq:World) (uS:Below w.heap.size w wq)=>And.intro (hG.below uS) (hin.below uS))
 have wY:=Lib.hid hok
 have HJ:Hid (aG (dG x.stamp x.ttl)=Ju∧aG (dP x.aP)=Jw):=⟨uO,ql⟩
 clear uO ql hok hin hG hk
 have wZ:=Dx
 have rZ:=qA
 have uN:=rX
 have wO:=qB
 have xW:=rY
 have BN:=oO
 have Fv:=oQ
 go_enter Tryz.func30,Tryz.ntmps30
 go_wp2_with (refine bA rfl _ rfl rfl rfl hbl ?_)
 refine hof.mono ?_;rintro e w2 ⟨rfl,hb2⟩
 have hB2:=hB1.trans (hb2.mono hB1.size)
 have hV:(w2.alloc (.cells (aF x tc (.slice cA 0 cC) s wv pv) 97)).heap[w2.heap.size]? =some (.cells (aF x tc (.slice cA 0 cC) s wv pv) 97 (0,0)):=aB w2 _
 have hB3:=hB2.alloc hB2.size (.cells (aF x tc (.slice cA 0 cC) s wv pv) 97)
 have m11:=(aM hV).2.2.2.2.2.2.2.2.2.2.2.1
 clear hc0
 go_wp2_with (refine kg Dw rfl _ _ rfl rfl rfl rfl rfl hone ?_)
 obtain ⟨wq,hwq⟩:∃wq,wq=w2.alloc (.cells (aF x tc (.slice cA 0 cC) s wv pv) 97):=⟨_,rfl⟩
 rw [←hwq]at hV hB3⊢
 clear hwq
 obtain ⟨Cr,nP⟩:=HC.out wq hB3
 have hok:=wY.out
 obtain ⟨uO,ql⟩:=HJ.out
 have XU:Hid (∀(w' :World),Below wq.heap.size wq w' →Calls Tryz.prog 56 #[.int .i64 x.stamp, .int .i64 x.ttl] w' (fun e w'' =>e= .returned (.string Ju)∧Below w'.heap.size w' w'')):=fun w' hB' =>by rw [←uO];exact qj (Cr.below hB') hok.stamp hok.ttl
 have UY:Hid (∀(w' :World),Below wq.heap.size wq w' →Calls Tryz.prog 58 #[wv] w' (fun e w'' =>e= .returned (.string Jw)∧Below w'.heap.size w' w'')):=fun w' hB' =>by rw [←ql];exact mO (Cr.below hB') hok.aP (nP.wv.below hB')
 clear Cr nP hok uO ql
 clear HC wY HJ hof hbl hB1 hb2 hB2 hone wZ rZ uN wO xW BN Fv
 have d2:wq.cell? ⟨w2.heap.size,2,none⟩=some (.string x.bM):=(aM hV).2.2.1
 have fO:wq.cell? ⟨w2.heap.size,13,none⟩=some (wv):=(aM hV).2.2.2.2.2.2.2.2.2.2.2.2.2.1
 have fU:wq.cell? ⟨w2.heap.size,14,none⟩=some (.int .i64 x.stamp):=(aM hV).2.2.2.2.2.2.2.2.2.2.2.2.2.2.1
 have fV:wq.cell? ⟨w2.heap.size,15,none⟩=some (.int .i64 x.ttl):=(aM hV).2.2.2.2.2.2.2.2.2.2.2.2.2.2.2.1
 have hS:Below wq.heap.size wq wq∧wq.cell? ⟨w2.heap.size,2,none⟩=some (.string x.bM)∧wq.cell? ⟨w2.heap.size,13,none⟩=some (wv)∧wq.cell? ⟨w2.heap.size,14,none⟩=some (.int .i64 x.stamp)∧wq.cell? ⟨w2.heap.size,15,none⟩=some (.int .i64 x.ttl):=⟨Below.refl _ _,d2,fO,fU,fV⟩
 go_region_held3 (fun w' =>Below wq.heap.size wq w' ∧w'.cell? ⟨w2.heap.size,2,none⟩=some (.string x.bM)∧w'.cell? ⟨w2.heap.size,13,none⟩=some (wv)∧w'.cell? ⟨w2.heap.size,14,none⟩=some (.int .i64 x.stamp)∧w'.cell? ⟨w2.heap.size,15,none⟩=some (.int .i64 x.ttl)) (first|exact Fb (by assumption) Kg|exact Fb (by assumption) Fq|exact ⟨(Below.refl _ _).drew,d2,fO,fU,fV⟩)
  (first
  |(go_at_call 56;with_reducible refine (XU.out _ (And.left (by assumption))).mono ?_;rintro e wJu ⟨rfl,Kg⟩)
  |(go_at_call 58;with_reducible refine (UY.out _ (And.left (by assumption))).mono ?_;rintro e wJw ⟨rfl,Fq⟩))
 go_wp2_with fail
 go_ret
 rw [←HE.out]
 exact ⟨rfl,hB3.trans (Below.mono (And.left (by assumption)) hB3.size)⟩
theorem jo (M:Nat):∀(l:List Pc),(∀p∈l,p.text.size≤M)→(aG l).size≤l.length*M
 | [],_=>Nat.zero_le _
 |p::l,h=>by
  have ih:=jo M l fun q hq=>h q (List.mem_cons_of_mem _ hq)
  have hp:=h p (List.mem_cons_self ..)
  show (p.text++aG l).size≤_
  rw [ByteArray.size_append,List.length_cons,Nat.succ_mul]
  omega
theorem Ob {x:Sx}(h:iR x):(aG (iQ dw ((x.part::x.aI::x.aN).map gZ))).size≤100*1000007:=by
 rw [←iw,jv]
 have:=gu (⟨#[44,32]⟩:ByteArray) (((x.part::x.aI::x.aN).map gZ).map aG) 1000005 (fun y hy=>by
  rw [List.map_map]at hy
  obtain ⟨q,hq,rfl⟩:=List.mem_map.1 hy
  refine BO q ?_
  rcases List.mem_cons.1 hq with rfl|hq
  · exact h.part
  rcases List.mem_cons.1 hq with rfl|hq
  · exact h.aI
  · exact h.aN.2 q hq)
 rw [List.length_map,List.length_map]at this
 have hl:=h.aN.1
 exact Nat.le_trans this (Nat.mul_le_mul (by simp;omega) (by decide))
theorem U4 {x:Sx}(h:iR x):(aG (iQ dw ((x.on::x.aP.map Pr.name).map fun s=> [Pc.wd s]))).size≤100*1000002:=by
 rw [←iw,jv,←EY]
 have:=gu (⟨#[44,32]⟩:ByteArray) (x.on::x.aP.map Pr.name) 1000000 (fun y hy=>by
  rcases List.mem_cons.1 hy with rfl|hy
  · exact h.on
  · obtain ⟨q,hq,rfl⟩:=List.mem_map.1 hy
    exact (h.aP.2 q hq).2)
 have hl:=h.Kc
 rw [List.length_cons,List.length_map]at this
 exact Nat.le_trans this (Nat.mul_le_mul (by omega) (by decide))
theorem Oc {x:Sx}(h:iR x):(aG (xM x)).size≤1000000000:=by
 unfold xM
 have e1:(aG [.wd (⟨#[67,82,69,65,84,69]⟩:ByteArray), .bl, .wd (⟨#[84,65,66,76,69]⟩:ByteArray), .bl, .wd x.name, .bl, .sg 40]).size≤7*1000000:=jo 1000000 _ (by
  intro p hp
  simp only [List.mem_cons,List.not_mem_nil,or_false]at hp
  rcases hp with rfl|rfl|rfl|rfl|rfl|rfl|rfl<;>first|decide|exact h.name|exact h.bM|exact h.on|exact h.part|exact h.aI)
 have e2:=Ob h
 have e3:(aG [.sg 44, .bl, .wd (⟨#[80,82,73,77,65,82,89]⟩:ByteArray), .bl, .wd (⟨#[75,69,89]⟩:ByteArray), .bl, .sg 40, .wd x.part.name, .sg 44, .bl, .wd x.aI.name, .sg 41, .sg 41]).size≤13*1000000:=jo 1000000 _ (by
  intro p hp
  simp only [List.mem_cons,List.not_mem_nil,or_false]at hp
  rcases hp with rfl|rfl|rfl|rfl|rfl|rfl|rfl|rfl|rfl|rfl|rfl|rfl|rfl<;>first|decide|exact h.name|exact h.bM|exact h.on|exact h.part|exact h.aI)
 try simp only [bP,ByteArray.size_append]at *
 omega
theorem RX {x:Sx}(h:iR x):(aG (yX x)).size≤1000000000:=by
 unfold yX
 have e1:(aG [.wd (⟨#[67,82,69,65,84,69]⟩:ByteArray), .bl, .wd (⟨#[77,65,84,69,82,73,65,76,73,90,69,68]⟩:ByteArray), .bl, .wd (⟨#[86,73,69,87]⟩:ByteArray), .bl, .wd x.name, .bl, .wd (⟨#[65,83]⟩:ByteArray), .bl, .wd (⟨#[83,69,76,69,67,84]⟩:ByteArray), .bl]).size≤12*1000000:=jo 1000000 _ (by
  intro p hp
  simp only [List.mem_cons,List.not_mem_nil,or_false]at hp
  rcases hp with rfl|rfl|rfl|rfl|rfl|rfl|rfl|rfl|rfl|rfl|rfl|rfl<;>first|decide|exact h.name|exact h.bM|exact h.on|exact h.part|exact h.aI)
 have e2:=kW (Nat.le_trans h.aO.1 (by decide)) h.aO.2
 have e3:(aG [.bl, .wd (⟨#[70,82,79,77]⟩:ByteArray), .bl, .wd x.bM, .bl, .wd (⟨#[87,72,69,82,69]⟩:ByteArray), .bl, .wd x.on, .bl, .wd (⟨#[73,83]⟩:ByteArray), .bl, .wd (⟨#[78,79,84]⟩:ByteArray), .bl, .wd (⟨#[78,85,76,76]⟩:ByteArray), .bl, .wd (⟨#[80,82,73,77,65,82,89]⟩:ByteArray), .bl, .wd (⟨#[75,69,89]⟩:ByteArray), .bl, .sg 40]).size≤20*1000000:=jo 1000000 _ (by
  intro p hp
  simp only [List.mem_cons,List.not_mem_nil,or_false]at hp
  rcases hp with rfl|rfl|rfl|rfl|rfl|rfl|rfl|rfl|rfl|rfl|rfl|rfl|rfl|rfl|rfl|rfl|rfl|rfl|rfl|rfl<;>first|decide|exact h.name|exact h.bM|exact h.on|exact h.part|exact h.aI)
 have e4:=U4 h
 have e5:(aG [.sg 41]).size≤1*1000000:=jo 1000000 _ (by
  intro p hp
  simp only [List.mem_cons,List.not_mem_nil,or_false]at hp
  rcases hp with rfl<;>first|decide|exact h.name|exact h.bM|exact h.on|exact h.part|exact h.aI)
 try simp only [bP,ByteArray.size_append]at *
 omega
theorem Od {x:Sx}(h:iR x):(aG (xO x)).size≤1000000000:=by
 unfold xO
 have e1:(aG [.wd (⟨#[67,82,69,65,84,69]⟩:ByteArray), .bl, .wd (⟨#[73,78,68,69,88]⟩:ByteArray), .bl, .wd x.name, .bl, .wd (⟨#[79,78]⟩:ByteArray), .bl, .wd x.bM, .bl, .sg 40, .wd x.on, .sg 41]).size≤13*1000000:=jo 1000000 _ (by
  intro p hp
  simp only [List.mem_cons,List.not_mem_nil,or_false]at hp
  rcases hp with rfl|rfl|rfl|rfl|rfl|rfl|rfl|rfl|rfl|rfl|rfl|rfl|rfl<;>first|decide|exact h.name|exact h.bM|exact h.on|exact h.part|exact h.aI)
 try simp only [bP,ByteArray.size_append]at *
 omega
theorem RY {x:Sx}(h:iR x):(aG (Dm x)).size≤1000000000:=by
 unfold Dm
 have e1:(aG [.wd (⟨#[68,82,79,80]⟩:ByteArray), .bl, .wd x.name]).size≤3*1000000:=jo 1000000 _ (by
  intro p hp
  simp only [List.mem_cons,List.not_mem_nil,or_false]at hp
  rcases hp with rfl|rfl|rfl<;>first|decide|exact h.name|exact h.bM|exact h.on|exact h.part|exact h.aI)
 try simp only [bP,ByteArray.size_append]at *
 omega
theorem Kk {x:Sx}(h:iR x):(aG (nA x)).size≤1000000000:=by
 unfold nA
 have e1:(aG [.wd (⟨#[73,78,83,69,82,84]⟩:ByteArray), .bl, .wd (⟨#[73,78,84,79]⟩:ByteArray), .bl, .wd x.bM, .bl, .sg 40]).size≤7*1000000:=jo 1000000 _ (by
  intro p hp
  simp only [List.mem_cons,List.not_mem_nil,or_false]at hp
  rcases hp with rfl|rfl|rfl|rfl|rfl|rfl|rfl<;>first|decide|exact h.name|exact h.bM|exact h.on|exact h.part|exact h.aI)
 have e2:=Dy x.sets▸BK h.sets
 have e3:(aG [.sg 41, .bl, .wd (⟨#[86,65,76,85,69,83]⟩:ByteArray), .bl, .sg 40]).size≤5*1000000:=jo 1000000 _ (by
  intro p hp
  simp only [List.mem_cons,List.not_mem_nil,or_false]at hp
  rcases hp with rfl|rfl|rfl|rfl|rfl<;>first|decide|exact h.name|exact h.bM|exact h.on|exact h.part|exact h.aI)
 have e4:=Dz x.sets▸BL h.sets
 have e5:(aG [.sg 41]).size≤1*1000000:=jo 1000000 _ (by
  intro p hp
  simp only [List.mem_cons,List.not_mem_nil,or_false]at hp
  rcases hp with rfl<;>first|decide|exact h.name|exact h.bM|exact h.on|exact h.part|exact h.aI)
 have e6:=jk x.stamp x.ttl h.stamp h.ttl
 try simp only [bP,ByteArray.size_append]at *
 omega
theorem Kl {x:Sx}(h:iR x):(aG (nC x)).size≤1000000000:=by
 unfold nC
 have e1:(aG [.wd (⟨#[85,80,68,65,84,69]⟩:ByteArray), .bl, .wd x.bM]).size≤3*1000000:=jo 1000000 _ (by
  intro p hp
  simp only [List.mem_cons,List.not_mem_nil,or_false]at hp
  rcases hp with rfl|rfl|rfl<;>first|decide|exact h.name|exact h.bM|exact h.on|exact h.part|exact h.aI)
 have e2:=jk x.stamp x.ttl h.stamp h.ttl
 have e3:(aG [.bl, .wd (⟨#[83,69,84]⟩:ByteArray), .bl]).size≤3*1000000:=jo 1000000 _ (by
  intro p hp
  simp only [List.mem_cons,List.not_mem_nil,or_false]at hp
  rcases hp with rfl|rfl|rfl<;>first|decide|exact h.name|exact h.bM|exact h.on|exact h.part|exact h.aI)
 have e4:=BM x.sets▸xV h.sets (⟨#[44,32]⟩:ByteArray) (by decide)
 have e5:=lG h.aP
 try simp only [bP,ByteArray.size_append]at *
 omega
theorem Km {x:Sx}(h:iR x):(aG (j5 x)).size≤1000000000:=by
 unfold j5
 have e1:(aG [.wd (⟨#[68,69,76,69,84,69]⟩:ByteArray), .bl]).size≤2*1000000:=jo 1000000 _ (by
  intro p hp
  simp only [List.mem_cons,List.not_mem_nil,or_false]at hp
  rcases hp with rfl|rfl<;>first|decide|exact h.name|exact h.bM|exact h.on|exact h.part|exact h.aI)
 have e2:=show (aG (if x.aO= []then []else gM x.aO++ [.bl])).size≤100*1000003+1 from (by
  split
  · decide
  · rw [bP,ByteArray.size_append]
    have:=kW (Nat.le_trans h.aO.1 (by decide)) h.aO.2
    show _+1≤_
    omega)
 have e3:(aG [.wd (⟨#[70,82,79,77]⟩:ByteArray), .bl, .wd x.bM]).size≤3*1000000:=jo 1000000 _ (by
  intro p hp
  simp only [List.mem_cons,List.not_mem_nil,or_false]at hp
  rcases hp with rfl|rfl|rfl<;>first|decide|exact h.name|exact h.bM|exact h.on|exact h.part|exact h.aI)
 have e4:=jk x.stamp x.ttl h.stamp h.ttl
 have e5:=lG h.aP
 try simp only [bP,ByteArray.size_append]at *
 omega
theorem U5 {x:Sx}(h:iR x):(aG (Bf x)).size≤1000000000:=by
 unfold Bf
 have e1:(aG [.wd (⟨#[83,69,76,69,67,84]⟩:ByteArray), .bl]).size≤2*1000000:=jo 1000000 _ (by
  intro p hp
  simp only [List.mem_cons,List.not_mem_nil,or_false]at hp
  rcases hp with rfl|rfl<;>first|decide|exact h.name|exact h.bM|exact h.on|exact h.part|exact h.aI)
 have e2:=kW (Nat.le_trans h.aO.1 (by decide)) h.aO.2
 have e3:(aG [.bl, .wd (⟨#[70,82,79,77]⟩:ByteArray), .bl, .wd x.bM]).size≤4*1000000:=jo 1000000 _ (by
  intro p hp
  simp only [List.mem_cons,List.not_mem_nil,or_false]at hp
  rcases hp with rfl|rfl|rfl|rfl<;>first|decide|exact h.name|exact h.bM|exact h.on|exact h.part|exact h.aI)
 have e4:=lG h.aP
 have e5:=show (aG (if x.limit=0 then []else [.bl, .wd (⟨#[76,73,77,73,84]⟩:ByteArray), .bl, .nm x.limit])).size≤100 from (by
  split
  · decide
  · have:=mM x.limit h.limit
    show (⟨#[32]⟩++((⟨#[76,73,77,73,84]⟩:ByteArray)++(⟨#[32]⟩++(j4 x.limit++⟨#[]⟩)))).size≤_
    rw [ByteArray.size_append,ByteArray.size_append,ByteArray.size_append,ByteArray.size_append]
    show 1+(5+(1+(_+0)))≤_
    omega)
 try simp only [bP,ByteArray.size_append]at *
 omega
theorem V4 {x:Sx}(h:iR x):(aG (stP x)).size≤1000000000:=by
 unfold stP
 split
 · exact Oc h
 split
 · exact RX h
 split
 · exact Od h
 split
 · exact RY h
 split
 · exact Kk h
 split
 · exact Kl h
 split
 · exact Km h
 split
 · exact U5 h
 split
 · decide+kernel
 · decide
structure Pw where
 x:Sx
 tc:Value
 c:Value
 s:Value
 wv:Value
 pv:Value
def Pw.arr (p:Pw):Array Value:=aF p.x p.tc p.c p.s p.wv p.pv
structure BP (w:World) (p:Pw):Prop where
 ok:iR p.x
 rd:jm w p.x p.tc p.c p.s p.wv
 one:p.pv.oneCell' =true
theorem BP.below {w w' :World}{p:Pw}(h:BP w p) (hb:Below w.heap.size w w'):BP w' p:=⟨h.ok,h.rd.below hb,h.one⟩
def jw (L:List Pw):List Value:=L.flatMap fun p=>p.arr.toList
theorem wP:∀{L:List Pw}{j:Nat}{q:Pw}(_:L[j]? =some q) (i:Nat) (_:i<18),(jw L)[j*18+i]? =q.arr.toList[i]?
 |p::l,0,q,h,i,hi=>by
  cases h
  simp only [jw,List.flatMap_cons,Nat.zero_mul,Nat.zero_add]
  rw [List.getElem?_append_left (by simp [Pw.arr];omega)]
 |p::l,k+1,q,h,i,hi=>by
  have:=wP (L:=l) (j:=k) (q:=q) (by simpa using h) i hi
  simp only [jw,List.flatMap_cons]at this⊢
  rw [List.getElem?_append_right (by simp [Pw.arr];omega)]
  have e:(k+1)*18+i - p.arr.toList.length=k*18+i:=by simp [Pw.arr];omega
  rw [e];exact this
theorem wQ {ops:Array Oper}{rest:List Oper}{op:Oper}{a:Act}{w:World}{Q:Exit→Act→World→Prop}{b o:Nat}{V:Array Value}(hgd:op.guard=none) (x:Operand) (ho:op.op= .load 31 x)
 (hx:a.eval x= .pointer (some ⟨b,o,none⟩)) (hV:V.size=18) (hc:w.rangeAt b o V.toList) (h:wpList Tryz.prog ops Q rest (a.put op.dst (.agg V)) w):wpList Tryz.prog ops Q (op::rest) a w:=by
 obtain ⟨d,hu,hd⟩:=Tryz.F9
 exact wpList_load_mid hgd 31 x ho b o hx V.toList d hc hu hd (by rw [show V.toList.length=18 by simpa using hV];exact Tryz.qU) (by simpa using h)
theorem X0 {w:World}{u:Value}{L:List Pw}{sep:ByteArray}{T:Pw→ByteArray}(hl:L.length≤100) (hr:Rd w u L.length (jw L)) (h1:∀p∈L,p.arr.toList.all (·.oneCell')=true)
 (hf:∀q∈L,∀w',Below w.heap.size w w' →Calls Tryz.prog 61 #[.agg q.arr] w' fun e w'' =>e= .returned (.string (T q))∧Below w'.heap.size w' w'')
 (hs:(cB sep (L.map T)).size≤140737488355328):
 Calls Tryz.prog 60 #[u, .string sep, .func (.func 61) #[] #[]] w fun e w' =>e= .returned (.string (cB sep (L.map T)))∧Below w.heap.size w w' :=by
 obtain ⟨a,cap,rfl,hx0⟩:=hr
 go_enter Tryz.func60,Tryz.ntmps60
 go_wp2_with fail
 go_loopw [7,12] (fun out i wr=>∃(j:Nat) (a3:Option Addr) (c3:Nat),out= .slice a3 j c3∧i= .int .i64 j∧j≤L.length∧Below w.heap.size w wr∧wr.ownsRow w.heap.size 9 1 (.slice a3 j c3) j (((L.take j).map T).map Value.string)) (fun _ i _=>L.length - (intOf i).toNat)
 case atStart=>exact ⟨0,none,0,rfl,rfl,Nat.zero_le _,Below.refl _ _,World.ownsRow_nil _ _ _ _⟩
 case round=>
  obtain ⟨j,a3,c3,rfl,rfl,hj,hBr,hown⟩:=hrel
  have hsz:=hBr.size
  by_cases hjl:j<L.length
  · have p0:(j:Int)<(L.length:Int):=by omega
    have p1:(0:Int)≤(j:Int):=by omega
    have HJ:=Lib.hid (show j+1≤L.length from hjl)
    obtain ⟨g,o,rfl,hx⟩:=hx0 (by omega)
    obtain ⟨q,hq⟩:∃q,L[j]? =some q:=⟨_,List.getElem?_eq_getElem hjl⟩
    have hone:=h1 q (List.mem_of_getElem? hq)
    have hR:wr.rangeAt g (o+j*18) q.arr.toList:=fun i v hv=>by
     have hi:i<18:=by have:=(List.getElem?_eq_some_iff.1 hv).1;simp [Pw.arr]at this;omega
     have:=hx (j*18+i) v (by rw [wP hq i hi];exact hv)
     rw [Nat.add_assoc]
     exact aJ hBr this
    have hB1:=hBr.alloc hBr.size (.cells q.arr 31)
    have hbl:(wr.alloc (.cells q.arr 31)).heap[wr.heap.size]? =some (.cells q.arr 31 (0,0)):=aB wr _
    have hc:=hf q (List.mem_of_getElem? hq) _ hB1
    have HT:Hid (((L.take (j+1)).map T).map Value.string=((L.take j).map T).map Value.string++ [.string (T q)]):=by
     obtain ⟨hj2,rfl⟩:=List.getElem?_eq_some_iff.1 hq
     show _=_
     rw [List.take_succ_eq_append_getElem hj2,List.map_append,List.map_append];rfl
    clear hq hx
    generalize T q=t at *
    obtain ⟨x,tc,c,s,wv,pv⟩:=q
    go_wp2_with (first|refine wQ rfl _ rfl rfl rfl hR ?_|refine fZ rfl _ _ rfl rfl rfl rfl rfl hone ?_|refine bA rfl _ rfl rfl rfl hbl ?_)
    refine hc.mono ?_;rintro e w2 ⟨rfl,hb2⟩
    have hB2:=hB1.trans (hb2.mono hB1.size)
    have hown2:=fB (hown.alloc _) hb2
    have hs2:=hB2.size
    go_wp2_with (at_builtin;refine app1 Tryz.vH rfl _ _ rfl w.heap.size _ _ _ rfl (hown2.alloc _) _ _ [.string t] rfl rfl (bn _ _ _) (by intro u hu;rw [List.mem_singleton.1 hu];rfl) (by have:=HJ.out;omega) (by simp;omega) ?_;intro a5 c5 w5 h5 hg5 Cq)
    have yZ:=below_app (hB2.alloc hs2 _) (by rw [aA];omega) hg5 (fun g2 hg2=>(hown2.lt g2 hg2).1)
    go_wp2_with fail
    go_roundw
    case rel=>exact ⟨j+1,a5,c5,rfl,by go_num,HJ.out,yZ,by rw [HT.out];exact h5⟩
    case measure=>have hjj:=HJ.out;simp [intOf];omega
  · have mo:j=L.length:=by omega
    subst mo
    rw [List.take_length]at hown
    have hlen:(L.map T).length=L.length:=List.length_map ..
    have hj:=oN (.slice a3 L.length c3) (L.map T) sep wr (by rw [hlen];exact Rd.own hown) (by rw [hlen];exact iU hown) hs (by omega)
    go_wp2_with fail
    refine hj.mono ?_;rintro e w9 ⟨rfl,RA⟩
    go_wp2_with fail
    go_ret
    exact ⟨rfl,hBr.trans (RA.mono hsz)⟩
theorem Oe {w:World}{q:Pw}{t:ByteArray}(ht:t.size≤2000000000)
 (hT:∀w',Below w.heap.size w w' →Calls Tryz.prog 30 #[.agg q.arr] w' fun e w'' =>e= .returned (.string t)∧Below w'.heap.size w' w''):
 Calls Tryz.prog 61 #[.agg q.arr] w fun e w' =>e= .returned (.string (t++(⟨#[59,32]⟩:ByteArray)))∧Below w.heap.size w w' :=by
 have hB1:=(Below.refl w.heap.size w).alloc (Nat.le_refl _) (.cells q.arr 31)
 have hbl:(w.alloc (.cells q.arr 31)).heap[w.heap.size]? =some (.cells q.arr 31 (0,0)):=aB w _
 have ha:=aU t (⟨#[59,32]⟩:ByteArray) (by show _+2≤_;omega)
 have hc:=hT _ hB1
 clear hT
 obtain ⟨x,tc,c,s,wv,pv⟩:=q
 go_enter Tryz.func61,Tryz.ntmps61
 go_wp2_with (refine bA rfl _ rfl rfl rfl hbl ?_)
 refine hc.mono ?_;rintro e w2 ⟨rfl,hb2⟩
 go_wp2_with fail
 go_ret
 exact ⟨rfl,hB1.trans (hb2.mono hB1.size)⟩
theorem DC {w:World}{p:Pw}(hG:Gp w) (hk:p.x.kind≠9) (h:BP w p):
 Calls Tryz.prog 30 #[.agg p.arr] w fun e w' =>e= .returned (.string (aG (stP p.x)))∧Below w.heap.size w w' :=by
 obtain ⟨x,tc,c,s,wv,pv⟩:=p
 obtain ⟨hok,hin,hpv⟩:=h
 replace hk:x.kind≠9:=hk
 show Calls _ _ #[.agg (aF x tc c s wv pv)] w _
 unfold stP
 simp only
 by_cases h1:x.kind=1
 · rw [if_pos h1];exact Kh h1 hG hok hin hpv
 rw [if_neg h1]
 by_cases h2:x.kind=2
 · rw [if_pos h2];exact N9 h2 hG hok hin hpv
 rw [if_neg h2]
 by_cases h3:x.kind=3
 · rw [if_pos h3];exact Ke h3 hG hok hin hpv
 rw [if_neg h3]
 by_cases h4:x.kind=4
 · rw [if_pos h4];exact NW h4 hG hok hin hpv
 rw [if_neg h4]
 by_cases h5:x.kind=5
 · rw [if_pos h5];exact Iq h5 hG hok hin hpv
 rw [if_neg h5]
 by_cases h6:x.kind=6
 · rw [if_pos h6];exact Ir h6 hG hok hin hpv
 rw [if_neg h6]
 by_cases h7:x.kind=7
 · rw [if_pos h7]
   by_cases hc:x.aO= []
   · exact Fw hc h7 hG hok hin hpv
   · exact Fu hc h7 hG hok hin hpv
 rw [if_neg h7]
 by_cases h8:x.kind=8
 · rw [if_pos h8]
   by_cases hc:x.limit=0
   · exact NY hc h8 hG hok hin hpv
   · exact NZ hc h8 hG hok hin hpv
 rw [if_neg h8,if_neg hk]
 exact Oa (fun k a b=>by
  intro e
  have:k=1∨k=2∨k=3∨k=4∨k=5∨k=6∨k=7∨k=8∨k=9:=by omega
  rcases this with rfl|rfl|rfl|rfl|rfl|rfl|rfl|rfl|rfl
  · exact h1 e
  · exact h2 e
  · exact h3 e
  · exact h4 e
  · exact h5 e
  · exact h6 e
  · exact h7 e
  · exact h8 e
  · exact hk e)
theorem Iu:∀l:List (List Pc),(l.flatMap fun b=>([]:List Pc)++b)=l.flatten
 | []=>rfl
 |a::l=>by rw [List.flatMap_cons,Iu l];rfl
theorem RZ:∀l:List (List Pc),iQ [] l=l.flatten
 | []=>rfl
 |a::l=>by
  show a++_=_
  rw [List.flatten_cons]
  exact congrArg _ (Iu l)
def wR (x:Sx):ByteArray:=aG (stP x)++(⟨#[59,32]⟩:ByteArray)
theorem Og (l:List Sx):cB ⟨#[]⟩ (l.map wR)=aG ((l.map stP).flatMap fun a=>a++ [.sg 59, .bl]):=by
 have h:=iw [] ((l.map stP).map fun a=>a++ [Pc.sg 59, .bl])
 rw [RZ,List.map_map,List.map_map]at h
 rw [List.flatMap_def,←h]
 show cB _ _=cB ⟨#[]⟩ _
 congr 1
 refine List.map_congr_left fun x _=> ?_
 show wR x=aG (stP x++ [Pc.sg 59, .bl])
 rw [bP];rfl
theorem Oh (l:List Sx):((⟨#[66,69,71,73,78,32,66,65,84,67,72,32]⟩:ByteArray)++cB ⟨#[]⟩ (l.map wR))++(⟨#[65,80,80,76,89,32,66,65,84,67,72]⟩:ByteArray)=aG (rT (l.map stP)):=by
 rw [Og]
 unfold rT
 rw [bP,bP]
 congr 1
theorem R5 {L:List Pw}(hl:L.length≤100) (h:∀q∈L,(aG (stP q.x)).size≤1000000000):(cB ⟨#[]⟩ (L.map fun q=>wR q.x)).size≤120000000000:=by
 have:=gu ⟨#[]⟩ (L.map fun q=>wR q.x) 1000000002 (fun y hy=>by
  obtain ⟨q,hq,rfl⟩:=List.mem_map.1 hy
  have:=h q hq
  unfold wR
  rw [ByteArray.size_append]
  show _+2≤_
  omega)
 rw [List.length_map]at this
 refine Nat.le_trans this (Nat.le_trans (Nat.mul_le_mul hl (Nat.le_refl _)) ?_)
 decide
theorem DF {w:World}{p:Pw}{L:List Pw}(h:BP w p) (hk:p.x.kind=9) (hl:L.length≤100) (hr:Rd w p.pv L.length (jw L)) (hp:∀q∈L,BP w q)
 (hT:∀q∈L,∀w',Below w.heap.size w w' →Calls Tryz.prog 30 #[.agg q.arr] w' fun e w'' =>e= .returned (.string (aG (stP q.x)))∧Below w'.heap.size w' w''):
 Calls Tryz.prog 30 #[.agg p.arr] w fun e w' =>e= .returned (.string (aG (rT ((L.map Pw.x).map stP))))∧Below w.heap.size w w' :=by
 have hJ:=R5 hl (fun q hq=>(V4 (hp q hq).ok))
 have e:L.map (fun q=>wR q.x)=(L.map Pw.x).map wR:=by rw [List.map_map];rfl
 rw [←Oh,←e]
 refine Kj (x:=p.x) hk h.rd h.one (Nat.le_trans hJ (by decide)) (fun w' hb=> ?_)
 refine X0 (T:=fun q=>wR q.x) hl (hr.below hb) (fun q hq=>(hp q hq).rd.one (hp q hq).one) (fun q hq w'' hb' => ?_) (Nat.le_trans hJ (by decide))
 exact Oe (t:=aG (stP q.x)) (Nat.le_trans (V4 (hp q hq).ok) (by decide)) (fun w3 hb3=>hT q hq w3 (hb.trans ((hb'.trans (hb3.mono hb'.size)).mono hb.size)))
theorem Oi {w:World}{p:Pw}(hG:Gp w) (h:BP w p) (hp:Rd w p.pv 0 []):
 Calls Tryz.prog 30 #[.agg p.arr] w fun e w' =>e= .returned (.string (aG (stP p.x)))∧Below w.heap.size w w' :=by
 by_cases hk:p.x.kind=9
 · have:=DF (L:= []) h hk (by decide) hp (fun q hq=>absurd hq (by simp)) (fun q hq=>absurd hq (by simp))
   have e:stP p.x=rT []:=by unfold stP;rw [hk];rfl
   rw [e];exact this
 · exact DC hG hk h
theorem sO {w:World}{p:Pw}{L:List Pw}(hG:Gp w) (h:BP w p) (hL:p.x.kind=9→L.length≤100∧Rd w p.pv L.length (jw L)∧∀q∈L,BP w q∧Rd w q.pv 0 []):
 Calls Tryz.prog 30 #[.agg p.arr] w fun e w' =>e= .returned (.string (fq ⟨p.x,L.map Pw.x⟩))∧Below w.heap.size w w' :=by
 unfold fq GY
 by_cases hk:p.x.kind=9
 · obtain ⟨h1,h2,h3⟩:=hL hk
   rw [if_pos hk]
   exact DF h hk h1 h2 (fun q hq=>(h3 q hq).1) (fun q hq w' hb=>Oi (hG.below hb) ((h3 q hq).1.below hb) ((h3 q hq).2.below hb))
 · rw [if_neg hk]
   exact DC hG hk h
theorem wS {α:Type}{L M:List α}(hl:L.length=M.length) (h:∀k,k<L.length→L[k]? =M[k]?):L=M:=by
 apply List.ext_getElem?
 intro k
 by_cases hk:k<L.length
 · exact h k hk
 · rw [List.getElem?_eq_none (by omega),List.getElem?_eq_none (by omega)]
theorem wT {α:Type}{L M:List α}{j:Nat}{q q' :α}(hq:L[j]? =some q) (hq' :M[j]? =some q') (h:∀k,k<j→L[k]? =M[k]?) (he:q=q'):∀k,k<j+1→L[k]? =M[k]? :=by
 intro k hk
 by_cases hkj:k<j
 · exact h k hkj
 · have:k=j:=by omega
   subst this
   rw [hq,hq',he]
theorem ZP {q q' :Cl}(h:q≠q'):(q.name.toList==q'.name.toList)=false∨(q.name=q'.name∧(q.ty==q'.ty)=false):=by
 obtain ⟨a,b⟩:=q
 obtain ⟨a',b'⟩:=q'
 by_cases h1:a=a'
 · subst h1
   refine Or.inr ⟨rfl,beq_eq_false_iff_ne.2 fun h2=>h ?_⟩
   have h2' :b=b' :=h2
   rw [h2']
 · exact Or.inl (by rw [eO];exact rW h1)
theorem ZQ {q q' :Pr}(h:q≠q'):(q.name.toList==q'.name.toList)=false∨(q.name=q'.name∧(q.t.ty==q'.t.ty)=false)∨(q.name=q'.name∧q.t.ty=q'.t.ty∧(q.t.s.toList==q'.t.s.toList)=false)∨(q.name=q'.name∧q.t.ty=q'.t.ty∧q.t.s=q'.t.s∧(q.t.n==q'.t.n)=false):=by
 obtain ⟨a,b,c,d⟩:=q
 obtain ⟨a',b',c',d'⟩:=q'
 by_cases h1:a=a'
 · subst h1
   by_cases h2:b=b'
   · subst h2
     by_cases h3:c=c'
     · subst h3
       refine Or.inr (Or.inr (Or.inr ⟨rfl,rfl,rfl,beq_eq_false_iff_ne.2 fun h2=>h ?_⟩))
       have h2' :d=d' :=h2
       rw [h2']
     · exact Or.inr (Or.inr (Or.inl ⟨rfl,rfl,by rw [eO];exact rW h3⟩))
   · exact Or.inr (Or.inl ⟨rfl,beq_eq_false_iff_ne.2 h2⟩)
 · exact Or.inl (by rw [eO];exact rW h1)
theorem Fx {α:Type}{L M:List α}{j:Nat}{q q' :α}(hq:L[j]? =some q) (hq' :M[j]? =some q') (hne:q≠q'):L≠M:=by
 rintro rfl
 rw [hq]at hq'
 exact hne (by injection hq')
theorem U6 {w:World}{u v:Value}{L M:List Cl}(hu:Rd w u L.length (iM L)) (hv:Rd w v M.length (iM M)) (hl:L.length≤100000) (_hm:M.length≤100000):
 Calls Tryz.prog 62 #[u,v] w fun e w' =>∃b:Bool,e= .returned (.bool b)∧(b=true ↔ L=M)∧Below w.heap.size w w' :=by
 obtain ⟨a1,k1,rfl,hx0⟩:=hu
 obtain ⟨a2,k2,rfl,hy0⟩:=hv
 by_cases hlen:L.length=M.length
 · have HL:=Lib.hid hlen
   obtain ⟨n,hn⟩:∃n,L.length=n:=⟨_,rfl⟩
   have hn2:M.length=n:=by omega
   have HN:=Lib.hid hn
   have X3:=Lib.hid hn2
   rw [hn]at hx0 hl⊢
   rw [hn2]at hy0⊢
   clear hlen hn hn2 _hm
   have t0:((n:Int) !=(n:Int))=false:=by simp
   go_enter Tryz.func62,Tryz.ntmps62
   go_wp2_with fail
   go_loopw [13] (fun i wr=>∃j:Nat,i= .int .i64 j∧j≤n∧Below w.heap.size w wr∧Hid (∀k,k<j→L[k]? =M[k]?)) (fun i _=>n - (intOf i).toNat)
   case atStart=>exact ⟨0,rfl,Nat.zero_le _,Below.refl _ _,fun k hk=>absurd hk (by omega)⟩
   case round=>
    obtain ⟨j,rfl,hj,hBr,HA⟩:=hrel
    have hsz:=hBr.size
    by_cases hjl:j<n
    · have p0:(j:Int)<(n:Int):=by omega
      have p1:(0:Int)≤(j:Int):=by omega
      have HJ:=Lib.hid (show j+1≤n from hjl)
      obtain ⟨g1,o1,rfl,hx⟩:=hx0 (by omega)
      obtain ⟨g2,o2,rfl,hy⟩:=hy0 (by omega)
      obtain ⟨q,hq⟩:∃q,L[j]? =some q:=⟨_,List.getElem?_eq_getElem (by have:=HN.out;omega)⟩
      obtain ⟨q',hq'⟩:∃q,M[j]? =some q:=⟨_,List.getElem?_eq_getElem (by have:=X3.out;omega)⟩
      have k0:wr.cell? ⟨g1,o1+j*2,none⟩=some (.string q.name):=aJ hBr (hx (j*2) (.string q.name) (by rw [show j*2=j*2+0 from rfl,jc hq 0 (by omega)];rfl))
      have k1:wr.cell? ⟨g1,o1+j*2+1,none⟩=some (.int .i64 q.ty):=aJ hBr (hx (j*2+1) (.int .i64 q.ty) (by rw [show j*2+1=j*2+1 from rfl,jc hq 1 (by omega)];rfl))
      have l0:wr.cell? ⟨g2,o2+j*2,none⟩=some (.string q'.name):=aJ hBr (hy (j*2) (.string q'.name) (by rw [show j*2=j*2+0 from rfl,jc hq' 0 (by omega)];rfl))
      have l1:wr.cell? ⟨g2,o2+j*2+1,none⟩=some (.int .i64 q'.ty):=aJ hBr (hy (j*2+1) (.int .i64 q'.ty) (by rw [show j*2+1=j*2+1 from rfl,jc hq' 1 (by omega)];rfl))
      by_cases he:q=q'
      · have HT:Hid (∀k,k<j+1→L[k]? =M[k]?):=wT hq hq' HA.out he
        clear hq hq' hx hy
        subst he
        go_wp2_with fail
        go_quiet (fail)
        go_wp2_with fail
        go_roundw
        case rel=>exact ⟨j+1,by go_num,HJ.out,aH.below_drewN hBr _,HT⟩
        case measure=>have hjj:=HJ.out;simp [intOf];omega
      · have HT:Hid (L≠M):=Fx hq hq' he
        clear hq hq' hx hy hx0 hy0
        rcases ZP he with hne|⟨e0,hne⟩
        · clear he
          go_wp2_with fail
          go_quiet (fail)
          go_wp2_with fail
          go_ret
          exact ⟨false,rfl,by simpa using HT.out,aH.below_drewN hBr _⟩
        · rw [e0]at k0
          have s0:(q'.name.toList==q'.name.toList)=true:=by rw [eO];exact dY.2 rfl
          clear e0
          clear he
          go_wp2_with fail
          go_quiet (fail)
          go_wp2_with fail
          go_ret
          exact ⟨false,rfl,by simpa using HT.out,aH.below_drewN hBr _⟩
    · have mo:j=n:=by omega
      subst mo
      have HT:Hid (L=M):=wS HL.out (by rw [HN.out];exact HA.out)
      clear HA
      go_wp2_with fail
      go_ret
      exact ⟨true,rfl,by simpa using HT.out,hBr⟩
 · have t0:((L.length:Int) !=(M.length:Int))=true:=by rw [bne_iff_ne];omega
   have HT:Hid (L≠M):=fun h=>hlen (by rw [h])
   clear hlen
   go_enter Tryz.func62,Tryz.ntmps62
   go_wp2_with fail
   go_ret
   exact ⟨false,rfl,by simpa using HT.out,Below.refl _ _⟩
theorem U7 {w:World}{u v:Value}{L M:List ByteArray}(hu:Rd w u L.length (L.map Value.string)) (hv:Rd w v M.length (M.map Value.string)) (hl:L.length≤100000) (_hm:M.length≤100000):
 Calls Tryz.prog 63 #[u,v] w fun e w' =>∃b:Bool,e= .returned (.bool b)∧(b=true ↔ L=M)∧Below w.heap.size w w' :=by
 obtain ⟨a1,k1,rfl,hx0⟩:=hu
 obtain ⟨a2,k2,rfl,hy0⟩:=hv
 by_cases hlen:L.length=M.length
 · have HL:=Lib.hid hlen
   obtain ⟨n,hn⟩:∃n,L.length=n:=⟨_,rfl⟩
   have hn2:M.length=n:=by omega
   have HN:=Lib.hid hn
   have X3:=Lib.hid hn2
   rw [hn]at hx0 hl⊢
   rw [hn2]at hy0⊢
   clear hlen hn hn2 _hm
   have t0:((n:Int) !=(n:Int))=false:=by simp
   go_enter Tryz.func63,Tryz.ntmps63
   go_wp2_with fail
   go_loopw [13] (fun i wr=>∃j:Nat,i= .int .i64 j∧j≤n∧Below w.heap.size w wr∧Hid (∀k,k<j→L[k]? =M[k]?)) (fun i _=>n - (intOf i).toNat)
   case atStart=>exact ⟨0,rfl,Nat.zero_le _,Below.refl _ _,fun k hk=>absurd hk (by omega)⟩
   case round=>
    obtain ⟨j,rfl,hj,hBr,HA⟩:=hrel
    have hsz:=hBr.size
    by_cases hjl:j<n
    · have p0:(j:Int)<(n:Int):=by omega
      have p1:(0:Int)≤(j:Int):=by omega
      have HJ:=Lib.hid (show j+1≤n from hjl)
      obtain ⟨g1,o1,rfl,hx⟩:=hx0 (by omega)
      obtain ⟨g2,o2,rfl,hy⟩:=hy0 (by omega)
      obtain ⟨q,hq⟩:∃q,L[j]? =some q:=⟨_,List.getElem?_eq_getElem (by have:=HN.out;omega)⟩
      obtain ⟨q',hq'⟩:∃q,M[j]? =some q:=⟨_,List.getElem?_eq_getElem (by have:=X3.out;omega)⟩
      have k0:wr.cell? ⟨g1,o1+j,none⟩=some (.string q):=aJ hBr (hx (j) (.string q) (by rw [List.getElem?_map,hq];rfl))
      have l0:wr.cell? ⟨g2,o2+j,none⟩=some (.string q'):=aJ hBr (hy (j) (.string q') (by rw [List.getElem?_map,hq'];rfl))
      by_cases he:q=q'
      · have HT:Hid (∀k,k<j+1→L[k]? =M[k]?):=wT hq hq' HA.out he
        clear hq hq' hx hy
        subst he
        have s0:(q.toList==q.toList)=true:=by rw [eO];exact dY.2 rfl
        go_wp2_with fail
        go_quiet (fail)
        go_wp2_with fail
        go_roundw
        case rel=>exact ⟨j+1,by go_num,HJ.out,aH.below_drewN hBr _,HT⟩
        case measure=>have hjj:=HJ.out;simp [intOf];omega
      · have HT:Hid (L≠M):=Fx hq hq' he
        clear hq hq' hx hy hx0 hy0
        have hne:(q.toList==q'.toList)=false:=by rw [eO];exact rW he
        clear he
        go_wp2_with fail
        go_quiet (fail)
        go_wp2_with fail
        go_ret
        exact ⟨false,rfl,by simpa using HT.out,aH.below_drewN hBr _⟩
    · have mo:j=n:=by omega
      subst mo
      have HT:Hid (L=M):=wS HL.out (by rw [HN.out];exact HA.out)
      clear HA
      go_wp2_with fail
      go_ret
      exact ⟨true,rfl,by simpa using HT.out,hBr⟩
 · have t0:((L.length:Int) !=(M.length:Int))=true:=by rw [bne_iff_ne];omega
   have HT:Hid (L≠M):=fun h=>hlen (by rw [h])
   clear hlen
   go_enter Tryz.func63,Tryz.ntmps63
   go_wp2_with fail
   go_ret
   exact ⟨false,rfl,by simpa using HT.out,Below.refl _ _⟩
theorem LD {w:World}{u v:Value}{L M:List Pr}(hu:Rd w u L.length (bQ L)) (hv:Rd w v M.length (bQ M)) (hl:L.length≤100000) (_hm:M.length≤100000):
 Calls Tryz.prog 64 #[u,v] w fun e w' =>∃b:Bool,e= .returned (.bool b)∧(b=true ↔ L=M)∧Below w.heap.size w w' :=by
 obtain ⟨a1,k1,rfl,hx0⟩:=hu
 obtain ⟨a2,k2,rfl,hy0⟩:=hv
 by_cases hlen:L.length=M.length
 · have HL:=Lib.hid hlen
   obtain ⟨n,hn⟩:∃n,L.length=n:=⟨_,rfl⟩
   have hn2:M.length=n:=by omega
   have HN:=Lib.hid hn
   have X3:=Lib.hid hn2
   rw [hn]at hx0 hl⊢
   rw [hn2]at hy0⊢
   clear hlen hn hn2 _hm
   have t0:((n:Int) !=(n:Int))=false:=by simp
   go_enter Tryz.func64,Tryz.ntmps64
   go_wp2_with fail
   go_loopw [13] (fun i wr=>∃j:Nat,i= .int .i64 j∧j≤n∧Below w.heap.size w wr∧Hid (∀k,k<j→L[k]? =M[k]?)) (fun i _=>n - (intOf i).toNat)
   case atStart=>exact ⟨0,rfl,Nat.zero_le _,Below.refl _ _,fun k hk=>absurd hk (by omega)⟩
   case round=>
    obtain ⟨j,rfl,hj,hBr,HA⟩:=hrel
    have hsz:=hBr.size
    by_cases hjl:j<n
    · have p0:(j:Int)<(n:Int):=by omega
      have p1:(0:Int)≤(j:Int):=by omega
      have HJ:=Lib.hid (show j+1≤n from hjl)
      obtain ⟨g1,o1,rfl,hx⟩:=hx0 (by omega)
      obtain ⟨g2,o2,rfl,hy⟩:=hy0 (by omega)
      obtain ⟨q,hq⟩:∃q,L[j]? =some q:=⟨_,List.getElem?_eq_getElem (by have:=HN.out;omega)⟩
      obtain ⟨q',hq'⟩:∃q,M[j]? =some q:=⟨_,List.getElem?_eq_getElem (by have:=X3.out;omega)⟩
      have k0:wr.cell? ⟨g1,o1+j*4,none⟩=some (.string q.name):=aJ hBr (hx (j*4) (.string q.name) (by rw [show j*4=j*4+0 from rfl,bO hq 0 (by omega)];rfl))
      have k1:wr.cell? ⟨g1,o1+j*4+1,none⟩=some (.int .i64 q.t.ty):=aJ hBr (hx (j*4+1) (.int .i64 q.t.ty) (by rw [show j*4+1=j*4+1 from rfl,bO hq 1 (by omega)];rfl))
      have k2:wr.cell? ⟨g1,o1+j*4+2,none⟩=some (.string q.t.s):=aJ hBr (hx (j*4+2) (.string q.t.s) (by rw [show j*4+2=j*4+2 from rfl,bO hq 2 (by omega)];rfl))
      have k3:wr.cell? ⟨g1,o1+j*4+3,none⟩=some (.int .i64 q.t.n):=aJ hBr (hx (j*4+3) (.int .i64 q.t.n) (by rw [show j*4+3=j*4+3 from rfl,bO hq 3 (by omega)];rfl))
      have l0:wr.cell? ⟨g2,o2+j*4,none⟩=some (.string q'.name):=aJ hBr (hy (j*4) (.string q'.name) (by rw [show j*4=j*4+0 from rfl,bO hq' 0 (by omega)];rfl))
      have l1:wr.cell? ⟨g2,o2+j*4+1,none⟩=some (.int .i64 q'.t.ty):=aJ hBr (hy (j*4+1) (.int .i64 q'.t.ty) (by rw [show j*4+1=j*4+1 from rfl,bO hq' 1 (by omega)];rfl))
      have l2:wr.cell? ⟨g2,o2+j*4+2,none⟩=some (.string q'.t.s):=aJ hBr (hy (j*4+2) (.string q'.t.s) (by rw [show j*4+2=j*4+2 from rfl,bO hq' 2 (by omega)];rfl))
      have l3:wr.cell? ⟨g2,o2+j*4+3,none⟩=some (.int .i64 q'.t.n):=aJ hBr (hy (j*4+3) (.int .i64 q'.t.n) (by rw [show j*4+3=j*4+3 from rfl,bO hq' 3 (by omega)];rfl))
      by_cases he:q=q'
      · have HT:Hid (∀k,k<j+1→L[k]? =M[k]?):=wT hq hq' HA.out he
        clear hq hq' hx hy
        subst he
        go_wp2_with fail
        go_quiet (fail)
        go_wp2_with fail
        go_roundw
        case rel=>exact ⟨j+1,by go_num,HJ.out,aH.below_drewN hBr _,HT⟩
        case measure=>have hjj:=HJ.out;simp [intOf];omega
      · have HT:Hid (L≠M):=Fx hq hq' he
        clear hq hq' hx hy hx0 hy0
        rcases ZQ he with hne|⟨e0,hne⟩|⟨e0,e1,hne⟩|⟨e0,e1,e2,hne⟩
        · clear he
          go_wp2_with fail
          go_quiet (fail)
          go_wp2_with fail
          go_ret
          exact ⟨false,rfl,by simpa using HT.out,aH.below_drewN hBr _⟩
        · rw [e0]at k0
          have s0:(q'.name.toList==q'.name.toList)=true:=by rw [eO];exact dY.2 rfl
          clear e0
          clear he
          go_wp2_with fail
          go_quiet (fail)
          go_wp2_with fail
          go_ret
          exact ⟨false,rfl,by simpa using HT.out,aH.below_drewN hBr _⟩
        · rw [e0]at k0
          have s0:(q'.name.toList==q'.name.toList)=true:=by rw [eO];exact dY.2 rfl
          rw [e1]at k1
          clear e0 e1
          clear he
          go_wp2_with fail
          go_quiet (fail)
          go_wp2_with fail
          go_ret
          exact ⟨false,rfl,by simpa using HT.out,aH.below_drewN hBr _⟩
        · rw [e0]at k0
          have s0:(q'.name.toList==q'.name.toList)=true:=by rw [eO];exact dY.2 rfl
          rw [e1]at k1
          rw [e2]at k2
          have s2:(q'.t.s.toList==q'.t.s.toList)=true:=by rw [eO];exact dY.2 rfl
          clear e0 e1 e2
          clear he
          go_wp2_with fail
          go_quiet (fail)
          go_wp2_with fail
          go_ret
          exact ⟨false,rfl,by simpa using HT.out,aH.below_drewN hBr _⟩
    · have mo:j=n:=by omega
      subst mo
      have HT:Hid (L=M):=wS HL.out (by rw [HN.out];exact HA.out)
      clear HA
      go_wp2_with fail
      go_ret
      exact ⟨true,rfl,by simpa using HT.out,hBr⟩
 · have t0:((L.length:Int) !=(M.length:Int))=true:=by rw [bne_iff_ne];omega
   have HT:Hid (L≠M):=fun h=>hlen (by rw [h])
   clear hlen
   go_enter Tryz.func64,Tryz.ntmps64
   go_wp2_with fail
   go_ret
   exact ⟨false,rfl,by simpa using HT.out,Below.refl _ _⟩
namespace aH
def mP (z:jT):Bool:=iJ z.x&&decide (z.parts.length≤8)&&z.parts.all iJ
theorem uP {z:jT}(h:May z):mP z=true:=by
 obtain ⟨h1,h2,h3⟩:=NI h
 unfold mP
 rw [h1,decide_eq_true h2,List.all_eq_true.2 h3];rfl
theorem U8 {z:jT}:May z ↔ (bB (fq z)).2.2=0∧z=(bB (fq z)).1:=by
 constructor
 · intro h;rw [sM h];exact ⟨rfl,rfl⟩
 · intro h
   obtain ⟨h1,h2⟩:=h
   obtain ⟨⟨z',a,e⟩,hr⟩:∃r,bB (fq z)=r:=⟨_,rfl⟩
   rw [hr]at h1 h2
   simp only at h1 h2
   subst h1
   have:=uM hr
   rw [h2];exact this
def LG (nm:ByteArray):jT:=⟨{Sx.zero with kind:=4,name:=nm}, []⟩
theorem BQ (nm:ByteArray):fq (LG nm)=(⟨#[68,82,79,80,32]⟩:ByteArray)++nm:=by
 show aG [.wd (⟨#[68,82,79,80]⟩:ByteArray), .bl, .wd nm]=_
 apply ByteArray.ext
 simp [aG,Pc.text]
theorem Oj {nm:ByteArray}(h:bH nm):(fq (LG nm)).size≤1000:=by
 rw [BQ,ByteArray.size_append]
 have:=h.2.2.1
 show 5+nm.size≤1000
 omega
theorem R6 {nm:ByteArray}(h:bH nm):May (LG nm):=
 ⟨.plain {Sx.zero with kind:=4,name:=nm},_, .plain (.drop nm h),rfl,Oj h⟩
theorem X4 {nm:ByteArray}(h:bH nm):bB ((⟨#[68,82,79,80,32]⟩:ByteArray)++nm)=(LG nm,0,0):=by
 rw [←BQ];exact sM (R6 h)
def Pc.wid:Pc→Nat
 | .wd s=>(pts s).length
 | .sg _=>1
 | .tx v=>(pts (quote v)).length
 | .nm v=>(fD (decide (v<0))++dec v.natAbs).length
 | .bl=>1
def Pc.tk (p:Pc) (a:Nat):List Tk:=p.toks.map fun t=>⟨t.1,t.2.1,t.2.2,a⟩
def lM:List Pc→Nat→List Tk
 | [],_=> []
 |p::l,a=>p.tk a++lM l (a+p.wid)
theorem ZR (p:Pc) (a m:Nat):p.tk (a+m)=(p.tk a).map (Tk.on m):=by
 unfold Pc.tk;rw [List.map_map];rfl
theorem Iw:∀(l:List Pc) (a m:Nat),lM l (a+m)=(lM l a).map (Tk.on m)
 | [],_,_=>rfl
 |p::l,a,m=>by
  rw [lM,lM,List.map_append,←ZR,show a+m+p.wid=(a+p.wid)+m by omega,Iw l]
theorem Ol:∀(l r:List Pc) (a:Nat),lM (l++r) a=lM l a++lM r (a+(l.map Pc.wid).sum)
 | [],_,_=>rfl
 |p::l,r,a=>by
  rw [List.cons_append,lM,lM,Ol l r,List.map_cons,List.sum_cons,List.append_assoc,Nat.add_assoc]
theorem Iy:∀(l:List Pc) (a:Nat),(lM l a).map Tk.fo=dU l
 | [],_=>rfl
 |p::l,a=>by
  rw [lM,List.map_append,Iy l,aZ]
  congr 1
  unfold Pc.tk
  rw [List.map_map]
  exact (List.map_congr_left fun t _=>rfl).trans (List.map_id _)
theorem LH:∀(l:List Pc) (h:Bool),(∀p∈l,p.ok)→nb h l=true→Lx (aG l) (lM l 0)
 | [],_,_,_=>Lx.nil
 |p::l,h,hok,hn=>by
  have hok2:∀p∈l,p.ok:=fun q hq=>hok q (List.mem_cons_of_mem _ hq)
  have hp:=hok p (List.mem_cons_self ..)
  have hn2:nb p.hard l=true:=by unfold nb at hn;simp at hn;exact hn.2
  have hT:=LH l p.hard hok2 hn2
  rw [lM,Iw l 0 p.wid]
  cases p with
  |bl=>exact Lx.blank 32 (by decide) hT
  |sg c=>exact Lx.sign c hp hT
  |wd s=>
   obtain ⟨h1,h2⟩:=l6 hok2 hn2
   exact Lx.word hp.1 h1 hp.2 hT
  |tx v=>
   obtain ⟨h1,h2⟩:=l6 hok2 hn2
   exact Lx.text hp.1 hp.2 h2 hT
  |nm v=>
   obtain ⟨h1,h2⟩:=l6 hok2 hn2
   obtain ⟨g1,g2⟩:=La v.natAbs
   unfold Pc.ok at hp
   simp only at hp
   have hv:=GV v.natAbs (by omega)
   have:=Lx.number (decide (v<0)) _ g1 g2 h1 _ hv hT
   have e:(if decide (v<0)=true then -(v.natAbs:Int)else (v.natAbs:Int))=v:=by
    by_cases hneg:v<0
    · simp [hneg];omega
    · simp [hneg];omega
   rw [e]at this
   exact this
theorem gL.here {X:Tx}{σ:Ps}{L:List To}(h:gL X σ L) {A:List Tk}{t:Tk}{B:List Tk}(hT:X.T=A++t::B) (hl:L.length=B.length+1):X.here σ=t.at_:=by
 have h1:X.F.length - σ.i=L.length:=by rw [←h.2,List.length_drop]
 have h2:X.F.length=A.length+(B.length+1):=by unfold Tx.F;rw [List.length_map,hT,List.length_append,List.length_cons]
 have h3:σ.i=A.length:=by omega
 unfold Tx.here
 have:X.T[σ.i]? =some t:=by rw [hT,h3,List.getElem?_append_right (Nat.le_refl _),Nat.sub_self];rfl
 rw [this]
end aH
theorem ko {ops:Array Oper}{rest:List Oper}{op:Oper}{a:Act}{w:World}{Q:Exit→Act→World→Prop}{b:Nat}{V:Array Value}{T:TypeId}(hw:Region.wanted op (yielded ops a.tmps)=true) (x:Operand) (ho:op.op= .load 31 x)
 (hx:a.eval x= .pointer (some ⟨b,0,none⟩)) (hV:V.size=18) (hb:w.heap[b]? =some (.cells V T (0,0))) (h:wpList Tryz.prog ops Q rest (a.put op.dst (.agg V)) w):wpList Tryz.prog ops Q (op::rest) a w:=by
 obtain ⟨d,hu,hd⟩:=Tryz.F9
 refine wpList_step fun K hK=> ?_
 rw [if_pos hw]
 refine wp_load_mid 31 x ho b 0 hx V.toList d (fun j v hv=> ?_) hu hd (by rw [show V.toList.length=18 by simpa using hV];exact Tryz.qU) (hK _ _ (by simpa using h))
 rw [Nat.zero_add,aj hb];simpa using hv
theorem Om {w:World}{x:Sx}{a0 a1 a2 a3 a4:Option Addr}{n0 n1 n2 n3 n4 k0 k1 k2 k3 k4:Nat}(t0:decide ((10:Int)<(n1:Int))=true):
 Calls Tryz.prog 29 #[.agg (aF x (.slice a0 n0 k0) (.slice a1 n1 k1) (.slice a2 n2 k2) (.slice a3 n3 k3) (.slice a4 n4 k4))] w fun e w' =>e= .returned (.bool false)∧Below w.heap.size w w' :=by
 have hB:=(Below.refl w.heap.size w).alloc (Nat.le_refl _) (.cells (aF x (.slice a0 n0 k0) (.slice a1 n1 k1) (.slice a2 n2 k2) (.slice a3 n3 k3) (.slice a4 n4 k4)) 31)
 have hbl:(w.alloc (.cells (aF x (.slice a0 n0 k0) (.slice a1 n1 k1) (.slice a2 n2 k2) (.slice a3 n3 k3) (.slice a4 n4 k4)) 31)).heap[w.heap.size]? =some (.cells (aF x (.slice a0 n0 k0) (.slice a1 n1 k1) (.slice a2 n2 k2) (.slice a3 n3 k3) (.slice a4 n4 k4)) 31 (0,0)):=aB w _
 obtain ⟨c0,c1,c2,c3,c4,c5,c6,c7,c8,c9,c10,c11,c12,c13,c14,c15,c16,c17⟩:=aM hbl
 clear c0 c1 c2 c3 c4 c5 c6 c7 c8 c9 c14 c15 c16
 have Xi:=ah hbl 10
 have ZT:=ah hbl 11
 have SL:=ah hbl 12
 have ZU:=ah hbl 13
 have Uf:=ah hbl 17
 clear hbl
 go_enter Tryz.func29,Tryz.ntmps29
 go_wp2_with fail
 go_ret
 exact ⟨rfl,hB⟩
theorem Oo {w:World}{x:Sx}{a0 a1 a2 a3 a4:Option Addr}{n0 n1 n2 n3 n4 k0 k1 k2 k3 k4:Nat}(t0:decide ((10:Int)<(n1:Int))=false) (t1:decide ((10:Int)<(n2:Int))=true):
 Calls Tryz.prog 29 #[.agg (aF x (.slice a0 n0 k0) (.slice a1 n1 k1) (.slice a2 n2 k2) (.slice a3 n3 k3) (.slice a4 n4 k4))] w fun e w' =>e= .returned (.bool false)∧Below w.heap.size w w' :=by
 have hB:=(Below.refl w.heap.size w).alloc (Nat.le_refl _) (.cells (aF x (.slice a0 n0 k0) (.slice a1 n1 k1) (.slice a2 n2 k2) (.slice a3 n3 k3) (.slice a4 n4 k4)) 31)
 have hbl:(w.alloc (.cells (aF x (.slice a0 n0 k0) (.slice a1 n1 k1) (.slice a2 n2 k2) (.slice a3 n3 k3) (.slice a4 n4 k4)) 31)).heap[w.heap.size]? =some (.cells (aF x (.slice a0 n0 k0) (.slice a1 n1 k1) (.slice a2 n2 k2) (.slice a3 n3 k3) (.slice a4 n4 k4)) 31 (0,0)):=aB w _
 obtain ⟨c0,c1,c2,c3,c4,c5,c6,c7,c8,c9,c10,c11,c12,c13,c14,c15,c16,c17⟩:=aM hbl
 clear c0 c1 c2 c3 c4 c5 c6 c7 c8 c9 c14 c15 c16
 have Xi:=ah hbl 10
 have ZT:=ah hbl 11
 have SL:=ah hbl 12
 have ZU:=ah hbl 13
 have Uf:=ah hbl 17
 clear hbl
 go_enter Tryz.func29,Tryz.ntmps29
 go_wp2_with fail
 go_ret
 exact ⟨rfl,hB⟩
theorem Oq {w:World}{x:Sx}{a0 a1 a2 a3 a4:Option Addr}{n0 n1 n2 n3 n4 k0 k1 k2 k3 k4:Nat}(t0:decide ((10:Int)<(n1:Int))=false) (t1:decide ((10:Int)<(n2:Int))=false) (t2:decide ((2:Int)<(n3:Int))=true):
 Calls Tryz.prog 29 #[.agg (aF x (.slice a0 n0 k0) (.slice a1 n1 k1) (.slice a2 n2 k2) (.slice a3 n3 k3) (.slice a4 n4 k4))] w fun e w' =>e= .returned (.bool false)∧Below w.heap.size w w' :=by
 have hB:=(Below.refl w.heap.size w).alloc (Nat.le_refl _) (.cells (aF x (.slice a0 n0 k0) (.slice a1 n1 k1) (.slice a2 n2 k2) (.slice a3 n3 k3) (.slice a4 n4 k4)) 31)
 have hbl:(w.alloc (.cells (aF x (.slice a0 n0 k0) (.slice a1 n1 k1) (.slice a2 n2 k2) (.slice a3 n3 k3) (.slice a4 n4 k4)) 31)).heap[w.heap.size]? =some (.cells (aF x (.slice a0 n0 k0) (.slice a1 n1 k1) (.slice a2 n2 k2) (.slice a3 n3 k3) (.slice a4 n4 k4)) 31 (0,0)):=aB w _
 obtain ⟨c0,c1,c2,c3,c4,c5,c6,c7,c8,c9,c10,c11,c12,c13,c14,c15,c16,c17⟩:=aM hbl
 clear c0 c1 c2 c3 c4 c5 c6 c7 c8 c9 c14 c15 c16
 have Xi:=ah hbl 10
 have ZT:=ah hbl 11
 have SL:=ah hbl 12
 have ZU:=ah hbl 13
 have Uf:=ah hbl 17
 clear hbl
 go_enter Tryz.func29,Tryz.ntmps29
 go_wp2_with fail
 go_ret
 exact ⟨rfl,hB⟩
theorem Ot {w:World}{x:Sx}{a0 a1 a2 a3 a4:Option Addr}{n0 n1 n2 n3 n4 k0 k1 k2 k3 k4:Nat}(t0:decide ((10:Int)<(n1:Int))=false) (t1:decide ((10:Int)<(n2:Int))=false) (t2:decide ((2:Int)<(n3:Int))=false) (t3:decide ((10:Int)<(n0:Int))=true):
 Calls Tryz.prog 29 #[.agg (aF x (.slice a0 n0 k0) (.slice a1 n1 k1) (.slice a2 n2 k2) (.slice a3 n3 k3) (.slice a4 n4 k4))] w fun e w' =>e= .returned (.bool false)∧Below w.heap.size w w' :=by
 have hB:=(Below.refl w.heap.size w).alloc (Nat.le_refl _) (.cells (aF x (.slice a0 n0 k0) (.slice a1 n1 k1) (.slice a2 n2 k2) (.slice a3 n3 k3) (.slice a4 n4 k4)) 31)
 have hbl:(w.alloc (.cells (aF x (.slice a0 n0 k0) (.slice a1 n1 k1) (.slice a2 n2 k2) (.slice a3 n3 k3) (.slice a4 n4 k4)) 31)).heap[w.heap.size]? =some (.cells (aF x (.slice a0 n0 k0) (.slice a1 n1 k1) (.slice a2 n2 k2) (.slice a3 n3 k3) (.slice a4 n4 k4)) 31 (0,0)):=aB w _
 obtain ⟨c0,c1,c2,c3,c4,c5,c6,c7,c8,c9,c10,c11,c12,c13,c14,c15,c16,c17⟩:=aM hbl
 clear c0 c1 c2 c3 c4 c5 c6 c7 c8 c9 c14 c15 c16
 have Xi:=ah hbl 10
 have ZT:=ah hbl 11
 have SL:=ah hbl 12
 have ZU:=ah hbl 13
 have Uf:=ah hbl 17
 clear hbl
 go_enter Tryz.func29,Tryz.ntmps29
 go_wp2_with fail
 go_ret
 exact ⟨rfl,hB⟩
theorem Ou {w:World}{x:Sx}{a0 a1 a2 a3 a4:Option Addr}{n0 n1 n2 n3 n4 k0 k1 k2 k3 k4:Nat}(t0:decide ((10:Int)<(n1:Int))=false) (t1:decide ((10:Int)<(n2:Int))=false) (t2:decide ((2:Int)<(n3:Int))=false) (t3:decide ((10:Int)<(n0:Int))=false) (t4:decide ((8:Int)<(n4:Int))=true):
 Calls Tryz.prog 29 #[.agg (aF x (.slice a0 n0 k0) (.slice a1 n1 k1) (.slice a2 n2 k2) (.slice a3 n3 k3) (.slice a4 n4 k4))] w fun e w' =>e= .returned (.bool false)∧Below w.heap.size w w' :=by
 have hB:=(Below.refl w.heap.size w).alloc (Nat.le_refl _) (.cells (aF x (.slice a0 n0 k0) (.slice a1 n1 k1) (.slice a2 n2 k2) (.slice a3 n3 k3) (.slice a4 n4 k4)) 31)
 have hbl:(w.alloc (.cells (aF x (.slice a0 n0 k0) (.slice a1 n1 k1) (.slice a2 n2 k2) (.slice a3 n3 k3) (.slice a4 n4 k4)) 31)).heap[w.heap.size]? =some (.cells (aF x (.slice a0 n0 k0) (.slice a1 n1 k1) (.slice a2 n2 k2) (.slice a3 n3 k3) (.slice a4 n4 k4)) 31 (0,0)):=aB w _
 obtain ⟨c0,c1,c2,c3,c4,c5,c6,c7,c8,c9,c10,c11,c12,c13,c14,c15,c16,c17⟩:=aM hbl
 clear c0 c1 c2 c3 c4 c5 c6 c7 c8 c9 c14 c15 c16
 have Xi:=ah hbl 10
 have ZT:=ah hbl 11
 have SL:=ah hbl 12
 have ZU:=ah hbl 13
 have Uf:=ah hbl 17
 clear hbl
 go_enter Tryz.func29,Tryz.ntmps29
 go_wp2_with fail
 go_ret
 exact ⟨rfl,hB⟩
theorem Ov {w:World}{x:Sx}{a0 a1 a2 a3 a4:Option Addr}{n0 n1 n2 n3 n4 k0 k1 k2 k3 k4:Nat}(t0:decide ((10:Int)<(n1:Int))=false) (t1:decide ((10:Int)<(n2:Int))=false) (t2:decide ((2:Int)<(n3:Int))=false) (t3:decide ((10:Int)<(n0:Int))=false) (t4:decide ((8:Int)<(n4:Int))=false) {b:Bool}(hc:∀w',Below w.heap.size w w' →Calls Tryz.prog 46 #[.slice a4 n4 k4, .func (.func 47) #[] #[]] w' fun e w'' =>e= .returned (.bool b)∧Below w'.heap.size w' w''):
 Calls Tryz.prog 29 #[.agg (aF x (.slice a0 n0 k0) (.slice a1 n1 k1) (.slice a2 n2 k2) (.slice a3 n3 k3) (.slice a4 n4 k4))] w fun e w' =>e= .returned (.bool (!b))∧Below w.heap.size w w' :=by
 have hB:=(Below.refl w.heap.size w).alloc (Nat.le_refl _) (.cells (aF x (.slice a0 n0 k0) (.slice a1 n1 k1) (.slice a2 n2 k2) (.slice a3 n3 k3) (.slice a4 n4 k4)) 31)
 have hbl:(w.alloc (.cells (aF x (.slice a0 n0 k0) (.slice a1 n1 k1) (.slice a2 n2 k2) (.slice a3 n3 k3) (.slice a4 n4 k4)) 31)).heap[w.heap.size]? =some (.cells (aF x (.slice a0 n0 k0) (.slice a1 n1 k1) (.slice a2 n2 k2) (.slice a3 n3 k3) (.slice a4 n4 k4)) 31 (0,0)):=aB w _
 obtain ⟨c0,c1,c2,c3,c4,c5,c6,c7,c8,c9,c10,c11,c12,c13,c14,c15,c16,c17⟩:=aM hbl
 clear c0 c1 c2 c3 c4 c5 c6 c7 c8 c9 c14 c15 c16
 have Xi:=ah hbl 10
 have ZT:=ah hbl 11
 have SL:=ah hbl 12
 have ZU:=ah hbl 13
 have Uf:=ah hbl 17
 clear hbl
 have h1:=hc _ hB
 clear hc
 go_enter Tryz.func29,Tryz.ntmps29
 go_wp2_with fail
 refine h1.mono ?_;rintro e w2 ⟨rfl,hb2⟩
 go_wp2_with fail
 go_ret
 exact ⟨rfl,hB.trans (hb2.mono hB.size)⟩
theorem U9 {w:World}{u:Value}{L:List Pw}{g:Pw→Bool}(hl:L.length≤100000) (hr:Rd w u L.length (jw L))
 (hf:∀q∈L,∀w',Below w.heap.size w w' →Calls Tryz.prog 47 #[.agg q.arr] w' fun e w'' =>e= .returned (.bool (g q))∧Below w'.heap.size w' w''):
 Calls Tryz.prog 94 #[u, .func (.func 47) #[] #[]] w fun e w' =>((∃k:Nat,e= .returned (.int .i64 k)∧L.any g=true)∨(e= .returned (.int .i64 (-1))∧L.any g=false))∧Below w.heap.size w w' :=by
 obtain ⟨a,cap,rfl,hx0⟩:=hr
 go_enter Tryz.func94,Tryz.ntmps94
 go_wp2_with fail
 go_loopw [8] (fun i wr=>∃j:Nat,i= .int .i64 j∧j≤L.length∧Below w.heap.size w wr∧Hid ((L.take j).any g=false)) (fun i _=>L.length - (intOf i).toNat)
 case atStart=>exact ⟨0,rfl,Nat.zero_le _,Below.refl _ _,rfl⟩
 case round=>
  obtain ⟨j,rfl,hj,hBr,HA⟩:=hrel
  have hsz:=hBr.size
  by_cases hjl:j<L.length
  · have p0:(j:Int)<(L.length:Int):=by omega
    have p1:(0:Int)≤(j:Int):=by omega
    have HJ:=Lib.hid (show j+1≤L.length from hjl)
    obtain ⟨ga,o,rfl,hx⟩:=hx0 (by omega)
    obtain ⟨q,hq⟩:∃q,L[j]? =some q:=⟨_,List.getElem?_eq_getElem hjl⟩
    have HQ:=Lib.hid hq
    have hR:wr.rangeAt ga (o+j*18) q.arr.toList:=fun i v hv=>by
     have hi:i<18:=by have:=(List.getElem?_eq_some_iff.1 hv).1;simp [Pw.arr]at this;omega
     have:=hx (j*18+i) v (by rw [wP hq i hi];exact hv)
     rw [Nat.add_assoc]
     exact aJ hBr this
    have hc:=hf q (List.mem_of_getElem? hq) _ hBr
    have HT:Hid ((L.take (j+1)).any g=g q):=by
     obtain ⟨hj2,rfl⟩:=List.getElem?_eq_some_iff.1 hq
     show _=_
     rw [List.take_succ_eq_append_getElem hj2,List.any_append,HA.out];simp
    clear hq hx
    cases hg:g q with
    |false=>
     rw [hg]at hc HT
     have HG:=Lib.hid hg
     clear hg
     obtain ⟨x,tc,c,s,wv,pv⟩:=q
     go_wp2_with (refine wQ rfl _ rfl rfl rfl hR ?_)
     refine hc.mono ?_;rintro e w2 ⟨rfl,hb2⟩
     have hB2:=hBr.trans (hb2.mono hsz)
     go_wp2_with fail
     go_roundw
     case rel=>exact ⟨j+1,by go_num,HJ.out,hB2,HT⟩
     case measure=>have hjj:=HJ.out;simp [intOf];omega
    |true=>
     rw [hg]at hc HT
     have HY:Hid (L.any g=true):=List.any_eq_true.2 ⟨q,List.mem_of_getElem? HQ.out,hg⟩
     clear hg
     obtain ⟨x,tc,c,s,wv,pv⟩:=q
     go_wp2_with (refine wQ rfl _ rfl rfl rfl hR ?_)
     refine hc.mono ?_;rintro e w2 ⟨rfl,hb2⟩
     have hB2:=hBr.trans (hb2.mono hsz)
     go_wp2_with fail
     go_ret
     exact ⟨Or.inl ⟨j,rfl,HY.out⟩,hB2⟩
  · have mo:j=L.length:=by omega
    subst mo
    have HA2:Hid (L.any g=false):=by show _=_;have:=HA.out;rwa [List.take_length]at this
    clear HA
    go_wp2_with fail
    go_ret
    exact ⟨Or.inr ⟨rfl,HA2.out⟩,hBr⟩
theorem LJ {w:World}{u:Value}{L:List Pw}{g:Pw→Bool}(hl:L.length≤100000) (hr:Rd w u L.length (jw L))
 (hf:∀q∈L,∀w',Below w.heap.size w w' →Calls Tryz.prog 47 #[.agg q.arr] w' fun e w'' =>e= .returned (.bool (g q))∧Below w'.heap.size w' w''):
 Calls Tryz.prog 46 #[u, .func (.func 47) #[] #[]] w fun e w' =>e= .returned (.bool (L.any g))∧Below w.heap.size w w' :=by
 have hi:=U9 hl hr hf
 clear hr hf
 obtain ⟨r,hr⟩:∃r,L.any g=r:=⟨_,rfl⟩
 rw [hr]at hi⊢
 clear hr
 go_enter Tryz.func46,Tryz.ntmps46
 go_wp2_with fail
 refine hi.mono ?_;rintro e w2 ⟨⟨k,rfl,rfl⟩|⟨rfl,rfl⟩,hb2⟩
 · have p1:(0:Int)≤(k:Int):=by omega
   go_wp2_with fail
   go_ret
   exact ⟨rfl,hb2⟩
 · go_wp2_with fail
   go_ret
   exact ⟨rfl,hb2⟩
theorem Kn {w:World}{x:Sx}{tc c s wv:Value}{a4:Option Addr}{n4 k4:Nat}  (_t:decide ((0:Int)<(n4:Int))=true) (_t2:decide (0<n4)=true) (t3:0<n4):
 Calls Tryz.prog 47 #[.agg (aF x tc c s wv (.slice a4 n4 k4))] w fun e w' =>e= .returned (.bool true)∧Below w.heap.size w w' :=by
 have hB:=(Below.refl w.heap.size w).alloc (Nat.le_refl _) (.cells (aF x tc c s wv (.slice a4 n4 k4)) 31)
 have hbl:(w.alloc (.cells (aF x tc c s wv (.slice a4 n4 k4)) 31)).heap[w.heap.size]? =some (.cells (aF x tc c s wv (.slice a4 n4 k4)) 31 (0,0)):=aB w _
 obtain ⟨c0,c1,c2,c3,c4,c5,c6,c7,c8,c9,c10,c11,c12,c13,c14,c15,c16,c17⟩:=aM hbl
 clear c0 c1 c2 c3 c4 c5 c6 c7 c8 c9 c10 c11 c12 c13 c14 c15 c16
 have Uf:=ah hbl 17
 go_enter Tryz.func47,Tryz.ntmps47
 go_wp2_with fail
 go_ret
 exact ⟨rfl,hB⟩
theorem Ow {w:World}{x:Sx}{tc c s wv:Value}{a4:Option Addr}{n4 k4:Nat}{b:Bool}(hc:∀w',Below w.heap.size w w' →Calls Tryz.prog 29 #[.agg (aF x tc c s wv (.slice a4 n4 k4))] w' fun e w'' =>e= .returned (.bool b)∧Below w'.heap.size w' w'') (hn:n4=0):
 Calls Tryz.prog 47 #[.agg (aF x tc c s wv (.slice a4 n4 k4))] w fun e w' =>e= .returned (.bool (!b))∧Below w.heap.size w w' :=by
 have hB:=(Below.refl w.heap.size w).alloc (Nat.le_refl _) (.cells (aF x tc c s wv (.slice a4 n4 k4)) 31)
 have hbl:(w.alloc (.cells (aF x tc c s wv (.slice a4 n4 k4)) 31)).heap[w.heap.size]? =some (.cells (aF x tc c s wv (.slice a4 n4 k4)) 31 (0,0)):=aB w _
 obtain ⟨c0,c1,c2,c3,c4,c5,c6,c7,c8,c9,c10,c11,c12,c13,c14,c15,c16,c17⟩:=aM hbl
 clear c0 c1 c2 c3 c4 c5 c6 c7 c8 c9 c10 c11 c12 c13 c14 c15 c16
 have Uf:=ah hbl 17
 have h1:=hc _ hB
 clear hc
 subst hn
 go_enter Tryz.func47,Tryz.ntmps47
 go_wp2_with (refine ko (by go_simp) _ rfl rfl rfl hbl ?_)
 refine h1.mono ?_;rintro e w2 ⟨rfl,hb2⟩
 go_wp2_with fail
 go_ret
 exact ⟨rfl,hB.trans (hb2.mono hB.size)⟩
theorem Iz {w:World}{x:Sx}{tc c s wv pv:Value}{n:Nat}{ys:List Value}{b:Bool}(hin:jm w x tc c s wv) (hp:Rd w pv n ys)
 (hc:iJ x=true→n≤8→∀w',Below w.heap.size w w' →Calls Tryz.prog 46 #[pv, .func (.func 47) #[] #[]] w' fun e w'' =>e= .returned (.bool b)∧Below w'.heap.size w' w''):
 Calls Tryz.prog 29 #[.agg (aF x tc c s wv pv)] w fun e w' =>e= .returned (.bool (iJ x&&decide (n≤8)&& !b))∧Below w.heap.size w w' :=by
 obtain ⟨⟨a0,k0,rfl,_⟩,⟨a1,k1,rfl,_⟩,⟨a2,k2,rfl,_⟩,⟨a3,k3,rfl,_⟩⟩:=hin
 obtain ⟨a4,k4,rfl,_⟩:=hp
 unfold iJ at hc⊢
 have no:¬(x.aO.length≤10∧x.sets.length≤10∧x.aP.length≤2∧x.aN.length≤10)∨¬n≤8→(decide (x.aO.length≤10∧x.sets.length≤10∧x.aP.length≤2∧x.aN.length≤10)&&decide (n≤8)&& !b)=false:=by
  rintro (h|h)
  · rw [decide_eq_false h];rfl
  · rw [decide_eq_false h,Bool.and_false,Bool.false_and]
 by_cases h0:10<x.aO.length
 · rw [no (Or.inl (by omega))]
   exact Om (decide_eq_true (by omega))
 have f0:decide ((10:Int)<(x.aO.length:Int))=false:=decide_eq_false (by omega)
 by_cases h1:10<x.sets.length
 · rw [no (Or.inl (by omega))]
   exact Oo f0 (decide_eq_true (by omega))
 have f1:decide ((10:Int)<(x.sets.length:Int))=false:=decide_eq_false (by omega)
 by_cases h2:2<x.aP.length
 · rw [no (Or.inl (by omega))]
   exact Oq f0 f1 (decide_eq_true (by omega))
 have f2:decide ((2:Int)<(x.aP.length:Int))=false:=decide_eq_false (by omega)
 by_cases h3:10<x.aN.length
 · rw [no (Or.inl (by omega))]
   exact Ot f0 f1 f2 (decide_eq_true (by omega))
 have f3:decide ((10:Int)<(x.aN.length:Int))=false:=decide_eq_false (by omega)
 by_cases h4:8<n
 · rw [no (Or.inr (by omega))]
   exact Ou f0 f1 f2 f3 (decide_eq_true (by omega))
 have f4:decide ((8:Int)<(n:Int))=false:=decide_eq_false (by omega)
 have hy:x.aO.length≤10∧x.sets.length≤10∧x.aP.length≤2∧x.aN.length≤10:=by omega
 rw [decide_eq_true hy,decide_eq_true (show n≤8 by omega)]
 exact Ov f0 f1 f2 f3 f4 (hc (decide_eq_true hy) (by omega))
theorem LM:∀L:List Pw,L.all (iJ ∘ Pw.x)= !(L.any fun q=> !iJ q.x)
 | []=>rfl
 |q::l=>by rw [List.all_cons,List.any_cons,Bool.not_or,Bool.not_not,LM l];rfl
theorem Ko {w:World}{p:Pw}(h:jm w p.x p.tc p.c p.s p.wv) (hp:Rd w p.pv 0 []):
 Calls Tryz.prog 29 #[.agg p.arr] w fun e w' =>e= .returned (.bool (iJ p.x))∧Below w.heap.size w w' :=by
 have:=Iz (b:=false) h hp (fun _ _ w' hb=>LJ (L:= []) (g:=fun _=>false) (by decide) (hp.below hb) (fun q hq=>absurd hq (by simp)))
 simp only [Bool.not_false,Bool.and_true,Nat.zero_le,decide_true]at this
 exact this
theorem Kq {w:World}{p:Pw}{n:Nat}{ys:List Value}(h:jm w p.x p.tc p.c p.s p.wv) (hp:Rd w p.pv n ys) (hn:n=0→ys= []):
 Calls Tryz.prog 47 #[.agg p.arr] w fun e w' =>e= .returned (.bool (decide (0<n)|| !iJ p.x))∧Below w.heap.size w w' :=by
 obtain ⟨x,tc,c,s,wv,pv⟩:=p
 by_cases h0:0<n
 · obtain ⟨a4,k4,rfl,_⟩:=hp
   rw [decide_eq_true h0]
   exact Kn (decide_eq_true (by omega)) (decide_eq_true h0) h0
 · have e:n=0:=by omega
   subst e
   have hy:=hn rfl
   subst hy
   have hp' :=hp
   obtain ⟨a4,k4,rfl,_⟩:=hp'
   rw [decide_eq_false h0,Bool.false_or]
   exact Ow (b:=iJ x) (fun w' hb=>Ko (p:=⟨x,tc,c,s,wv, .slice a4 0 k4⟩) (h.below hb) (hp.below hb)) rfl
theorem Ox {w:World}{p:Pw}{L:List Pw}(h:jm w p.x p.tc p.c p.s p.wv) (hp:Rd w p.pv L.length (jw L)) (hq:∀q∈L,jm w q.x q.tc q.c q.s q.wv∧Rd w q.pv 0 []):
 Calls Tryz.prog 29 #[.agg p.arr] w fun e w' =>e= .returned (.bool (mP ⟨p.x,L.map Pw.x⟩))∧Below w.heap.size w w' :=by
 have hb:mP ⟨p.x,L.map Pw.x⟩=(iJ p.x&&decide (L.length≤8)&& !(L.any fun q=> !iJ q.x)):=by
  unfold mP
  simp only [List.length_map,List.all_map]
  congr 1
  exact LM L
 rw [hb]
 refine Iz h hp (fun _ hn w' hb=>LJ (by omega) (hp.below hb) (fun q hq' w'' hb' => ?_))
 have:=Kq (p:=q) (w:=w'') ((hq q hq').1.below (hb.trans (hb'.mono hb.size))) ((hq q hq').2.below (hb.trans (hb'.mono hb.size))) (fun _=>rfl)
 simp only [Nat.lt_irrefl,decide_false,Bool.false_or]at this
 exact this
theorem Va {t:Tm}(h:nN t):H6 t:=by
 rcases h with ⟨h1,_,h3,h4⟩|⟨h1,h2,h3,h4⟩
 · exact ⟨by rw [h1];exact ⟨by decide,by decide⟩,by rw [h4];exact ⟨by decide,by decide⟩,by omega⟩
 · refine ⟨by rw [h1];exact ⟨by decide,by decide⟩,⟨by omega,by omega⟩, ?_⟩
   rw [h2];exact Nat.zero_le _
theorem r9 {L:List Pr}{n:Nat}(hn:n≤100) (h:∀p∈L,j3 p) (hl:L.length≤n):tV L:=
 ⟨by omega,fun q hq=>⟨Va (h q hq).2,by have:=(h q hq).1.2.2.1;omega⟩⟩
theorem iy:tV []:=⟨by decide,by simp⟩
theorem nK {α:Type}{P:α→Prop}:([]:List α).length≤90∧∀q∈([]:List α),P q:=⟨Nat.zero_le _,fun _ h=>nomatch h⟩
theorem dB:Lv 0:=⟨by decide,by decide⟩
theorem Kr {n:Int}(h:jK n):Lv n:=⟨by have:=h.1;omega,by have:=h.2;omega⟩
theorem uQ {b:Bool}{stamp ttl:Int}(h:nu b stamp ttl):Lv stamp∧Lv ttl:=by
 refine ⟨?_, ?_⟩
 · rcases h.1 with rfl|h1
   · exact dB
   · exact Kr h1
 · rcases h.2 with rfl|h1
   · exact dB
   · exact Kr h1.2
theorem fI {s:ByteArray}(h:bH s):s.size≤1000000:=by have:=h.2.2.1;omega
theorem Fy {l:List ByteArray}{most:Nat}(hm:most≤90) (h:mJ most l):l.length≤90∧∀q∈l,q.size≤1000000:=⟨by have:=h.2.2;omega,fun q hq=>fI (h.1 q hq)⟩
theorem bS (n:Nat):(⟨#[]⟩:ByteArray).size≤n:=Nat.zero_le _
theorem Fz:∀{c:List ByteArray}{v:List Tm}{p:Pr},p∈List.zipWith Pr.mk c v→p.name∈c∧p.t∈v
 | [],_,_,h=>absurd h (by simp)
 |_::_, [],_,h=>absurd h (by simp)
 |a::c,b::v,p,h=>by
  rw [List.zipWith_cons_cons]at h
  rcases List.mem_cons.1 h with rfl|h
  · exact ⟨List.mem_cons_self ..,List.mem_cons_self ..⟩
  · obtain ⟨h1,h2⟩:=Fz h
    exact ⟨List.mem_cons_of_mem _ h1,List.mem_cons_of_mem _ h2⟩
theorem aH.GC.st {x:Sx}{L:List To}(h:GC x L):iR x:=by
 cases h with
 |insert o c v a b h=>
  obtain ⟨h1,h2,h3,h4,h5,h6⟩:=h
  obtain ⟨u1,u2⟩:=uQ h6
  exact ⟨bS _,fI h1,bS _,bS _,bS _,nK,nK,r9 (n:=10) (by decide) (fun p hp=>⟨h3.1 _ (Fz hp).1,h5 _ (Fz hp).2⟩) (by show (List.zipWith Pr.mk c v).length≤10;rw [List.length_zipWith];have:=h3.2.2;omega),iy,Nat.zero_le _,u1,u2,dB⟩
 |update o a b c v h=>
  obtain ⟨h1,h2,⟨h3,h4,h5,h6⟩,h7,h8⟩:=h
  obtain ⟨u1,u2⟩:=uQ h2
  exact ⟨bS _,fI h1,bS _,bS _,bS _,nK,nK,r9 (n:=8) (by decide) h4 h6,r9 (n:=2) (by decide) h7 (by show v.length≤2;omega),by show v.length≤90;omega,u1,u2,dB⟩
 |remove o a b c h=>
  obtain ⟨h1,h2,h3,h7,h8⟩:=h
  obtain ⟨u1,u2⟩:=uQ h3
  exact ⟨bS _,fI h2,bS _,bS _,bS _,nK,Fy (by decide) h1,iy,r9 (n:=2) (by decide) h7 (by show c.length≤2;omega),by show c.length≤90;omega,u1,dB,dB⟩
theorem aH.GP.st {x:Sx}{L:List To}(h:GP x L):iR x:=by
 cases h with
 |ask o c v a h=>
  obtain ⟨h1,h2,⟨h7,h8⟩,h9⟩:=h
  refine ⟨bS _,fI h2,bS _,bS _,bS _,nK,Fy (by decide) h1,iy,r9 (n:=2) (by decide) h7 (by show v.length≤2;omega),by show v.length≤90;omega,dB,dB, ?_⟩
  rcases h9 with rfl|h9
  · exact dB
  · exact Kr h9
 |view o c v a p q h=>
  obtain ⟨h1,h2,h3,h4,h5,h6⟩:=h
  have hz:H6 Tm.zero:=⟨dB,dB,bS _⟩
  refine ⟨fI h1,fI h3,fI h4,bS _,bS _,nK,Fy (by decide) h2,iy,⟨(show (2:Nat)≤100 by decide), ?_⟩,(show (2:Nat)≤90 by decide),dB,dB,dB⟩
  intro r hr
  rcases List.mem_cons.1 hr with rfl|hr
  · exact ⟨hz,fI h5⟩
  · rcases List.mem_cons.1 hr with rfl|hr
    · exact ⟨hz,fI h6⟩
    · cases hr
 |index o c v h=>exact ⟨fI h.1,fI h.2.1,fI h.2.2,bS _,bS _,nK,nK,iy,iy,Nat.zero_le _,dB,dB,dB⟩
 |drop o h=>exact ⟨fI h,bS _,bS _,bS _,bS _,nK,nK,iy,iy,Nat.zero_le _,dB,dB,dB⟩
 |table o c v a h=>
  obtain ⟨p,q,D,hp,hq,e0,_,ok⟩:=nE h
  rw [e0]
  have hn:=ok.2.1
  have hl:=ok.2.2.2.1
  exact ⟨fI ok.1,bS _,bS _,fI (hn p (List.mem_cons_self ..)).1,fI (hn q (List.mem_cons_of_mem _ (List.mem_cons_self ..))).1,⟨by show D.length≤90;simp at hl;omega,fun r hr=>fI (hn r (List.mem_cons_of_mem _ (List.mem_cons_of_mem _ hr))).1⟩,nK,iy,iy,Nat.zero_le _,dB,dB,dB⟩
theorem LP (k:Int):iR {Sx.zero with kind:=k}:=⟨bS _,bS _,bS _,bS _,bS _,nK,nK,iy,iy,Nat.zero_le _,dB,dB,dB⟩
theorem aH.GB.st {l:List Sx}{L:List To}(h:GB l L):∀y∈l,iR y:=by
 induction h with
 |nil=>simp
 |cons hx _ ih=>
  intro y hy
  rcases List.mem_cons.1 hy with rfl|hy
  · exact hx.st
  · exact ih y hy
theorem aH.GN.st {nd:Tx.Nd}{L:List To}(h:GN nd L):iR (jE nd).x∧(∀y∈(jE nd).parts,iR y)∧(jE nd).parts.length≤8:=by
 cases h with
 |plain h=>exact ⟨h.st,(fun _ h=>nomatch h),Nat.zero_le _⟩
 |change h=>exact ⟨h.st,(fun _ h=>nomatch h),Nat.zero_le _⟩
 |batch h h1 h2=>exact ⟨LP 9,h.st,h2⟩
def CQ (w:World) (base:Nat) (nd:Tx.Nd) (v:Value):Prop:=
 match nd with
 | .plain x=>∃tc c s wv,v= .iface 124 (.agg (aF x tc c s wv ak))∧gN w base x tc c s wv
 | .change x=>∃tc c s wv,v= .iface 156 (.agg (aF x tc c s wv ak))∧gN w base x tc c s wv
 | .batch l=>∃(L:List Pv) (a:Option Addr) (cap:Nat),L.map Pv.x=l∧v= .iface 161 (.agg #[.slice a L.length cap])∧w.ownsRow base 71 1 (.slice a L.length cap) L.length (L.map Pv.val)∧gH w base L
theorem oU {K:PK}{w:World}{nd:Tx.Nd}{σ:Ps}{e:Ending}{w' :World}(h:mE K w nd σ e w'):∃v,e= .returned v∧Did K w σ w' ∧CQ w' w.heap.size nd v:=by
 cases nd with
 |plain x=>obtain ⟨tc,c,s,wv,rfl,hd,hr⟩:=h;exact ⟨_,rfl,hd,tc,c,s,wv,rfl,hr⟩
 |change x=>obtain ⟨tc,c,s,wv,rfl,hd,hr⟩:=h;exact ⟨_,rfl,hd,tc,c,s,wv,rfl,hr⟩
 |batch l=>obtain ⟨L,a,cap,hL,rfl,hd,hr,hp⟩:=h;exact ⟨_,rfl,hd,L,a,cap,hL,rfl,hr,hp⟩
theorem CQ.map {w w' :World}{base:Nat}{nd:Tx.Nd}{v:Value}(h:CQ w base nd v) (f:∀(e:TypeId) (size n:Nat) (u:Value) (xs:List Value),w.ownsRow base e size u n xs→w'.ownsRow base e size u n xs):CQ w' base nd v:=by
 cases nd with
 |plain x=>obtain ⟨tc,c,s,wv,hv,hr⟩:=h;exact ⟨tc,c,s,wv,hv,hr.map fun _ _ _ _ _ _ hq=>f _ _ _ _ _ hq⟩
 |change x=>obtain ⟨tc,c,s,wv,hv,hr⟩:=h;exact ⟨tc,c,s,wv,hv,hr.map fun _ _ _ _ _ _ hq=>f _ _ _ _ _ hq⟩
 |batch l=>obtain ⟨L,a,cap,hL,hv,hr,hp⟩:=h;exact ⟨L,a,cap,hL,hv,f _ _ _ _ _ hr,hp.map fun _ _ _ _ _ _ hq=>f _ _ _ _ _ hq⟩
theorem CQ.did {K:PK}{σ:Ps}{w w' :World}{base:Nat}{nd:Tx.Nd}{v:Value}(h:CQ w base nd v) (hd:Did K w σ w') (hb:K.L≤base):CQ w' base nd v:=h.map fun _ _ _ _ _ hr=>hd.row hr hb
theorem CQ.below {w w' :World}{base:Nat}{nd:Tx.Nd}{v:Value}(h:CQ w base nd v) (hb:Below w.heap.size w w'):CQ w' base nd v:=h.map fun _ _ _ _ _ hr=>fB hr hb
structure nQ (w:World) (base:Nat) (p:Pw) (L:List Pw) (z:jT):Prop where
 x:p.x=z.x
 parts:L.map Pw.x=z.parts
 rows:gN w base p.x p.tc p.c p.s p.wv
 row:w.ownsRow base 31 18 p.pv L.length (jw L)
 each:∀q∈L,gN w base q.x q.tc q.c q.s q.wv∧q.pv=ak
theorem gN.rd {w:World}{base:Nat}{x:Sx}{tc c s wv:Value}(h:gN w base x tc c s wv):jm w x tc c s wv:=⟨Rd.own h.1,Rd.own h.2.1,Rd.own h.2.2.1,Rd.own h.2.2.2⟩
theorem Kt (w:World):Rd w ak 0 []:=⟨none,0,rfl,fun h=>absurd h (by decide)⟩
structure Ct (w:World) (p:Pw) (L:List Pw):Prop where
 st:jm w p.x p.tc p.c p.s p.wv
 pv:Rd w p.pv L.length (jw L)
 each:∀q∈L,jm w q.x q.tc q.c q.s q.wv∧Rd w q.pv 0 []
theorem Ct.below {w w' :World}{p:Pw}{L:List Pw}(h:Ct w p L) (hb:Below w.heap.size w w'):Ct w' p L:=
 ⟨h.st.below hb,h.pv.below hb,fun q hq=>⟨(h.each q hq).1.below hb,(h.each q hq).2.below hb⟩⟩
theorem Vb (w:World):Rd w ak 0 []:=⟨none,0,rfl,fun h=>absurd h (by omega)⟩
theorem nQ.wd {w:World}{base:Nat}{p:Pw}{L:List Pw}{z:jT}(h:nQ w base p L z):Ct w p L:=
 ⟨h.rows.rd,Rd.own h.row,fun q hq=>⟨(h.each q hq).1.rd,by rw [(h.each q hq).2];exact Vb w⟩⟩
theorem nQ.z {w:World}{base:Nat}{p:Pw}{L:List Pw}{z:jT}(h:nQ w base p L z):(⟨p.x,L.map Pw.x⟩:jT)=z:=by rw [h.x,h.parts]
def Yx (p:Pw) (L:List Pw):Prop:=iR p.x∧∀q∈L,iR q.x
theorem Rd.one {w:World}{u:Value}{n:Nat}{xs:List Value}(h:Rd w u n xs):u.oneCell' =true:=by
 obtain ⟨_,_,rfl,_⟩:=h
 rfl
theorem Ct.one {w:World}{p:Pw}{L:List Pw}(h:Ct w p L):p.arr.toList.all (·.oneCell')=true:=h.st.one h.pv.one
theorem Ct.pw {w:World}{p:Pw}{L:List Pw}(h:Ct w p L) (hs:Yx p L):BP w p∧∀q∈L,BP w q∧Rd w q.pv 0 []:=
 ⟨⟨hs.1,h.st,h.pv.one⟩,fun q hq=>⟨⟨hs.2 q hq,(h.each q hq).1,(h.each q hq).2.one⟩,(h.each q hq).2⟩⟩
theorem BR {w:World}{p:Pw}{L:List Pw}(h:Ct w p L):
 Calls Tryz.prog 29 #[.agg p.arr] w fun e w' =>e= .returned (.bool (mP ⟨p.x,L.map Pw.x⟩))∧Below w.heap.size w w' :=Ox h.st h.pv h.each
theorem DI {w:World}{p:Pw}{L:List Pw}(hG:Gp w) (h:Ct w p L) (hs:Yx p L) (hl:L.length≤100):
 Calls Tryz.prog 30 #[.agg p.arr] w fun e w' =>e= .returned (.string (fq ⟨p.x,L.map Pw.x⟩))∧Below w.heap.size w w' :=
 sO hG (h.pw hs).1 fun _=>⟨hl,h.pv,(h.pw hs).2⟩
def SS (x:Sx):Prop:=x.aN.length≤100000∧x.aO.length≤100000∧x.sets.length≤100000∧x.aP.length≤100000
def Yy (z:jT):Prop:=SS z.x∧z.parts.length≤100000∧∀y∈z.parts,SS y
theorem IB {x:Sx}(h:iJ x=true):SS x:=by
 have h:=of_decide_eq_true h
 unfold SS
 omega
theorem sj {z:jT}(h:mP z=true):iJ z.x=true∧z.parts.length≤8∧∀y∈z.parts,iJ y=true:=by
 unfold mP at h
 simp only [Bool.and_eq_true,decide_eq_true_eq,List.all_eq_true]at h
 exact ⟨h.1.1,h.1.2,h.2⟩
theorem IC {z:jT}(h:iJ z.x=true∧z.parts.length≤8∧∀y∈z.parts,iJ y=true):Yy z:=
 ⟨IB h.1,by omega,fun y hy=>IB (h.2.2 y hy)⟩
theorem R7 {z:jT}(h:May z):Yy z:=IC (sj (uP h))
theorem FB {p:Pw}{L:List Pw}(h:May ⟨p.x,L.map Pw.x⟩):Yx p L:=by
 obtain ⟨nd,l,hG,he,_⟩:=h
 have hs:=hG.st
 rw [←he]at hs
 exact ⟨hs.1,fun q hq=>hs.2.1 q.x (List.mem_map.2 ⟨q,hq,rfl⟩)⟩
theorem aD {w w' :World}{b:Nat}{o:Obj}(hb:Below w.heap.size w w') (h:w.heap[b]? =some o):w'.heap[b]? =some o:=by
 rw [hb.block _ (aC h)];exact h
theorem sP {w:World}{b:Nat}{o:Obj}(h:w.heap[b]? =some o) (o' :Obj):(w.alloc o').heap[b]? =some o:=
 aD ((Below.refl w.heap.size w).alloc (Nat.le_refl _) o') h
theorem qm {w wr:World}{L:List Pw}{g o j:Nat}{q:Pw}(hx:∀k v,(jw L)[k]? =some v→w.cell? ⟨g,o+k,none⟩=some v) (hq:L[j]? =some q) (hB:Below w.heap.size w wr):wr.rangeAt g (o+j*18) q.arr.toList:=fun i v hv=>by
 have hi:i<18:=by have:=(List.getElem?_eq_some_iff.1 hv).1;simp [Pw.arr]at this;omega
 have:=hx (j*18+i) v (by rw [wP hq i hi];exact hv)
 rw [Nat.add_assoc]
 exact aJ hB this
theorem LU {w:World}{u v:Value}{L M:List Pw}(hu:Rd w u L.length (jw L)) (hv:Rd w v M.length (jw M)) (hl:L.length≤100000) (_hm:M.length≤100000)
 (h1:∀p∈L,p.arr.toList.all (·.oneCell')=true) (h2:∀p∈M,p.arr.toList.all (·.oneCell')=true)
 (hf:∀p∈L,∀q∈M,∀w',Below w.heap.size w w' →Calls Tryz.prog 31 #[.agg p.arr, .agg q.arr] w' fun e w'' =>∃b:Bool,e= .returned (.bool b)∧(b=true ↔ p.x=q.x)∧Below w'.heap.size w' w''):
 Calls Tryz.prog 65 #[u,v, .func (.func 31) #[] #[]] w fun e w' =>∃b:Bool,e= .returned (.bool b)∧(b=true ↔ L.map Pw.x=M.map Pw.x)∧Below w.heap.size w w' :=by
 obtain ⟨a1,k1,rfl,hx0⟩:=hu
 obtain ⟨a2,k2,rfl,hy0⟩:=hv
 by_cases hlen:L.length=M.length
 · have HL:=Lib.hid hlen
   obtain ⟨n,hn⟩:∃n,L.length=n:=⟨_,rfl⟩
   have hn2:M.length=n:=by omega
   have HN:=Lib.hid hn
   have X3:=Lib.hid hn2
   rw [hn]at hx0 hl⊢
   rw [hn2]at hy0⊢
   clear hlen hn hn2 _hm
   have t0:((n:Int) !=(n:Int))=false:=by simp
   go_enter Tryz.func65,Tryz.ntmps65
   go_wp2_with fail
   go_loopw [17] (fun i wr=>∃j:Nat,i= .int .i64 j∧j≤n∧Below w.heap.size w wr∧Hid (∀k,k<j→(L.map Pw.x)[k]? =(M.map Pw.x)[k]?)) (fun i _=>n - (intOf i).toNat)
   case atStart=>exact ⟨0,rfl,Nat.zero_le _,Below.refl _ _,fun k hk=>absurd hk (by omega)⟩
   case round=>
    obtain ⟨j,rfl,hj,hBr,HA⟩:=hrel
    have hsz:=hBr.size
    by_cases hjl:j<n
    · have p0:(j:Int)<(n:Int):=by omega
      have p1:(0:Int)≤(j:Int):=by omega
      have HJ:=Lib.hid (show j+1≤n from hjl)
      obtain ⟨g1,o1,rfl,hx⟩:=hx0 (by omega)
      obtain ⟨g2,o2,rfl,hy⟩:=hy0 (by omega)
      obtain ⟨q,hq⟩:∃q,L[j]? =some q:=⟨_,List.getElem?_eq_getElem (by have:=HN.out;omega)⟩
      obtain ⟨r,hr⟩:∃q,M[j]? =some q:=⟨_,List.getElem?_eq_getElem (by have:=X3.out;omega)⟩
      have hq1:(L.map Pw.x)[j]? =some q.x:=by rw [List.getElem?_map,hq];rfl
      have hr1:(M.map Pw.x)[j]? =some r.x:=by rw [List.getElem?_map,hr];rfl
      have hone:=h1 q (List.mem_of_getElem? hq)
      have ZV:=h2 r (List.mem_of_getElem? hr)
      have hR:=qm hx hq hBr
      have hB1:=hBr.alloc hsz (.cells q.arr 31)
      have hR2:=qm hy hr hB1
      have hB2:=hB1.alloc hB1.size (.cells r.arr 31)
      have qQ:((wr.alloc (.cells q.arr 31)).alloc (.cells r.arr 31)).heap[wr.heap.size]? =some (.cells q.arr 31 (0,0)):=sP (aB wr _) _
      have Oy:((wr.alloc (.cells q.arr 31)).alloc (.cells r.arr 31)).heap[wr.heap.size+1]? =some (.cells r.arr 31 (0,0)):=by rw [←aA wr (.cells q.arr 31)];exact aB _ _
      have hc:=hf q (List.mem_of_getElem? hq) r (List.mem_of_getElem? hr) _ hB2
      have HT:Hid (q.x=r.x→∀k,k<j+1→(L.map Pw.x)[k]? =(M.map Pw.x)[k]?):=fun he=>wT hq1 hr1 HA.out he
      have HF:Hid (¬q.x=r.x→L.map Pw.x≠M.map Pw.x):=fun he=>Fx hq1 hr1 he
      clear hq hr hq1 hr1 hx hy hx0 hy0 hf h1 h2
      obtain ⟨x,tc,c,s,wv,pv⟩:=q
      obtain ⟨x',V5,c',s',wv',pv'⟩:=r
      go_wp2_with (first|refine wQ rfl _ rfl rfl rfl hR ?_|refine wQ rfl _ rfl rfl rfl hR2 ?_|refine fZ rfl _ _ rfl rfl rfl rfl rfl hone ?_|refine fZ (b:=wr.heap.size+1) rfl _ _ rfl (aA _ _).symm rfl rfl rfl ZV ?_|refine bA rfl _ rfl rfl rfl qQ ?_|refine bA rfl _ rfl rfl rfl Oy ?_)
      refine hc.mono ?_;rintro e w2 ⟨b,rfl,hb,hb2⟩
      have hB3:=hB2.trans (hb2.mono hB2.size)
      cases b with
      |true=>
       have HT2:=Lib.hid (HT.out (hb.1 rfl))
       clear hb hc
       go_wp2_with fail
       go_roundw
       case rel=>exact ⟨j+1,by go_num,HJ.out,hB3,HT2⟩
       case measure=>have hjj:=HJ.out;simp [intOf];omega
      |false=>
       have HF2:=Lib.hid (HF.out (fun h=>absurd (hb.2 h) (by decide)))
       clear hb hc
       go_wp2_with fail
       go_ret
       exact ⟨false,rfl,by simpa using HF2.out,hB3⟩
    · have mo:j=n:=by omega
      subst mo
      have HT:Hid (L.map Pw.x=M.map Pw.x):=wS (by rw [List.length_map,List.length_map];exact HL.out) (by rw [List.length_map,HN.out];exact HA.out)
      clear HA hf
      go_wp2_with fail
      go_ret
      exact ⟨true,rfl,by simpa using HT.out,hBr⟩
 · have t0:((L.length:Int) !=(M.length:Int))=true:=by rw [bne_iff_ne];omega
   have HT:Hid (L.map Pw.x≠M.map Pw.x):=fun h=>hlen (by have:=congrArg List.length h;simpa using this)
   clear hlen hf
   go_enter Tryz.func65,Tryz.ntmps65
   go_wp2_with fail
   go_ret
   exact ⟨false,rfl,by simpa using HT.out,Below.refl _ _⟩
end Go.Proofs.YtfbgdjcnlnfoaaaGreatDoor
