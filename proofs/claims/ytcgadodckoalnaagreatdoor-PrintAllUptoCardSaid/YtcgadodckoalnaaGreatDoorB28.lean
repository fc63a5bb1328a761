/- Parts of a proof. -/
import Derived.Deep.RegionHeld3
import Derived.Test.YtcgadodckoalnaaGreatDoorB22
import Derived.Test.YtcgadodckoalnaaGreatDoorB23
import Derived.Test.YtcgadodckoalnaaGreatDoorB24
import Derived.Test.YtcgadodckoalnaaGreatDoorB25
import Derived.Test.YtcgadodckoalnaaGreatDoorB26
import Derived.Test.YtcgadodckoalnaaGreatDoorB27
set_option maxHeartbeats 8000000
set_option maxRecDepth 100000
namespace Go.Proofs.YtcgadodckoalnaaGreatDoor
open Go.Proofs.Tryz
open Go.RowKit
open aN
theorem QV {w:World}{x:Sx}{tc c s wv pv:Value}{J:ByteArray}(hk:x.kind=9) (hin:iJ w x tc c s wv) (hpv:pv.oneCell' =true) (hJ:J.size≤500000000000000)
 (hls:∀w',Below w.heap.size w w' →Calls prog 40 #[pv, .string ⟨#[]⟩, .func (.func 41) #[] #[]] w' fun e w'' =>e= .returned (.string J)∧Below w'.heap.size w' w''):
 Calls prog 14 #[.agg (aG x tc c s wv pv)] w fun e w' =>e= .returned (.string (((⟨#[66,69,71,73,78,32,66,65,84,67,72,32]⟩:ah)++J)++(⟨#[65,80,80,76,89,32,66,65,84,67,72]⟩:ah)))∧Below w.heap.size w w' :=by
 have hone:=hin.one hpv;have hB1:=(Below.refl w.heap.size w).alloc (Nat.le_refl _) (.cells (aG x tc c s wv pv) 31);have hbl:(w.alloc (.cells (aG x tc c s wv pv) 31)).heap[w.heap.size]? =some (.cells (aG x tc c s wv pv) 31 (0,0)):=aA w _;have hof:=pY (w:=w.alloc (.cells (aG x tc c s wv pv) 31)) x tc c s wv pv;have hkv:fD x.kind (aG x tc c s wv pv)= .iface 76 (.agg (aG x tc c s wv pv)):=by unfold fD;rw [hk];rfl
 rw [hkv]at hof;clear hkv;have ha1:=cZ (⟨#[66,69,71,73,78,32,66,65,84,67,72,32]⟩:ah) J (by show 12+_≤_;omega);have ha2:=cZ ((⟨#[66,69,71,73,78,32,66,65,84,67,72,32]⟩:ah)++J) (⟨#[65,80,80,76,89,32,66,65,84,67,72]⟩:ah) (by rw [ByteArray.size_append];show 12+_+11≤_;omega);have HLS:=Lib.hid hls;clear hls hin hk hJ;have Gt:=Y5;have yH:=Ih;have AB:=Jr;have CB:=Ii;have DY:=Jv;have Im:=E5;have Ma:=E8;have Y7:=E9;have ah1:=LU;go_enter func14,ntmps14;go_wp2_with (refine aT rfl _ rfl rfl rfl hbl ?_);refine hof.mono ?_;rintro e w2 ⟨rfl,hb2⟩;have hB2:=hB1.trans (hb2.mono hB1.size);have hV:(w2.alloc (.cells (aG x tc c s wv pv) 76)).heap[w2.heap.size]? =some (.cells (aG x tc c s wv pv) 76 (0,0)):=aA w2 _;have hB3:=hB2.alloc hB2.size (.cells (aG x tc c s wv pv) 76);have m17:=(aK hV).2.2.2.2.2.2.2.2.2.2.2.2.2.2.2.2.2;have hc:=HLS.out _ hB3;go_wp2_with (refine nI Y1 rfl _ _ rfl rfl rfl rfl rfl hone ?_);refine hc.mono ?_;rintro e w3 ⟨rfl,hb3⟩;go_wp2_with fail;go_ret;exact ⟨rfl,hB3.trans (hb3.mono hB3.size)⟩
theorem Vk {w:World}{x:Sx}{tc c s wv pv:Value}(hk:∀k:Int,1≤k→k≤9→x.kind≠k):
 Calls prog 14 #[.agg (aG x tc c s wv pv)] w fun e w' =>e= .returned (.string ⟨#[]⟩)∧Below w.heap.size w w' :=by
 have hB1:=(Below.refl w.heap.size w).alloc (Nat.le_refl _) (.cells (aG x tc c s wv pv) 31);have hbl:(w.alloc (.cells (aG x tc c s wv pv) 31)).heap[w.heap.size]? =some (.cells (aG x tc c s wv pv) 31 (0,0)):=aA w _;have hof:=pY (w:=w.alloc (.cells (aG x tc c s wv pv) 31)) x tc c s wv pv;have hkv:fD x.kind (aG x tc c s wv pv)= .nilIface:=by unfold fD;rw [if_neg (hk 1 (by decide) (by decide)),if_neg (hk 2 (by decide) (by decide)),if_neg (hk 3 (by decide) (by decide)),if_neg (hk 4 (by decide) (by decide)),if_neg (hk 5 (by decide) (by decide)),if_neg (hk 6 (by decide) (by decide)),if_neg (hk 7 (by decide) (by decide)),if_neg (hk 8 (by decide) (by decide)),if_neg (hk 9 (by decide) (by decide))]
 rw [hkv]at hof;clear hkv;clear hk;have yH:=LV;have AB:=Om;have CB:=LW;have DY:=Oo;have Im:=Jy;have Ma:=Jz;have Y7:=JA;have ah1:=QN;have alf:=LX;go_enter func14,ntmps14;go_wp2_with (refine aT rfl _ rfl rfl rfl hbl ?_);refine hof.mono ?_;rintro e w2 ⟨rfl,hb2⟩;have hB2:=hB1.trans (hb2.mono hB1.size);go_wp2_with fail;go_ret;exact ⟨rfl,hB2⟩
theorem Mc {w:World}{x:Sx}{tc c s wv pv:Value}(hc0:x.aI= []) (hk:x.kind=7) (hG:Gp w) (hok:gB x) (hin:iJ w x tc c s wv) (hpv:pv.oneCell' =true):
 Calls prog 14 #[.agg (aG x tc c s wv pv)] w fun e w' =>e= .returned (.string (aF (jT x)))∧Below w.heap.size w w' :=by
 obtain ⟨cA,cC,hce,_⟩:=hin.c;rw [hc0]at hce;replace hce:c= .slice cA 0 cC:=hce;subst hce;have hone:=hin.one hpv;have hB1:=(Below.refl w.heap.size w).alloc (Nat.le_refl _) (.cells (aG x tc (.slice cA 0 cC) s wv pv) 31);have hbl:(w.alloc (.cells (aG x tc (.slice cA 0 cC) s wv pv) 31)).heap[w.heap.size]? =some (.cells (aG x tc (.slice cA 0 cC) s wv pv) 31 (0,0)):=aA w _;have hof:=pY (w:=w.alloc (.cells (aG x tc (.slice cA 0 cC) s wv pv) 31)) x tc (.slice cA 0 cC) s wv pv;have hkv:fD x.kind (aG x tc (.slice cA 0 cC) s wv pv)= .iface 73 (.agg (aG x tc (.slice cA 0 cC) s wv pv)):=by unfold fD;rw [hk];rfl
 rw [hkv]at hof;clear hkv;obtain ⟨Ju,p8⟩:∃r,aF (dA x.stamp x.ttl)=r:=⟨_,rfl⟩;have Il:Ju.size≤1000:=by rw [←p8];exact jl _ _ hok.stamp hok.ttl
 obtain ⟨Jw,mM⟩:∃r,aF (eF x.aH)=r:=⟨_,rfl⟩;have CF:Jw.size≤800004000:=by rw [←mM];exact pE hok.aH
 have nJ:((⟨#[68,69,76,69,84,69,32]⟩:ah)).size≤7:=by decide
 obtain ⟨A1,nK,LZ,nO⟩:=aM nJ (show ((⟨#[]⟩:ah)).size≤0 from by decide) (by decide);obtain ⟨A2,pF,Oq,pG⟩:=aM nO (show ((⟨#[70,82,79,77,32]⟩:ah)).size≤5 from by decide) (by decide);obtain ⟨A3,pI,Ot,pJ⟩:=aM pG (show (x.bT).size≤2000000 from hok.bT) (by decide);obtain ⟨A4,pK,Ou,pO⟩:=aM pJ (show (Ju).size≤1000 from Il) (by decide);obtain ⟨A5,pQ,Ov,sj⟩:=aM pO (show (Jw).size≤800004000 from CF) (by decide)
 have HE:Hid (A5=aF (jT x)):=by
  show _=_;rw [←pQ,←pK,←pI,←pF,←nK,←p8,←mM];unfold jT;rw [if_pos hc0];apply ByteArray.ext;apply Array.ext';simp [bq,aF,Pc.text]
 clear nK pF pI pK pQ;clear nJ nO pG pJ pO sj;clear Il CF;have HC:=Lib.hid (fun (wq:World) (Bb:Below w.heap.size w wq)=>And.intro (hG.below Bb) (hin.below Bb));have Ao:=Lib.hid hok;have HJ:Hid (aF (dA x.stamp x.ttl)=Ju∧aF (eF x.aH)=Jw):=⟨p8,mM⟩;clear p8 mM hok hin hG hk;have Gt:=Km;have yH:=wO;have AB:=yF;have CB:=wP;have DY:=yG;have Im:=uS;have Ma:=uT;go_enter func14,ntmps14;go_wp2_with (refine aT rfl _ rfl rfl rfl hbl ?_);refine hof.mono ?_;rintro e w2 ⟨rfl,hb2⟩;have hB2:=hB1.trans (hb2.mono hB1.size);have hV:(w2.alloc (.cells (aG x tc (.slice cA 0 cC) s wv pv) 73)).heap[w2.heap.size]? =some (.cells (aG x tc (.slice cA 0 cC) s wv pv) 73 (0,0)):=aA w2 _;have hB3:=hB2.alloc hB2.size (.cells (aG x tc (.slice cA 0 cC) s wv pv) 73);have m11:=(aK hV).2.2.2.2.2.2.2.2.2.2.2.1;clear hc0;go_wp2_with (refine nI Kl rfl _ _ rfl rfl rfl rfl rfl hone ?_);obtain ⟨wq,hwq⟩:∃wq,wq=w2.alloc (.cells (aG x tc (.slice cA 0 cC) s wv pv) 73):=⟨_,rfl⟩;rw [←hwq]at hV hB3⊢;clear hwq;obtain ⟨I8,tX⟩:=HC.out wq hB3;have hok:=Ao.out;obtain ⟨p8,mM⟩:=HJ.out;have HJu:Hid (∀(w' :World),Below wq.heap.size wq w' →Calls prog 36 #[.int .i64 x.stamp, .int .i64 x.ttl] w' (fun e w'' =>e= .returned (.string Ju)∧Below w'.heap.size w' w'')):=fun w' hB' =>by rw [←p8];exact wu (I8.below hB') hok.stamp hok.ttl
 have HJw:Hid (∀(w' :World),Below wq.heap.size wq w' →Calls prog 38 #[wv] w' (fun e w'' =>e= .returned (.string Jw)∧Below w'.heap.size w' w'')):=fun w' hB' =>by rw [←mM];exact rQ (I8.below hB') hok.aH (tX.wv.below hB')
 clear I8 tX hok p8 mM;clear HC Ao HJ hof hbl hB1 hb2 hB2 hone Gt yH AB CB DY Im Ma;have d2:wq.cell? ⟨w2.heap.size,2,none⟩=some (.string x.bT):=(aK hV).2.2.1;have qE:wq.cell? ⟨w2.heap.size,13,none⟩=some (wv):=(aK hV).2.2.2.2.2.2.2.2.2.2.2.2.2.1;have sS:wq.cell? ⟨w2.heap.size,14,none⟩=some (.int .i64 x.stamp):=(aK hV).2.2.2.2.2.2.2.2.2.2.2.2.2.2.1;have sU:wq.cell? ⟨w2.heap.size,15,none⟩=some (.int .i64 x.ttl):=(aK hV).2.2.2.2.2.2.2.2.2.2.2.2.2.2.2.1;have hS:Below wq.heap.size wq wq∧wq.cell? ⟨w2.heap.size,2,none⟩=some (.string x.bT)∧wq.cell? ⟨w2.heap.size,13,none⟩=some (wv)∧wq.cell? ⟨w2.heap.size,14,none⟩=some (.int .i64 x.stamp)∧wq.cell? ⟨w2.heap.size,15,none⟩=some (.int .i64 x.ttl):=⟨Below.refl _ _,d2,qE,sS,sU⟩
 go_region_held3 (fun w' =>Below wq.heap.size wq w' ∧w'.cell? ⟨w2.heap.size,2,none⟩=some (.string x.bT)∧w'.cell? ⟨w2.heap.size,13,none⟩=some (wv)∧w'.cell? ⟨w2.heap.size,14,none⟩=some (.int .i64 x.stamp)∧w'.cell? ⟨w2.heap.size,15,none⟩=some (.int .i64 x.ttl)) (first|exact LY (by assumption) QS|exact LY (by assumption) L6|exact ⟨(Below.refl _ _).drew,d2,qE,sS,sU⟩)
  (first
  |(go_at_call 36;with_reducible refine (HJu.out _ (And.left (by assumption))).mono ?_;rintro e wJu ⟨rfl,QS⟩)
  |(go_at_call 38;with_reducible refine (HJw.out _ (And.left (by assumption))).mono ?_;rintro e wJw ⟨rfl,L6⟩))
 go_wp2_with fail;go_ret;rw [←HE.out];exact ⟨rfl,hB3.trans (Below.mono (And.left (by assumption)) hB3.size)⟩
theorem lI (M:Nat):∀(l:List Pc),(∀p∈l,p.text.size≤M)→(aF l).size≤l.length*M
 | [],_=>Nat.zero_le _
 |p::l,h=>by
  have ih:=lI M l fun q hq=>h q (List.mem_cons_of_mem _ hq)
  have hp:=h p (List.mem_cons_self ..);show (p.text++aF l).size≤_;rw [ByteArray.size_append,List.length_cons,Nat.succ_mul];omega
theorem Ko {x:Sx}(h:gB x):(aF (eB bA ((x.part::x.aX::x.aB).map dN))).size≤100*2000014:=by
 rw [←iQ,iI]
 have:=iB (⟨#[44,32]⟩:ah) (((x.part::x.aX::x.aB).map dN).map aF) 2000010 (fun y hy=>by
  rw [List.map_map]at hy;obtain ⟨q,hq,rfl⟩:=List.mem_map.1 hy;refine uW q ?_;rcases List.mem_cons.1 hq with rfl|hq
  · exact h.part
  rcases List.mem_cons.1 hq with rfl|hq
  · exact h.aX
  · exact h.aB.2 q hq)
 rw [List.length_map,List.length_map]at this;have hl:=h.aB.1;exact Nat.le_trans this (Nat.mul_le_mul (by simp;omega) (by decide))
theorem abv {x:Sx}(h:gB x):(aF (eB bA ((x.on::x.aH.map Pr.name).map fun s=> [Pc.wd s]))).size≤100*2000004:=by
 rw [←iQ,iI,←LP]
 have:=iB (⟨#[44,32]⟩:ah) (x.on::x.aH.map Pr.name) 2000000 (fun y hy=>by
  rcases List.mem_cons.1 hy with rfl|hy
  · exact h.on
  · obtain ⟨q,hq,rfl⟩:=List.mem_map.1 hy;exact (h.aH.2 q hq).2)
 have hl:=h.Ij;rw [List.length_cons,List.length_map]at this;exact Nat.le_trans this (Nat.mul_le_mul (by omega) (by decide))
theorem Vl {x:Sx}(h:gB x):(aF (tJ x)).size≤2000000000:=by
 unfold tJ
 have e1:(aF [.wd (⟨#[67,82,69,65,84,69]⟩:ah), .bl, .wd (⟨#[84,65,66,76,69]⟩:ah), .bl, .wd x.name, .bl, .sg 40]).size≤7*2000000:=lI 2000000 _ (by
  intro p hp;simp only [List.mem_cons,List.not_mem_nil,or_false]at hp;rcases hp with rfl|rfl|rfl|rfl|rfl|rfl|rfl<;>first|decide|exact h.name|exact h.bT|exact h.on|exact h.part|exact h.aX)
 have e2:=Ko h
 have e3:(aF [.sg 44, .bl, .wd (⟨#[80,82,73,77,65,82,89]⟩:ah), .bl, .wd (⟨#[75,69,89]⟩:ah), .bl, .sg 40, .wd x.part.name, .sg 44, .bl, .wd x.aX.name, .sg 41, .sg 41]).size≤13*2000000:=lI 2000000 _ (by
  intro p hp;simp only [List.mem_cons,List.not_mem_nil,or_false]at hp;rcases hp with rfl|rfl|rfl|rfl|rfl|rfl|rfl|rfl|rfl|rfl|rfl|rfl|rfl<;>first|decide|exact h.name|exact h.bT|exact h.on|exact h.part|exact h.aX)
 try simp only [bq,ByteArray.size_append]at *
 omega
theorem Y8 {x:Sx}(h:gB x):(aF (uH x)).size≤2000000000:=by
 unfold uH
 have e1:(aF [.wd (⟨#[67,82,69,65,84,69]⟩:ah), .bl, .wd (⟨#[77,65,84,69,82,73,65,76,73,90,69,68]⟩:ah), .bl, .wd (⟨#[86,73,69,87]⟩:ah), .bl, .wd x.name, .bl, .wd (⟨#[65,83]⟩:ah), .bl, .wd (⟨#[83,69,76,69,67,84]⟩:ah), .bl]).size≤12*2000000:=lI 2000000 _ (by
  intro p hp;simp only [List.mem_cons,List.not_mem_nil,or_false]at hp;rcases hp with rfl|rfl|rfl|rfl|rfl|rfl|rfl|rfl|rfl|rfl|rfl|rfl<;>first|decide|exact h.name|exact h.bT|exact h.on|exact h.part|exact h.aX)
 have e2:=lN (Nat.le_trans h.aI.1 (by decide)) h.aI.2
 have e3:(aF [.bl, .wd (⟨#[70,82,79,77]⟩:ah), .bl, .wd x.bT, .bl, .wd (⟨#[87,72,69,82,69]⟩:ah), .bl, .wd x.on, .bl, .wd (⟨#[73,83]⟩:ah), .bl, .wd (⟨#[78,79,84]⟩:ah), .bl, .wd (⟨#[78,85,76,76]⟩:ah), .bl, .wd (⟨#[80,82,73,77,65,82,89]⟩:ah), .bl, .wd (⟨#[75,69,89]⟩:ah), .bl, .sg 40]).size≤20*2000000:=lI 2000000 _ (by
  intro p hp;simp only [List.mem_cons,List.not_mem_nil,or_false]at hp;rcases hp with rfl|rfl|rfl|rfl|rfl|rfl|rfl|rfl|rfl|rfl|rfl|rfl|rfl|rfl|rfl|rfl|rfl|rfl|rfl|rfl<;>first|decide|exact h.name|exact h.bT|exact h.on|exact h.part|exact h.aX)
 have e4:=abv h
 have e5:(aF [.sg 41]).size≤1*2000000:=lI 2000000 _ (by
  intro p hp;simp only [List.mem_cons,List.not_mem_nil,or_false]at hp;rcases hp with rfl<;>first|decide|exact h.name|exact h.bT|exact h.on|exact h.part|exact h.aX)
 try simp only [bq,ByteArray.size_append]at *
 omega
theorem Vm {x:Sx}(h:gB x):(aF (tK x)).size≤2000000000:=by
 unfold tK
 have e1:(aF [.wd (⟨#[67,82,69,65,84,69]⟩:ah), .bl, .wd (⟨#[73,78,68,69,88]⟩:ah), .bl, .wd x.name, .bl, .wd (⟨#[79,78]⟩:ah), .bl, .wd x.bT, .bl, .sg 40, .wd x.on, .sg 41]).size≤13*2000000:=lI 2000000 _ (by
  intro p hp;simp only [List.mem_cons,List.not_mem_nil,or_false]at hp;rcases hp with rfl|rfl|rfl|rfl|rfl|rfl|rfl|rfl|rfl|rfl|rfl|rfl|rfl<;>first|decide|exact h.name|exact h.bT|exact h.on|exact h.part|exact h.aX)
 try simp only [bq,ByteArray.size_append]at *
 omega
theorem Y9 {x:Sx}(h:gB x):(aF (zF x)).size≤2000000000:=by
 unfold zF
 have e1:(aF [.wd (⟨#[68,82,79,80]⟩:ah), .bl, .wd x.name]).size≤3*2000000:=lI 2000000 _ (by
  intro p hp;simp only [List.mem_cons,List.not_mem_nil,or_false]at hp;rcases hp with rfl|rfl|rfl<;>first|decide|exact h.name|exact h.bT|exact h.on|exact h.part|exact h.aX)
 try simp only [bq,ByteArray.size_append]at *
 omega
theorem QW {x:Sx}(h:gB x):(aF (oD x)).size≤2000000000:=by
 unfold oD
 have e1:(aF [.wd (⟨#[73,78,83,69,82,84]⟩:ah), .bl, .wd (⟨#[73,78,84,79]⟩:ah), .bl, .wd x.bT, .bl, .sg 40]).size≤7*2000000:=lI 2000000 _ (by
  intro p hp;simp only [List.mem_cons,List.not_mem_nil,or_false]at hp;rcases hp with rfl|rfl|rfl|rfl|rfl|rfl|rfl<;>first|decide|exact h.name|exact h.bT|exact h.on|exact h.part|exact h.aX)
 have e2:=DW x.sets▸Cx h.sets
 have e3:(aF [.sg 41, .bl, .wd (⟨#[86,65,76,85,69,83]⟩:ah), .bl, .sg 40]).size≤5*2000000:=lI 2000000 _ (by
  intro p hp;simp only [List.mem_cons,List.not_mem_nil,or_false]at hp;rcases hp with rfl|rfl|rfl|rfl|rfl<;>first|decide|exact h.name|exact h.bT|exact h.on|exact h.part|exact h.aX)
 have e4:=DX x.sets▸Cy h.sets
 have e5:(aF [.sg 41]).size≤1*2000000:=lI 2000000 _ (by
  intro p hp;simp only [List.mem_cons,List.not_mem_nil,or_false]at hp;rcases hp with rfl<;>first|decide|exact h.name|exact h.bT|exact h.on|exact h.part|exact h.aX)
 have e6:=jl x.stamp x.ttl h.stamp h.ttl;try simp only [bq,ByteArray.size_append]at *
 omega
theorem QX {x:Sx}(h:gB x):(aF (oF x)).size≤2000000000:=by
 unfold oF
 have e1:(aF [.wd (⟨#[85,80,68,65,84,69]⟩:ah), .bl, .wd x.bT]).size≤3*2000000:=lI 2000000 _ (by
  intro p hp;simp only [List.mem_cons,List.not_mem_nil,or_false]at hp;rcases hp with rfl|rfl|rfl<;>first|decide|exact h.name|exact h.bT|exact h.on|exact h.part|exact h.aX)
 have e2:=jl x.stamp x.ttl h.stamp h.ttl
 have e3:(aF [.bl, .wd (⟨#[83,69,84]⟩:ah), .bl]).size≤3*2000000:=lI 2000000 _ (by
  intro p hp;simp only [List.mem_cons,List.not_mem_nil,or_false]at hp;rcases hp with rfl|rfl|rfl<;>first|decide|exact h.name|exact h.bT|exact h.on|exact h.part|exact h.aX)
 have e4:=Ik x.sets▸DV h.sets (⟨#[44,32]⟩:ah) (by decide);have e5:=pE h.aH;try simp only [bq,ByteArray.size_append]at *
 omega
theorem QY {x:Sx}(h:gB x):(aF (jT x)).size≤2000000000:=by
 unfold jT
 have e1:(aF [.wd (⟨#[68,69,76,69,84,69]⟩:ah), .bl]).size≤2*2000000:=lI 2000000 _ (by
  intro p hp;simp only [List.mem_cons,List.not_mem_nil,or_false]at hp;rcases hp with rfl|rfl<;>first|decide|exact h.name|exact h.bT|exact h.on|exact h.part|exact h.aX)
 have e2:=show (aF (if x.aI= []then []else fZ x.aI++ [.bl])).size≤100*2000006+1 from (by
  split
  · decide
  · rw [bq,ByteArray.size_append];have:=lN (Nat.le_trans h.aI.1 (by decide)) h.aI.2;show _+1≤_;omega)
 have e3:(aF [.wd (⟨#[70,82,79,77]⟩:ah), .bl, .wd x.bT]).size≤3*2000000:=lI 2000000 _ (by
  intro p hp;simp only [List.mem_cons,List.not_mem_nil,or_false]at hp;rcases hp with rfl|rfl|rfl<;>first|decide|exact h.name|exact h.bT|exact h.on|exact h.part|exact h.aX)
 have e4:=jl x.stamp x.ttl h.stamp h.ttl;have e5:=pE h.aH;try simp only [bq,ByteArray.size_append]at *
 omega
theorem abw {x:Sx}(h:gB x):(aF (zx x)).size≤2000000000:=by
 unfold zx
 have e1:(aF [.wd (⟨#[83,69,76,69,67,84]⟩:ah), .bl]).size≤2*2000000:=lI 2000000 _ (by
  intro p hp;simp only [List.mem_cons,List.not_mem_nil,or_false]at hp;rcases hp with rfl|rfl<;>first|decide|exact h.name|exact h.bT|exact h.on|exact h.part|exact h.aX)
 have e2:=lN (Nat.le_trans h.aI.1 (by decide)) h.aI.2
 have e3:(aF [.bl, .wd (⟨#[70,82,79,77]⟩:ah), .bl, .wd x.bT]).size≤4*2000000:=lI 2000000 _ (by
  intro p hp;simp only [List.mem_cons,List.not_mem_nil,or_false]at hp;rcases hp with rfl|rfl|rfl|rfl<;>first|decide|exact h.name|exact h.bT|exact h.on|exact h.part|exact h.aX)
 have e4:=pE h.aH
 have e5:=show (aF (if x.limit=0 then []else [.bl, .wd (⟨#[76,73,77,73,84]⟩:ah), .bl, .nm x.limit])).size≤100 from (by
  split
  · decide
  · have:=o9 x.limit h.limit;show (⟨#[32]⟩++((⟨#[76,73,77,73,84]⟩:ah)++(⟨#[32]⟩++(gY x.limit++⟨#[]⟩)))).size≤_;rw [ByteArray.size_append,ByteArray.size_append,ByteArray.size_append,ByteArray.size_append];show 1+(5+(1+(_+0)))≤_;omega)
 try simp only [bq,ByteArray.size_append]at *
 omega
theorem Za {x:Sx}(h:gB x):(aF (stP x)).size≤2000000000:=by
 unfold stP;split
 · exact Vl h
 split
 · exact Y8 h
 split
 · exact Vm h
 split
 · exact Y9 h
 split
 · exact QW h
 split
 · exact QX h
 split
 · exact QY h
 split
 · exact abw h
 split
 · decide+kernel
 · decide
structure Pw where
 x:Sx
 tc:Value
 c:Value
 s:Value
 wv:Value
 pv:Value
def Pw.arr (p:Pw):Array Value:=aG p.x p.tc p.c p.s p.wv p.pv
structure zB (w:World) (p:Pw):Prop where
 ok:gB p.x
 rd:iJ w p.x p.tc p.c p.s p.wv
 one:p.pv.oneCell' =true
theorem zB.below {w w' :World}{p:Pw}(h:zB w p) (hb:Below w.heap.size w w'):zB w' p:=⟨h.ok,h.rd.below hb,h.one⟩
def jP (L:List Pw):List Value:=L.flatMap fun p=>p.arr.toList
theorem CG:∀{L:List Pw}{j:Nat}{q:Pw}(_:L[j]? =some q) (i:Nat) (_:i<18),(jP L)[j*18+i]? =q.arr.toList[i]?
 |p::l,0,q,h,i,hi=>by
  cases h;simp only [jP,List.flatMap_cons,Nat.zero_mul,Nat.zero_add];rw [List.getElem?_append_left (by simp [Pw.arr];omega)]
 |p::l,k+1,q,h,i,hi=>by
  have:=CG (L:=l) (j:=k) (q:=q) (by simpa using h) i hi;simp only [jP,List.flatMap_cons]at this⊢;rw [List.getElem?_append_right (by simp [Pw.arr];omega)];have e:(k+1)*18+i - p.arr.toList.length=k*18+i:=by simp [Pw.arr];omega
  rw [e];exact this
theorem zi {ops:Array Oper}{rest:List Oper}{op:Oper}{a:Act}{w:World}{Q:Exit→Act→World→Prop}{b o:Nat}{V:Array Value}(hgd:op.guard=none) (x:Operand) (ho:op.op= .load 31 x)
 (hx:a.eval x= .pointer (some ⟨b,o,none⟩)) (hV:V.size=18) (hc:w.rangeAt b o V.toList) (h:wpList prog ops Q rest (a.put op.dst (.agg V)) w):wpList prog ops Q (op::rest) a w:=by
 obtain ⟨d,hu,hd⟩:=Tryz.Kh;exact wpList_load_mid hgd 31 x ho b o hx V.toList d hc hu hd (by rw [show V.toList.length=18 by simpa using hV];exact Tryz.vW) (by simpa using h)
theorem adX {w:World}{u:Value}{L:List Pw}{sep:ByteArray}{T:Pw→ByteArray}(hl:L.length≤100) (hr:Rd w u L.length (jP L)) (h1:∀p∈L,p.arr.toList.all (·.oneCell')=true)
 (hf:∀q∈L,∀w',Below w.heap.size w w' →Calls prog 41 #[.agg q.arr] w' fun e w'' =>e= .returned (.string (T q))∧Below w'.heap.size w' w'')
 (hs:(dF sep (L.map T)).size≤140737488355328):
 Calls prog 40 #[u, .string sep, .func (.func 41) #[] #[]] w fun e w' =>e= .returned (.string (dF sep (L.map T)))∧Below w.heap.size w w' :=by
 obtain ⟨a,cap,rfl,hx0⟩:=hr;go_enter func40,ntmps40;go_wp2_with fail
 go_loopw [7,12] (fun out i wr=>∃(j:Nat) (a3:Option Addr) (c3:Nat),out= .slice a3 j c3∧i= .int .i64 j∧j≤L.length∧Below w.heap.size w wr∧wr.ownsRow w.heap.size 9 1 (.slice a3 j c3) j (((L.take j).map T).map Value.string)) (fun _ i _=>L.length - (intOf i).toNat)
 case atStart=>exact ⟨0,none,0,rfl,rfl,Nat.zero_le _,Below.refl _ _,World.ownsRow_nil _ _ _ _⟩
 case round=>
  obtain ⟨j,a3,c3,rfl,rfl,hj,hBr,hown⟩:=hrel;have hsz:=hBr.size;by_cases hjl:j<L.length
  · have p0:(j:Int)<(L.length:Int):=by omega
    have p1:(0:Int)≤(j:Int):=by omega
    have HJ:=Lib.hid (show j+1≤L.length from hjl);obtain ⟨g,o,rfl,hx⟩:=hx0 (by omega);obtain ⟨q,hq⟩:∃q,L[j]? =some q:=⟨_,List.getElem?_eq_getElem hjl⟩;have hone:=h1 q (List.mem_of_getElem? hq)
    have hR:wr.rangeAt g (o+j*18) q.arr.toList:=fun i v hv=>by
     have hi:i<18:=by have:=(List.getElem?_eq_some_iff.1 hv).1;simp [Pw.arr]at this;omega
     have:=hx (j*18+i) v (by rw [CG hq i hi];exact hv);rw [Nat.add_assoc];exact aJ hBr this
    have hB1:=hBr.alloc hBr.size (.cells q.arr 31);have hbl:(wr.alloc (.cells q.arr 31)).heap[wr.heap.size]? =some (.cells q.arr 31 (0,0)):=aA wr _;have hc:=hf q (List.mem_of_getElem? hq) _ hB1
    have HT:Hid (((L.take (j+1)).map T).map Value.string=((L.take j).map T).map Value.string++ [.string (T q)]):=by
     obtain ⟨hj2,rfl⟩:=List.getElem?_eq_some_iff.1 hq;show _=_;rw [List.take_succ_eq_append_getElem hj2,List.map_append,List.map_append];rfl
    clear hq hx;generalize T q=t at *;obtain ⟨x,tc,c,s,wv,pv⟩:=q;go_wp2_with (first|refine zi rfl _ rfl rfl rfl hR ?_|refine fA rfl _ _ rfl rfl rfl rfl rfl hone ?_|refine aT rfl _ rfl rfl rfl hbl ?_);refine hc.mono ?_;rintro e w2 ⟨rfl,hb2⟩;have hB2:=hB1.trans (hb2.mono hB1.size);have hown2:=fC (hown.alloc _) hb2;have hs2:=hB2.size;go_wp2_with (at_builtin;refine app1 Tryz.yg rfl _ _ rfl w.heap.size _ _ _ rfl (hown2.alloc _) _ _ [.string t] rfl rfl (bg _ _ _) (by intro u hu;rw [List.mem_singleton.1 hu];rfl) (by have:=HJ.out;omega) (by simp;omega) ?_;intro a5 c5 w5 h5 hg5 I7);have AA:=below_app (hB2.alloc hs2 _) (by rw [av];omega) hg5 (fun g2 hg2=>(hown2.lt g2 hg2).1);go_wp2_with fail;go_roundw
    case rel=>exact ⟨j+1,a5,c5,rfl,by go_num,HJ.out,AA,by rw [HT.out];exact h5⟩
    case measure=>have hjj:=HJ.out;simp [intOf];omega
  · have mF:j=L.length:=by omega
    subst mF;rw [List.take_length]at hown;have hlen:(L.map T).length=L.length:=List.length_map ..;have hj:=uR (.slice a3 L.length c3) (L.map T) sep wr (by rw [hlen];exact Rd.own hown) (by rw [hlen];exact lH hown) hs (by omega);go_wp2_with fail;refine hj.mono ?_;rintro e w9 ⟨rfl,Oj⟩;go_wp2_with fail;go_ret;exact ⟨rfl,hBr.trans (Oj.mono hsz)⟩
theorem Vn {w:World}{q:Pw}{t:ByteArray}(ht:t.size≤4000000000)
 (hT:∀w',Below w.heap.size w w' →Calls prog 14 #[.agg q.arr] w' fun e w'' =>e= .returned (.string t)∧Below w'.heap.size w' w''):
 Calls prog 41 #[.agg q.arr] w fun e w' =>e= .returned (.string (t++(⟨#[59,32]⟩:ah)))∧Below w.heap.size w w' :=by
 have hB1:=(Below.refl w.heap.size w).alloc (Nat.le_refl _) (.cells q.arr 31);have hbl:(w.alloc (.cells q.arr 31)).heap[w.heap.size]? =some (.cells q.arr 31 (0,0)):=aA w _;have ha:=cZ t (⟨#[59,32]⟩:ah) (by show _+2≤_;omega);have hc:=hT _ hB1;clear hT;obtain ⟨x,tc,c,s,wv,pv⟩:=q;go_enter func41,ntmps41;go_wp2_with (refine aT rfl _ rfl rfl rfl hbl ?_);refine hc.mono ?_;rintro e w2 ⟨rfl,hb2⟩;go_wp2_with fail;go_ret;exact ⟨rfl,hB1.trans (hb2.mono hB1.size)⟩
theorem Kq {w:World}{p:Pw}(hG:Gp w) (hk:p.x.kind≠9) (h:zB w p):
 Calls prog 14 #[.agg p.arr] w fun e w' =>e= .returned (.string (aF (stP p.x)))∧Below w.heap.size w w' :=by
 obtain ⟨x,tc,c,s,wv,pv⟩:=p;obtain ⟨hok,hin,hpv⟩:=h;replace hk:x.kind≠9:=hk;show Calls _ _ #[.agg (aG x tc c s wv pv)] w _;unfold stP;simp only;by_cases h1:x.kind=1
 · rw [if_pos h1];exact QT h1 hG hok hin hpv
 rw [if_neg h1];by_cases h2:x.kind=2
 · rw [if_pos h2];exact Vj h2 hG hok hin hpv
 rw [if_neg h2];by_cases h3:x.kind=3
 · rw [if_pos h3];exact QO h3 hG hok hin hpv
 rw [if_neg h3];by_cases h4:x.kind=4
 · rw [if_pos h4];exact Vb h4 hG hok hin hpv
 rw [if_neg h4];by_cases h5:x.kind=5
 · rw [if_pos h5];exact Ow h5 hG hok hin hpv
 rw [if_neg h5];by_cases h6:x.kind=6
 · rw [if_pos h6];exact Ox h6 hG hok hin hpv
 rw [if_neg h6];by_cases h7:x.kind=7
 · rw [if_pos h7];by_cases hc:x.aI= []
   · exact Mc hc h7 hG hok hin hpv
   · exact L8 hc h7 hG hok hin hpv
 rw [if_neg h7];by_cases h8:x.kind=8
 · rw [if_pos h8];by_cases hc:x.limit=0
   · exact Vd hc h8 hG hok hin hpv
   · exact Ve hc h8 hG hok hin hpv
 rw [if_neg h8,if_neg hk]
 exact Vk (fun k a b=>by
  intro e;have:k=1∨k=2∨k=3∨k=4∨k=5∨k=6∨k=7∨k=8∨k=9:=by omega
  rcases this with rfl|rfl|rfl|rfl|rfl|rfl|rfl|rfl|rfl
  · exact h1 e
  · exact h2 e
  · exact h3 e
  · exact h4 e
  · exact h5 e
  · exact h6 e
  · exact h7 e
  · exact h8 e
  · exact hk e)
theorem Oy:∀l:List (List Pc),(l.flatMap fun b=>([]:List Pc)++b)=l.flatten
 | []=>rfl
 |a::l=>by rw [List.flatMap_cons,Oy l];rfl
theorem Zb:∀l:List (List Pc),eB [] l=l.flatten
 | []=>rfl
 |a::l=>by
  show a++_=_;rw [List.flatten_cons];exact congrArg _ (Oy l)
def CJ (x:Sx):ByteArray:=aF (stP x)++(⟨#[59,32]⟩:ah)
theorem Vo (l:List Sx):dF ⟨#[]⟩ (l.map CJ)=aF ((l.map stP).flatMap fun a=>a++ [.sg 59, .bl]):=by
 have h:=iQ [] ((l.map stP).map fun a=>a++ [Pc.sg 59, .bl]);rw [Zb,List.map_map,List.map_map]at h;rw [List.flatMap_def,←h];show dF _ _=dF ⟨#[]⟩ _;congr 1;refine List.map_congr_left fun x _=> ?_
 show CJ x=aF (stP x++ [Pc.sg 59, .bl]);rw [bq];rfl
theorem Vp (l:List Sx):((⟨#[66,69,71,73,78,32,66,65,84,67,72,32]⟩:ah)++dF ⟨#[]⟩ (l.map CJ))++(⟨#[65,80,80,76,89,32,66,65,84,67,72]⟩:ah)=aF (nk (l.map stP)):=by
 rw [Vo];unfold nk;rw [bq,bq];congr 1
theorem Zc {L:List Pw}(hl:L.length≤100) (h:∀q∈L,(aF (stP q.x)).size≤2000000000):(dF ⟨#[]⟩ (L.map fun q=>CJ q.x)).size≤240000000000:=by
 have:=iB ⟨#[]⟩ (L.map fun q=>CJ q.x) 2000000004 (fun y hy=>by
  obtain ⟨q,hq,rfl⟩:=List.mem_map.1 hy;have:=h q hq;unfold CJ;rw [ByteArray.size_append];show _+2≤_;omega)
 rw [List.length_map]at this;refine Nat.le_trans this (Nat.le_trans (Nat.mul_le_mul hl (Nat.le_refl _)) ?_);decide
theorem Kr {w:World}{p:Pw}{L:List Pw}(h:zB w p) (hk:p.x.kind=9) (hl:L.length≤100) (hr:Rd w p.pv L.length (jP L)) (hp:∀q∈L,zB w q)
 (hT:∀q∈L,∀w',Below w.heap.size w w' →Calls prog 14 #[.agg q.arr] w' fun e w'' =>e= .returned (.string (aF (stP q.x)))∧Below w'.heap.size w' w''):
 Calls prog 14 #[.agg p.arr] w fun e w' =>e= .returned (.string (aF (nk ((L.map Pw.x).map stP))))∧Below w.heap.size w w' :=by
 have hJ:=Zc hl (fun q hq=>(Za (hp q hq).ok));have e:L.map (fun q=>CJ q.x)=(L.map Pw.x).map CJ:=by rw [List.map_map];rfl
 rw [←Vp,←e];refine QV (x:=p.x) hk h.rd h.one (Nat.le_trans hJ (by decide)) (fun w' hb=> ?_);refine adX (T:=fun q=>CJ q.x) hl (hr.below hb) (fun q hq=>(hp q hq).rd.one (hp q hq).one) (fun q hq w'' hb' => ?_) (Nat.le_trans hJ (by decide));exact Vn (t:=aF (stP q.x)) (Nat.le_trans (Za (hp q hq).ok) (by decide)) (fun w3 hb3=>hT q hq w3 (hb.trans ((hb'.trans (hb3.mono hb'.size)).mono hb.size)))
theorem Vq {w:World}{p:Pw}(hG:Gp w) (h:zB w p) (hp:Rd w p.pv 0 []):
 Calls prog 14 #[.agg p.arr] w fun e w' =>e= .returned (.string (aF (stP p.x)))∧Below w.heap.size w w' :=by
 by_cases hk:p.x.kind=9
 · have:=Kr (L:= []) h hk (by decide) hp (fun q hq=>absurd hq (by simp)) (fun q hq=>absurd hq (by simp));have e:stP p.x=nk []:=by unfold stP;rw [hk];rfl
   rw [e];exact this
 · exact Kq hG hk h
theorem zl {w:World}{p:Pw}{L:List Pw}(hG:Gp w) (h:zB w p) (hL:p.x.kind=9→L.length≤100∧Rd w p.pv L.length (jP L)∧∀q∈L,zB w q∧Rd w q.pv 0 []):
 Calls prog 14 #[.agg p.arr] w fun e w' =>e= .returned (.string (eO ⟨p.x,L.map Pw.x⟩))∧Below w.heap.size w w' :=by
 unfold eO K8;by_cases hk:p.x.kind=9
 · obtain ⟨h1,h2,h3⟩:=hL hk;rw [if_pos hk];exact Kr h hk h1 h2 (fun q hq=>(h3 q hq).1) (fun q hq w' hb=>Vq (hG.below hb) ((h3 q hq).1.below hb) ((h3 q hq).2.below hb))
 · rw [if_neg hk];exact Kq hG hk h
theorem CK {α:Type}{L M:List α}(hl:L.length=M.length) (h:∀k,k<L.length→L[k]? =M[k]?):L=M:=by
 apply List.ext_getElem?;intro k;by_cases hk:k<L.length
 · exact h k hk
 · rw [List.getElem?_eq_none (by omega),List.getElem?_eq_none (by omega)]
theorem CO {α:Type}{L M:List α}{j:Nat}{q q' :α}(hq:L[j]? =some q) (hq' :M[j]? =some q') (h:∀k,k<j→L[k]? =M[k]?) (he:q=q'):∀k,k<j+1→L[k]? =M[k]? :=by
 intro k hk;by_cases hkj:k<j
 · exact h k hkj
 · have:k=j:=by omega
   subst this;rw [hq,hq',he]
theorem af7 {q q' :Cl}(h:q≠q'):(q.name.toList==q'.name.toList)=false∨(q.name=q'.name∧(q.ty==q'.ty)=false):=by
 obtain ⟨a,b⟩:=q;obtain ⟨a',b'⟩:=q';by_cases h1:a=a'
 · subst h1;refine Or.inr ⟨rfl,beq_eq_false_iff_ne.2 fun h2=>h ?_⟩;have h2' :b=b' :=h2;rw [h2']
 · exact Or.inl (by rw [dR];exact xM h1)
theorem af8 {q q' :Pr}(h:q≠q'):(q.name.toList==q'.name.toList)=false∨(q.name=q'.name∧(q.t.ty==q'.t.ty)=false)∨(q.name=q'.name∧q.t.ty=q'.t.ty∧(q.t.s.toList==q'.t.s.toList)=false)∨(q.name=q'.name∧q.t.ty=q'.t.ty∧q.t.s=q'.t.s∧(q.t.n==q'.t.n)=false):=by
 obtain ⟨a,b,c,d⟩:=q;obtain ⟨a',b',c',d'⟩:=q';by_cases h1:a=a'
 · subst h1;by_cases h2:b=b'
   · subst h2;by_cases h3:c=c'
     · subst h3;refine Or.inr (Or.inr (Or.inr ⟨rfl,rfl,rfl,beq_eq_false_iff_ne.2 fun h2=>h ?_⟩));have h2' :d=d' :=h2;rw [h2']
     · exact Or.inr (Or.inr (Or.inl ⟨rfl,rfl,by rw [dR];exact xM h3⟩))
   · exact Or.inr (Or.inl ⟨rfl,beq_eq_false_iff_ne.2 h2⟩)
 · exact Or.inl (by rw [dR];exact xM h1)
theorem Md {α:Type}{L M:List α}{j:Nat}{q q' :α}(hq:L[j]? =some q) (hq' :M[j]? =some q') (hne:q≠q'):L≠M:=by
 rintro rfl;rw [hq]at hq';exact hne (by injection hq')
theorem abx {w:World}{u v:Value}{L M:List Cl}(hu:Rd w u L.length (iO L)) (hv:Rd w v M.length (iO M)) (hl:L.length≤100000) (_hm:M.length≤100000):
 Calls prog 42 #[u,v] w fun e w' =>∃b:Bool,e= .returned (.bool b)∧(b=true ↔ L=M)∧Below w.heap.size w w' :=by
 obtain ⟨a1,k1,rfl,hx0⟩:=hu;obtain ⟨a2,k2,rfl,hy0⟩:=hv;by_cases hlen:L.length=M.length
 · have HL:=Lib.hid hlen;obtain ⟨n,hn⟩:∃n,L.length=n:=⟨_,rfl⟩;have hn2:M.length=n:=by omega
   have HN:=Lib.hid hn;have su:=Lib.hid hn2;rw [hn]at hx0 hl⊢;rw [hn2]at hy0⊢;clear hlen hn hn2 _hm;have t0:((n:Int) !=(n:Int))=false:=by simp
   go_enter func42,ntmps42;go_wp2_with fail
   go_loopw [13] (fun i wr=>∃j:Nat,i= .int .i64 j∧j≤n∧Below w.heap.size w wr∧Hid (∀k,k<j→L[k]? =M[k]?)) (fun i _=>n - (intOf i).toNat)
   case atStart=>exact ⟨0,rfl,Nat.zero_le _,Below.refl _ _,fun k hk=>absurd hk (by omega)⟩
   case round=>
    obtain ⟨j,rfl,hj,hBr,HA⟩:=hrel;have hsz:=hBr.size;by_cases hjl:j<n
    · have p0:(j:Int)<(n:Int):=by omega
      have p1:(0:Int)≤(j:Int):=by omega
      have HJ:=Lib.hid (show j+1≤n from hjl);obtain ⟨g1,o1,rfl,hx⟩:=hx0 (by omega);obtain ⟨g2,o2,rfl,hy⟩:=hy0 (by omega);obtain ⟨q,hq⟩:∃q,L[j]? =some q:=⟨_,List.getElem?_eq_getElem (by have:=HN.out;omega)⟩;obtain ⟨q',hq'⟩:∃q,M[j]? =some q:=⟨_,List.getElem?_eq_getElem (by have:=su.out;omega)⟩;have k0:wr.cell? ⟨g1,o1+j*2,none⟩=some (.string q.name):=aJ hBr (hx (j*2) (.string q.name) (by rw [show j*2=j*2+0 from rfl,jA hq 0 (by omega)];rfl));have k1:wr.cell? ⟨g1,o1+j*2+1,none⟩=some (.int .i64 q.ty):=aJ hBr (hx (j*2+1) (.int .i64 q.ty) (by rw [show j*2+1=j*2+1 from rfl,jA hq 1 (by omega)];rfl));have l0:wr.cell? ⟨g2,o2+j*2,none⟩=some (.string q'.name):=aJ hBr (hy (j*2) (.string q'.name) (by rw [show j*2=j*2+0 from rfl,jA hq' 0 (by omega)];rfl));have l1:wr.cell? ⟨g2,o2+j*2+1,none⟩=some (.int .i64 q'.ty):=aJ hBr (hy (j*2+1) (.int .i64 q'.ty) (by rw [show j*2+1=j*2+1 from rfl,jA hq' 1 (by omega)];rfl));by_cases he:q=q'
      · have HT:Hid (∀k,k<j+1→L[k]? =M[k]?):=CO hq hq' HA.out he;clear hq hq' hx hy;subst he;go_wp2_with fail;go_quiet (fail);go_wp2_with fail;go_roundw
        case rel=>exact ⟨j+1,by go_num,HJ.out,aN.below_drewN hBr _,HT⟩
        case measure=>have hjj:=HJ.out;simp [intOf];omega
      · have HT:Hid (L≠M):=Md hq hq' he;clear hq hq' hx hy hx0 hy0;rcases af7 he with hne|⟨e0,hne⟩
        · clear he;go_wp2_with fail;go_quiet (fail);go_wp2_with fail;go_ret;exact ⟨false,rfl,by simpa using HT.out,aN.below_drewN hBr _⟩
        · rw [e0]at k0;have s0:(q'.name.toList==q'.name.toList)=true:=by rw [dR];exact eD.2 rfl
          clear e0;clear he;go_wp2_with fail;go_quiet (fail);go_wp2_with fail;go_ret;exact ⟨false,rfl,by simpa using HT.out,aN.below_drewN hBr _⟩
    · have mF:j=n:=by omega
      subst mF;have HT:Hid (L=M):=CK HL.out (by rw [HN.out];exact HA.out);clear HA;go_wp2_with fail;go_ret;exact ⟨true,rfl,by simpa using HT.out,hBr⟩
 · have t0:((L.length:Int) !=(M.length:Int))=true:=by rw [bne_iff_ne];omega
   have HT:Hid (L≠M):=fun h=>hlen (by rw [h])
   clear hlen;go_enter func42,ntmps42;go_wp2_with fail;go_ret;exact ⟨false,rfl,by simpa using HT.out,Below.refl _ _⟩
theorem aby {w:World}{u v:Value}{L M:List ByteArray}(hu:Rd w u L.length (L.map Value.string)) (hv:Rd w v M.length (M.map Value.string)) (hl:L.length≤100000) (_hm:M.length≤100000):
 Calls prog 43 #[u,v] w fun e w' =>∃b:Bool,e= .returned (.bool b)∧(b=true ↔ L=M)∧Below w.heap.size w w' :=by
 obtain ⟨a1,k1,rfl,hx0⟩:=hu;obtain ⟨a2,k2,rfl,hy0⟩:=hv;by_cases hlen:L.length=M.length
 · have HL:=Lib.hid hlen;obtain ⟨n,hn⟩:∃n,L.length=n:=⟨_,rfl⟩;have hn2:M.length=n:=by omega
   have HN:=Lib.hid hn;have su:=Lib.hid hn2;rw [hn]at hx0 hl⊢;rw [hn2]at hy0⊢;clear hlen hn hn2 _hm;have t0:((n:Int) !=(n:Int))=false:=by simp
   go_enter func43,ntmps43;go_wp2_with fail
   go_loopw [13] (fun i wr=>∃j:Nat,i= .int .i64 j∧j≤n∧Below w.heap.size w wr∧Hid (∀k,k<j→L[k]? =M[k]?)) (fun i _=>n - (intOf i).toNat)
   case atStart=>exact ⟨0,rfl,Nat.zero_le _,Below.refl _ _,fun k hk=>absurd hk (by omega)⟩
   case round=>
    obtain ⟨j,rfl,hj,hBr,HA⟩:=hrel;have hsz:=hBr.size;by_cases hjl:j<n
    · have p0:(j:Int)<(n:Int):=by omega
      have p1:(0:Int)≤(j:Int):=by omega
      have HJ:=Lib.hid (show j+1≤n from hjl);obtain ⟨g1,o1,rfl,hx⟩:=hx0 (by omega);obtain ⟨g2,o2,rfl,hy⟩:=hy0 (by omega);obtain ⟨q,hq⟩:∃q,L[j]? =some q:=⟨_,List.getElem?_eq_getElem (by have:=HN.out;omega)⟩;obtain ⟨q',hq'⟩:∃q,M[j]? =some q:=⟨_,List.getElem?_eq_getElem (by have:=su.out;omega)⟩;have k0:wr.cell? ⟨g1,o1+j,none⟩=some (.string q):=aJ hBr (hx (j) (.string q) (by rw [List.getElem?_map,hq];rfl));have l0:wr.cell? ⟨g2,o2+j,none⟩=some (.string q'):=aJ hBr (hy (j) (.string q') (by rw [List.getElem?_map,hq'];rfl));by_cases he:q=q'
      · have HT:Hid (∀k,k<j+1→L[k]? =M[k]?):=CO hq hq' HA.out he;clear hq hq' hx hy;subst he;have s0:(q.toList==q.toList)=true:=by rw [dR];exact eD.2 rfl
        go_wp2_with fail;go_quiet (fail);go_wp2_with fail;go_roundw
        case rel=>exact ⟨j+1,by go_num,HJ.out,aN.below_drewN hBr _,HT⟩
        case measure=>have hjj:=HJ.out;simp [intOf];omega
      · have HT:Hid (L≠M):=Md hq hq' he;clear hq hq' hx hy hx0 hy0;have hne:(q.toList==q'.toList)=false:=by rw [dR];exact xM he
        clear he;go_wp2_with fail;go_quiet (fail);go_wp2_with fail;go_ret;exact ⟨false,rfl,by simpa using HT.out,aN.below_drewN hBr _⟩
    · have mF:j=n:=by omega
      subst mF;have HT:Hid (L=M):=CK HL.out (by rw [HN.out];exact HA.out);clear HA;go_wp2_with fail;go_ret;exact ⟨true,rfl,by simpa using HT.out,hBr⟩
 · have t0:((L.length:Int) !=(M.length:Int))=true:=by rw [bne_iff_ne];omega
   have HT:Hid (L≠M):=fun h=>hlen (by rw [h])
   clear hlen;go_enter func43,ntmps43;go_wp2_with fail;go_ret;exact ⟨false,rfl,by simpa using HT.out,Below.refl _ _⟩
theorem SG {w:World}{u v:Value}{L M:List Pr}(hu:Rd w u L.length (dI L)) (hv:Rd w v M.length (dI M)) (hl:L.length≤100000) (_hm:M.length≤100000):
 Calls prog 44 #[u,v] w fun e w' =>∃b:Bool,e= .returned (.bool b)∧(b=true ↔ L=M)∧Below w.heap.size w w' :=by
 obtain ⟨a1,k1,rfl,hx0⟩:=hu;obtain ⟨a2,k2,rfl,hy0⟩:=hv;by_cases hlen:L.length=M.length
 · have HL:=Lib.hid hlen;obtain ⟨n,hn⟩:∃n,L.length=n:=⟨_,rfl⟩;have hn2:M.length=n:=by omega
   have HN:=Lib.hid hn;have su:=Lib.hid hn2;rw [hn]at hx0 hl⊢;rw [hn2]at hy0⊢;clear hlen hn hn2 _hm;have t0:((n:Int) !=(n:Int))=false:=by simp
   go_enter func44,ntmps44;go_wp2_with fail
   go_loopw [13] (fun i wr=>∃j:Nat,i= .int .i64 j∧j≤n∧Below w.heap.size w wr∧Hid (∀k,k<j→L[k]? =M[k]?)) (fun i _=>n - (intOf i).toNat)
   case atStart=>exact ⟨0,rfl,Nat.zero_le _,Below.refl _ _,fun k hk=>absurd hk (by omega)⟩
   case round=>
    obtain ⟨j,rfl,hj,hBr,HA⟩:=hrel;have hsz:=hBr.size;by_cases hjl:j<n
    · have p0:(j:Int)<(n:Int):=by omega
      have p1:(0:Int)≤(j:Int):=by omega
      have HJ:=Lib.hid (show j+1≤n from hjl);obtain ⟨g1,o1,rfl,hx⟩:=hx0 (by omega);obtain ⟨g2,o2,rfl,hy⟩:=hy0 (by omega);obtain ⟨q,hq⟩:∃q,L[j]? =some q:=⟨_,List.getElem?_eq_getElem (by have:=HN.out;omega)⟩;obtain ⟨q',hq'⟩:∃q,M[j]? =some q:=⟨_,List.getElem?_eq_getElem (by have:=su.out;omega)⟩;have k0:wr.cell? ⟨g1,o1+j*4,none⟩=some (.string q.name):=aJ hBr (hx (j*4) (.string q.name) (by rw [show j*4=j*4+0 from rfl,bF hq 0 (by omega)];rfl));have k1:wr.cell? ⟨g1,o1+j*4+1,none⟩=some (.int .i64 q.t.ty):=aJ hBr (hx (j*4+1) (.int .i64 q.t.ty) (by rw [show j*4+1=j*4+1 from rfl,bF hq 1 (by omega)];rfl));have k2:wr.cell? ⟨g1,o1+j*4+2,none⟩=some (.string q.t.s):=aJ hBr (hx (j*4+2) (.string q.t.s) (by rw [show j*4+2=j*4+2 from rfl,bF hq 2 (by omega)];rfl));have k3:wr.cell? ⟨g1,o1+j*4+3,none⟩=some (.int .i64 q.t.n):=aJ hBr (hx (j*4+3) (.int .i64 q.t.n) (by rw [show j*4+3=j*4+3 from rfl,bF hq 3 (by omega)];rfl));have l0:wr.cell? ⟨g2,o2+j*4,none⟩=some (.string q'.name):=aJ hBr (hy (j*4) (.string q'.name) (by rw [show j*4=j*4+0 from rfl,bF hq' 0 (by omega)];rfl));have l1:wr.cell? ⟨g2,o2+j*4+1,none⟩=some (.int .i64 q'.t.ty):=aJ hBr (hy (j*4+1) (.int .i64 q'.t.ty) (by rw [show j*4+1=j*4+1 from rfl,bF hq' 1 (by omega)];rfl));have l2:wr.cell? ⟨g2,o2+j*4+2,none⟩=some (.string q'.t.s):=aJ hBr (hy (j*4+2) (.string q'.t.s) (by rw [show j*4+2=j*4+2 from rfl,bF hq' 2 (by omega)];rfl));have l3:wr.cell? ⟨g2,o2+j*4+3,none⟩=some (.int .i64 q'.t.n):=aJ hBr (hy (j*4+3) (.int .i64 q'.t.n) (by rw [show j*4+3=j*4+3 from rfl,bF hq' 3 (by omega)];rfl));by_cases he:q=q'
      · have HT:Hid (∀k,k<j+1→L[k]? =M[k]?):=CO hq hq' HA.out he;clear hq hq' hx hy;subst he;go_wp2_with fail;go_quiet (fail);go_wp2_with fail;go_roundw
        case rel=>exact ⟨j+1,by go_num,HJ.out,aN.below_drewN hBr _,HT⟩
        case measure=>have hjj:=HJ.out;simp [intOf];omega
      · have HT:Hid (L≠M):=Md hq hq' he;clear hq hq' hx hy hx0 hy0;rcases af8 he with hne|⟨e0,hne⟩|⟨e0,e1,hne⟩|⟨e0,e1,e2,hne⟩
        · clear he;go_wp2_with fail;go_quiet (fail);go_wp2_with fail;go_ret;exact ⟨false,rfl,by simpa using HT.out,aN.below_drewN hBr _⟩
        · rw [e0]at k0;have s0:(q'.name.toList==q'.name.toList)=true:=by rw [dR];exact eD.2 rfl
          clear e0;clear he;go_wp2_with fail;go_quiet (fail);go_wp2_with fail;go_ret;exact ⟨false,rfl,by simpa using HT.out,aN.below_drewN hBr _⟩
        · rw [e0]at k0;have s0:(q'.name.toList==q'.name.toList)=true:=by rw [dR];exact eD.2 rfl
          rw [e1]at k1;clear e0 e1;clear he;go_wp2_with fail;go_quiet (fail);go_wp2_with fail;go_ret;exact ⟨false,rfl,by simpa using HT.out,aN.below_drewN hBr _⟩
        · rw [e0]at k0;have s0:(q'.name.toList==q'.name.toList)=true:=by rw [dR];exact eD.2 rfl
          rw [e1]at k1;rw [e2]at k2;have s2:(q'.t.s.toList==q'.t.s.toList)=true:=by rw [dR];exact eD.2 rfl
          clear e0 e1 e2;clear he;go_wp2_with fail;go_quiet (fail);go_wp2_with fail;go_ret;exact ⟨false,rfl,by simpa using HT.out,aN.below_drewN hBr _⟩
    · have mF:j=n:=by omega
      subst mF;have HT:Hid (L=M):=CK HL.out (by rw [HN.out];exact HA.out);clear HA;go_wp2_with fail;go_ret;exact ⟨true,rfl,by simpa using HT.out,hBr⟩
 · have t0:((L.length:Int) !=(M.length:Int))=true:=by rw [bne_iff_ne];omega
   have HT:Hid (L≠M):=fun h=>hlen (by rw [h])
   clear hlen;go_enter func44,ntmps44;go_wp2_with fail;go_ret;exact ⟨false,rfl,by simpa using HT.out,Below.refl _ _⟩
end Go.Proofs.YtcgadodckoalnaaGreatDoor
