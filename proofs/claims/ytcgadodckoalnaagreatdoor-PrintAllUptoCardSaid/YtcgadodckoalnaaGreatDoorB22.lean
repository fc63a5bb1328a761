/- Parts of a proof. -/
import Derived.Test.YtcgadodckoalnaaGreatDoorB21
set_option maxHeartbeats 8000000
set_option maxRecDepth 100000
namespace Go.Proofs.YtcgadodckoalnaaGreatDoor
open Go.Proofs.Tryz
open Go.RowKit
open aN
structure gB (x:Sx):Prop where
 name:x.name.size≤2000000
 bT:x.bT.size≤2000000
 on:x.on.size≤2000000
 part:x.part.name.size≤2000000
 aX:x.aX.name.size≤2000000
 aB:x.aB.length≤90∧∀q∈x.aB,q.name.size≤2000000
 aI:x.aI.length≤90∧∀q∈x.aI,q.size≤2000000
 sets:qD x.sets
 aH:qD x.aH
 Ij:x.aH.length≤90
 stamp:Ba x.stamp
 ttl:Ba x.ttl
 limit:Ba x.limit
structure iJ (w:World) (x:Sx) (tc c s wv:Value):Prop where
 tc:Rd w tc x.aB.length (iO x.aB)
 c:Rd w c x.aI.length (x.aI.map Value.string)
 s:Rd w s x.sets.length (dI x.sets)
 wv:Rd w wv x.aH.length (dI x.aH)
theorem iJ.below {w w' :World}{x:Sx}{tc c s wv:Value}(h:iJ w x tc c s wv) (hb:Below w.heap.size w w'):iJ w' x tc c s wv:=⟨h.tc.below hb,h.c.below hb,h.s.below hb,h.wv.below hb⟩
theorem iJ.one {w:World}{x:Sx}{tc c s wv pv:Value}(h:iJ w x tc c s wv) (hp:pv.oneCell' =true):(aG x tc c s wv pv).toList.all (·.oneCell')=true:=by
 obtain ⟨_,_,e1,_⟩:=h.tc;obtain ⟨_,_,e2,_⟩:=h.c;obtain ⟨_,_,e3,_⟩:=h.s;obtain ⟨_,_,e4,_⟩:=h.wv;rw [e1,e2,e3,e4];simp only [List.all_cons,List.all_nil,hp,Bool.and_true];rfl
theorem Cx {L:List Pr}(h:qD L):(dF (⟨#[44,32]⟩:ah) (L.map Pr.name)).size≤100*2000004:=by
 have:=iB (⟨#[44,32]⟩:ah) (L.map Pr.name) 2000000 (fun y hy=>by obtain ⟨q,hq,rfl⟩:=List.mem_map.1 hy;exact (h.2 q hq).2);rw [List.length_map]at this;exact Nat.le_trans this (Nat.mul_le_mul h.1 (by decide))
theorem Cy {L:List Pr}(h:qD L):(dF (⟨#[44,32]⟩:ah) (L.map fun q=>(dM q.t).text)).size≤100*4000046:=by
 have:=iB (⟨#[44,32]⟩:ah) (L.map fun q=>(dM q.t).text) 4000042 (fun y hy=>by obtain ⟨q,hq,rfl⟩:=List.mem_map.1 hy;exact FD q.t (h.2 q hq).1);rw [List.length_map]at this;exact Nat.le_trans this (Nat.mul_le_mul h.1 (by decide))
theorem DV {L:List Pr}(h:qD L) (sep:ByteArray) (hs:sep.size≤10):(dF sep (L.map fun q=>aF (bJ q))).size≤100*8000020:=by
 have:=iB sep (L.map fun q=>aF (bJ q)) 8000000 (fun y hy=>by obtain ⟨q,hq,rfl⟩:=List.mem_map.1 hy;exact oU q (h.2 q hq));rw [List.length_map]at this;exact Nat.le_trans this (Nat.mul_le_mul h.1 (by omega))
theorem DW (L:List Pr):dF (⟨#[44,32]⟩:ah) (L.map Pr.name)=aF (eB bA (L.map fun p=> [Pc.wd p.name])):=by
 rw [←iI,←iQ,List.map_map];congr 1;refine List.map_congr_left fun q _=> ?_
 show q.name=q.name++⟨#[]⟩;rw [Bo]
theorem DX (L:List Pr):dF (⟨#[44,32]⟩:ah) (L.map fun q=>(dM q.t).text)=aF (eB bA (L.map fun p=> [dM p.t])):=by
 rw [←iI,←iQ,List.map_map];congr 1;refine List.map_congr_left fun q _=> ?_
 show _=(dM q.t).text++⟨#[]⟩;rw [Bo]
theorem Ik (L:List Pr):dF (⟨#[44,32]⟩:ah) (L.map fun q=>aF (bJ q))=aF (eB bA (L.map bJ)):=by
 rw [←iI,←iQ,List.map_map];rfl
theorem pE {L:List Pr}(h:qD L):(aF (eF L)).size≤100*8000040:=by
 have e:aF (eF L)=(⟨#[32,87,72,69,82,69,32]⟩:ah)++dF (⟨#[32,65,78,68,32]⟩:ah) (L.map fun q=>aF (bJ q)):=by
  unfold eF;rw [bq,←iQ,wo,List.map_map];rfl
 rw [e,ByteArray.size_append];have:=DV h (⟨#[32,65,78,68,32]⟩:ah) (by decide);show 7+_≤_;omega
theorem lN {L:List ByteArray}(hl:L.length≤100) (h:∀q∈L,q.size≤2000000):(aF (fZ L)).size≤100*2000006:=by
 unfold fZ;split
 · decide
 · rw [←iQ,iI,←LP];exact Nat.le_trans (iB _ _ 2000000 h) (Nat.mul_le_mul hl (by decide))
theorem jl (a b:Int) (ha:Ba a) (hb:Ba b):(aF (dA a b)).size≤1000:=by
 have h1:=o9 a ha;have h2:=o9 b hb;have cs:∀(p:Pc) (l:List Pc),(aF (p::l)).size=p.text.size+(aF l).size:=fun p l=>ByteArray.size_append ..
 have cn:(aF []).size=0:=rfl;have n1:(Pc.nm a).text.size≤21:=h1;have n2:(Pc.nm b).text.size≤21:=h2;have e1:(Pc.wd (⟨#[85,83,73,78,71]⟩:ah)).text.size=5:=rfl;have e2:(Pc.wd (⟨#[84,84,76]⟩:ah)).text.size=3:=rfl;have e3:(Pc.wd (⟨#[84,73,77,69,83,84,65,77,80]⟩:ah)).text.size=9:=rfl;have e4:(Pc.wd (⟨#[65,78,68]⟩:ah)).text.size=3:=rfl;have e5:Pc.bl.text.size=1:=rfl;unfold dA;split
 · split
   · decide
   · simp only [cs,cn];omega
 · split
   · simp only [cs,cn];omega
   · simp only [cs,cn];omega
theorem Y6 {w0 w w' :World}{a0 a1 a2:Addr}{v0 v1 v2:Value}(h:Below w0.heap.size w0 w∧w.cell? a0=some v0∧w.cell? a1=some v1∧w.cell? a2=some v2) (hb:Below w.heap.size w w'):Below w0.heap.size w0 w' ∧w'.cell? a0=some v0∧w'.cell? a1=some v1∧w'.cell? a2=some v2:=by
 obtain ⟨hB,h0,h1,h2⟩:=h;exact ⟨hB.trans (hb.mono hB.size),aJ hb h0,aJ hb h1,aJ hb h2⟩
theorem LY {w0 w w' :World}{a0 a1 a2 a3:Addr}{v0 v1 v2 v3:Value}(h:Below w0.heap.size w0 w∧w.cell? a0=some v0∧w.cell? a1=some v1∧w.cell? a2=some v2∧w.cell? a3=some v3) (hb:Below w.heap.size w w'):Below w0.heap.size w0 w' ∧w'.cell? a0=some v0∧w'.cell? a1=some v1∧w'.cell? a2=some v2∧w'.cell? a3=some v3:=by
 obtain ⟨hB,h0,h1,h2,h3⟩:=h;exact ⟨hB.trans (hb.mono hB.size),aJ hb h0,aJ hb h1,aJ hb h2,aJ hb h3⟩
theorem adR {w0 w w' :World}{a0 a1 a2 a3 a4:Addr}{v0 v1 v2 v3 v4:Value}(h:Below w0.heap.size w0 w∧w.cell? a0=some v0∧w.cell? a1=some v1∧w.cell? a2=some v2∧w.cell? a3=some v3∧w.cell? a4=some v4) (hb:Below w.heap.size w w'):Below w0.heap.size w0 w' ∧w'.cell? a0=some v0∧w'.cell? a1=some v1∧w'.cell? a2=some v2∧w'.cell? a3=some v3∧w'.cell? a4=some v4:=by
 obtain ⟨hB,h0,h1,h2,h3,h4⟩:=h;exact ⟨hB.trans (hb.mono hB.size),aJ hb h0,aJ hb h1,aJ hb h2,aJ hb h3,aJ hb h4⟩
theorem QO {w:World}{x:Sx}{tc c s wv pv:Value}(hk:x.kind=3) (_hG:Gp w) (hok:gB x) (hin:iJ w x tc c s wv) (hpv:pv.oneCell' =true):
 Calls prog 14 #[.agg (aG x tc c s wv pv)] w fun e w' =>e= .returned (.string (aF (tK x)))∧Below w.heap.size w w' :=by
 have hone:=hin.one hpv;have hB1:=(Below.refl w.heap.size w).alloc (Nat.le_refl _) (.cells (aG x tc c s wv pv) 31);have hbl:(w.alloc (.cells (aG x tc c s wv pv) 31)).heap[w.heap.size]? =some (.cells (aG x tc c s wv pv) 31 (0,0)):=aA w _;have hof:=pY (w:=w.alloc (.cells (aG x tc c s wv pv) 31)) x tc c s wv pv;have hkv:fD x.kind (aG x tc c s wv pv)= .iface 66 (.agg (aG x tc c s wv pv)):=by unfold fD;rw [hk];rfl
 rw [hkv]at hof;clear hkv;have nJ:((⟨#[67,82,69,65,84,69,32,73,78,68,69,88,32]⟩:ah)).size≤13:=by decide
 obtain ⟨A1,nK,LZ,nO⟩:=aM nJ (show (x.name).size≤2000000 from hok.name) (by decide);obtain ⟨A2,pF,Oq,pG⟩:=aM nO (show ((⟨#[32,79,78,32]⟩:ah)).size≤4 from by decide) (by decide);obtain ⟨A3,pI,Ot,pJ⟩:=aM pG (show (x.bT).size≤2000000 from hok.bT) (by decide);obtain ⟨A4,pK,Ou,pO⟩:=aM pJ (show ((⟨#[32,40]⟩:ah)).size≤2 from by decide) (by decide);obtain ⟨A5,pQ,Ov,sj⟩:=aM pO (show (x.on).size≤2000000 from hok.on) (by decide);obtain ⟨A6,Cz,Ah6,EK⟩:=aM sj (show ((⟨#[41]⟩:ah)).size≤1 from by decide) (by decide)
 have HE:Hid (A6=aF (tK x)):=by
  show _=_;rw [←Cz,←pQ,←pK,←pI,←pF,←nK];unfold tK;apply ByteArray.ext;apply Array.ext';simp [aF,Pc.text]
 clear nK pF pI pK pQ Cz;clear nJ nO pG pJ pO sj EK;clear hok hin hk;have Gt:=Y3;have yH:=Ia;have AB:=Jm;go_enter func14,ntmps14;go_wp2_with (refine aT rfl _ rfl rfl rfl hbl ?_);refine hof.mono ?_;rintro e w2 ⟨rfl,hb2⟩;have hB2:=hB1.trans (hb2.mono hB1.size);have hV:(w2.alloc (.cells (aG x tc c s wv pv) 66)).heap[w2.heap.size]? =some (.cells (aG x tc c s wv pv) 66 (0,0)):=aA w2 _;have hB3:=hB2.alloc hB2.size (.cells (aG x tc c s wv pv) 66);have c1:=(aK hV).2.1;have c2:=(aK hV).2.2.1;have c3:=(aK hV).2.2.2.1;go_wp2_with (refine nI YX rfl _ _ rfl rfl rfl rfl rfl hone ?_);go_ret;rw [←HE.out];exact ⟨rfl,hB3⟩
theorem Vb {w:World}{x:Sx}{tc c s wv pv:Value}(hk:x.kind=4) (_hG:Gp w) (hok:gB x) (hin:iJ w x tc c s wv) (hpv:pv.oneCell' =true):
 Calls prog 14 #[.agg (aG x tc c s wv pv)] w fun e w' =>e= .returned (.string (aF (zF x)))∧Below w.heap.size w w' :=by
 have hone:=hin.one hpv;have hB1:=(Below.refl w.heap.size w).alloc (Nat.le_refl _) (.cells (aG x tc c s wv pv) 31);have hbl:(w.alloc (.cells (aG x tc c s wv pv) 31)).heap[w.heap.size]? =some (.cells (aG x tc c s wv pv) 31 (0,0)):=aA w _;have hof:=pY (w:=w.alloc (.cells (aG x tc c s wv pv) 31)) x tc c s wv pv;have hkv:fD x.kind (aG x tc c s wv pv)= .iface 67 (.agg (aG x tc c s wv pv)):=by unfold fD;rw [hk];rfl
 rw [hkv]at hof;clear hkv;have nJ:((⟨#[68,82,79,80,32]⟩:ah)).size≤5:=by decide
 obtain ⟨A1,nK,LZ,nO⟩:=aM nJ (show (x.name).size≤2000000 from hok.name) (by decide)
 have HE:Hid (A1=aF (zF x)):=by
  show _=_;rw [←nK];unfold zF;apply ByteArray.ext;apply Array.ext';simp [aF,Pc.text]
 clear nK;clear nJ nO;clear hok hin hk;have Gt:=abo;have yH:=Jo;have AB:=LQ;have CB:=Jq;go_enter func14,ntmps14;go_wp2_with (refine aT rfl _ rfl rfl rfl hbl ?_);refine hof.mono ?_;rintro e w2 ⟨rfl,hb2⟩;have hB2:=hB1.trans (hb2.mono hB1.size);have hV:(w2.alloc (.cells (aG x tc c s wv pv) 67)).heap[w2.heap.size]? =some (.cells (aG x tc c s wv pv) 67 (0,0)):=aA w2 _;have hB3:=hB2.alloc hB2.size (.cells (aG x tc c s wv pv) 67);have c1:=(aK hV).2.1;go_wp2_with (refine nI abl rfl _ _ rfl rfl rfl rfl rfl hone ?_);go_ret;rw [←HE.out];exact ⟨rfl,hB3⟩
end Go.Proofs.YtcgadodckoalnaaGreatDoor
