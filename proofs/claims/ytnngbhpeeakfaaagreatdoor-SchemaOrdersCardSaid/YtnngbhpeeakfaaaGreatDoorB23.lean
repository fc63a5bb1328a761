/- Parts of a proof. -/
import Derived.Test.YtnngbhpeeakfaaaGreatDoorB22
set_option maxHeartbeats 8000000
set_option maxRecDepth 100000
namespace Go.Proofs.YtnngbhpeeakfaaaGreatDoor
open Go.Proofs.Tryz
open Go.RowKit
open aK
structure iG (x:Sx):Prop where
 name:x.name.size≤2000000
 dA:x.dA.size≤2000000
 on:x.on.size≤2000000
 part:x.part.name.size≤2000000
 aY:x.aY.name.size≤2000000
 aF:x.aF.length≤90∧∀q∈x.aF,q.name.size≤2000000
 aD:x.aD.length≤90∧∀q∈x.aD,q.size≤2000000
 sets:rD x.sets
 aO:rD x.aO
 IY:x.aO.length≤90
 stamp:Jr x.stamp
 ttl:Jr x.ttl
 limit:Jr x.limit
structure kL (w:World) (x:Sx) (tc c s wv:Value):Prop where
 tc:Rd w tc x.aF.length (gH x.aF)
 c:Rd w c x.aD.length (x.aD.map Value.string)
 s:Rd w s x.sets.length (fG x.sets)
 wv:Rd w wv x.aO.length (fG x.aO)
theorem kL.below {w w' :World}{x:Sx}{tc c s wv:Value}(h:kL w x tc c s wv) (hb:Below w.heap.size w w'):kL w' x tc c s wv:=⟨h.tc.below hb,h.c.below hb,h.s.below hb,h.wv.below hb⟩
theorem kL.one {w:World}{x:Sx}{tc c s wv pv:Value}(h:kL w x tc c s wv) (hp:pv.oneCell' =true):(aP x tc c s wv pv).toList.all (·.oneCell')=true:=by
 obtain ⟨_,_,e1,_⟩:=h.tc;obtain ⟨_,_,e2,_⟩:=h.c;obtain ⟨_,_,e3,_⟩:=h.s;obtain ⟨_,_,e4,_⟩:=h.wv;rw [e1,e2,e3,e4];simp only [List.all_cons,List.all_nil,hp,Bool.and_true];rfl
theorem Ev {L:List Pr}(h:rD L):(dh (⟨#[44,32]⟩:ah) (L.map Pr.name)).size≤100*2000004:=by
 have:=gJ (⟨#[44,32]⟩:ah) (L.map Pr.name) 2000000 (fun y hy=>by obtain ⟨q,hq,rfl⟩:=List.mem_map.1 hy;exact (h.2 q hq).2);rw [List.length_map]at this;exact Nat.le_trans this (Nat.mul_le_mul h.1 (by decide))
theorem Ew {L:List Pr}(h:rD L):(dh (⟨#[44,32]⟩:ah) (L.map fun q=>(gP q.t).text)).size≤100*4000046:=by
 have:=gJ (⟨#[44,32]⟩:ah) (L.map fun q=>(gP q.t).text) 4000042 (fun y hy=>by obtain ⟨q,hq,rfl⟩:=List.mem_map.1 hy;exact IK q.t (h.2 q hq).1);rw [List.length_map]at this;exact Nat.le_trans this (Nat.mul_le_mul h.1 (by decide))
theorem AZ {L:List Pr}(h:rD L) (sep:ByteArray) (hs:sep.size≤10):(dh sep (L.map fun q=>aW (eU q))).size≤100*8000020:=by
 have:=gJ sep (L.map fun q=>aW (eU q)) 8000000 (fun y hy=>by obtain ⟨q,hq,rfl⟩:=List.mem_map.1 hy;exact oK q (h.2 q hq));rw [List.length_map]at this;exact Nat.le_trans this (Nat.mul_le_mul h.1 (by omega))
theorem Gn (L:List Pr):dh (⟨#[44,32]⟩:ah) (L.map Pr.name)=aW (gG dx (L.map fun p=> [Pc.wd p.name])):=by
 rw [←jy,←iI,List.map_map];congr 1;refine List.map_congr_left fun q _=> ?_
 show q.name=q.name++⟨#[]⟩;rw [He]
theorem Gq (L:List Pr):dh (⟨#[44,32]⟩:ah) (L.map fun q=>(gP q.t).text)=aW (gG dx (L.map fun p=> [gP p.t])):=by
 rw [←jy,←iI,List.map_map];congr 1;refine List.map_congr_left fun q _=> ?_
 show _=(gP q.t).text++⟨#[]⟩;rw [He]
theorem Ey (L:List Pr):dh (⟨#[44,32]⟩:ah) (L.map fun q=>aW (eU q))=aW (gG dx (L.map eU)):=by
 rw [←jy,←iI,List.map_map];rfl
theorem nD {L:List Pr}(h:rD L):(aW (eX L)).size≤100*8000040:=by
 have e:aW (eX L)=(⟨#[32,87,72,69,82,69,32]⟩:ah)++dh (⟨#[32,65,78,68,32]⟩:ah) (L.map fun q=>aW (eU q)):=by
  unfold eX;rw [bM,←iI,Pb,List.map_map];rfl
 rw [e,ByteArray.size_append];have:=AZ h (⟨#[32,65,78,68,32]⟩:ah) (by decide);show 7+_≤_;omega
theorem mR {L:List ByteArray}(hl:L.length≤100) (h:∀q∈L,q.size≤2000000):(aW (jo L)).size≤100*2000006:=by
 unfold jo;split
 · decide
 · rw [←iI,jy,←IL];exact Nat.le_trans (gJ _ _ 2000000 h) (Nat.mul_le_mul hl (by decide))
theorem jK (a b:Int) (ha:Jr a) (hb:Jr b):(aW (dQ a b)).size≤1000:=by
 have h1:=lS a ha;have h2:=lS b hb;have cs:∀(p:Pc) (l:List Pc),(aW (p::l)).size=p.text.size+(aW l).size:=fun p l=>ByteArray.size_append ..
 have cn:(aW []).size=0:=rfl;have n1:(Pc.nm a).text.size≤21:=h1;have n2:(Pc.nm b).text.size≤21:=h2;have e1:(Pc.wd (⟨#[85,83,73,78,71]⟩:ah)).text.size=5:=rfl;have e2:(Pc.wd (⟨#[84,84,76]⟩:ah)).text.size=3:=rfl;have e3:(Pc.wd (⟨#[84,73,77,69,83,84,65,77,80]⟩:ah)).text.size=9:=rfl;have e4:(Pc.wd (⟨#[65,78,68]⟩:ah)).text.size=3:=rfl;have e5:Pc.bl.text.size=1:=rfl;unfold dQ;split
 · split
   · decide
   · simp only [cs,cn];omega
 · split
   · simp only [cs,cn];omega
   · simp only [cs,cn];omega
theorem VQ {w0 w w' :World}{a0 a1 a2:Addr}{v0 v1 v2:Value}(h:Below w0.heap.size w0 w∧w.cell? a0=some v0∧w.cell? a1=some v1∧w.cell? a2=some v2) (hb:Below w.heap.size w w'):Below w0.heap.size w0 w' ∧w'.cell? a0=some v0∧w'.cell? a1=some v1∧w'.cell? a2=some v2:=by
 obtain ⟨hB,h0,h1,h2⟩:=h;exact ⟨hB.trans (hb.mono hB.size),aI hb h0,aI hb h1,aI hb h2⟩
theorem IZ {w0 w w' :World}{a0 a1 a2 a3:Addr}{v0 v1 v2 v3:Value}(h:Below w0.heap.size w0 w∧w.cell? a0=some v0∧w.cell? a1=some v1∧w.cell? a2=some v2∧w.cell? a3=some v3) (hb:Below w.heap.size w w'):Below w0.heap.size w0 w' ∧w'.cell? a0=some v0∧w'.cell? a1=some v1∧w'.cell? a2=some v2∧w'.cell? a3=some v3:=by
 obtain ⟨hB,h0,h1,h2,h3⟩:=h;exact ⟨hB.trans (hb.mono hB.size),aI hb h0,aI hb h1,aI hb h2,aI hb h3⟩
theorem abd {w0 w w' :World}{a0 a1 a2 a3 a4:Addr}{v0 v1 v2 v3 v4:Value}(h:Below w0.heap.size w0 w∧w.cell? a0=some v0∧w.cell? a1=some v1∧w.cell? a2=some v2∧w.cell? a3=some v3∧w.cell? a4=some v4) (hb:Below w.heap.size w w'):Below w0.heap.size w0 w' ∧w'.cell? a0=some v0∧w'.cell? a1=some v1∧w'.cell? a2=some v2∧w'.cell? a3=some v3∧w'.cell? a4=some v4:=by
 obtain ⟨hB,h0,h1,h2,h3,h4⟩:=h;exact ⟨hB.trans (hb.mono hB.size),aI hb h0,aI hb h1,aI hb h2,aI hb h3,aI hb h4⟩
theorem Nj {w:World}{x:Sx}{tc c s wv pv:Value}(hk:x.kind=3) (_hG:Gp w) (hok:iG x) (hin:kL w x tc c s wv) (hpv:pv.oneCell' =true):
 Calls prog 68 #[.agg (aP x tc c s wv pv)] w fun e w' =>e= .returned (.string (aW (Ar x)))∧Below w.heap.size w w' :=by
 have hone:=hin.one hpv;have hB1:=(Below.refl w.heap.size w).alloc (Nat.le_refl _) (.cells (aP x tc c s wv pv) 39);have hbl:(w.alloc (.cells (aP x tc c s wv pv) 39)).heap[w.heap.size]? =some (.cells (aP x tc c s wv pv) 39 (0,0)):=aB w _;have hof:=nI (w:=w.alloc (.cells (aP x tc c s wv pv) 39)) x tc c s wv pv;have hkv:dZ x.kind (aP x tc c s wv pv)= .iface 210 (.agg (aP x tc c s wv pv)):=by unfold dZ;rw [hk];rfl
 rw [hkv]at hof;clear hkv;have wO:((⟨#[67,82,69,65,84,69,32,73,78,68,69,88,32]⟩:ah)).size≤13:=by decide
 obtain ⟨A1,wP,WH,xP⟩:=bE wO (show (x.name).size≤2000000 from hok.name) (by decide);obtain ⟨A2,zG,Yv,zH⟩:=bE xP (show ((⟨#[32,79,78,32]⟩:ah)).size≤4 from by decide) (by decide);obtain ⟨A3,zI,Yw,zJ⟩:=bE zH (show (x.dA).size≤2000000 from hok.dA) (by decide);obtain ⟨A4,zK,Yx,zL⟩:=bE zJ (show ((⟨#[32,40]⟩:ah)).size≤2 from by decide) (by decide);obtain ⟨A5,zM,Yy,Ez⟩:=bE zL (show (x.on).size≤2000000 from hok.on) (by decide);obtain ⟨A6,VR,Ah6,WI⟩:=bE Ez (show ((⟨#[41]⟩:ah)).size≤1 from by decide) (by decide)
 have HE:Hid (A6=aW (Ar x)):=by
  show _=_;rw [←VR,←zM,←zK,←zI,←zG,←wP];unfold Ar;apply ByteArray.ext;apply Array.ext';simp [aW,Pc.text]
 clear wP zG zI zK zM VR;clear wO xP zH zJ zL Ez WI;clear hok hin hk;have Dr:=VN;have vH:=Em;have xQ:=Fp;go_enter func68,ntmps68;go_wp2_with (refine bK rfl _ rfl rfl rfl hbl ?_);refine hof.mono ?_;rintro e w2 ⟨rfl,hb2⟩;have hB2:=hB1.trans (hb2.mono hB1.size);have hV:(w2.alloc (.cells (aP x tc c s wv pv) 210)).heap[w2.heap.size]? =some (.cells (aP x tc c s wv pv) 210 (0,0)):=aB w2 _;have hB3:=hB2.alloc hB2.size (.cells (aP x tc c s wv pv) 210);have c1:=(bn hV).2.1;have c2:=(bn hV).2.2.1;have c3:=(bn hV).2.2.2.1;go_wp2_with (refine lT VH rfl _ _ rfl rfl rfl rfl rfl hone ?_);go_ret;rw [←HE.out];exact ⟨rfl,hB3⟩
theorem Rn {w:World}{x:Sx}{tc c s wv pv:Value}(hk:x.kind=4) (_hG:Gp w) (hok:iG x) (hin:kL w x tc c s wv) (hpv:pv.oneCell' =true):
 Calls prog 68 #[.agg (aP x tc c s wv pv)] w fun e w' =>e= .returned (.string (aW (F4 x)))∧Below w.heap.size w w' :=by
 have hone:=hin.one hpv;have hB1:=(Below.refl w.heap.size w).alloc (Nat.le_refl _) (.cells (aP x tc c s wv pv) 39);have hbl:(w.alloc (.cells (aP x tc c s wv pv) 39)).heap[w.heap.size]? =some (.cells (aP x tc c s wv pv) 39 (0,0)):=aB w _;have hof:=nI (w:=w.alloc (.cells (aP x tc c s wv pv) 39)) x tc c s wv pv;have hkv:dZ x.kind (aP x tc c s wv pv)= .iface 211 (.agg (aP x tc c s wv pv)):=by unfold dZ;rw [hk];rfl
 rw [hkv]at hof;clear hkv;have wO:((⟨#[68,82,79,80,32]⟩:ah)).size≤5:=by decide
 obtain ⟨A1,wP,WH,xP⟩:=bE wO (show (x.name).size≤2000000 from hok.name) (by decide)
 have HE:Hid (A1=aW (F4 x)):=by
  show _=_;rw [←wP];unfold F4;apply ByteArray.ext;apply Array.ext';simp [aW,Pc.text]
 clear wP;clear wO xP;clear hok hin hk;have Dr:=Yu;have vH:=Fq;have xQ:=IQ;have zN:=Fu;go_enter func68,ntmps68;go_wp2_with (refine bK rfl _ rfl rfl rfl hbl ?_);refine hof.mono ?_;rintro e w2 ⟨rfl,hb2⟩;have hB2:=hB1.trans (hb2.mono hB1.size);have hV:(w2.alloc (.cells (aP x tc c s wv pv) 211)).heap[w2.heap.size]? =some (.cells (aP x tc c s wv pv) 211 (0,0)):=aB w2 _;have hB3:=hB2.alloc hB2.size (.cells (aP x tc c s wv pv) 211);have c1:=(bn hV).2.1;go_wp2_with (refine lT Yq rfl _ _ rfl rfl rfl rfl rfl hone ?_);go_ret;rw [←HE.out];exact ⟨rfl,hB3⟩
end Go.Proofs.YtnngbhpeeakfaaaGreatDoor
