/- Parts of a proof. -/
import Derived.Test.YtnngbhpeeakfaaaGreatDoorB07
import Derived.Test.YtnngbhpeeakfaaaGreatDoorB08
import Derived.Test.YtnngbhpeeakfaaaGreatDoorB09
import Derived.Test.YtnngbhpeeakfaaaGreatDoorB46
import Derived.Test.YtnngbhpeeakfaaaGreatDoorS12
import Derived.Test.YtnngbhpeeakfaaaGreatDoorS13
namespace Go.Proofs.YtnngbhpeeakfaaaGreatDoor
open Go.RowKit
def IntsIn (w:World) (v:Value) (zs:List Int):Prop:=∃a cap,v= .slice a zs.length cap∧(0<zs.length→∃g off,a=some ⟨g,off,none⟩∧g<w.heap.size∧∀j (h:j<zs.length),w.cell? ⟨g,off+j,none⟩=some (.int .i64 zs[j]))
end Go.Proofs.YtnngbhpeeakfaaaGreatDoor
namespace Go.Proofs.YtnngbhpeeakfaaaGreatDoor
open Go.RowKit
open aK
def Od (w0:World) (b:Nat) (wr:World) (q:List Nat):Prop:=
 OdOK q∧Below w0.heap.size w0 wr∧∃s:Sw,wr.heap[b]? =some (.cells s.arr 31 (0,0))∧pK wr s∧s.x=odS q
theorem od_ok {q:List Nat}(h:OdOK q):FH (odS q):=by
 refine ⟨fun t ht=> ?_,(fun _ h=>nomatch h), ?_,by show (0:Nat)≤100;decide⟩
 · obtain ⟨k,_,hk,rfl⟩:=od_ts ht
   have h1:=List.idxOf_lt_length_of_mem hk
   have h2:=h.n
   exact ⟨by show (1:Nat)≤_;decide,⟨by show _≤((q.idxOf k:Int)+1);omega,by show ((q.idxOf k:Int)+1)≤_;omega⟩,by show ((⟨#[97]⟩:ByteArray)).size≤_;decide,by show ((⟨#[98]⟩:ByteArray)).size≤_;decide,(fun _ h=>nomatch h),by show (0:Nat)≤_;decide⟩
 · have h1:=(od_facts h).2.1
   have h2:=h.n
   omega
def odP (j:Nat):Pw:=⟨odX j,au,au,au,au,au⟩
theorem od_stok (j:Nat):iG (odX j):=
 ⟨Nat.le_of_ble_eq_true rfl,Nat.le_of_ble_eq_true rfl,Nat.le_of_ble_eq_true rfl,Nat.le_of_ble_eq_true rfl,Nat.le_of_ble_eq_true rfl,⟨Nat.le_of_ble_eq_true rfl,(fun _ h=>nomatch h)⟩,⟨Nat.le_of_ble_eq_true rfl,(fun _ h=>nomatch h)⟩,⟨Nat.le_of_ble_eq_true rfl,(fun _ h=>nomatch h)⟩,⟨Nat.le_of_ble_eq_true rfl,(fun _ h=>nomatch h)⟩,Nat.le_of_ble_eq_true rfl,⟨by show (-9223372036854775808:Int)≤0;decide,by show (0:Int)≤9223372036854775807;decide⟩,⟨by show (-9223372036854775808:Int)≤0;decide,by show (0:Int)≤9223372036854775807;decide⟩,⟨by show (-9223372036854775808:Int)≤0;decide,by show (0:Int)≤9223372036854775807;decide⟩⟩
theorem od_tbok (j:Nat):FE (odP j).tw.t:=
 ⟨Nat.le_of_ble_eq_true rfl,⟨by show (-9223372036854775808:Int)≤0;decide,by show (0:Int)≤9223372036854775807;decide⟩,Nat.le_of_ble_eq_true rfl,Nat.le_of_ble_eq_true rfl,(fun _ h=>nomatch h),Nat.le_of_ble_eq_true rfl⟩
theorem sc_ext {a b:Sc}(h1:a.last=b.last) (h2:a.ts=b.ts) (h3:a.vs=b.vs):a=b:=by
 obtain ⟨_,_,_⟩:=a
 obtain ⟨_,_,_⟩:=b
 cases h1;cases h2;cases h3;rfl
theorem od_check {w:World}(hG:Gp w) (j:Nat) (hj:j<6):Calls Tryz.prog 30 #[.agg (odP j).arr] w fun e w' =>e= .returned (.bool true)∧Below w.heap.size w w' :=by
 refine (Sl (p:=odP j) (L:= []) hG ⟨⟨YJ w,YJ w,YJ w,YJ w⟩,YJ w,(fun _ h=>nomatch h)⟩ ⟨od_stok j,(fun _ h=>nomatch h)⟩).mono ?_
 rintro e w' ⟨b,rfl,hb,hbl⟩
 have:b=true:=hb.2 (od_may j hj)
 exact ⟨by rw [this],hbl⟩
theorem od_there {q:List Nat}(h:OdOK q) {j:Nat}(hj:j<6):(odS q).there (odN j)=q.contains j∧(jP (odS q).ts (odN j)).isSome=q.contains j:=by
 have:=((od_facts h).2.2.2 j hj).1
 refine ⟨this, ?_⟩
 rw [←this]
 unfold aK.Sc.there
 show _=(_||(DI [] (odN j)).isSome)
 rw [show (DI [] (odN j)).isSome=false from rfl,Bool.or_false]
theorem build_od1 (s:ByteArray) (w:World):(Instr.build 27 #[(0, .string s),(2, .agg #[.string (⟨#[97]⟩:ByteArray), .int .i64 1]),(3, .agg #[.string (⟨#[98]⟩:ByteArray), .int .i64 2])]).run Tryz.prog w= .ok (.agg #[.string s, .int .i64 0, .string (⟨#[97]⟩:ByteArray), .int .i64 1, .string (⟨#[98]⟩:ByteArray), .int .i64 2, .slice none 0 0]) w:=by kernel_rfl
theorem build_od2 (s:ByteArray) (w:World):(Instr.build 39 #[(0, .int .i64 1),(1, .string s),(4, .agg #[.string s, .int .i64 0, .string (⟨#[97]⟩:ByteArray), .int .i64 1, .string (⟨#[98]⟩:ByteArray), .int .i64 2, .slice none 0 0])]).run Tryz.prog w= .ok (.agg #[.int .i64 1, .string s, .string ⟨#[]⟩, .string ⟨#[]⟩, .string s, .int .i64 0, .string (⟨#[97]⟩:ByteArray), .int .i64 1, .string (⟨#[98]⟩:ByteArray), .int .i64 2, .slice none 0 0, .slice none 0 0, .slice none 0 0, .slice none 0 0, .int .i64 0, .int .i64 0, .int .i64 0, .slice none 0 0]) w:=by kernel_rfl
theorem sw_one {w:World}{s:Sw}(h:pK w s):s.arr.toList.all (·.oneCell')=true:=by
 obtain ⟨_,_,e1,_⟩:=h.ts
 obtain ⟨_,_,e2,_⟩:=h.vs
 unfold Sw.arr
 rw [e1,e2];rfl
theorem Rd.wrote2 {w w' :World}{u:Value}{n b:Nat}{xs:List Value}{V:Array Value}{T T' :TypeId}{r:Sw}(h:Rd w u n xs) (hs:0<n→∃s,xs[0]? =some (.string s)) (hw:Wrote w b V T w') (hb:w.heap[b]? =some (.cells r.arr T' (0,0))) (hr:pK w r):Rd w' u n xs:=by
 obtain ⟨a,c,e,hx⟩:=h
 refine ⟨a,c,e,fun hn=> ?_⟩
 obtain ⟨g,o,ha,hc⟩:=hx hn
 refine ⟨g,o,ha,fun k v hk=> ?_⟩
 have hg:g≠b:=by
  rintro rfl
  obtain ⟨s,hs⟩:=hs hn
  have h0:=hc 0 _ hs
  obtain ⟨_,_,e1,_⟩:=hr.ts
  obtain ⟨_,_,e2,_⟩:=hr.vs
  rw [aj hb]at h0
  unfold Sw.arr at h0
  rw [e1,e2]at h0
  match o with
  |0=>simp at h0
  |1=>simp at h0
  |2=>simp at h0
  |o+3=>simp at h0
 rw [cell_of_block (w:=w) (hw.rest g hg)];exact hc k v hk
theorem pK.wrote2 {w w' :World}{s r:Sw}{b:Nat}{V:Array Value}{T T' :TypeId}(h:pK w s) (hw:Wrote w b V T w') (hb:w.heap[b]? =some (.cells r.arr T' (0,0))) (hr:pK w r):pK w' s:=by
 refine ⟨h.ts.wrote2 (fun hn=> ?_) hw hb hr,h.vs.wrote2 (fun hn=> ?_) hw hb hr,fun q hq=>Rd.wrote2 (h.t q hq) (fun hn=> ?_) hw hb hr,fun q hq=>Rd.wrote2 (h.v q hq) (fun hn=> ?_) hw hb hr⟩
 · match hT:s.T,hn with
   |q::l,_=>exact ⟨q.t.name,rfl⟩
 · match hT:s.V,hn with
   |q::l,_=>exact ⟨q.x.name,rfl⟩
 · match hT:q.t.aD,hn with
   |c::l,_=>exact ⟨c.name,rfl⟩
 · match hT:q.x.aD,hn with
   |c::l,_=>exact ⟨c,rfl⟩
set_option maxRecDepth 100000 in
set_option maxHeartbeats 8000000 in
theorem schemaOrders_any (V:Value) (zs:List Int) (w:World) (hG:Gp w) (hV:IntsIn w V zs) (hz:∀z∈zs, -9223372036854775808≤z∧z≤9223372036854775807) (hzl:zs.length≤9223372036854775807):
 Calls Tryz.prog 4 #[V] w fun e w' =>e= .returned (.bool true)∧Below w.heap.size w w' :=by
 have HA:Hid (∀w',Below w.heap.size w w' →Calls Tryz.prog 15 #[] w' fun e w'' =>e= .returned (.bool true)∧Below w'.heap.size w' w''):=fun w' hb=>LV (hG.below hb)
 obtain ⟨a0,cap0,rfl,hcell⟩:=hV
 have HC:=Lib.hid hcell
 have HZ:=Lib.hid hz
 have HG:=Lib.hid hG
 have hB1:=(Below.refl w.heap.size w).alloc (Nat.le_refl _) (.cells #[.int .i64 0, .slice none 0 0, .slice none 0 0] 31)
 have hb1:=aB w (.cells #[.int .i64 0, .slice none 0 0, .slice none 0 0] 31)
 have HO0:Hid (Od w w.heap.size (w.alloc (.cells #[.int .i64 0, .slice none 0 0, .slice none 0 0] 31)) []):=⟨OdOK.nil,hB1,Sw.zero,hb1,pK.zero _,rfl⟩
 clear hcell hz hG hB1 hb1
 go_enter Tryz.func4,Tryz.ntmps4
 go_wp2_with fail
 go_loopw [4,5,6,7,8,9,10,11,12,13,14] (fun n i _ _ _ _ _ _ _ _ _ wr=>∃(k:Nat) (q:List Nat),i= .int .i64 k∧n= .int .i64 q.length∧k≤zs.length∧k≤12∧Hid (Od w w.heap.size wr q)) (fun _ i _ _ _ _ _ _ _ _ _ _=>13 - (intOf i).toNat)
 case atStart=>exact ⟨0, [],rfl,rfl,Nat.zero_le _,Nat.zero_le _,HO0⟩
 case round=>
  clear HO0
  obtain ⟨k,q,rfl,rfl,hk,hk12,HO⟩:=hrel
  obtain ⟨hq,hB,s,hbs,hin,hx⟩:=HO.out
  by_cases aix:k<zs.length∧k<12
  · have hlt:=aix.1
    have hlt2:=aix.2
    have q1:((k:Int)<(zs.length:Int)):=by omega
    · have q2:((k:Int)<12):=by omega
      have q3:(0:Int)≤(k:Int):=by omega
      obtain ⟨g,off,rfl,hg,hc⟩:=HC.out (by omega)
      have hcl:wr.cell? ⟨g,off+k,none⟩=some (.int .i64 zs[k]):=(hB.cell (p:=⟨g,off+k,none⟩) hg).trans (hc k hlt)
      have hpl:=Gd zs[k] 6 wr (by omega) (by omega) (HZ.out _ (List.getElem_mem hlt)).1 (HZ.out _ (List.getElem_mem hlt)).2
      obtain ⟨j,hj6,jV⟩:∃j:Nat,j<6∧zs[k] % 6=(j:Int):=⟨(zs[k] % 6).toNat,by omega,by omega⟩
      rw [jV]at hpl
      have q4:(0:Int)≤(j:Int):=by omega
      have q5:IntKind.i64.wrap ((j:Int)+1)=(j:Int)+1:=IntWalk.i64_in _ (by omega)
      have q6:(j:Int)+1≤6:=by omega
      have hcu:=od_cut j hj6
      clear hc jV
      go_wp2_with fail
      refine hpl.mono ?_;rintro e w2 ⟨rfl,rfl⟩
      clear hpl hcl
      go_upto_region 8 with fail
      have hok:=od_ok hq
      have hf:=od_facts hq
      have hth:=od_there hq hj6
      have hnT:s.T.length=q.length:=by
       have:=congrArg (fun x:Sc=>x.ts.length) hx
       rw [hf.2.1]at this
       simpa [Sw.x]using this
      have hT2:∀r∈s.T,r.t.aD.length≤900:=fun r hr=>((show FH s.x by rw [hx];exact hok).t r.t (List.mem_map_of_mem hr)).n
      have hst:=xW hin (by have:=hq.n;omega) hT2 (odN j)
      rw [hx,hth.2]at hst
      have HS:=Lib.hid hin
      have HX:=Lib.hid hx
      have HF:=Lib.hid hf
      have HTH:=Lib.hid hth
      have xD:=Lib.hid hok
      have HNT:=Lib.hid hnT
      have HQ:=Lib.hid hq
      have hB1:=fun n=>build_od1 n
      have hB2:=build_od2 (odN j)
      have hB1:=build_od1 (odN j)
      clear hin hx hf hth hok hT2 hnT hq hcu
      obtain ⟨c,hc⟩:∃c,q.contains j=c:=⟨_,rfl⟩
      have HCJ:=Lib.hid hc
      rw [hc]at hst
      clear hc
      go_wp2_with (refine cZ Tryz.ug rfl _ rfl rfl rfl (dz hbs) ?_)
      refine hst.mono ?_;rintro e w3 ⟨q',rfl,hqi,hqt,hb3⟩
      have hB3:=hB.trans (hb3.mono hB.size)
      have hbs3:=aH hb3 hbs
      have hq1:=hqi.one
      have hi3:=HS.out.below hb3
      clear hst hbs
      go_upto_region 9 with (refine fq Tryz.Ac rfl _ _ rfl rfl rfl rfl rfl rfl hq1 ?_)
      have hB4:=hB3.alloc hB3.size (.cells q'.arr 27)
      have hbs4:=ay hbs3 (.cells q'.arr 27)
      have hi4:=hi3.below ((Below.refl w3.heap.size w3).alloc (Nat.le_refl _) (.cells q'.arr 27))
      clear hi3 hbs3 hB3 hqi hqt hb3 hq1
      generalize (w3.alloc (.cells q'.arr 27))=W4 at *
      have kU:=hB4.alloc hB4.size (.cells #[.int .i64 1, .string (odN j), .string ⟨#[]⟩, .string ⟨#[]⟩, .string (odN j), .int .i64 0, .string (⟨#[97]⟩:ByteArray), .int .i64 1, .string (⟨#[98]⟩:ByteArray), .int .i64 2, .slice none 0 0, .slice none 0 0, .slice none 0 0, .slice none 0 0, .int .i64 0, .int .i64 0, .int .i64 0, .slice none 0 0] 39)
      have aee:=ay hbs4 (.cells #[.int .i64 1, .string (odN j), .string ⟨#[]⟩, .string ⟨#[]⟩, .string (odN j), .int .i64 0, .string (⟨#[97]⟩:ByteArray), .int .i64 1, .string (⟨#[98]⟩:ByteArray), .int .i64 2, .slice none 0 0, .slice none 0 0, .slice none 0 0, .slice none 0 0, .int .i64 0, .int .i64 0, .int .i64 0, .slice none 0 0] 39)
      have hba5:=aB W4 (.cells #[.int .i64 1, .string (odN j), .string ⟨#[]⟩, .string ⟨#[]⟩, .string (odN j), .int .i64 0, .string (⟨#[97]⟩:ByteArray), .int .i64 1, .string (⟨#[98]⟩:ByteArray), .int .i64 2, .slice none 0 0, .slice none 0 0, .slice none 0 0, .slice none 0 0, .int .i64 0, .int .i64 0, .int .i64 0, .slice none 0 0] 39)
      have hi5:=hi4.below ((Below.refl W4.heap.size W4).alloc (Nat.le_refl _) (.cells #[.int .i64 1, .string (odN j), .string ⟨#[]⟩, .string ⟨#[]⟩, .string (odN j), .int .i64 0, .string (⟨#[97]⟩:ByteArray), .int .i64 1, .string (⟨#[98]⟩:ByteArray), .int .i64 2, .slice none 0 0, .slice none 0 0, .slice none 0 0, .slice none 0 0, .int .i64 0, .int .i64 0, .int .i64 0, .slice none 0 0] 39))
      have hl4:=aG hbs4
      have hbz:=fun W=>Bd W
      have hs1:=sw_one hi4
      have hTw:nL (W4.alloc (.cells #[.int .i64 1, .string (odN j), .string ⟨#[]⟩, .string ⟨#[]⟩, .string (odN j), .int .i64 0, .string (⟨#[97]⟩:ByteArray), .int .i64 1, .string (⟨#[98]⟩:ByteArray), .int .i64 2, .slice none 0 0, .slice none 0 0, .slice none 0 0, .slice none 0 0, .int .i64 0, .int .i64 0, .int .i64 0, .slice none 0 0] 39)) (odP j).tw:=YJ _
      have hm:∀w',Below (W4.alloc (.cells #[.int .i64 1, .string (odN j), .string ⟨#[]⟩, .string ⟨#[]⟩, .string (odN j), .int .i64 0, .string (⟨#[97]⟩:ByteArray), .int .i64 1, .string (⟨#[98]⟩:ByteArray), .int .i64 2, .slice none 0 0, .slice none 0 0, .slice none 0 0, .slice none 0 0, .int .i64 0, .int .i64 0, .int .i64 0, .slice none 0 0] 39)).heap.size (W4.alloc (.cells #[.int .i64 1, .string (odN j), .string ⟨#[]⟩, .string ⟨#[]⟩, .string (odN j), .int .i64 0, .string (⟨#[97]⟩:ByteArray), .int .i64 1, .string (⟨#[98]⟩:ByteArray), .int .i64 2, .slice none 0 0, .slice none 0 0, .slice none 0 0, .slice none 0 0, .int .i64 0, .int .i64 0, .int .i64 0, .slice none 0 0] 39)) w' →Calls Tryz.prog 30 #[.agg (odP j).arr] w' fun e w'' =>e= .returned (.bool true)∧Below w'.heap.size w' w'' :=fun w' hb=>od_check (HG.out.below (kU.trans (hb.mono kU.size))) j hj6
      have hck:s.x.check=true:=by rw [HX.out];exact HF.out.1
      have hok:FH s.x:=by rw [HX.out];exact xD.out
      cases c with
      |true=>
       have hap:Calls Tryz.prog 11 #[.agg s.arr, .agg #[.int .i64 1, .string (odN j), .string ⟨#[]⟩, .string ⟨#[]⟩, .string (odN j), .int .i64 0, .string (⟨#[97]⟩:ByteArray), .int .i64 1, .string (⟨#[98]⟩:ByteArray), .int .i64 2, .slice none 0 0, .slice none 0 0, .slice none 0 0, .slice none 0 0, .int .i64 0, .int .i64 0, .int .i64 0, .slice none 0 0]] (W4.alloc (.cells #[.int .i64 1, .string (odN j), .string ⟨#[]⟩, .string ⟨#[]⟩, .string (odN j), .int .i64 0, .string (⟨#[97]⟩:ByteArray), .int .i64 1, .string (⟨#[98]⟩:ByteArray), .int .i64 2, .slice none 0 0, .slice none 0 0, .slice none 0 0, .slice none 0 0, .int .i64 0, .int .i64 0, .int .i64 0, .slice none 0 0] 39)) fun e w' =>e= .returned (.tuple #[.agg #[.int .i64 0, .slice none 0 0, .slice none 0 0], .int .i64 4])∧Below (W4.alloc (.cells #[.int .i64 1, .string (odN j), .string ⟨#[]⟩, .string ⟨#[]⟩, .string (odN j), .int .i64 0, .string (⟨#[97]⟩:ByteArray), .int .i64 1, .string (⟨#[98]⟩:ByteArray), .int .i64 2, .slice none 0 0, .slice none 0 0, .slice none 0 0, .slice none 0 0, .int .i64 0, .int .i64 0, .int .i64 0, .slice none 0 0] 39)).heap.size (W4.alloc (.cells #[.int .i64 1, .string (odN j), .string ⟨#[]⟩, .string ⟨#[]⟩, .string (odN j), .int .i64 0, .string (⟨#[97]⟩:ByteArray), .int .i64 1, .string (⟨#[98]⟩:ByteArray), .int .i64 2, .slice none 0 0, .slice none 0 0, .slice none 0 0, .slice none 0 0, .int .i64 0, .int .i64 0, .int .i64 0, .slice none 0 0] 39)) w' :=LK (p:=odP j) (HG.out.below kU) hi5 hok hck hTw hm rfl (by rw [HX.out];exact HTH.out.1.trans HCJ.out)
       clear hm hck hok hTw
       go_wp2_with (first|refine jw rfl _ _ rfl rfl rfl rfl rfl rfl ?_|refine cZ Tryz.ug rfl _ rfl rfl rfl (dz aee) ?_|refine bK rfl _ rfl rfl rfl hba5 ?_)
       refine hap.mono ?_;rintro e w6 ⟨rfl,hb6⟩
       have uf:=kU.trans (hb6.mono kU.size)
       have hbs6:=aH hb6 aee
       have hi6:=hi5.below hb6
       clear hap hbs4 aee hba5 hi4 hi5
       go_wp2_with fail
       go_roundw
       case rel=>exact ⟨k+1,q,by go_num,rfl,by omega,by omega,⟨HQ.out,uf.alloc uf.size _,s,ay hbs6 _,hi6.below ((Below.refl w6.heap.size w6).alloc (Nat.le_refl _) _),HX.out⟩⟩
       case measure=>simp [intOf];omega
      |false=>
       have htv:∃ta tc,s.tv= .slice ta q.length tc:=by
        obtain ⟨ta,tc,e,_⟩:=HS.out.ts
        exact ⟨ta,tc,by rw [e,HNT.out]⟩
       obtain ⟨ta,tc,htv⟩:=htv
       by_cases h4:4≤s.T.length
       · have p4:(4:Int)≤(q.length:Int):=by have:=HNT.out;omega
         have hap:Calls Tryz.prog 11 #[.agg s.arr, .agg #[.int .i64 1, .string (odN j), .string ⟨#[]⟩, .string ⟨#[]⟩, .string (odN j), .int .i64 0, .string (⟨#[97]⟩:ByteArray), .int .i64 1, .string (⟨#[98]⟩:ByteArray), .int .i64 2, .slice none 0 0, .slice none 0 0, .slice none 0 0, .slice none 0 0, .int .i64 0, .int .i64 0, .int .i64 0, .slice none 0 0]] (W4.alloc (.cells #[.int .i64 1, .string (odN j), .string ⟨#[]⟩, .string ⟨#[]⟩, .string (odN j), .int .i64 0, .string (⟨#[97]⟩:ByteArray), .int .i64 1, .string (⟨#[98]⟩:ByteArray), .int .i64 2, .slice none 0 0, .slice none 0 0, .slice none 0 0, .slice none 0 0, .int .i64 0, .int .i64 0, .int .i64 0, .slice none 0 0] 39)) fun e w' =>e= .returned (.tuple #[.agg #[.int .i64 0, .slice none 0 0, .slice none 0 0], .int .i64 2])∧Below (W4.alloc (.cells #[.int .i64 1, .string (odN j), .string ⟨#[]⟩, .string ⟨#[]⟩, .string (odN j), .int .i64 0, .string (⟨#[97]⟩:ByteArray), .int .i64 1, .string (⟨#[98]⟩:ByteArray), .int .i64 2, .slice none 0 0, .slice none 0 0, .slice none 0 0, .slice none 0 0, .int .i64 0, .int .i64 0, .int .i64 0, .slice none 0 0] 39)).heap.size (W4.alloc (.cells #[.int .i64 1, .string (odN j), .string ⟨#[]⟩, .string ⟨#[]⟩, .string (odN j), .int .i64 0, .string (⟨#[97]⟩:ByteArray), .int .i64 1, .string (⟨#[98]⟩:ByteArray), .int .i64 2, .slice none 0 0, .slice none 0 0, .slice none 0 0, .slice none 0 0, .int .i64 0, .int .i64 0, .int .i64 0, .slice none 0 0] 39)) w' :=apply_big (p:=odP j) (HG.out.below kU) hi5 hok hck hTw hm rfl (by rw [HX.out];exact HTH.out.1.trans HCJ.out) h4
         have HV:=Lib.hid htv
         clear hm hck hok hTw h4 htv
         go_wp2_with (first|refine jw rfl _ _ rfl rfl rfl rfl rfl rfl ?_|refine cZ Tryz.ug rfl _ rfl rfl rfl (dz aee) ?_|refine bK rfl _ rfl rfl rfl hba5 ?_)
         refine hap.mono ?_;rintro e w6 ⟨rfl,hb6⟩
         have uf:=kU.trans (hb6.mono kU.size)
         have hbs6:=aH hb6 aee
         have hi6:=hi5.below hb6
         have k1:(w6.alloc (.cells #[.int .i64 0, .slice none 0 0, .slice none 0 0] 31)).cell? ⟨w.heap.size,1,none⟩=some (.slice ta q.length tc):=by
          rw [aj (ay hbs6 _)]
          show some s.tv=_
          rw [HV.out]
         clear hap hbs4 aee hba5 hi4 hi5
         go_wp2_with fail
         clear k1
         go_roundw
         case rel=>exact ⟨k+1,q,by go_num,rfl,by omega,by omega,⟨HQ.out,uf.alloc uf.size _,s,ay hbs6 _,hi6.below ((Below.refl w6.heap.size w6).alloc (Nat.le_refl _) _),HX.out⟩⟩
         case measure=>simp [intOf];omega
       · have p4:¬(4:Int)≤(q.length:Int):=by have:=HNT.out;omega
         have hqn:q.length<4:=by have:=HNT.out;omega
         have hla:s.last=q.length:=by
          have:=congrArg Sc.last HX.out
          exact this
         have hjm:¬j∈q:=by
          have:=HCJ.out
          simpa using this
         have hq' :=HQ.out.add hqn hj6 hjm
         have hap:Calls Tryz.prog 11 #[.agg s.arr, .agg #[.int .i64 1, .string (odN j), .string ⟨#[]⟩, .string ⟨#[]⟩, .string (odN j), .int .i64 0, .string (⟨#[97]⟩:ByteArray), .int .i64 1, .string (⟨#[98]⟩:ByteArray), .int .i64 2, .slice none 0 0, .slice none 0 0, .slice none 0 0, .slice none 0 0, .int .i64 0, .int .i64 0, .int .i64 0, .slice none 0 0]] (W4.alloc (.cells #[.int .i64 1, .string (odN j), .string ⟨#[]⟩, .string ⟨#[]⟩, .string (odN j), .int .i64 0, .string (⟨#[97]⟩:ByteArray), .int .i64 1, .string (⟨#[98]⟩:ByteArray), .int .i64 2, .slice none 0 0, .slice none 0 0, .slice none 0 0, .slice none 0 0, .int .i64 0, .int .i64 0, .int .i64 0, .slice none 0 0] 39)) fun e w' =>∃s' :Sw,e= .returned (.tuple #[.agg s'.arr, .int .i64 0])∧pK w' s' ∧s'.x=odS (q++ [j])∧Below (W4.alloc (.cells #[.int .i64 1, .string (odN j), .string ⟨#[]⟩, .string ⟨#[]⟩, .string (odN j), .int .i64 0, .string (⟨#[97]⟩:ByteArray), .int .i64 1, .string (⟨#[98]⟩:ByteArray), .int .i64 2, .slice none 0 0, .slice none 0 0, .slice none 0 0, .slice none 0 0, .int .i64 0, .int .i64 0, .int .i64 0, .slice none 0 0] 39)).heap.size (W4.alloc (.cells #[.int .i64 1, .string (odN j), .string ⟨#[]⟩, .string ⟨#[]⟩, .string (odN j), .int .i64 0, .string (⟨#[97]⟩:ByteArray), .int .i64 1, .string (⟨#[98]⟩:ByteArray), .int .i64 2, .slice none 0 0, .slice none 0 0, .slice none 0 0, .slice none 0 0, .int .i64 0, .int .i64 0, .int .i64 0, .slice none 0 0] 39)) w' :=by
          refine (apply_at (p:=odP j) (HG.out.below kU) hi5 hok hck hTw hm rfl (by rw [HX.out];exact HTH.out.1.trans HCJ.out) (by omega) (by rw [hla];omega) (Nat.le_of_ble_eq_true rfl) (od_tbok j)).mono ?_
          rintro e w' ⟨s',rfl,h1,⟨h2,h3,h5,h6⟩,h7⟩
          refine ⟨s',rfl,h1, ?_,h7⟩
          rw [HX.out,hla]at h5
          have e1:=od_sorted hq' hj6 hjm h5 h6
          rw [HX.out]at h3
          exact sc_ext (h2.trans (by rw [hla];show _=(((q++ [j]).length:Nat):Int);simp)) e1 h3
         have hf2:=od_facts hq'
         have hix:(q++ [j]).idxOf j=q.length:=by rw [List.idxOf_append,if_neg hjm];simp
         have p5:((q.length:Int)+1 !=(q.length:Int)+1)=false:=by simp
         have p6:IntKind.i64.wrap ((q.length:Int)+1)=(q.length:Int)+1:=IntWalk.i64_in _ (by omega)
         have HV:=Lib.hid htv
         have HF2:=Lib.hid hf2
         have HQ2:=Lib.hid hq'
         have HIX:=Lib.hid hix
         clear hm hck hok hTw h4 htv hla hjm hf2 hq' hix hqn
         go_wp2_with (first|refine jw rfl _ _ rfl rfl rfl rfl rfl rfl ?_|refine cZ Tryz.ug rfl _ rfl rfl rfl (dz aee) ?_|refine bK rfl _ rfl rfl rfl hba5 ?_)
         refine hap.mono ?_;rintro e w6 ⟨s',rfl,hi6,hx6,hb6⟩
         have uf:=kU.trans (hb6.mono kU.size)
         have hbs6:=aH hb6 aee
         have hs6:=HS.out
         have hi0:pK w6 s:=(hi5.below hb6)
         have ho6:=sw_one hi6
         have hok6:FH s'.x:=by rw [hx6];exact od_ok HQ2.out
         have hla6:s'.last=(q.length:Int)+1:=by
          have:=congrArg Sc.last hx6
          exact this.trans (by show (((q++ [j]).length:Nat):Int)=_;simp)
         have hnT6:s'.T.length≤1000:=by
          have:=hok6.nt
          unfold Sw.x at this
          simp at this
          omega
         have Y0:=uf.alloc uf.size (.cells s'.arr 31)
         have hba7:=aB w6 (.cells s'.arr 31)
         have agH:=ay hbs6 (.cells s'.arr 31)
         have hi7:=hi6.below ((Below.refl w6.heap.size w6).alloc (Nat.le_refl _) (.cells s'.arr 31))
         have hi70:=hi0.below ((Below.refl w6.heap.size w6).alloc (Nat.le_refl _) (.cells s'.arr 31))
         have k1:(w6.alloc (.cells s'.arr 31)).cell? ⟨w.heap.size,1,none⟩=some (.slice ta q.length tc):=by
          rw [aj agH]
          show some s.tv=_
          rw [HV.out]
         have hst2:=xW hi7 hnT6 (fun r hr=>(hok6.t r.t (List.mem_map_of_mem hr)).n) (odN j)
         rw [hx6,(od_there HQ2.out hj6).2,show (q++ [j]).contains j=true by simp]at hst2
         have hck6:s'.x.check=true:=by rw [hx6];exact HF2.out.1
         have HC6:Hid (∀w',Below (w6.alloc (.cells s'.arr 31)).heap.size (w6.alloc (.cells s'.arr 31)) w' →Calls Tryz.prog 17 #[.agg s'.arr] w' fun e w'' =>e= .returned (.bool true)∧Below w'.heap.size w' w''):=fun w' hb=>by
          have:=xX (HG.out.below (Y0.trans (hb.mono Y0.size))) (hi7.below hb) hok6
          rwa [hck6]at this
         have HX6:=Lib.hid hx6
         have HL6:=Lib.hid hla6
         have hne6:w.heap.size≠w6.heap.size:=by have:=aG hbs6;omega
         clear hap hbs4 aee hba5 hi4 hi5 hi6 hi0 hs6 hok6 hnT6 hck6 hx6 hla6 hbs6 hb6 uf
         go_wp2_with (first|refine fq Tryz.ug rfl _ _ rfl rfl rfl rfl rfl rfl ho6 ?_|refine cZ Tryz.ug rfl _ rfl rfl rfl (dz hba7) ?_)
         refine hst2.mono ?_;rintro e w8 ⟨q2,rfl,hq2i,hq2t,hb8⟩
         have hid:q2.t.id=(q.length:Int)+1:=by
          rw [hq2t]
          have h1:=(od_there HQ2.out hj6).2
          rw [show (q++ [j]).contains j=true by simp]at h1
          obtain ⟨t,ht⟩:=Option.isSome_iff_exists.1 h1
          rw [ht,Option.getD_some,(HF2.out.2.2.2 j hj6).2 t ht,HIX.out]
          omega
         have ho8:=hq2i.one
         have hB8:=Y0.trans (hb8.mono Y0.size)
         have hB9:=hB8.alloc hB8.size (.cells q2.arr 27)
         have hba8:=aH hb8 hba7
         have hba9:=ay hba8 (.cells q2.arr 27)
         have hbs9:=ay (aH hb8 agH) (.cells q2.arr 27)
         have hbt9:=aB w8 (.cells q2.arr 27)
         have hb89:=LD hb8 (.cells q2.arr 27)
         have m1:(w8.alloc (.cells q2.arr 27)).cell? ⟨w8.heap.size,1,none⟩=some (.int .i64 ((q.length:Int)+1)):=by
          rw [aj hbt9,←hid];rfl
         have m0:(w8.alloc (.cells q2.arr 27)).cell? ⟨w6.heap.size,0,none⟩=some (.int .i64 ((q.length:Int)+1)):=by
          rw [aj hba9,←HL6.out];rfl
         have hck:=HC6.out _ hb89
         have hi9:=hi7.below hb89
         have hi90:=hi70.below hb89
         clear hst2 hq2i hq2t hid hba7 agH k1 hi7 hi70 hb8 hB8 hba8 hbt9 HC6 Y0
         go_wp2_with (first|refine fq Tryz.Ac rfl _ _ rfl rfl rfl rfl rfl rfl ho8 ?_|refine cZ Tryz.ug (by go_simp) _ rfl rfl rfl (dz hba9) ?_)
         refine hck.mono ?_;rintro e w10 ⟨rfl,hb10⟩
         have hba10:=aH hb10 hba9
         have hbs10:=aH hb10 hbs9
         have hB10:=hB9.trans (hb10.mono hB9.size)
         have hi10:=hi9.below hb10
         have hi100:=hi90.below hb10
         clear hck m0 m1 hba9 hbs9 hi9 hi90 hb10 hB9
         go_wp2_with (first|refine cZ Tryz.ug rfl _ rfl rfl rfl (dz hba10) ?_|(refine pJ Tryz.ug rfl _ _ rfl rfl rfl hbs10 rfl rfl ho6 ?_;intro w11 hw11))
         go_roundw
         case rel=>exact ⟨k+1,q++ [j],by go_num,by simp,by omega,by omega,⟨HQ2.out,hw11.below _ _ hB10 (Nat.le_refl _),s',hw11.blk,hi10.wrote2 hw11 hbs10 hi100,HX6.out⟩⟩
         case measure=>simp [intOf];omega
  · have hstop:¬(k:Int)<(zs.length:Int)∨((k:Int)<(zs.length:Int)∧¬(k:Int)<12):=by omega
    have hf:=od_facts hq
    have hnT:s.T.length=q.length:=by
     have:=congrArg (fun x:Sc=>x.ts.length) hx
     rw [hf.2.1]at this
     simpa [Sw.x]using this
    have hla:s.last=(q.length:Int):=congrArg Sc.last hx
    have hts:s.T.map Tw.t=(odS q).ts:=congrArg Sc.ts hx
    obtain ⟨ta,tc,htv,hrow⟩:=hin.ts
    rw [hnT]at htv hrow
    have k0:wr.cell? ⟨w.heap.size,0,none⟩=some (.int .i64 (q.length:Int)):=by
     rw [aj hbs,←hla];rfl
    have k1:wr.cell? ⟨w.heap.size,1,none⟩=some (.slice ta q.length tc):=by
     rw [aj hbs]
     show some s.tv=_
     rw [htv]
    have HROW:=Lib.hid hrow
    have hqn:=hq.n
    have HAP:Hid (∀i:Nat,i+1<q.length→∃g o,ta=some ⟨g,o,none⟩∧∃a b:ByteArray,wr.cell? ⟨g,o+i*7,none⟩=some (.string a)∧wr.cell? ⟨g,o+(i+1)*7,none⟩=some (.string b)∧Op.bytesLess a.toList b.toList=true):=fun i hi=>by
     obtain ⟨g,o,e,hc⟩:=HROW.out (by omega)
     obtain ⟨r1,hr1⟩:∃r,s.T[i]? =some r:=⟨_,List.getElem?_eq_getElem (by omega)⟩
     obtain ⟨r2,hr2⟩:∃r,s.T[i+1]? =some r:=⟨_,List.getElem?_eq_getElem (by omega)⟩
     refine ⟨g,o,e,r1.t.name,r2.t.name,lq Tw.len hc hr1 (Below.refl _ _) 0 _ rfl,lq Tw.len hc hr2 (Below.refl _ _) 0 _ rfl,ap_rise (l:=(odS q).ts) (i:=i) hf.2.2.1 ?_ ?_⟩
     · rw [←hts,List.getElem?_map,hr1];rfl
     · rw [←hts,List.getElem?_map,hr2];rfl
    have hB:=hB
    clear hrow hf hnT hla hts htv hbs hin hx HROW hq HO aix HZ HC HG
    rcases hstop with q1|⟨q1,q2⟩
    all_goals
     go_wp2_with fail
     go_loopw [15] (fun i wx=>∃m:Nat,i= .int .i64 ((m:Int)+1)∧m≤q.length∧Below wr.heap.size wr wx) (fun i _=>q.length+2 - (intOf i).toNat)
     case atStart=>exact ⟨0,rfl,Nat.zero_le _,Below.refl _ _⟩
     case round=>
      obtain ⟨m,rfl,hm,hbx⟩:=hrel
      rename World=>wx
      have c1:=aI hbx k1
      by_cases hmn:m+1<q.length
      · obtain ⟨g,o,rfl,a,b,d1,d2,hlt⟩:=HAP.out m hmn
        have d1:=aI hbx d1
        have d2:=aI hbx d2
        have p1:(m:Int)+1<(q.length:Int):=by omega
        have p2:IntKind.i64.wrap ((m:Int)+1 - 1)=(m:Int):=by rw [Int.add_sub_cancel];exact IntWalk.i64_in _ (by omega)
        have p3:(0:Int)≤(m:Int):=by omega
        have p4:(m:Int)<(q.length:Int):=by omega
        have p5:(0:Int)≤(m:Int)+1:=by omega
        have p6:IntKind.i64.wrap ((m:Int)+1+1)=(m:Int)+1+1:=IntWalk.i64_in _ (by omega)
        have p7:((m:Int)+1).toNat=m+1:=by omega
        go_upto_region 25 with fail
        go_quiet (fail)
        go_wp2_with fail
        go_roundw
        case rel=>exact ⟨m+1,by first|rfl|simp,by omega,by repeat (first|exact hbx|refine Below.drew ?_|refine aK.below_drewN ?_ _)⟩
        case measure=>simp [intOf];omega
      · have p1:¬(m:Int)+1<(q.length:Int):=by omega
        have c0:=aI hbx k0
        have hBx:=hB.trans (hbx.mono hB.size)
        have ha:=HA.out wx hBx
        go_wp2_with fail
        refine ha.mono ?_;rintro e w5 ⟨rfl,h5⟩
        go_wp2_with fail
        go_ret
        exact ⟨rfl,hBx.trans (h5.mono hBx.size)⟩
end Go.Proofs.YtnngbhpeeakfaaaGreatDoor
