/- Walks: schema: Same. -/
import Derived.Test.YtnngbhpeeakfaaaGreatDoorB28
import Derived.Test.YtnngbhpeeakfaaaGreatDoorB29
import Derived.Test.YtnngbhpeeakfaaaGreatDoorB41
namespace Go.Proofs.YtnngbhpeeakfaaaGreatDoor
open Go.RowKit
open aK
theorem str_yes {a b:ByteArray}(h:a=b):(a.toList==b.toList)=true:=by rw [h];exact beq_self_eq_true _
theorem str_no {a b:ByteArray}(h:¬a=b):(a.toList==b.toList)=false:=by rw [bU];exact decide_eq_false h
theorem str_inj {a b:ByteArray}(h:a.toList=b.toList):a=b:=by
 have e:=bU a b
 rw [beq_iff_eq.2 h]at e
 exact of_decide_eq_true e.symm
theorem cell7 {w:World}{b:Nat}{q:Tw}(h:w.heap[b]? =some (.cells q.arr 27 (0,0))):w.cell? ⟨b,0,none⟩=some (.string q.t.name)∧w.cell? ⟨b,1,none⟩=some (.int .i64 q.t.id)∧w.cell? ⟨b,2,none⟩=some (.string q.t.part.name)∧w.cell? ⟨b,3,none⟩=some (.int .i64 q.t.part.ty)∧w.cell? ⟨b,4,none⟩=some (.string q.t.aY.name)∧w.cell? ⟨b,5,none⟩=some (.int .i64 q.t.aY.ty)∧w.cell? ⟨b,6,none⟩=some q.v:=
 ⟨by rw [aj h];rfl,by rw [aj h];rfl,by rw [aj h];rfl,by rw [aj h];rfl,by rw [aj h];rfl,by rw [aj h];rfl,by rw [aj h];rfl⟩
set_option maxRecDepth 100000 in
set_option maxHeartbeats 4000000 in
theorem same1_any {w:World}{q r:Tw}(hq:nL w q) (hr:nL w r) (hqn:q.t.aD.length≤900) (hrn:r.t.aD.length≤900):
 Calls Tryz.prog 42 #[.agg q.arr, .agg r.arr] w fun e w' =>∃b:Bool,e= .returned (.bool b)∧(b=true ↔ q.t=r.t)∧Below w.heap.size w w' :=by
 have hB1:=(Below.refl w.heap.size w).alloc (Nat.le_refl _) (.cells q.arr 27)
 have hB2:=hB1.alloc hB1.size (.cells r.arr 27)
 have hb1:=ay (aB w (.cells q.arr 27)) (.cells r.arr 27)
 have hb2:=aB (w.alloc (.cells q.arr 27)) (.cells r.arr 27)
 rw [av]at hb2
 have hE:=YF (hq.below hB2) (hr.below hB2) (by omega) (by omega)
 obtain ⟨k0,k1,k2,k3,k4,k5,k6⟩:=cell7 hb1
 obtain ⟨m0,m1,m2,m3,m4,m5,m6⟩:=cell7 hb2
 have HX:Hid (q.t=r.t ↔ (q.t.name=r.t.name∧q.t.id=r.t.id∧q.t.part=r.t.part∧q.t.aY=r.t.aY∧q.t.aD=r.t.aD)):=by
  obtain ⟨⟨a,b,c,d,e⟩,v⟩:=q
  obtain ⟨⟨a',b',c',d',e'⟩,v'⟩:=r
  simp [Hid]
 clear hb1 hb2 hq hr hqn hrn hB1
 obtain ⟨⟨a,b,⟨c,c2⟩,⟨d,d2⟩,e⟩,v⟩:=q
 obtain ⟨⟨a',b',⟨c',c2'⟩,⟨d',d2'⟩,e'⟩,v'⟩:=r
 unfold Tw.arr at *
 dsimp only at *
 go_enter Tryz.func42,Tryz.ntmps42
 go_upto_region 1 with (fail)
 generalize ((w.alloc (.cells _ 27)).alloc _)=W at *
 go_wp2_with fail
 all_goals first
  |(go_ret
    refine ⟨false,rfl,iff_of_false Bool.noConfusion (fun h=> ?_),hB2⟩
    obtain ⟨rfl,rfl,e3,e4,rfl⟩:=HX.out.1 h
    cases e3
    cases e4
    contradiction)
  |skip
 all_goals
  (refine hE.mono ?_
   rintro x w3 ⟨bb,rfl,hb,hB3⟩
   have hB4:=hB2.trans (hB3.mono hB2.size)
   go_wp2_with fail
   go_ret
   refine ⟨bb,rfl,hb.trans (Iff.trans ⟨fun h=> ?_,fun h=> ?_⟩ HX.out.symm),hB4⟩
   · subst h
     have e1:=str_inj ‹a.toList=a'.toList›
     have e2:=str_inj ‹c.toList=c'.toList›
     have e3:=str_inj ‹d.toList=d'.toList›
     subst e1 e2 e3
     simp_all
   · exact h.2.2.2.2)
theorem cell5v {w:World}{b:Nat}{q:Vv}(h:w.heap[b]? =some (.cells q.arr 46 (0,0))):w.cell? ⟨b,0,none⟩=some (.string q.x.name)∧w.cell? ⟨b,1,none⟩=some (.int .i64 q.x.id)∧w.cell? ⟨b,2,none⟩=some (.string q.x.dA)∧w.cell? ⟨b,3,none⟩=some (.string q.x.on)∧w.cell? ⟨b,4,none⟩=some q.v:=
 ⟨by rw [aj h];rfl,by rw [aj h];rfl,by rw [aj h];rfl,by rw [aj h];rfl,by rw [aj h];rfl⟩
set_option maxRecDepth 100000 in
set_option maxHeartbeats 4000000 in
theorem same2_any {w:World}{q r:Vv}(hq:vM w q) (hr:vM w r) (hqn:q.x.aD.length≤900) (hrn:r.x.aD.length≤900):
 Calls Tryz.prog 45 #[.agg q.arr, .agg r.arr] w fun e w' =>∃b:Bool,e= .returned (.bool b)∧(b=true ↔ q.x=r.x)∧Below w.heap.size w w' :=by
 have hB1:=(Below.refl w.heap.size w).alloc (Nat.le_refl _) (.cells q.arr 46)
 have hB2:=hB1.alloc hB1.size (.cells r.arr 46)
 have hb1:=ay (aB w (.cells q.arr 46)) (.cells r.arr 46)
 have hb2:=aB (w.alloc (.cells q.arr 46)) (.cells r.arr 46)
 rw [av]at hb2
 have hE:=YG (hq.below hB2) (hr.below hB2) (by omega) (by omega)
 obtain ⟨k0,k1,k2,k3,k4⟩:=cell5v hb1
 obtain ⟨m0,m1,m2,m3,m4⟩:=cell5v hb2
 have HX:Hid (q.x=r.x ↔ (q.x.name=r.x.name∧q.x.id=r.x.id∧q.x.dA=r.x.dA∧q.x.on=r.x.on∧q.x.aD=r.x.aD)):=by
  obtain ⟨⟨a,b,c,d,e⟩,v⟩:=q
  obtain ⟨⟨a',b',c',d',e'⟩,v'⟩:=r
  simp [Hid]
 clear hb1 hb2 hq hr hqn hrn hB1
 obtain ⟨⟨a,b,c,d,e⟩,v⟩:=q
 obtain ⟨⟨a',b',c',d',e'⟩,v'⟩:=r
 unfold Vv.arr at *
 dsimp only at *
 go_enter Tryz.func45,Tryz.ntmps45
 go_upto_region 1 with (fail)
 generalize ((w.alloc (.cells _ 46)).alloc _)=W at *
 go_wp2_with fail
 all_goals first
  |(go_ret
    refine ⟨false,rfl,iff_of_false Bool.noConfusion (fun h=> ?_),hB2⟩
    obtain ⟨rfl,rfl,rfl,rfl,rfl⟩:=HX.out.1 h
    contradiction)
  |skip
 all_goals
  (refine hE.mono ?_
   rintro x w3 ⟨bb,rfl,hb,hB3⟩
   have hB4:=hB2.trans (hB3.mono hB2.size)
   go_wp2_with fail
   go_ret
   refine ⟨bb,rfl,hb.trans (Iff.trans ⟨fun h=> ?_,fun h=> ?_⟩ HX.out.symm),hB4⟩
   · subst h
     have e1:=str_inj ‹a.toList=a'.toList›
     have e2:=str_inj ‹c.toList=c'.toList›
     have e3:=str_inj ‹d.toList=d'.toList›
     subst e1 e2 e3
     simp_all
   · exact h.2.2.2.2)
end Go.Proofs.YtnngbhpeeakfaaaGreatDoor
namespace Go.Proofs.YtnngbhpeeakfaaaGreatDoor
open Go.RowKit
open aK
set_option maxRecDepth 100000 in
set_option maxHeartbeats 8000000 in
theorem eqtb_any {w:World}{u v:Value}{L M:List Tw}(hu:Rd w u L.length (mQ L)) (hv:Rd w v M.length (mQ M)) (hl:L.length≤100000) (_hm:M.length≤100000)
 (h1:∀p∈L,p.arr.toList.all (·.oneCell')=true) (h2:∀p∈M,p.arr.toList.all (·.oneCell')=true) (i1:∀p∈L,nL w p∧p.t.aD.length≤900) (i2:∀p∈M,nL w p∧p.t.aD.length≤900):
 Calls Tryz.prog 41 #[u,v, .func (.func (42)) #[] #[]] w fun e w' =>∃b:Bool,e= .returned (.bool b)∧(b=true ↔ L.map Tw.t=M.map Tw.t)∧Below w.heap.size w w' :=by
 obtain ⟨a1,k1,rfl,hx0⟩:=hu
 obtain ⟨a2,k2,rfl,hy0⟩:=hv
 by_cases hlen:L.length=M.length
 · have HL:=Lib.hid hlen
   obtain ⟨n,hn⟩:∃n,L.length=n:=⟨_,rfl⟩
   have hn2:M.length=n:=by omega
   have HN:=Lib.hid hn
   have HN2:=Lib.hid hn2
   rw [hn]at hx0 hl⊢
   rw [hn2]at hy0⊢
   clear hlen hn hn2 _hm
   have t0:((n:Int) !=(n:Int))=false:=by simp
   go_enter Tryz.func41,Tryz.ntmps41
   go_wp2_with fail
   go_loopw [17] (fun i wr=>∃j:Nat,i= .int .i64 j∧j≤n∧Below w.heap.size w wr∧Hid (∀k,k<j→(L.map Tw.t)[k]? =(M.map Tw.t)[k]?)) (fun i _=>n - (intOf i).toNat)
   case atStart=>exact ⟨0,rfl,Nat.zero_le _,Below.refl _ _,fun k hk=>absurd hk (by omega)⟩
   case round=>
    obtain ⟨j,rfl,hj,hBr,HA⟩:=hrel
    have hsz:=hBr.size
    by_cases hjl:j<n
    · have p0:(j:Int)<(n:Int):=by omega
      have p1:(0:Int)≤(j:Int):=by omega
      have HJ:=Lib.hid (show j+1≤n from hjl)
      obtain ⟨g1,o1,rfl,hx⟩:=hx0 (by omega)
      obtain ⟨g2,o2,rfl,hy⟩:=hy0 (by omega)
      obtain ⟨q,hq⟩:∃q,L[j]? =some q:=⟨_,List.getElem?_eq_getElem (by have:=HN.out;omega)⟩
      obtain ⟨r,hr⟩:∃q,M[j]? =some q:=⟨_,List.getElem?_eq_getElem (by have:=HN2.out;omega)⟩
      have hq1:(L.map Tw.t)[j]? =some q.t:=by rw [List.getElem?_map,hq];rfl
      have hr1:(M.map Tw.t)[j]? =some r.t:=by rw [List.getElem?_map,hr];rfl
      have hone:=h1 q (List.mem_of_getElem? hq)
      have adv:=h2 r (List.mem_of_getElem? hr)
      have hR:=lq Tw.len hx hq hBr
      have hB1:=hBr.alloc hsz (.cells q.arr 27)
      have hR2:=lq Tw.len hy hr hB1
      have hB2:=hB1.alloc hB1.size (.cells r.arr 27)
      have DU:((wr.alloc (.cells q.arr 27)).alloc (.cells r.arr 27)).heap[wr.heap.size]? =some (.cells q.arr 27 (0,0)):=AO (aB wr _) _
      have YK:((wr.alloc (.cells q.arr 27)).alloc (.cells r.arr 27)).heap[wr.heap.size+1]? =some (.cells r.arr 27 (0,0)):=by rw [←av wr (.cells q.arr 27)];exact aB _ _
      have hc:=same1_any (Rd.below (i1 q (List.mem_of_getElem? hq)).1 hB2) (Rd.below (i2 r (List.mem_of_getElem? hr)).1 hB2) (i1 q (List.mem_of_getElem? hq)).2 (i2 r (List.mem_of_getElem? hr)).2
      have HT:Hid (q.t=r.t→∀k,k<j+1→(L.map Tw.t)[k]? =(M.map Tw.t)[k]?):=fun he=>yU hq1 hr1 HA.out he
      have HF:Hid (¬q.t=r.t→L.map Tw.t≠M.map Tw.t):=fun he=>Il hq1 hr1 he
      clear hq hr hq1 hr1 hx hy hx0 hy0 h1 h2 i1 i2
      obtain ⟨⟨a,b,⟨c,c2⟩,⟨d,d2⟩,e⟩,v⟩:=q
      obtain ⟨⟨a',b',⟨c',c2'⟩,⟨d',d2'⟩,e'⟩,v'⟩:=r
      go_wp2_with (first|refine cZ Tryz.Ac rfl _ rfl rfl rfl hR ?_|refine cZ Tryz.Ac rfl _ rfl rfl rfl hR2 ?_|refine fq Tryz.Ac rfl _ _ rfl rfl rfl rfl rfl rfl hone ?_|refine fq (b:=wr.heap.size+1) Tryz.Ac rfl _ _ rfl (av _ _).symm rfl rfl rfl rfl adv ?_|refine cZ Tryz.Ac rfl _ rfl rfl rfl (dz DU) ?_|refine cZ Tryz.Ac rfl _ rfl rfl rfl (dz YK) ?_)
      refine hc.mono ?_;rintro e w2 ⟨b,rfl,hb,hb2⟩
      have hB3:=hB2.trans (hb2.mono hB2.size)
      cases b with
      |true=>
       have HT2:=Lib.hid (HT.out (hb.1 rfl))
       clear hb hc
       go_wp2_with fail
       go_roundw
       case rel=>exact ⟨j+1,by go_num,HJ.out,hB3,HT2⟩
       case measure=>have hjj:=HJ.out;simp [intOf];omega
      |false=>
       have HF2:=Lib.hid (HF.out (fun h=>absurd (hb.2 h) (by decide)))
       clear hb hc
       go_wp2_with fail
       go_ret
       exact ⟨false,rfl,by simpa using HF2.out,hB3⟩
    · have jV:j=n:=by omega
      subst jV
      have HT:Hid (L.map Tw.t=M.map Tw.t):=yT (by rw [List.length_map,List.length_map];exact HL.out) (by rw [List.length_map,HN.out];exact HA.out)
      clear HA i1 i2
      go_wp2_with fail
      go_ret
      exact ⟨true,rfl,by simpa using HT.out,hBr⟩
 · have t0:((L.length:Int) !=(M.length:Int))=true:=by rw [bne_iff_ne];omega
   have HT:Hid (L.map Tw.t≠M.map Tw.t):=fun h=>hlen (by have:=congrArg List.length h;simpa using this)
   clear hlen i1 i2
   go_enter Tryz.func41,Tryz.ntmps41
   go_wp2_with fail
   go_ret
   exact ⟨false,rfl,by simpa using HT.out,Below.refl _ _⟩
set_option maxRecDepth 100000 in
set_option maxHeartbeats 8000000 in
theorem eqvw_any {w:World}{u v:Value}{L M:List Vv}(hu:Rd w u L.length (nK L)) (hv:Rd w v M.length (nK M)) (hl:L.length≤100000) (_hm:M.length≤100000)
 (h1:∀p∈L,p.arr.toList.all (·.oneCell')=true) (h2:∀p∈M,p.arr.toList.all (·.oneCell')=true) (i1:∀p∈L,vM w p∧p.x.aD.length≤900) (i2:∀p∈M,vM w p∧p.x.aD.length≤900):
 Calls Tryz.prog 44 #[u,v, .func (.func (45)) #[] #[]] w fun e w' =>∃b:Bool,e= .returned (.bool b)∧(b=true ↔ L.map Vv.x=M.map Vv.x)∧Below w.heap.size w w' :=by
 obtain ⟨a1,k1,rfl,hx0⟩:=hu
 obtain ⟨a2,k2,rfl,hy0⟩:=hv
 by_cases hlen:L.length=M.length
 · have HL:=Lib.hid hlen
   obtain ⟨n,hn⟩:∃n,L.length=n:=⟨_,rfl⟩
   have hn2:M.length=n:=by omega
   have HN:=Lib.hid hn
   have HN2:=Lib.hid hn2
   rw [hn]at hx0 hl⊢
   rw [hn2]at hy0⊢
   clear hlen hn hn2 _hm
   have t0:((n:Int) !=(n:Int))=false:=by simp
   go_enter Tryz.func44,Tryz.ntmps44
   go_wp2_with fail
   go_loopw [17] (fun i wr=>∃j:Nat,i= .int .i64 j∧j≤n∧Below w.heap.size w wr∧Hid (∀k,k<j→(L.map Vv.x)[k]? =(M.map Vv.x)[k]?)) (fun i _=>n - (intOf i).toNat)
   case atStart=>exact ⟨0,rfl,Nat.zero_le _,Below.refl _ _,fun k hk=>absurd hk (by omega)⟩
   case round=>
    obtain ⟨j,rfl,hj,hBr,HA⟩:=hrel
    have hsz:=hBr.size
    by_cases hjl:j<n
    · have p0:(j:Int)<(n:Int):=by omega
      have p1:(0:Int)≤(j:Int):=by omega
      have HJ:=Lib.hid (show j+1≤n from hjl)
      obtain ⟨g1,o1,rfl,hx⟩:=hx0 (by omega)
      obtain ⟨g2,o2,rfl,hy⟩:=hy0 (by omega)
      obtain ⟨q,hq⟩:∃q,L[j]? =some q:=⟨_,List.getElem?_eq_getElem (by have:=HN.out;omega)⟩
      obtain ⟨r,hr⟩:∃q,M[j]? =some q:=⟨_,List.getElem?_eq_getElem (by have:=HN2.out;omega)⟩
      have hq1:(L.map Vv.x)[j]? =some q.x:=by rw [List.getElem?_map,hq];rfl
      have hr1:(M.map Vv.x)[j]? =some r.x:=by rw [List.getElem?_map,hr];rfl
      have hone:=h1 q (List.mem_of_getElem? hq)
      have adv:=h2 r (List.mem_of_getElem? hr)
      have hR:=lq Vv.len hx hq hBr
      have hB1:=hBr.alloc hsz (.cells q.arr 46)
      have hR2:=lq Vv.len hy hr hB1
      have hB2:=hB1.alloc hB1.size (.cells r.arr 46)
      have DU:((wr.alloc (.cells q.arr 46)).alloc (.cells r.arr 46)).heap[wr.heap.size]? =some (.cells q.arr 46 (0,0)):=AO (aB wr _) _
      have YK:((wr.alloc (.cells q.arr 46)).alloc (.cells r.arr 46)).heap[wr.heap.size+1]? =some (.cells r.arr 46 (0,0)):=by rw [←av wr (.cells q.arr 46)];exact aB _ _
      have hc:=same2_any (Rd.below (i1 q (List.mem_of_getElem? hq)).1 hB2) (Rd.below (i2 r (List.mem_of_getElem? hr)).1 hB2) (i1 q (List.mem_of_getElem? hq)).2 (i2 r (List.mem_of_getElem? hr)).2
      have HT:Hid (q.x=r.x→∀k,k<j+1→(L.map Vv.x)[k]? =(M.map Vv.x)[k]?):=fun he=>yU hq1 hr1 HA.out he
      have HF:Hid (¬q.x=r.x→L.map Vv.x≠M.map Vv.x):=fun he=>Il hq1 hr1 he
      clear hq hr hq1 hr1 hx hy hx0 hy0 h1 h2 i1 i2
      obtain ⟨⟨a,b,c,d,e⟩,v⟩:=q
      obtain ⟨⟨a',b',c',d',e'⟩,v'⟩:=r
      go_wp2_with (first|refine cZ Tryz.Jf rfl _ rfl rfl rfl hR ?_|refine cZ Tryz.Jf rfl _ rfl rfl rfl hR2 ?_|refine fq Tryz.Jf rfl _ _ rfl rfl rfl rfl rfl rfl hone ?_|refine fq (b:=wr.heap.size+1) Tryz.Jf rfl _ _ rfl (av _ _).symm rfl rfl rfl rfl adv ?_|refine cZ Tryz.Jf rfl _ rfl rfl rfl (dz DU) ?_|refine cZ Tryz.Jf rfl _ rfl rfl rfl (dz YK) ?_)
      refine hc.mono ?_;rintro e w2 ⟨b,rfl,hb,hb2⟩
      have hB3:=hB2.trans (hb2.mono hB2.size)
      cases b with
      |true=>
       have HT2:=Lib.hid (HT.out (hb.1 rfl))
       clear hb hc
       go_wp2_with fail
       go_roundw
       case rel=>exact ⟨j+1,by go_num,HJ.out,hB3,HT2⟩
       case measure=>have hjj:=HJ.out;simp [intOf];omega
      |false=>
       have HF2:=Lib.hid (HF.out (fun h=>absurd (hb.2 h) (by decide)))
       clear hb hc
       go_wp2_with fail
       go_ret
       exact ⟨false,rfl,by simpa using HF2.out,hB3⟩
    · have jV:j=n:=by omega
      subst jV
      have HT:Hid (L.map Vv.x=M.map Vv.x):=yT (by rw [List.length_map,List.length_map];exact HL.out) (by rw [List.length_map,HN.out];exact HA.out)
      clear HA i1 i2
      go_wp2_with fail
      go_ret
      exact ⟨true,rfl,by simpa using HT.out,hBr⟩
 · have t0:((L.length:Int) !=(M.length:Int))=true:=by rw [bne_iff_ne];omega
   have HT:Hid (L.map Vv.x≠M.map Vv.x):=fun h=>hlen (by have:=congrArg List.length h;simpa using this)
   clear hlen i1 i2
   go_enter Tryz.func44,Tryz.ntmps44
   go_wp2_with fail
   go_ret
   exact ⟨false,rfl,by simpa using HT.out,Below.refl _ _⟩
end Go.Proofs.YtnngbhpeeakfaaaGreatDoor
namespace Go.Proofs.YtnngbhpeeakfaaaGreatDoor
open Go.RowKit
open aK
theorem cell3s {w:World}{b:Nat}{s:Sw}{T:TypeId}(h:w.heap[b]? =some (.cells s.arr T (0,0))):w.cell? ⟨b,0,none⟩=some (.int .i64 s.last)∧w.cell? ⟨b,1,none⟩=some s.tv∧w.cell? ⟨b,2,none⟩=some s.vv:=
 ⟨by rw [aj h];rfl,by rw [aj h];rfl,by rw [aj h];rfl⟩
set_option maxRecDepth 100000 in
set_option maxHeartbeats 4000000 in
theorem ssame_any {w:World}{s r:Sw}(hs:pK w s) (hr:pK w r) (hO:FH s.x) (hP:FH r.x):
 Calls Tryz.prog 20 #[.agg s.arr, .agg r.arr] w fun e w' =>∃b:Bool,e= .returned (.bool b)∧(b=true ↔ s.x=r.x)∧Below w.heap.size w w' :=by
 have hB1:=(Below.refl w.heap.size w).alloc (Nat.le_refl _) (.cells s.arr 31)
 have hB2:=hB1.alloc hB1.size (.cells r.arr 31)
 have hb1:=ay (aB w (.cells s.arr 31)) (.cells r.arr 31)
 have hb2:=aB (w.alloc (.cells s.arr 31)) (.cells r.arr 31)
 rw [av]at hb2
 have hnT:s.T.length≤100:=by have:=hO.nt;unfold Sw.x at this;simpa using this
 have hnV:s.V.length≤100:=by have:=hO.nv;unfold Sw.x at this;simpa using this
 have hmT:r.T.length≤100:=by have:=hP.nt;unfold Sw.x at this;simpa using this
 have hmV:r.V.length≤100:=by have:=hP.nv;unfold Sw.x at this;simpa using this
 have hE:=eqtb_any (hs.ts.below hB2) (hr.ts.below hB2) (by omega) (by omega) (fun q hq=>(hs.t q hq).one) (fun q hq=>(hr.t q hq).one) (fun q hq=>⟨(hs.t q hq).below hB2,(hO.t q.t (List.mem_map_of_mem hq)).n⟩) (fun q hq=>⟨(hr.t q hq).below hB2,(hP.t q.t (List.mem_map_of_mem hq)).n⟩)
 have HV:Hid (∀w',Below w.heap.size w w' →Calls Tryz.prog 44 #[s.vv,r.vv, .func (.func (45)) #[] #[]] w' fun e w'' =>∃b:Bool,e= .returned (.bool b)∧(b=true ↔ s.V.map Vv.x=r.V.map Vv.x)∧Below w'.heap.size w' w''):=fun w' hb=>eqvw_any (hs.vs.below hb) (hr.vs.below hb) (by omega) (by omega) (fun q hq=>(hs.v q hq).one) (fun q hq=>(hr.v q hq).one) (fun q hq=>⟨(hs.v q hq).below hb,(hO.v q.x (List.mem_map_of_mem hq)).n⟩) (fun q hq=>⟨(hr.v q hq).below hb,(hP.v q.x (List.mem_map_of_mem hq)).n⟩)
 have HX:Hid (s.x=r.x ↔ (s.last=r.last∧s.T.map Tw.t=r.T.map Tw.t∧s.V.map Vv.x=r.V.map Vv.x)):=by
  show _ ↔ _
  unfold Sw.x
  simp
 obtain ⟨k0,k1,k2⟩:=cell3s hb1
 obtain ⟨m0,m1,m2⟩:=cell3s hb2
 clear hs hr hO hP hnT hnV hmT hmV hB1
 obtain ⟨la,T,V,tv,vv⟩:=s
 obtain ⟨la',T',V',tv',vv'⟩:=r
 unfold Sw.arr at *
 dsimp only at *
 go_enter Tryz.func20,Tryz.ntmps20
 go_upto_region 1 with (fail)
 generalize ((w.alloc (.cells _ 31)).alloc _)=W at *
 by_cases hl:la=la'
 case neg=>
  have p0:(la==la')=false:=beq_eq_false_iff_ne.2 hl
  have HL:=Lib.hid hl
  clear hl hE HV
  go_wp2_with fail
  go_ret
  exact ⟨false,rfl,iff_of_false Bool.noConfusion (fun h=>HL.out (HX.out.1 h).1),hB2⟩
 subst hl
 have p0:(la==la)=true:=beq_self_eq_true _
 go_wp2_with fail
 refine hE.mono ?_;rintro e w2 ⟨b,rfl,hb,h2⟩
 have hB3:=hB2.trans (h2.mono hB2.size)
 have n2:w2.cell? ⟨w.heap.size,2,none⟩=some vv:=by rw [aj (aH h2 hb1)];rfl
 have o2:w2.cell? ⟨w.heap.size+1,2,none⟩=some vv' :=by rw [aj (aH h2 hb2)];rfl
 have hv:=HV.out w2 hB3
 clear hE HV k0 k1 k2 m0 m1 m2 hb1 hb2
 cases b with
 |false=>
  have HB:=Lib.hid hb
  clear hb hv
  go_wp2_with fail
  go_ret
  exact ⟨false,rfl,iff_of_false Bool.noConfusion (fun h=>Bool.noConfusion (HB.out.2 (HX.out.1 h).2.1)),hB3⟩
 |true=>
  have HB:=Lib.hid hb
  clear hb
  go_wp2_with fail
  refine hv.mono ?_;rintro e w4 ⟨b,rfl,hb2,h4⟩
  have HB2:=Lib.hid hb2
  clear hb2 hv
  go_wp2_with fail
  go_ret
  exact ⟨b,rfl,⟨fun h=>HX.out.2 ⟨by first|rfl|trivial,HB.out.1 (by first|rfl|trivial),HB2.out.1 h⟩,fun h=>HB2.out.2 (HX.out.1 h).2.2⟩,hB3.trans (h4.mono hB3.size)⟩
end Go.Proofs.YtnngbhpeeakfaaaGreatDoor
