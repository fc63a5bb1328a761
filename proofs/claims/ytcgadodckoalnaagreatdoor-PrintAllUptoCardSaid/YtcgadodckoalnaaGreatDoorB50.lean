/- Parts of a proof. -/
import Derived.Test.YtcgadodckoalnaaGreatDoorB39
import Derived.Test.YtcgadodckoalnaaGreatDoorB43
import Derived.Test.YtcgadodckoalnaaGreatDoorB49
set_option maxHeartbeats 8000000
set_option maxRecDepth 100000
namespace Go.Proofs.YtcgadodckoalnaaGreatDoor
open Go.Proofs.Tryz
open Go.RowKit
open aN
theorem Fa {w:World}{p:Pw}{L:List Pw}{N:Nat}(hG:Gp w) (h:JE w N p L) (hN:N≤2000000):
 Calls prog 3 #[.agg p.arr] w fun e w' =>e= .returned (.bool true)∧Sp w w' :=by
 have hB1:=(Below.refl w.heap.size w).alloc (Nat.le_refl _) (.cells p.arr 31);have hbl:(w.alloc (.cells p.arr 31)).heap[w.heap.size]? =some (.cells p.arr 31 (0,0)):=aA w _;have h1:=h.below hB1;have hc:=wH h1.st h1.pv h1.each;have HG:=Lib.hid hG;have CA:Hid (∀w',Below w.heap.size w w' →Calls prog 6 #[] w' fun e w'' =>e= .returned (.bool true)∧Below w'.heap.size w' w''):=fun w' hb=>(OP (hG.below hb)).mono fun _ _ he=>⟨he.1,he.2.1⟩
 cases hd:MG p L with
 |false=>
  rw [hd]at hc;clear h h1 hd hG;obtain ⟨x,tc,c,s,wv,pv⟩:=p;go_enter func3,ntmps3;go_wp2_with (refine aT rfl _ rfl rfl rfl hbl ?_);refine hc.mono ?_;rintro e w2 ⟨rfl,hb2⟩;have hB2:=hB1.trans (hb2.mono hB1.size);have ha:=CA.out _ hB2;go_wp2_with fail;refine ha.mono ?_;rintro e w3 ⟨rfl,hb3⟩;have hB3:=hB2.trans (hb3.mono hB2.size);go_wp2_with fail;go_ret;exact ⟨rfl,hB3,HG.out.below hB3⟩
 |true=>
  rw [hd]at hc;have hw:=h.wd hd;have hs:=h.agD hN hd;by_cases hm:May ⟨p.x,L.map Pw.x⟩
  · have C1:Hid (∀w',Below w.heap.size w w' →Calls prog 7 #[.agg p.arr] w' fun e w'' =>e= .returned (.bool true)∧Below w'.heap.size w' w''):=fun w' hb=>(uZ (hG.below hb) (hw.below hb) hs).mono fun e w'' ⟨b,he,hi,hb2⟩=>⟨by rw [he];congr 2;exact hi.2 hm,hb2⟩
    have C2:Hid (∀w',Below w.heap.size w w' →Calls prog 8 #[.agg p.arr] w' fun e w'' =>e= .returned (.bool true)∧Below w'.heap.size w' w''):=fun w' hb=>(wI (hG.below hb) (hw.below hb) hs).mono fun e w'' ⟨b,he,hi,hb2⟩=>⟨by rw [he];congr 2;exact hi.2 hm,hb2⟩
    clear h h1 hd hG hw hs hm;obtain ⟨x,tc,c,s,wv,pv⟩:=p;go_enter func3,ntmps3;go_wp2_with (refine aT rfl _ rfl rfl rfl hbl ?_);refine hc.mono ?_;rintro e w2 ⟨rfl,hb2⟩;have HB2:=Lib.hid (hB1.trans (hb2.mono hB1.size));have qb:w2.heap[w.heap.size]? =some (.cells (aG x tc c s wv pv) 31 (0,0)):=bL hb2 hbl;have HR2:Hid (∀j v,(aG x tc c s wv pv).toList[j]? =some v→w2.cell? ⟨w.heap.size,0+j,none⟩=some v):=fun j v hv=>by rw [Nat.zero_add,au qb];simpa using hv
    clear hb2 hB1 hbl qb hc;go_wp2_with fail;refine wp_region_quiet_below (by kernel_rfl) (by kernel_rfl) ?_;refine gX rfl _ rfl rfl (p:=⟨x,tc,c,s,wv,pv⟩) (fun w' hw' =>by obtain ⟨p,rfl⟩:=hw';exact fun i v hv=>cell_regrown (HR2.out i v hv) p.d p.os) ?_;go_simp;go_big_quiet_step (exact Calls.regrown_of (C1.out _ (HB2.out.trans ((below_regrown w2 _ _).mono HB2.out.size))));refine gX rfl _ rfl rfl (p:=⟨x,tc,c,s,wv,pv⟩) (fun w' hw' =>by obtain ⟨p,rfl⟩:=hw';exact fun i v hv=>cell_regrown (HR2.out i v hv) p.d p.os) ?_;go_simp;go_big_quiet_step (exact Calls.regrown_of (C2.out _ (HB2.out.trans ((below_regrown w2 _ _).mono HB2.out.size))))
    iterate 2 (go_big_quiet_step (fail))
    go_big_quiet_step (exact Calls.regrown_of (CA.out _ (HB2.out.trans ((below_regrown w2 _ _).mono HB2.out.size))))
    iterate 2 (go_big_quiet_step (fail))
    refine wpQuiet_nil ?_;intro pq;obtain ⟨dq,osq⟩:=pq;go_wp2_with fail;go_ret;exact ⟨rfl,HB2.out.trans ((below_regrown w2 dq osq).mono HB2.out.size),HG.out.below (HB2.out.trans ((below_regrown w2 dq osq).mono HB2.out.size))⟩
  · have C1:Hid (∀w',Below w.heap.size w w' →Calls prog 7 #[.agg p.arr] w' fun e w'' =>e= .returned (.bool false)∧Below w'.heap.size w' w''):=fun w' hb=>(uZ (hG.below hb) (hw.below hb) hs).mono fun e w'' ⟨b,he,hi,hb2⟩=>⟨by rw [he];congr 2;cases b with|false=>rfl|true=>exact absurd (hi.1 rfl) hm,hb2⟩
    have C2:Hid (∀w',Below w.heap.size w w' →Calls prog 8 #[.agg p.arr] w' fun e w'' =>e= .returned (.bool false)∧Below w'.heap.size w' w''):=fun w' hb=>(wI (hG.below hb) (hw.below hb) hs).mono fun e w'' ⟨b,he,hi,hb2⟩=>⟨by rw [he];congr 2;cases b with|false=>rfl|true=>exact absurd (hi.1 rfl) hm,hb2⟩
    clear h h1 hd hG hw hs hm;obtain ⟨x,tc,c,s,wv,pv⟩:=p;go_enter func3,ntmps3;go_wp2_with (refine aT rfl _ rfl rfl rfl hbl ?_);refine hc.mono ?_;rintro e w2 ⟨rfl,hb2⟩;have HB2:=Lib.hid (hB1.trans (hb2.mono hB1.size));have qb:w2.heap[w.heap.size]? =some (.cells (aG x tc c s wv pv) 31 (0,0)):=bL hb2 hbl;have HR2:Hid (∀j v,(aG x tc c s wv pv).toList[j]? =some v→w2.cell? ⟨w.heap.size,0+j,none⟩=some v):=fun j v hv=>by rw [Nat.zero_add,au qb];simpa using hv
    clear hb2 hB1 hbl qb hc;go_wp2_with fail;refine wp_region_quiet_below (by kernel_rfl) (by kernel_rfl) ?_;refine gX rfl _ rfl rfl (p:=⟨x,tc,c,s,wv,pv⟩) (fun w' hw' =>by obtain ⟨p,rfl⟩:=hw';exact fun i v hv=>cell_regrown (HR2.out i v hv) p.d p.os) ?_;go_simp;go_big_quiet_step (exact Calls.regrown_of (C1.out _ (HB2.out.trans ((below_regrown w2 _ _).mono HB2.out.size))));refine gX rfl _ rfl rfl (p:=⟨x,tc,c,s,wv,pv⟩) (fun w' hw' =>by obtain ⟨p,rfl⟩:=hw';exact fun i v hv=>cell_regrown (HR2.out i v hv) p.d p.os) ?_;go_simp;go_big_quiet_step (exact Calls.regrown_of (C2.out _ (HB2.out.trans ((below_regrown w2 _ _).mono HB2.out.size))))
    iterate 2 (go_big_quiet_step (fail))
    go_big_quiet_step (exact Calls.regrown_of (CA.out _ (HB2.out.trans ((below_regrown w2 _ _).mono HB2.out.size))))
    iterate 2 (go_big_quiet_step (fail))
    refine wpQuiet_nil ?_;intro pq;obtain ⟨dq,osq⟩:=pq;go_wp2_with fail;go_ret;exact ⟨rfl,HB2.out.trans ((below_regrown w2 dq osq).mono HB2.out.size),HG.out.below (HB2.out.trans ((below_regrown w2 dq osq).mono HB2.out.size))⟩
theorem MB {w:World}{p:Pw}{L:List Pw}{N:Nat}(hG:Gp w) (h:JE w N p L) (hN:N≤2000000):
 Calls prog 4 #[.agg p.arr] w fun e w' =>e= .returned (.bool true)∧Sp w w' :=by
 have hB1:=(Below.refl w.heap.size w).alloc (Nat.le_refl _) (.cells p.arr 31);have hbl:(w.alloc (.cells p.arr 31)).heap[w.heap.size]? =some (.cells p.arr 31 (0,0)):=aA w _;have h1:=h.below hB1;have hc:=wH h1.st h1.pv h1.each;have HG:=Lib.hid hG;have CA:Hid (∀w',Below w.heap.size w w' →Calls prog 9 #[] w' fun e w'' =>e= .returned (.bool true)∧Below w'.heap.size w' w''):=fun w' hb=>(OQ (hG.below hb)).mono fun _ _ he=>⟨he.1,he.2.1⟩
 cases hd:MG p L with
 |false=>
  rw [hd]at hc;clear h h1 hd hG;obtain ⟨x,tc,c,s,wv,pv⟩:=p;go_enter func4,ntmps4;go_wp2_with (refine aT rfl _ rfl rfl rfl hbl ?_);refine hc.mono ?_;rintro e w2 ⟨rfl,hb2⟩;have hB2:=hB1.trans (hb2.mono hB1.size);have ha:=CA.out _ hB2;go_wp2_with fail;refine ha.mono ?_;rintro e w3 ⟨rfl,hb3⟩;have hB3:=hB2.trans (hb3.mono hB2.size);go_wp2_with fail;go_ret;exact ⟨rfl,hB3,HG.out.below hB3⟩
 |true=>
  rw [hd]at hc;have hw:=h.wd hd;have hs:=h.agD hN hd;by_cases hm:May ⟨p.x,L.map Pw.x⟩
  · have C1:Hid (∀w',Below w.heap.size w w' →Calls prog 10 #[.agg p.arr] w' fun e w'' =>e= .returned (.string (eO ⟨p.x,L.map Pw.x⟩))∧Below w'.heap.size w' w''):=fun w' hb=>Kz (hG.below hb) (hw.below hb) hs hm
    have C2:Hid (∀w',Below w.heap.size w w' →Calls prog 11 #[.agg p.arr] w' fun e w'' =>e= .returned (.string (eO ⟨p.x,L.map Pw.x⟩))∧Below w'.heap.size w' w''):=fun w' hb=>RD (hG.below hb) (hw.below hb) hs hm
    obtain ⟨t,ht⟩:∃t,eO ⟨p.x,L.map Pw.x⟩=t:=⟨_,rfl⟩;rw [ht]at C1 C2;have s0:(t.toList==t.toList)=true:=jQ rfl;clear ht;clear h h1 hd hG hw hs hm;obtain ⟨x,tc,c,s,wv,pv⟩:=p;go_enter func4,ntmps4;go_wp2_with (refine aT rfl _ rfl rfl rfl hbl ?_);refine hc.mono ?_;rintro e w2 ⟨rfl,hb2⟩;have HB2:=Lib.hid (hB1.trans (hb2.mono hB1.size));have qb:w2.heap[w.heap.size]? =some (.cells (aG x tc c s wv pv) 31 (0,0)):=bL hb2 hbl;have HR2:Hid (∀j v,(aG x tc c s wv pv).toList[j]? =some v→w2.cell? ⟨w.heap.size,0+j,none⟩=some v):=fun j v hv=>by rw [Nat.zero_add,au qb];simpa using hv
    clear hb2 hB1 hbl qb hc;go_wp2_with fail;refine wp_region_quiet_below (by kernel_rfl) (by kernel_rfl) ?_;refine gX rfl _ rfl rfl (p:=⟨x,tc,c,s,wv,pv⟩) (fun w' hw' =>by obtain ⟨p,rfl⟩:=hw';exact fun i v hv=>cell_regrown (HR2.out i v hv) p.d p.os) ?_;go_simp;go_big_quiet_step (exact Calls.regrown_of (C1.out _ (HB2.out.trans ((below_regrown w2 _ _).mono HB2.out.size))));refine gX rfl _ rfl rfl (p:=⟨x,tc,c,s,wv,pv⟩) (fun w' hw' =>by obtain ⟨p,rfl⟩:=hw';exact fun i v hv=>cell_regrown (HR2.out i v hv) p.d p.os) ?_;go_simp;go_big_quiet_step (exact Calls.regrown_of (C2.out _ (HB2.out.trans ((below_regrown w2 _ _).mono HB2.out.size))))
    iterate 2 (go_big_quiet_step (fail))
    go_big_quiet_step (exact Calls.regrown_of (CA.out _ (HB2.out.trans ((below_regrown w2 _ _).mono HB2.out.size))))
    iterate 2 (go_big_quiet_step (fail))
    refine wpQuiet_nil ?_;intro pq;obtain ⟨dq,osq⟩:=pq;go_wp2_with fail;go_ret;exact ⟨rfl,HB2.out.trans ((below_regrown w2 dq osq).mono HB2.out.size),HG.out.below (HB2.out.trans ((below_regrown w2 dq osq).mono HB2.out.size))⟩
  · have C1:Hid (∀w',Below w.heap.size w w' →Calls prog 10 #[.agg p.arr] w' fun e w'' =>e= .returned (.string ⟨#[]⟩)∧Below w'.heap.size w' w''):=fun w' hb=>Zq (hG.below hb) (hw.below hb) hs hm
    have C2:Hid (∀w',Below w.heap.size w w' →Calls prog 11 #[.agg p.arr] w' fun e w'' =>e= .returned (.string ⟨#[]⟩)∧Below w'.heap.size w' w''):=fun w' hb=>Wj (hG.below hb) (hw.below hb) hs hm
    have s0:((⟨#[]⟩:ah).toList==(⟨#[]⟩:ah).toList)=true:=jQ rfl;clear h h1 hd hG hw hs hm;obtain ⟨x,tc,c,s,wv,pv⟩:=p;go_enter func4,ntmps4;go_wp2_with (refine aT rfl _ rfl rfl rfl hbl ?_);refine hc.mono ?_;rintro e w2 ⟨rfl,hb2⟩;have HB2:=Lib.hid (hB1.trans (hb2.mono hB1.size));have qb:w2.heap[w.heap.size]? =some (.cells (aG x tc c s wv pv) 31 (0,0)):=bL hb2 hbl;have HR2:Hid (∀j v,(aG x tc c s wv pv).toList[j]? =some v→w2.cell? ⟨w.heap.size,0+j,none⟩=some v):=fun j v hv=>by rw [Nat.zero_add,au qb];simpa using hv
    clear hb2 hB1 hbl qb hc;go_wp2_with fail;refine wp_region_quiet_below (by kernel_rfl) (by kernel_rfl) ?_;refine gX rfl _ rfl rfl (p:=⟨x,tc,c,s,wv,pv⟩) (fun w' hw' =>by obtain ⟨p,rfl⟩:=hw';exact fun i v hv=>cell_regrown (HR2.out i v hv) p.d p.os) ?_;go_simp;go_big_quiet_step (exact Calls.regrown_of (C1.out _ (HB2.out.trans ((below_regrown w2 _ _).mono HB2.out.size))));refine gX rfl _ rfl rfl (p:=⟨x,tc,c,s,wv,pv⟩) (fun w' hw' =>by obtain ⟨p,rfl⟩:=hw';exact fun i v hv=>cell_regrown (HR2.out i v hv) p.d p.os) ?_;go_simp;go_big_quiet_step (exact Calls.regrown_of (C2.out _ (HB2.out.trans ((below_regrown w2 _ _).mono HB2.out.size))))
    iterate 2 (go_big_quiet_step (fail))
    go_big_quiet_step (exact Calls.regrown_of (CA.out _ (HB2.out.trans ((below_regrown w2 _ _).mono HB2.out.size))))
    iterate 2 (go_big_quiet_step (fail))
    refine wpQuiet_nil ?_;intro pq;obtain ⟨dq,osq⟩:=pq;go_wp2_with fail;go_ret;exact ⟨rfl,HB2.out.trans ((below_regrown w2 dq osq).mono HB2.out.size),HG.out.below (HB2.out.trans ((below_regrown w2 dq osq).mono HB2.out.size))⟩
end Go.Proofs.YtcgadodckoalnaaGreatDoor
