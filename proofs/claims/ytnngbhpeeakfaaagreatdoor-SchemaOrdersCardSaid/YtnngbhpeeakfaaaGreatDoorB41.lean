/- Parts of a proof. -/
import Derived.Test.YtnngbhpeeakfaaaGreatDoorB40
set_option maxHeartbeats 2000000
set_option maxRecDepth 100000
namespace Go.Proofs.YtnngbhpeeakfaaaGreatDoor
open Go.Proofs.Tryz
open Go.RowKit
open aK
theorem zZ (a b c:Value) (w:World):(Instr.build 92 #[(0, .agg #[a,b,c])]).run prog w= .ok (.agg #[a,b,c]) w:=by kernel_rfl
theorem xX {w:World}{s:Sw}(hG:Gp w) (h:pK w s) (hO:FH s.x):
 Calls prog 17 #[.agg s.arr] w fun e w' =>e= .returned (.bool s.x.check)∧Below w.heap.size w w' :=by
 have hB1:=(Below.refl w.heap.size w).alloc (Nat.le_refl _) (.cells s.arr 31);have hb0:=aB w (.cells s.arr 31);have hc:=NT (hG.below hB1) (h.below hB1) hO;have hbw:=fun W=>zZ (.int .i64 s.last) s.tv s.vv W
 unfold Sw.arr at *;clear h hG hO;go_enter func17,ntmps17;go_wp2_with (refine cZ Tryz.ug rfl _ rfl rfl rfl (dz hb0) ?_);refine hc.mono ?_;rintro e w2 ⟨rfl,hb2⟩;go_wp2_with fail;go_ret;exact ⟨rfl,hB1.trans (hb2.mono hB1.size)⟩
theorem GJ {w:World}{s:Sw}(h:pK w s) (hO:FH s.x) (nm:ByteArray):
 Calls prog 72 #[.agg s.arr, .string nm] w fun e w' =>e= .returned (.bool (s.x.there nm))∧Below w.heap.size w w' :=by
 have hB1:=(Below.refl w.heap.size w).alloc (Nat.le_refl _) (.cells s.arr 92);have hb0:=aB w (.cells s.arr 92);have hnT:s.T.length≤100:=by have:=hO.nt;unfold Sw.x at this;simpa using this
 have hnV:s.V.length≤100:=by have:=hO.nv;unfold Sw.x at this;simpa using this
 have hc:=xW (h.below hB1) (by omega) (fun q hq=>(hO.t q.t (List.mem_map_of_mem hq)).n) nm;have HV:Hid (∀w',Below w.heap.size w w' →Calls prog 12 #[.agg s.arr, .string nm] w' fun e w'' =>∃q:Vv,e= .returned (.tuple #[.agg q.arr, .bool (DI s.x.vs nm).isSome])∧vM w'' q∧q.x=(DI s.x.vs nm).getD Vw.zero∧Below w'.heap.size w' w''):=fun w' hb=>SE (h.below hb) (by omega) (fun q hq=>(hO.v q.x (List.mem_map_of_mem hq)).n) nm
 unfold Sw.arr aK.Sc.there at *;obtain ⟨b1,e1⟩:∃b,(jP s.x.ts nm).isSome=b:=⟨_,rfl⟩;obtain ⟨b2,e2⟩:∃b,(DI s.x.vs nm).isSome=b:=⟨_,rfl⟩;rw [e1]at hc⊢;rw [e2]at HV⊢;clear h hO e1 e2;go_enter func72,ntmps72;go_wp2_with (refine cZ Tryz.ug rfl _ rfl rfl rfl (dz hb0) ?_);refine hc.mono ?_;rintro e w2 ⟨q,rfl,hqi,_,hb2⟩;have hq1:=hqi.one;have hB2:=hB1.trans (hb2.mono hB1.size);have hB3:=hB2.alloc hB2.size (.cells q.arr 27);have hb3:=ay (aH hb2 hb0) (.cells q.arr 27);have hc2:=HV.out _ hB3;clear hc;go_wp2_with (first|refine fq Tryz.Ac rfl _ _ rfl rfl rfl rfl rfl rfl hq1 ?_|refine cZ Tryz.ug rfl _ rfl rfl rfl (dz hb3) ?_);refine hc2.mono ?_;rintro e w4 ⟨u,rfl,hui,_,hb4⟩;have hu1:=hui.one;have hB4:=hB3.trans (hb4.mono hB3.size);clear hc2;cases b1
 all_goals
  go_wp2_with (refine fq Tryz.Jf rfl _ _ rfl rfl rfl rfl rfl rfl hu1 ?_);go_ret;exact ⟨rfl,hB4.alloc hB4.size _⟩
end Go.Proofs.YtnngbhpeeakfaaaGreatDoor
