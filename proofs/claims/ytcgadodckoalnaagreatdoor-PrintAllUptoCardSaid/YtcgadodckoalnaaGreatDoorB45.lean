/- Parts of a proof. -/
import Derived.Deep.CutBlock
import Derived.Test.YtcgadodckoalnaaGreatDoorB42
import Derived.Test.YtcgadodckoalnaaGreatDoorB43
set_option maxHeartbeats 8000000
set_option maxRecDepth 100000
namespace Go.Proofs.YtcgadodckoalnaaGreatDoor
open Go.Proofs.Tryz
open Go.RowKit
open aN
def iK (x:Sx):Sx:={x with sets:=x.sets.map jy,aH:=x.aH.map jy,stamp:=lV x.stamp,ttl:=lV x.ttl,limit:=lV x.limit}
theorem lJ (n:Int):Ba (lV n):=by have h:=lW n;unfold Ba;unfold Mj at h;omega
theorem qU {L:List Pr}(sep:List Pc) (hs:(aF sep).size≤100) (h:qD L):(aF (eB sep (L.map fun p=>bJ (jy p)))).size≤100*8000200:=by
 rw [←CW sep (fun p=>bJ (jy p)) L];exact Nat.le_trans (FK sep _ L L.length 8000000 (fun x hx=>Ml (h.2 x hx))) (Nat.mul_le_mul h.1 (by omega))
theorem ZC {L:List ByteArray}(hl:L.length≤100) (h:∀q∈L,q.size≤2000000):(aF (eB bA (L.map fun s=> [Pc.wd s]))).size≤100*2000006:=by
 rw [←CW bA (fun s=> [Pc.wd s]) L];exact Nat.le_trans (FK bA _ L L.length 2000000 (fun x hx=>by rw [D6];exact h x hx)) (Nat.mul_le_mul hl (by decide))
theorem CY (L:List Pr):(L.map jy).map bJ=L.map fun p=>bJ (jy p):=by rw [List.map_map];rfl
theorem Rx {w:World}{x:Sx}{tc c s wv pv:Value}(hk:x.kind=6) (hok:gB x) (hin:iJ w x tc c s wv) (hpv:pv.oneCell' =true):
 Calls prog 48 #[.agg (aG x tc c s wv pv)] w fun e w' =>e= .returned (.string (aF (oF (iK x))))∧Below w.heap.size w w' :=by
 have hone:=hin.one hpv;have hB1:=(Below.refl w.heap.size w).alloc (Nat.le_refl _) (.cells (aG x tc c s wv pv) 31);have hV:=aA w (.cells (aG x tc c s wv pv) 31);obtain ⟨Ju,p8⟩:∃r,aF (dA (lV x.stamp) (lV x.ttl))=r:=⟨_,rfl⟩;have Il:Ju.size≤1000:=by rw [←p8];exact jl _ _ (lJ _) (lJ _)
 obtain ⟨Je,Ww⟩:∃r,aF (eB bA (x.sets.map fun p=>bJ (jy p)))=r:=⟨_,rfl⟩;have zJe:Je.size≤800020000:=by rw [←Ww];exact qU bA (by decide) hok.sets
 obtain ⟨Jw,mM⟩:∃r,aF (eB rY (x.aH.map fun p=>bJ (jy p)))=r:=⟨_,rfl⟩;have CF:Jw.size≤800020000:=by rw [←mM];exact qU rY (by decide) hok.aH
 have nJ:((⟨#[85,80,68,65,84,69,32]⟩:ah)).size≤7:=by decide
 obtain ⟨A1,nK,LZ,nO⟩:=aM nJ (show (x.bT).size≤2000000 from hok.bT) (by decide);obtain ⟨A2,pF,Oq,pG⟩:=aM nO (show (Ju).size≤1000 from Il) (by decide);obtain ⟨A3,pI,Ot,pJ⟩:=aM pG (show ((⟨#[32,83,69,84,32]⟩:ah)).size≤5 from by decide) (by decide);obtain ⟨A4,pK,Ou,pO⟩:=aM pJ (show (Je).size≤800020000 from zJe) (by decide);obtain ⟨A5,pQ,Ov,sj⟩:=aM pO (show ((⟨#[32,87,72,69,82,69,32]⟩:ah)).size≤7 from by decide) (by decide);obtain ⟨A6,Cz,Ah6,EK⟩:=aM sj (show (Jw).size≤800020000 from CF) (by decide)
 have HE:Hid (A6=aF (oF (iK x))):=by
  show _=_;rw [←Cz,←pQ,←pK,←pI,←pF,←nK,←p8,←Ww,←mM];unfold oF iK eF;simp only [CY];apply ByteArray.ext;apply Array.ext';simp [bq,aF,Pc.text]
 clear nK pF pI pK pQ Cz;clear nJ nO pG pJ pO sj EK;clear Il zJe CF;go_enter func48,ntmps48;go_upto_region 2 with fail
 generalize w.alloc (.cells (aG x tc c s wv pv) 31)=w1 at *;have k0:w1.cell? ⟨w.heap.size,0,none⟩=some (.int .i64 6):=by rw [(aK hV).1,hk]
 have k2:w1.cell? ⟨w.heap.size,2,none⟩=some (.string x.bT):=(aK hV).2.2.1;have k12:w1.cell? ⟨w.heap.size,12,none⟩=some (s):=(aK hV).2.2.2.2.2.2.2.2.2.2.2.2.1;have k13:w1.cell? ⟨w.heap.size,13,none⟩=some (wv):=(aK hV).2.2.2.2.2.2.2.2.2.2.2.2.2.1;have HR:Hid (∀j v,(aG x tc c s wv pv).toList[j]? =some v→w1.cell? ⟨w.heap.size,0+j,none⟩=some v):=fun j v hv=>by rw [Nat.zero_add,au hV];simpa using hv
 have HB1:=Lib.hid hB1;have CJu:Hid (∀w',Below w1.heap.size w1 w' →Calls prog 80 #[.agg (aG x tc c s wv pv)] w' fun e w'' =>e= .returned (.string Ju)∧Below w'.heap.size w' w''):=fun w' hb=>by have h:=(wG (w:=w') x tc c s wv pv);rw [p8]at h;exact h
 have CJe:Hid (∀w',Below w1.heap.size w1 w' →Calls prog 81 #[s, .string (⟨#[44,32]⟩:ah)] w' fun e w'' =>e= .returned (.string Je)∧Below w'.heap.size w' w''):=fun w' hb=>by have h:=(oC bA (by decide) hok.sets.1 (hin.s.below (hB1.trans (hb.mono hB1.size))) hok.sets);rw [iI]at h;rw [Ww]at h;exact h
 have CJw:Hid (∀w',Below w1.heap.size w1 w' →Calls prog 81 #[wv, .string (⟨#[32,65,78,68,32]⟩:ah)] w' fun e w'' =>e= .returned (.string Jw)∧Below w'.heap.size w' w''):=fun w' hb=>by have h:=(oC rY (by decide) hok.aH.1 (hin.wv.below (hB1.trans (hb.mono hB1.size))) hok.aH);rw [wo]at h;rw [mM]at h;exact h
 clear p8 Ww mM;clear hok hin hV hB1 hone;go_upto_region 10 with fail
 have r2:=fun d os=>cell_regrown k2 d os
 have r12:=fun d os=>cell_regrown k12 d os
 have r13:=fun d os=>cell_regrown k13 d os
 clear k0 k2 k12 k13;refine wp_region_quiet_below (by kernel_rfl) (by kernel_rfl) ?_
 iterate 3 (go_big_quiet_step (fail))
 refine gX rfl _ rfl rfl (p:=⟨x,tc,c,s,wv,pv⟩) (fun w' hw' =>by obtain ⟨p,rfl⟩:=hw';exact fun i v hv=>cell_regrown (HR.out i v hv) p.d p.os) ?_;go_simp;go_big_quiet_step (exact Calls.regrown_of (CJu.out _ (below_regrown w1 _ _)))
 iterate 4 (go_big_quiet_step (fail))
 go_big_quiet_step (exact Calls.regrown_of (CJe.out _ (below_regrown w1 _ _)))
 iterate 4 (go_big_quiet_step (fail))
 go_big_quiet_step (exact Calls.regrown_of (CJw.out _ (below_regrown w1 _ _)))
 iterate 2 (go_big_quiet_step (fail))
 refine wpQuiet_nil ?_;intro pq;obtain ⟨dq,osq⟩:=pq;go_wp2_with fail;go_ret;rw [HE.out];exact ⟨rfl,HB1.out.trans ((below_regrown w1 dq osq).mono HB1.out.size)⟩
theorem O1 {w:World}{x:Sx}{tc c s wv pv:Value}(hk:x.kind=7) (hok:gB x) (hin:iJ w x tc c s wv) (hc0:x.aI= []) (hpv:pv.oneCell' =true):
 Calls prog 48 #[.agg (aG x tc c s wv pv)] w fun e w' =>e= .returned (.string (aF (jT (iK x))))∧Below w.heap.size w w' :=by
 obtain ⟨cA,cC,hce,_⟩:=hin.c;rw [hc0]at hce;replace hce:c= .slice cA 0 cC:=hce;subst hce;have hone:=hin.one hpv;have hB1:=(Below.refl w.heap.size w).alloc (Nat.le_refl _) (.cells (aG x tc (.slice cA 0 cC) s wv pv) 31);have hV:=aA w (.cells (aG x tc (.slice cA 0 cC) s wv pv) 31);obtain ⟨Ju,p8⟩:∃r,aF (dA (lV x.stamp) (lV x.ttl))=r:=⟨_,rfl⟩;have Il:Ju.size≤1000:=by rw [←p8];exact jl _ _ (lJ _) (lJ _)
 obtain ⟨Jw,mM⟩:∃r,aF (eB rY (x.aH.map fun p=>bJ (jy p)))=r:=⟨_,rfl⟩;have CF:Jw.size≤800020000:=by rw [←mM];exact qU rY (by decide) hok.aH
 have nJ:((⟨#[68,69,76,69,84,69,32]⟩:ah)).size≤7:=by decide
 obtain ⟨A1,nK,LZ,nO⟩:=aM nJ (show ((⟨#[70,82,79,77,32]⟩:ah)).size≤5 from by decide) (by decide);obtain ⟨A2,pF,Oq,pG⟩:=aM nO (show (x.bT).size≤2000000 from hok.bT) (by decide);obtain ⟨A3,pI,Ot,pJ⟩:=aM pG (show (Ju).size≤1000 from Il) (by decide);obtain ⟨A4,pK,Ou,pO⟩:=aM pJ (show ((⟨#[32,87,72,69,82,69,32]⟩:ah)).size≤7 from by decide) (by decide);obtain ⟨A5,pQ,Ov,sj⟩:=aM pO (show (Jw).size≤800020000 from CF) (by decide)
 have HE:Hid (A5=aF (jT (iK x))):=by
  show _=_;rw [←pQ,←pK,←pI,←pF,←nK,←p8,←mM];unfold jT iK eF;rw [if_pos hc0];simp only [CY];apply ByteArray.ext;apply Array.ext';simp [bq,aF,Pc.text]
 clear nK pF pI pK pQ;clear nJ nO pG pJ pO sj;clear Il CF;go_enter func48,ntmps48;go_upto_region 2 with fail
 generalize w.alloc (.cells (aG x tc (.slice cA 0 cC) s wv pv) 31)=w1 at *;have k0:w1.cell? ⟨w.heap.size,0,none⟩=some (.int .i64 7):=by rw [(aK hV).1,hk]
 have k2:w1.cell? ⟨w.heap.size,2,none⟩=some (.string x.bT):=(aK hV).2.2.1;have k11:w1.cell? ⟨w.heap.size,11,none⟩=some (.slice cA 0 cC):=(aK hV).2.2.2.2.2.2.2.2.2.2.2.1;have k13:w1.cell? ⟨w.heap.size,13,none⟩=some (wv):=(aK hV).2.2.2.2.2.2.2.2.2.2.2.2.2.1;have HR:Hid (∀j v,(aG x tc (.slice cA 0 cC) s wv pv).toList[j]? =some v→w1.cell? ⟨w.heap.size,0+j,none⟩=some v):=fun j v hv=>by rw [Nat.zero_add,au hV];simpa using hv
 have HB1:=Lib.hid hB1;have CJu:Hid (∀w',Below w1.heap.size w1 w' →Calls prog 80 #[.agg (aG x tc (.slice cA 0 cC) s wv pv)] w' fun e w'' =>e= .returned (.string Ju)∧Below w'.heap.size w' w''):=fun w' hb=>by have h:=(wG (w:=w') x tc (.slice cA 0 cC) s wv pv);rw [p8]at h;exact h
 have CJw:Hid (∀w',Below w1.heap.size w1 w' →Calls prog 81 #[wv, .string (⟨#[32,65,78,68,32]⟩:ah)] w' fun e w'' =>e= .returned (.string Jw)∧Below w'.heap.size w' w''):=fun w' hb=>by have h:=(oC rY (by decide) hok.aH.1 (hin.wv.below (hB1.trans (hb.mono hB1.size))) hok.aH);rw [wo]at h;rw [mM]at h;exact h
 clear p8 mM;clear hok hin hV hB1 hone;clear hc0;go_upto_region 15 with fail
 have r2:=fun d os=>cell_regrown k2 d os
 have r13:=fun d os=>cell_regrown k13 d os
 clear k0 k2 k11 k13;refine wp_region_quiet_below (by kernel_rfl) (by kernel_rfl) ?_
 iterate 5 (go_big_quiet_step (fail))
 refine gX rfl _ rfl rfl (p:=⟨x,tc,(.slice cA 0 cC),s,wv,pv⟩) (fun w' hw' =>by obtain ⟨p,rfl⟩:=hw';exact fun i v hv=>cell_regrown (HR.out i v hv) p.d p.os) ?_;go_simp;go_big_quiet_step (exact Calls.regrown_of (CJu.out _ (below_regrown w1 _ _)))
 iterate 4 (go_big_quiet_step (fail))
 go_big_quiet_step (exact Calls.regrown_of (CJw.out _ (below_regrown w1 _ _)))
 iterate 2 (go_big_quiet_step (fail))
 refine wpQuiet_nil ?_;intro pq;obtain ⟨dq,osq⟩:=pq;go_wp2_with fail;go_ret;rw [HE.out];exact ⟨rfl,HB1.out.trans ((below_regrown w1 dq osq).mono HB1.out.size)⟩
theorem O4 {w:World}{x:Sx}{tc c s wv pv:Value}(hk:x.kind=7) (hok:gB x) (hin:iJ w x tc c s wv) (hc0:¬x.aI= []) (hpv:pv.oneCell' =true):
 Calls prog 48 #[.agg (aG x tc c s wv pv)] w fun e w' =>e= .returned (.string (aF (jT (iK x))))∧Below w.heap.size w w' :=by
 obtain ⟨cA,cC,hce,_⟩:=hin.c;subst hce;have p0:(0:Int)<(x.aI.length:Int):=by have:=List.length_pos_iff.2 hc0;omega
 have hone:=hin.one hpv;have hB1:=(Below.refl w.heap.size w).alloc (Nat.le_refl _) (.cells (aG x tc (.slice cA x.aI.length cC) s wv pv) 31);have hV:=aA w (.cells (aG x tc (.slice cA x.aI.length cC) s wv pv) 31);obtain ⟨Jl,eJl⟩:∃r,aF (eB bA (x.aI.map fun s=> [Pc.wd s]))=r:=⟨_,rfl⟩;have zJl:Jl.size≤200000600:=by rw [←eJl];exact ZC (Nat.le_trans hok.aI.1 (by decide)) hok.aI.2
 obtain ⟨Ju,p8⟩:∃r,aF (dA (lV x.stamp) (lV x.ttl))=r:=⟨_,rfl⟩;have Il:Ju.size≤1000:=by rw [←p8];exact jl _ _ (lJ _) (lJ _)
 obtain ⟨Jw,mM⟩:∃r,aF (eB rY (x.aH.map fun p=>bJ (jy p)))=r:=⟨_,rfl⟩;have CF:Jw.size≤800020000:=by rw [←mM];exact qU rY (by decide) hok.aH
 have nJ:((⟨#[68,69,76,69,84,69,32]⟩:ah)).size≤7:=by decide
 obtain ⟨A1,nK,LZ,nO⟩:=aM nJ (show (Jl).size≤200000600 from zJl) (by decide);obtain ⟨A2,pF,Oq,pG⟩:=aM nO (show ((⟨#[32]⟩:ah)).size≤1 from by decide) (by decide);obtain ⟨A3,pI,Ot,pJ⟩:=aM pG (show ((⟨#[70,82,79,77,32]⟩:ah)).size≤5 from by decide) (by decide);obtain ⟨A4,pK,Ou,pO⟩:=aM pJ (show (x.bT).size≤2000000 from hok.bT) (by decide);obtain ⟨A5,pQ,Ov,sj⟩:=aM pO (show (Ju).size≤1000 from Il) (by decide);obtain ⟨A6,Cz,Ah6,EK⟩:=aM sj (show ((⟨#[32,87,72,69,82,69,32]⟩:ah)).size≤7 from by decide) (by decide);obtain ⟨A7,Kn,Ah7,Pm⟩:=aM EK (show (Jw).size≤800020000 from CF) (by decide)
 have HE:Hid (A7=aF (jT (iK x))):=by
  show _=_;rw [←Kn,←Cz,←pQ,←pK,←pI,←pF,←nK,←eJl,←p8,←mM];unfold jT iK eF fZ;rw [if_neg hc0,if_neg hc0];simp only [CY];apply ByteArray.ext;apply Array.ext';simp [bq,aF,Pc.text]
 clear nK pF pI pK pQ Cz Kn;clear nJ nO pG pJ pO sj EK Pm;clear zJl Il CF;go_enter func48,ntmps48;go_upto_region 2 with fail
 generalize w.alloc (.cells (aG x tc (.slice cA x.aI.length cC) s wv pv) 31)=w1 at *;have k0:w1.cell? ⟨w.heap.size,0,none⟩=some (.int .i64 7):=by rw [(aK hV).1,hk]
 have k2:w1.cell? ⟨w.heap.size,2,none⟩=some (.string x.bT):=(aK hV).2.2.1;have k11:w1.cell? ⟨w.heap.size,11,none⟩=some (.slice cA x.aI.length cC):=(aK hV).2.2.2.2.2.2.2.2.2.2.2.1;have k13:w1.cell? ⟨w.heap.size,13,none⟩=some (wv):=(aK hV).2.2.2.2.2.2.2.2.2.2.2.2.2.1;have HR:Hid (∀j v,(aG x tc (.slice cA x.aI.length cC) s wv pv).toList[j]? =some v→w1.cell? ⟨w.heap.size,0+j,none⟩=some v):=fun j v hv=>by rw [Nat.zero_add,au hV];simpa using hv
 have HB1:=Lib.hid hB1;have CJu:Hid (∀w',Below w1.heap.size w1 w' →Calls prog 80 #[.agg (aG x tc (.slice cA x.aI.length cC) s wv pv)] w' fun e w'' =>e= .returned (.string Ju)∧Below w'.heap.size w' w''):=fun w' hb=>by have h:=(wG (w:=w') x tc (.slice cA x.aI.length cC) s wv pv);rw [p8]at h;exact h
 have CJw:Hid (∀w',Below w1.heap.size w1 w' →Calls prog 81 #[wv, .string (⟨#[32,65,78,68,32]⟩:ah)] w' fun e w'' =>e= .returned (.string Jw)∧Below w'.heap.size w' w''):=fun w' hb=>by have h:=(oC rY (by decide) hok.aH.1 (hin.wv.below (hB1.trans (hb.mono hB1.size))) hok.aH);rw [wo]at h;rw [mM]at h;exact h
 have CM:Hid (Calls prog 78 #[(.slice cA x.aI.length cC)] w1 fun e w'' =>e= .returned (.string Jl)∧w'' =w1):=by have h:=(zq (Nat.le_trans hok.aI.1 (by decide)) (hin.c.below (hB1)) fun x hx=>Nat.le_trans (hok.aI.2 x hx) (by decide));rw [eJl]at h;exact h
 clear eJl p8 mM;clear hok hin hV hB1 hone;clear hc0;go_upto_region 15 with (go_at_call 78;refine CM.out.mono ?_;rintro e w2 ⟨rfl,h2⟩;obtain rfl:=h2.symm)
 have r2:=fun d os=>cell_regrown k2 d os
 have r13:=fun d os=>cell_regrown k13 d os
 clear k0 k2 k11 k13;refine wp_region_quiet_below (by kernel_rfl) (by kernel_rfl) ?_
 iterate 5 (go_big_quiet_step (fail))
 refine gX rfl _ rfl rfl (p:=⟨x,tc,(.slice cA x.aI.length cC),s,wv,pv⟩) (fun w' hw' =>by obtain ⟨p,rfl⟩:=hw';exact fun i v hv=>cell_regrown (HR.out i v hv) p.d p.os) ?_;go_simp;go_big_quiet_step (exact Calls.regrown_of (CJu.out _ (below_regrown w1 _ _)))
 iterate 4 (go_big_quiet_step (fail))
 go_big_quiet_step (exact Calls.regrown_of (CJw.out _ (below_regrown w1 _ _)))
 iterate 2 (go_big_quiet_step (fail))
 refine wpQuiet_nil ?_;intro pq;obtain ⟨dq,osq⟩:=pq;go_wp2_with fail;go_ret;rw [HE.out];exact ⟨rfl,HB1.out.trans ((below_regrown w1 dq osq).mono HB1.out.size)⟩
theorem ZE {w:World}{x:Sx}{tc c s wv pv:Value}(hk:x.kind=8) (hok:gB x) (hin:iJ w x tc c s wv) (hl0:x.limit=0) (hpv:pv.oneCell' =true):
 Calls prog 48 #[.agg (aG x tc c s wv pv)] w fun e w' =>e= .returned (.string (aF (zx (iK x))))∧Below w.heap.size w w' :=by
 have p0:(x.limit !=0)=false:=by rw [hl0];rfl
 have hone:=hin.one hpv;have hB1:=(Below.refl w.heap.size w).alloc (Nat.le_refl _) (.cells (aG x tc c s wv pv) 31);have hV:=aA w (.cells (aG x tc c s wv pv) 31);obtain ⟨Js,vo⟩:∃r,aF (fZ x.aI)=r:=⟨_,rfl⟩;have L9:Js.size≤200000600:=by rw [←vo];exact lN (Nat.le_trans hok.aI.1 (by decide)) hok.aI.2
 obtain ⟨Jw,mM⟩:∃r,aF (eB rY (x.aH.map fun p=>bJ (jy p)))=r:=⟨_,rfl⟩;have CF:Jw.size≤800020000:=by rw [←mM];exact qU rY (by decide) hok.aH
 have nJ:((⟨#[83,69,76,69,67,84,32]⟩:ah)).size≤7:=by decide
 obtain ⟨A1,nK,LZ,nO⟩:=aM nJ (show (Js).size≤200000600 from L9) (by decide);obtain ⟨A2,pF,Oq,pG⟩:=aM nO (show ((⟨#[32,70,82,79,77,32]⟩:ah)).size≤6 from by decide) (by decide);obtain ⟨A3,pI,Ot,pJ⟩:=aM pG (show (x.bT).size≤2000000 from hok.bT) (by decide);obtain ⟨A4,pK,Ou,pO⟩:=aM pJ (show ((⟨#[32,87,72,69,82,69,32]⟩:ah)).size≤7 from by decide) (by decide);obtain ⟨A5,pQ,Ov,sj⟩:=aM pO (show (Jw).size≤800020000 from CF) (by decide)
 have HE:Hid (A5=aF (zx (iK x))):=by
  show _=_;rw [←pQ,←pK,←pI,←pF,←nK,←vo,←mM];unfold zx iK eF;rw [if_pos (show lV x.limit=0 from (zu _).2 hl0)];simp only [CY];apply ByteArray.ext;apply Array.ext';simp [bq,aF,Pc.text]
 clear nK pF pI pK pQ;clear nJ nO pG pJ pO sj;clear L9 CF;go_enter func48,ntmps48;go_upto_region 2 with fail
 generalize w.alloc (.cells (aG x tc c s wv pv) 31)=w1 at *;have k0:w1.cell? ⟨w.heap.size,0,none⟩=some (.int .i64 8):=by rw [(aK hV).1,hk]
 have k2:w1.cell? ⟨w.heap.size,2,none⟩=some (.string x.bT):=(aK hV).2.2.1;have k11:w1.cell? ⟨w.heap.size,11,none⟩=some (c):=(aK hV).2.2.2.2.2.2.2.2.2.2.2.1;have k13:w1.cell? ⟨w.heap.size,13,none⟩=some (wv):=(aK hV).2.2.2.2.2.2.2.2.2.2.2.2.2.1;have k16:w1.cell? ⟨w.heap.size,16,none⟩=some (.int .i64 x.limit):=(aK hV).2.2.2.2.2.2.2.2.2.2.2.2.2.2.2.2.1;have HR:Hid (∀j v,(aG x tc c s wv pv).toList[j]? =some v→w1.cell? ⟨w.heap.size,0+j,none⟩=some v):=fun j v hv=>by rw [Nat.zero_add,au hV];simpa using hv
 have HB1:=Lib.hid hB1;have CJs:Hid (∀w',Below w1.heap.size w1 w' →Calls prog 47 #[c] w' fun e w'' =>e= .returned (.string Js)∧Below w'.heap.size w' w''):=fun w' hb=>by have h:=(D7 (Nat.le_trans hok.aI.1 (by decide)) (hin.c.below (hB1.trans (hb.mono hB1.size))) hok.aI.2);rw [vo]at h;exact h.mono fun _ _ he=>⟨he.1,by rw [he.2];exact Below.refl _ _⟩
 have CJw:Hid (∀w',Below w1.heap.size w1 w' →Calls prog 81 #[wv, .string (⟨#[32,65,78,68,32]⟩:ah)] w' fun e w'' =>e= .returned (.string Jw)∧Below w'.heap.size w' w''):=fun w' hb=>by have h:=(oC rY (by decide) hok.aH.1 (hin.wv.below (hB1.trans (hb.mono hB1.size))) hok.aH);rw [wo]at h;rw [mM]at h;exact h
 clear vo mM;clear hok hin hV hB1 hone;clear hl0;go_upto_region 17 with fail
 have r2:=fun d os=>cell_regrown k2 d os
 have r11:=fun d os=>cell_regrown k11 d os
 have r13:=fun d os=>cell_regrown k13 d os
 have r16:=fun d os=>cell_regrown k16 d os
 clear k0 k2 k11 k13 k16;refine wp_region_quiet_below (by kernel_rfl) (by kernel_rfl) ?_
 iterate 2 (go_big_quiet_step (fail))
 go_big_quiet_step (exact Calls.regrown_of (CJs.out _ (below_regrown w1 _ _)))
 iterate 8 (go_big_quiet_step (fail))
 go_big_quiet_step (exact Calls.regrown_of (CJw.out _ (below_regrown w1 _ _)))
 iterate 2 (go_big_quiet_step (fail))
 refine wpQuiet_nil ?_
 first|(intro w9 Oi;obtain ⟨⟨dq,osq⟩,rfl⟩:=Oi)|(intro pq;obtain ⟨dq,osq⟩:=pq)
 have k16:=r16 dq osq;have HB2:=Lib.hid (HB1.out.trans ((below_regrown w1 dq osq).mono HB1.out.size));clear r2 r11 r13 r16;go_wp2_with fail;go_ret;rw [HE.out];exact ⟨rfl,HB2.out⟩
theorem ZF {w:World}{x:Sx}{tc c s wv pv:Value}(hk:x.kind=8) (hok:gB x) (hin:iJ w x tc c s wv) (hl0:¬x.limit=0) (hpv:pv.oneCell' =true):
 Calls prog 48 #[.agg (aG x tc c s wv pv)] w fun e w' =>e= .returned (.string (aF (zx (iK x))))∧Below w.heap.size w w' :=by
 have p0:(x.limit !=0)=true:=bne_iff_ne.2 hl0;have d1:=fun w=>II x.limit w
 have d2:=fun w=>CV (lV x.limit) (lW _).1 (lW _).2 w
 have hone:=hin.one hpv;have hB1:=(Below.refl w.heap.size w).alloc (Nat.le_refl _) (.cells (aG x tc c s wv pv) 31);have hV:=aA w (.cells (aG x tc c s wv pv) 31);obtain ⟨Js,vo⟩:∃r,aF (fZ x.aI)=r:=⟨_,rfl⟩;have L9:Js.size≤200000600:=by rw [←vo];exact lN (Nat.le_trans hok.aI.1 (by decide)) hok.aI.2
 obtain ⟨Jw,mM⟩:∃r,aF (eB rY (x.aH.map fun p=>bJ (jy p)))=r:=⟨_,rfl⟩;have CF:Jw.size≤800020000:=by rw [←mM];exact qU rY (by decide) hok.aH
 obtain ⟨Jd,eJd⟩:∃r,gY (lV x.limit)=r:=⟨_,rfl⟩;have zJd:Jd.size≤22:=by rw [←eJd];exact D9 (lW _)
 have nJ:((⟨#[83,69,76,69,67,84,32]⟩:ah)).size≤7:=by decide
 obtain ⟨A1,nK,LZ,nO⟩:=aM nJ (show (Js).size≤200000600 from L9) (by decide);obtain ⟨A2,pF,Oq,pG⟩:=aM nO (show ((⟨#[32,70,82,79,77,32]⟩:ah)).size≤6 from by decide) (by decide);obtain ⟨A3,pI,Ot,pJ⟩:=aM pG (show (x.bT).size≤2000000 from hok.bT) (by decide);obtain ⟨A4,pK,Ou,pO⟩:=aM pJ (show ((⟨#[32,87,72,69,82,69,32]⟩:ah)).size≤7 from by decide) (by decide);obtain ⟨A5,pQ,Ov,sj⟩:=aM pO (show (Jw).size≤800020000 from CF) (by decide);obtain ⟨A6,Cz,Ah6,EK⟩:=aM sj (show ((⟨#[32,76,73,77,73,84,32]⟩:ah)).size≤7 from by decide) (by decide);obtain ⟨A7,Kn,Ah7,Pm⟩:=aM EK (show (Jd).size≤22 from zJd) (by decide)
 have HE:Hid (A7=aF (zx (iK x))):=by
  show _=_;rw [←Kn,←Cz,←pQ,←pK,←pI,←pF,←nK,←vo,←mM,←eJd];unfold zx iK eF;rw [if_neg (show¬lV x.limit=0 from fun h=>hl0 ((zu _).1 h))];simp only [CY];apply ByteArray.ext;apply Array.ext';simp [bq,aF,Pc.text]
 clear nK pF pI pK pQ Cz Kn;clear nJ nO pG pJ pO sj EK Pm;clear L9 CF zJd;go_enter func48,ntmps48;go_upto_region 2 with fail
 generalize w.alloc (.cells (aG x tc c s wv pv) 31)=w1 at *;have k0:w1.cell? ⟨w.heap.size,0,none⟩=some (.int .i64 8):=by rw [(aK hV).1,hk]
 have k2:w1.cell? ⟨w.heap.size,2,none⟩=some (.string x.bT):=(aK hV).2.2.1;have k11:w1.cell? ⟨w.heap.size,11,none⟩=some (c):=(aK hV).2.2.2.2.2.2.2.2.2.2.2.1;have k13:w1.cell? ⟨w.heap.size,13,none⟩=some (wv):=(aK hV).2.2.2.2.2.2.2.2.2.2.2.2.2.1;have k16:w1.cell? ⟨w.heap.size,16,none⟩=some (.int .i64 x.limit):=(aK hV).2.2.2.2.2.2.2.2.2.2.2.2.2.2.2.2.1;have HR:Hid (∀j v,(aG x tc c s wv pv).toList[j]? =some v→w1.cell? ⟨w.heap.size,0+j,none⟩=some v):=fun j v hv=>by rw [Nat.zero_add,au hV];simpa using hv
 have HB1:=Lib.hid hB1;have CJs:Hid (∀w',Below w1.heap.size w1 w' →Calls prog 47 #[c] w' fun e w'' =>e= .returned (.string Js)∧Below w'.heap.size w' w''):=fun w' hb=>by have h:=(D7 (Nat.le_trans hok.aI.1 (by decide)) (hin.c.below (hB1.trans (hb.mono hB1.size))) hok.aI.2);rw [vo]at h;exact h.mono fun _ _ he=>⟨he.1,by rw [he.2];exact Below.refl _ _⟩
 have CJw:Hid (∀w',Below w1.heap.size w1 w' →Calls prog 81 #[wv, .string (⟨#[32,65,78,68,32]⟩:ah)] w' fun e w'' =>e= .returned (.string Jw)∧Below w'.heap.size w' w''):=fun w' hb=>by have h:=(oC rY (by decide) hok.aH.1 (hin.wv.below (hB1.trans (hb.mono hB1.size))) hok.aH);rw [wo]at h;rw [mM]at h;exact h
 rw [eJd]at d2;clear vo mM eJd;clear hok hin hV hB1 hone;clear hl0;go_upto_region 17 with fail
 have r2:=fun d os=>cell_regrown k2 d os
 have r11:=fun d os=>cell_regrown k11 d os
 have r13:=fun d os=>cell_regrown k13 d os
 have r16:=fun d os=>cell_regrown k16 d os
 clear k0 k2 k11 k13 k16;refine wp_region_quiet_below (by kernel_rfl) (by kernel_rfl) ?_
 iterate 2 (go_big_quiet_step (fail))
 go_big_quiet_step (exact Calls.regrown_of (CJs.out _ (below_regrown w1 _ _)))
 iterate 8 (go_big_quiet_step (fail))
 go_big_quiet_step (exact Calls.regrown_of (CJw.out _ (below_regrown w1 _ _)))
 iterate 2 (go_big_quiet_step (fail))
 refine wpQuiet_nil ?_
 first|(intro w9 Oi;obtain ⟨⟨dq,osq⟩,rfl⟩:=Oi)|(intro pq;obtain ⟨dq,osq⟩:=pq)
 have k16:=r16 dq osq;have HB2:=Lib.hid (HB1.out.trans ((below_regrown w1 dq osq).mono HB1.out.size));clear r2 r11 r13 r16;go_wp2_with (first|(go_at_call 83;refine (d1 _).mono ?_;rintro e w2 ⟨rfl,rfl⟩)|(go_at_call 82;refine (d2 _).mono ?_;rintro e w2 ⟨rfl,rfl⟩));go_ret;rw [HE.out];exact ⟨rfl,HB2.out⟩
end Go.Proofs.YtcgadodckoalnaaGreatDoor
