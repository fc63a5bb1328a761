/- Parts of a proof. -/
import Derived.StillTailTactics
import Derived.Deep.RegionWith
import Derived.Test.YtnngbhpeeakfaaaGreatDoorB01
import Derived.Test.YtnngbhpeeakfaaaGreatDoorB11
set_option maxHeartbeats 2000000
set_option maxRecDepth 100000
namespace Go.Proofs.YtnngbhpeeakfaaaGreatDoor
open Go.Proofs.Tryz
open Go.RowKit
open aK
def wu (L:Nat) (w0 wr:World) (b:Nat) (s:ByteArray) (P:List Pt) (i k:Nat) (v:Int):Prop:=
 SQ L wr b s P k∧((w0.alloc (.cells #[.int .i64 0, .string ⟨#[]⟩, .int .i64 0, .int .i64 0] 276)).alloc (.cells #[.int .i64 2, .string ⟨#[]⟩, .int .i64 0, .int .i64 i] 276)).heap.size≤wr.heap.size∧
 wr.heap[w0.heap.size]? =some (.cells #[.int .i64 0, .string ⟨#[]⟩, .int .i64 0, .int .i64 0] 276 (0,0))∧
 wr.heap[w0.heap.size+1]? =some (.cells #[.int .i64 2, .string ⟨#[]⟩, .int .i64 v, .int .i64 i] 276 (0,0))∧
 w0.grownBy wr (some b)
theorem wu.drewN {L:Nat}{w0 wr w1:World}{b:Nat}{s:ByteArray}{P:List Pt}{i k m:Nat}{v:Int}(h:wu L w0 wr b s P i k v) (hm:w1=wr.drewN m):wu L w0 w1 b s P i k v:=by
 subst hm;obtain ⟨h1,h2,h3,h4,h5⟩:=h;exact ⟨h1.heap rfl,h2,h3,h4,aJ h5 (bD _ _ _)⟩
theorem wu.UG {L:Nat}{w0 wr:World}{b:Nat}{s:ByteArray}{P:List Pt}{i k:Nat}{v:Int}(h:wu L w0 wr b s P i k v) (hL:L≤w0.heap.size) (j:Nat):wu L w0 (wr.setCell ⟨b,2,none⟩ (.int .i64 j)) b s P i j v:=by
 obtain ⟨h1,h2,h3,h4,h5⟩:=h;have hb:=h1.2.1;exact ⟨h1.set j,by simpa [World.setCell]using h2,bg h3 _ _ (by show _≠b;omega),bg h4 _ _ (by show _≠b;omega),aJ h5 (jq _ _ _ _)⟩
theorem wu.DL {L:Nat}{w0 wr:World}{b:Nat}{s:ByteArray}{P:List Pt}{i k:Nat}{v:Int}(h:wu L w0 wr b s P i k v) (hL:L≤w0.heap.size) (u:Int):wu L w0 (wr.setCell ⟨w0.heap.size+1,2,none⟩ (.int .i64 u)) b s P i k u:=by
 obtain ⟨h1,h2,h3,h4,h5⟩:=h;refine ⟨h1.setOther (by omega) _ _,by simpa [World.setCell]using h2,bg h3 _ _ (by simp), ?_, ?_⟩
 · have:=bG h4 2 (.int .i64 u);rw [this];simp
 · have h6:=jq wr (w0.heap.size+1) 2 (.int .i64 u)
   exact ⟨h6.os.trans h5.os,h6.tape.trans h5.tape,h6.output.trans h5.output,Nat.le_trans h5.size h6.size,fun q hq hr=>by
    have:=h5.size;rw [h6.block q (by omega) (fun e=>by cases e;omega)];exact h5.block q hq hr⟩
theorem UH {P:List Pt}{k:Nat}(h:bT P k=true):∃hk:k<P.length,48≤P[k].r∧P[k].r≤57∧jl P k=P[k].r:=by
 have hk:=rP h;refine ⟨hk, ?_⟩;unfold bT at h;rw [List.getElem?_eq_getElem hk]at h;simp only [iw,Bool.and_eq_true,decide_eq_true_eq]at h;refine ⟨by omega,by omega, ?_⟩;unfold jl;rw [List.getElem?_eq_getElem hk]
theorem wu.fin {L:Nat}{w0 wr:World}{b:Nat}{s:ByteArray}{P:List Pt}{i k:Nat}{v:Int}(h:wu L w0 wr b s P i k v) (hL:L≤w0.heap.size) (n:Nat) (W:World)
 (hW:W=((((((wr.drewN n).setCell ⟨w0.heap.size,0,none⟩ (.int .i64 2)).setCell ⟨w0.heap.size,1,none⟩ (.string ⟨#[]⟩)).setCell ⟨w0.heap.size,2,none⟩ (.int .i64 v)).setCell ⟨w0.heap.size,3,none⟩ (.int .i64 i)))):
 W.cell? ⟨w0.heap.size,0,none⟩=some (.int .i64 2)∧W.cell? ⟨w0.heap.size,1,none⟩=some (.string ⟨#[]⟩)∧W.cell? ⟨w0.heap.size,2,none⟩=some (.int .i64 v)∧W.cell? ⟨w0.heap.size,3,none⟩=some (.int .i64 i)∧
 SQ L W b s P k∧w0.grownBy W (some b):=by
 subst hW;obtain ⟨h1,h2,h3,h4,h5⟩:=h.drewN (m:=n) rfl;have hp:=MO h3 (.int .i64 2) (.string ⟨#[]⟩) (.int .i64 v) (.int .i64 i);refine ⟨by rw [aj hp];rfl,by rw [aj hp];rfl,by rw [aj hp];rfl,by rw [aj hp];rfl,(((h1.setOther hL _ _).setOther hL _ _).setOther hL _ _).setOther hL _ _, ?_⟩;have h6:=yV (wr.drewN n) w0.heap.size (.int .i64 2) (.string ⟨#[]⟩) (.int .i64 v) (.int .i64 i)
 exact ⟨h6.os.trans h5.os,h6.tape.trans h5.tape,h6.output.trans h5.output,Nat.le_trans h5.size h6.size,fun q hq hr=>by
  have:=h5.size;rw [h6.block q (by omega) (fun e=>by cases e;omega)];exact h5.block q hq hr⟩
theorem DN {L:Nat}(w:World) (b:Nat) (s:ByteArray) (P:List Pt) (i:Nat) (h:SQ L w b s P i) (hs:s.size≤100000) (rO:uq s P) (hi:i<P.length):
 Calls prog 264 #[.pointer (some ⟨b,0,none⟩)] w (Ct L w b s P (bR P i)):=by
 obtain ⟨hPl,_,_⟩:=rO;have HL:=h.le;have HS:=Lib.hid h;obtain ⟨_,_,_,_,c2,f2,_⟩:=h.cells;have hblt:=h.lt
 have HN0:Hid (wu L w ((w.alloc (.cells #[.int .i64 0, .string ⟨#[]⟩, .int .i64 0, .int .i64 0] 276)).alloc (.cells #[.int .i64 2, .string ⟨#[]⟩, .int .i64 0, .int .i64 i] 276)) b s P i i 0):=by
  have hb2:Below w.heap.size w ((w.alloc (.cells #[.int .i64 0, .string ⟨#[]⟩, .int .i64 0, .int .i64 0] 276)).alloc (.cells #[.int .i64 2, .string ⟨#[]⟩, .int .i64 0, .int .i64 i] 276)):=((Below.refl _ _).alloc (Nat.le_refl _) _).alloc (by simp) _;refine ⟨h.below hb2,Nat.le_refl _,ay (aB w _) _, ?_,jR hb2 _⟩;have:=aB (w.alloc (.cells #[.int .i64 0, .string ⟨#[]⟩, .int .i64 0, .int .i64 0] 276)) (.cells #[.int .i64 2, .string ⟨#[]⟩, .int .i64 0, .int .i64 i] 276);simpa using this
 clear h;go_enter func264,ntmps264;go_wp2_with fail;obtain ⟨wa,hwa⟩:∃wa,wa=((w.alloc (.cells #[.int .i64 0, .string ⟨#[]⟩, .int .i64 0, .int .i64 0] 276)).alloc (.cells #[.int .i64 2, .string ⟨#[]⟩, .int .i64 0, .int .i64 i] 276)):=⟨_,rfl⟩;rw [←hwa]at HN0⊢;have hN:=HN0.out;clear hwa HN0 c2 f2;cases h45:fE P i 45
 · have HNS:Hid (bJ P i=i):=by show _=_;unfold bJ;rw [h45];rfl
   refine (lJ _ b s P i 0 45 hN.1 (by omega) (by omega) _ h45).mono ?_;rintro e w1 ⟨rfl,m,hm⟩;replace hN:=hN.drewN hm;clear hm;have Aa:=Lib.hid h45;clear h45 HS;go_wp2_with fail;refine (Io _ b s P i hN.1).mono ?_;rintro e w2 ⟨rfl,m,hm⟩;replace hN:=hN.drewN hm;clear hm;obtain ⟨d0,hd0⟩:∃d0,bT P i=d0:=⟨_,rfl⟩;have HR:Hid (fV P i=num P i 0 d0):=by show _=_;unfold fV;rw [HNS.out,hd0]
   rw [hd0];clear hd0;go_wp2_with fail
   go_loopw [6] (fun okv wr=>∃(k:Nat) (v:Int) (ok:Bool),okv= .bool ok∧wu L w wr b s P i k v∧Hid (num P i 0 d0=num P k v ok)∧0≤v∧v≤1099511627776∧k≤P.length) (fun _ wr=>P.length - l7 wr b)
   case atStart=>exact ⟨i,0,d0,rfl,hN,rfl,by omega,by omega,by omega⟩
   case round=>
    obtain ⟨k,v,ok,rfl,hN,HE,hv0,hv1,hk⟩:=hrel;have HK:=Lib.hid (dX hN.1);cases hD:bT P k
    · have HF:Hid (fV P i=(v,ok,k)):=by show _=_;rw [HR.out,HE.out,jI hD]
      go_wp2_with fail;refine (BD _ b s P k hN.1 _ hD).mono ?_;rintro e w3 ⟨rfl,m,hm⟩;replace hN:=hN.drewN hm;clear hm hD;go_wp2_with fail;obtain ⟨t0,t1,t2,t3⟩:w3.cell? ⟨w.heap.size+1,0,none⟩=some (.int .i64 2)∧w3.cell? ⟨w.heap.size+1,1,none⟩=some (.string ⟨#[]⟩)∧w3.cell? ⟨w.heap.size+1,2,none⟩=some (.int .i64 v)∧w3.cell? ⟨w.heap.size+1,3,none⟩=some (.int .i64 i):=⟨by rw [aj hN.2.2.2.1];rfl,by rw [aj hN.2.2.2.1];rfl,by rw [aj hN.2.2.2.1];rfl,by rw [aj hN.2.2.2.1];rfl⟩;have MP:=Lib.hid (fun n=>Im (w3.drewN n) b s P k (hN.1.heap rfl));obtain ⟨y0,y1,y2,y3⟩:w3.cell? ⟨w.heap.size,0,none⟩=some (.int .i64 0)∧w3.cell? ⟨w.heap.size,1,none⟩=some (.string ⟨#[]⟩)∧w3.cell? ⟨w.heap.size,2,none⟩=some (.int .i64 0)∧w3.cell? ⟨w.heap.size,3,none⟩=some (.int .i64 0):=⟨by rw [aj hN.2.2.1];rfl,by rw [aj hN.2.2.1];rfl,by rw [aj hN.2.2.1];rfl,by rw [aj hN.2.2.1];rfl⟩;have u0:=ak hN.2.2.1 0;have u1:=ak hN.2.2.1 1;have u2:=ak hN.2.2.1 2;have u3:=ak hN.2.2.1 3;have hfin:=Lib.hid (hN.fin HL);clear hN;cases ok
      · clear MP;go_region;obtain ⟨r0,r1,r2,r3,pO,hg4⟩:=hfin.out 1 (((((w3.setCell ⟨w.heap.size,0,none⟩ (.int .i64 2)).setCell ⟨w.heap.size,1,none⟩ (.string ⟨#[]⟩)).setCell ⟨w.heap.size,2,none⟩ (.int .i64 v)).setCell ⟨w.heap.size,3,none⟩ (.int .i64 i))).drew rfl;go_wp2_with fail;refine bodyPost_ret (v:= .tuple #[.agg #[.int .i64 2, .string ⟨#[]⟩, .int .i64 v, .int .i64 i], .bool false]) (by simp [results,results264,go_sem,r0,r1,r2,r3]) rfl ?_;refine ⟨?_, ?_,hg4⟩
        · unfold bR SY;rw [Aa.out,HF.out];rfl
        · show SQ L _ b s P _;unfold bR;rw [HF.out];exact pO
      · go_region_with ((go_at_call 261;refine (MP.out 1).mono ?_;rintro e w4 ⟨rfl,m,hm⟩))
        all_goals
         obtain ⟨r0,r1,r2,r3,pO,hg4⟩:=hfin.out (1+m) (((((w3.drewN (1+m)).setCell ⟨w.heap.size,0,none⟩ (.int .i64 2)).setCell ⟨w.heap.size,1,none⟩ (.string ⟨#[]⟩)).setCell ⟨w.heap.size,2,none⟩ (.int .i64 v)).setCell ⟨w.heap.size,3,none⟩ (.int .i64 i)) rfl;clear hm MP t0 t1 t2 t3 y0 y1 y2 y3 u0 u1 u2 u3;go_wp2_with fail;refine bodyPost_ret (v:= .tuple #[.agg #[.int .i64 2, .string ⟨#[]⟩, .int .i64 v, .int .i64 i], .bool (!dn P k)]) (by simp [results,results264,go_sem,r0,r1,r2,r3]) rfl ?_;refine ⟨?_, ?_,hg4⟩
         · unfold bR SY;rw [Aa.out,HF.out];rfl
         · show SQ L _ b s P _;unfold bR;rw [HF.out];exact pO
    · obtain ⟨hkl,hr0,hr1,hrA⟩:=UH hD;have HG:=Lib.hid (oI (v:=v) (ok:=ok) hD);go_wp2_with fail;refine (BD _ b s P k hN.1 _ hD).mono ?_;rintro e w3 ⟨rfl,m,hm⟩;replace hN:=hN.drewN hm;clear hm hD;obtain ⟨a,cap,_,c1,c2,f2,hc⟩:=hN.1.cells;obtain ⟨g,rfl,hcc⟩:=hc (by omega);have c4:w3.cell? ⟨g,k*3,none⟩=some (.int .i32 P[k].r):=hcc _ _ (by have:=lI P k 0 hkl (by omega);rw [Nat.add_zero]at this;rw [this];rfl);have c5:w3.cell? ⟨w.heap.size+1,2,none⟩=some (.int .i64 v):=by rw [aj hN.2.2.2.1];rfl
      have f5:w3.frozen? ⟨w.heap.size+1,2,none⟩=false:=ak hN.2.2.2.1 2;rw [hrA]at HG;clear hc hcc hrA;generalize P[k].r=r at *;have q1:IntKind.i64.wrap (v*10)=v*10:=IntWalk.i64_in _ (by omega);have q2:IntKind.i32.wrap ((r:Int) - 48)=(r:Int) - 48:=wraps_i32 _ (by omega) (by omega);have q3:IntKind.i64.wrap ((r:Int) - 48)=(r:Int) - 48:=IntWalk.i64_in _ (by omega);have q4:IntKind.i64.wrap (v*10+((r:Int) - 48))=v*10+((r:Int) - 48):=IntWalk.i64_in _ (by omega);have q5:(k:Int)<(P.length:Int):=by omega
      have q6:(0:Int)≤(k:Int):=by omega
      go_wp2_with fail;go_still_tail 18,(by kernel_rfl);cases ok
      all_goals
       go_wp2_with fail;go_roundw
       case rel=>
        refine ⟨k+1,min (v*10+((r:Int) - 48)) 1099511627776,_,rfl,wu.drewN (m:=1) ((((hN.DL HL _).DL HL _).UG HL (k+1))) (by push_cast;rfl), ?_,by omega,by omega,by omega⟩;show _=_;rw [HE.out,HG.out];rfl
       case measure=>
        have h1:=dX (((hN.DL HL (v*10+((r:Int) - 48))).DL HL (min (v*10+((r:Int) - 48)) 1099511627776)).UG HL (k+1)).1
        push_cast at h1
        have h2:=HK.out;rw [h2];refine Nat.lt_of_le_of_lt (Nat.le_of_eq (congrArg (P.length - ·) h1)) ?_;show P.length - (k+1)<P.length - k;omega
 · have HNS:Hid (bJ P i=(i+1)):=by show _=_;unfold bJ;rw [h45];rfl
   refine (lJ _ b s P i 0 45 hN.1 (by omega) (by omega) _ h45).mono ?_;rintro e w1 ⟨rfl,m,hm⟩;replace hN:=hN.drewN hm;clear hm;have Aa:=Lib.hid h45;obtain ⟨_,_,_,_,c2,f2,_⟩:=hN.1.cells;have HB:=Lib.hid hN;clear h45 HS hN;go_wp2_with fail;have hN:=HB.out.UG HL (i+1);rw [show (((i+1:Nat):Int))=(i:Int)+1 by push_cast;rfl]at hN;clear HB c2 f2;refine (Io _ b s P (i+1) hN.1).mono ?_;rintro e w2 ⟨rfl,m,hm⟩;replace hN:=hN.drewN hm;clear hm;obtain ⟨d0,hd0⟩:∃d0,bT P (i+1)=d0:=⟨_,rfl⟩;have HR:Hid (fV P i=num P (i+1) 0 d0):=by show _=_;unfold fV;rw [HNS.out,hd0]
   rw [hd0];clear hd0;go_wp2_with fail
   go_loopw [6] (fun okv wr=>∃(k:Nat) (v:Int) (ok:Bool),okv= .bool ok∧wu L w wr b s P i k v∧Hid (num P (i+1) 0 d0=num P k v ok)∧0≤v∧v≤1099511627776∧k≤P.length) (fun _ wr=>P.length - l7 wr b)
   case atStart=>exact ⟨(i+1),0,d0,rfl,hN,rfl,by omega,by omega,by omega⟩
   case round=>
    obtain ⟨k,v,ok,rfl,hN,HE,hv0,hv1,hk⟩:=hrel;have HK:=Lib.hid (dX hN.1);cases hD:bT P k
    · have HF:Hid (fV P i=(v,ok,k)):=by show _=_;rw [HR.out,HE.out,jI hD]
      go_wp2_with fail;refine (BD _ b s P k hN.1 _ hD).mono ?_;rintro e w3 ⟨rfl,m,hm⟩;replace hN:=hN.drewN hm;clear hm hD;have c5:w3.cell? ⟨w.heap.size+1,2,none⟩=some (.int .i64 v):=by rw [aj hN.2.2.2.1];rfl
      have f5:w3.frozen? ⟨w.heap.size+1,2,none⟩=false:=ak hN.2.2.2.1 2;have q1:IntKind.i64.wrap (-v)= -v:=IntWalk.i64_in _ (by omega);have HB:=Lib.hid hN;clear hN;go_wp2_with fail;have hN:=HB.out.DL HL (-v);generalize w3.setCell ⟨w.heap.size+1,2,none⟩ (.int .i64 (-v))=w5 at hN⊢;clear HB c5 f5 q1;obtain ⟨t0,t1,t2,t3⟩:w5.cell? ⟨w.heap.size+1,0,none⟩=some (.int .i64 2)∧w5.cell? ⟨w.heap.size+1,1,none⟩=some (.string ⟨#[]⟩)∧w5.cell? ⟨w.heap.size+1,2,none⟩=some (.int .i64 (-v))∧w5.cell? ⟨w.heap.size+1,3,none⟩=some (.int .i64 i):=⟨by rw [aj hN.2.2.2.1];rfl,by rw [aj hN.2.2.2.1];rfl,by rw [aj hN.2.2.2.1];rfl,by rw [aj hN.2.2.2.1];rfl⟩;have MP:=Lib.hid (fun n=>Im (w5.drewN n) b s P k (hN.1.heap rfl));obtain ⟨y0,y1,y2,y3⟩:w5.cell? ⟨w.heap.size,0,none⟩=some (.int .i64 0)∧w5.cell? ⟨w.heap.size,1,none⟩=some (.string ⟨#[]⟩)∧w5.cell? ⟨w.heap.size,2,none⟩=some (.int .i64 0)∧w5.cell? ⟨w.heap.size,3,none⟩=some (.int .i64 0):=⟨by rw [aj hN.2.2.1];rfl,by rw [aj hN.2.2.1];rfl,by rw [aj hN.2.2.1];rfl,by rw [aj hN.2.2.1];rfl⟩;have u0:=ak hN.2.2.1 0;have u1:=ak hN.2.2.1 1;have u2:=ak hN.2.2.1 2;have u3:=ak hN.2.2.1 3;have hfin:=Lib.hid (hN.fin HL);clear hN;cases ok
      · clear MP;go_region;obtain ⟨r0,r1,r2,r3,pO,hg4⟩:=hfin.out 1 (((((w5.setCell ⟨w.heap.size,0,none⟩ (.int .i64 2)).setCell ⟨w.heap.size,1,none⟩ (.string ⟨#[]⟩)).setCell ⟨w.heap.size,2,none⟩ (.int .i64 (-v))).setCell ⟨w.heap.size,3,none⟩ (.int .i64 i))).drew rfl;go_wp2_with fail;refine bodyPost_ret (v:= .tuple #[.agg #[.int .i64 2, .string ⟨#[]⟩, .int .i64 (-v), .int .i64 i], .bool false]) (by simp [results,results264,go_sem,r0,r1,r2,r3]) rfl ?_;refine ⟨?_, ?_,hg4⟩
        · unfold bR SY;rw [Aa.out,HF.out];rfl
        · show SQ L _ b s P _;unfold bR;rw [HF.out];exact pO
      · go_region_with ((go_at_call 261;refine (MP.out 1).mono ?_;rintro e w4 ⟨rfl,m,hm⟩))
        all_goals
         obtain ⟨r0,r1,r2,r3,pO,hg4⟩:=hfin.out (1+m) (((((w5.drewN (1+m)).setCell ⟨w.heap.size,0,none⟩ (.int .i64 2)).setCell ⟨w.heap.size,1,none⟩ (.string ⟨#[]⟩)).setCell ⟨w.heap.size,2,none⟩ (.int .i64 (-v))).setCell ⟨w.heap.size,3,none⟩ (.int .i64 i)) rfl;clear hm MP t0 t1 t2 t3 y0 y1 y2 y3 u0 u1 u2 u3;go_wp2_with fail;refine bodyPost_ret (v:= .tuple #[.agg #[.int .i64 2, .string ⟨#[]⟩, .int .i64 (-v), .int .i64 i], .bool (!dn P k)]) (by simp [results,results264,go_sem,r0,r1,r2,r3]) rfl ?_;refine ⟨?_, ?_,hg4⟩
         · unfold bR SY;rw [Aa.out,HF.out];rfl
         · show SQ L _ b s P _;unfold bR;rw [HF.out];exact pO
    · obtain ⟨hkl,hr0,hr1,hrA⟩:=UH hD;have HG:=Lib.hid (oI (v:=v) (ok:=ok) hD);go_wp2_with fail;refine (BD _ b s P k hN.1 _ hD).mono ?_;rintro e w3 ⟨rfl,m,hm⟩;replace hN:=hN.drewN hm;clear hm hD;obtain ⟨a,cap,_,c1,c2,f2,hc⟩:=hN.1.cells;obtain ⟨g,rfl,hcc⟩:=hc (by omega);have c4:w3.cell? ⟨g,k*3,none⟩=some (.int .i32 P[k].r):=hcc _ _ (by have:=lI P k 0 hkl (by omega);rw [Nat.add_zero]at this;rw [this];rfl);have c5:w3.cell? ⟨w.heap.size+1,2,none⟩=some (.int .i64 v):=by rw [aj hN.2.2.2.1];rfl
      have f5:w3.frozen? ⟨w.heap.size+1,2,none⟩=false:=ak hN.2.2.2.1 2;rw [hrA]at HG;clear hc hcc hrA;generalize P[k].r=r at *;have q1:IntKind.i64.wrap (v*10)=v*10:=IntWalk.i64_in _ (by omega);have q2:IntKind.i32.wrap ((r:Int) - 48)=(r:Int) - 48:=wraps_i32 _ (by omega) (by omega);have q3:IntKind.i64.wrap ((r:Int) - 48)=(r:Int) - 48:=IntWalk.i64_in _ (by omega);have q4:IntKind.i64.wrap (v*10+((r:Int) - 48))=v*10+((r:Int) - 48):=IntWalk.i64_in _ (by omega);have q5:(k:Int)<(P.length:Int):=by omega
      have q6:(0:Int)≤(k:Int):=by omega
      go_wp2_with fail;go_still_tail 18,(by kernel_rfl);cases ok
      all_goals
       go_wp2_with fail;go_roundw
       case rel=>
        refine ⟨k+1,min (v*10+((r:Int) - 48)) 1099511627776,_,rfl,wu.drewN (m:=1) ((((hN.DL HL _).DL HL _).UG HL (k+1))) (by push_cast;rfl), ?_,by omega,by omega,by omega⟩;show _=_;rw [HE.out,HG.out];rfl
       case measure=>
        have h1:=dX (((hN.DL HL (v*10+((r:Int) - 48))).DL HL (min (v*10+((r:Int) - 48)) 1099511627776)).UG HL (k+1)).1
        push_cast at h1
        have h2:=HK.out;rw [h2];refine Nat.lt_of_le_of_lt (Nat.le_of_eq (congrArg (P.length - ·) h1)) ?_;show P.length - (k+1)<P.length - k;omega
theorem X4 {w0 w1 w2:World}{a:Addr}{u:Value}(h:w1.cell? a=some u∧Below w0.heap.size w0 w1) (hb:Below w1.heap.size w1 w2):w2.cell? a=some u∧Below w0.heap.size w0 w2:=
 ⟨(Below.cell hb (World.block_lt_of_cell? _ _ h.1)).trans h.1,h.2.trans (hb.mono h.2.size)⟩
theorem kS {L:Nat}{w0 wr:World}{b:Nat}{s:ByteArray}{P:List Pt}{k:Nat}{x0 x1 x2 x3:Value}{T:TypeId}(h1:SQ L wr b s P k) (h3:wr.heap[w0.heap.size]? =some (.cells #[x0,x1,x2,x3] T (0,0))) (h5:w0.grownBy wr (some b)) (hL:L≤w0.heap.size) (v0 v1 v2 v3:Value) (W:World)
 (hW:W=(((wr.setCell ⟨w0.heap.size,0,none⟩ v0).setCell ⟨w0.heap.size,1,none⟩ v1).setCell ⟨w0.heap.size,2,none⟩ v2).setCell ⟨w0.heap.size,3,none⟩ v3):
 W.cell? ⟨w0.heap.size,0,none⟩=some v0∧W.cell? ⟨w0.heap.size,1,none⟩=some v1∧W.cell? ⟨w0.heap.size,2,none⟩=some v2∧W.cell? ⟨w0.heap.size,3,none⟩=some v3∧
 SQ L W b s P k∧w0.grownBy W (some b):=by
 subst hW;have hp:=MO h3 v0 v1 v2 v3;refine ⟨by rw [aj hp];rfl,by rw [aj hp];rfl,by rw [aj hp];rfl,by rw [aj hp];rfl,(((h1.setOther hL _ _).setOther hL _ _).setOther hL _ _).setOther hL _ _, ?_⟩;have h6:=yV wr w0.heap.size v0 v1 v2 v3
 exact ⟨h6.os.trans h5.os,h6.tape.trans h5.tape,h6.output.trans h5.output,Nat.le_trans h5.size h6.size,fun q hq hr=>by
  have:=h5.size;rw [h6.block q (by omega) (fun e=>by cases e;omega)];exact h5.block q hq hr⟩
theorem UJ (s:ByteArray) (f:Int) (w:World) (hs:s.size≤1000000):
 Calls prog 311 #[.string s, .int .i64 f] w fun e w' =>e= .returned (.tuple #[.string (Ah s f), .int .i64 (tT s f), .bool (BS s f)])∧Below w.heap.size w w' :=by
 rw [←Oe];exact Kt s f w hs
theorem UK {L:Nat}(ws w:World) (b:Nat) (s:ByteArray) (P:List Pt) (i:Nat) (h:SQ L w b s P i) (hG:Glob ws) (hB:Below ws.heap.size ws w) (hwb:ws.heap.size≤b) (hs:s.size≤100000) (rO:uq s P) (hi:i<P.length):
 Calls prog 265 #[.pointer (some ⟨b,0,none⟩)] w (Ct L w b s P (jm s P i)):=by
 obtain ⟨hPl,hmono,UE⟩:=rO;have HL:=h.le;have hblt:=h.lt;have OQ:=Lib.hid (UE i);have HS:Hid (SQ L (w.alloc (.cells #[.int .i64 0, .string ⟨#[]⟩, .int .i64 0, .int .i64 0] 276)) b s P i):=h.below ((Below.refl _ _).alloc (Nat.le_refl _) _);have HGW:Hid (∀wr,w.grownBy wr (some b)→Glob wr):=fun wr hg=>hG.below (hB.trans (jC hg hwb hB.size))
 obtain ⟨a,cap,c0,c1,c2,f2,_⟩:=h.cells;clear h hG hmono UE hB;go_enter func265,ntmps265;go_wp2_with fail;obtain ⟨w0,hw0⟩:∃w0,w0=w.alloc (.cells #[.int .i64 0, .string ⟨#[]⟩, .int .i64 0, .int .i64 0] 276):=⟨_,rfl⟩
 have H0:Hid (w0.heap.size=w.heap.size+1∧w0.heap[w.heap.size]? =some (.cells #[.int .i64 0, .string ⟨#[]⟩, .int .i64 0, .int .i64 0] 276 (0,0))∧w.grownBy w0 (some b)):=by
  refine ⟨by rw [hw0];simp,by rw [hw0];exact aB w _,by rw [hw0];exact jR ((Below.refl _ _).alloc (Nat.le_refl _) _) _⟩
 rw [←hw0]at HS⊢;clear hw0;have c0' :w0.cell? ⟨b,0,none⟩=some (.string s):=by obtain ⟨_,_,k0,_⟩:=HS.out.cells;exact k0
 have hS:w0.cell? ⟨b,0,none⟩=some (.string s)∧Below w0.heap.size w0 w0:=⟨c0',Below.refl _ _⟩;have hbt:=Lib.hid (xC (L:=L) · b s P i i);have hUn:=Lib.hid (fun f wx=>UJ s f wx (by omega))
 go_region_held3 (fun w' =>w'.cell? ⟨b,0,none⟩=some (.string s)∧Below w0.heap.size w0 w') (first|exact X4 (by assumption) hb2|exact ⟨c0',(Below.refl _ _).drew⟩)
  (first
   |(go_at_call 310;refine (hbt.out _ (HS.out.below (And.right (by assumption)))).mono ?_;rintro e w1 ⟨rfl,rfl⟩)
   |(go_at_call 311;refine (hUn.out _ _).mono ?_;rintro e w2 ⟨rfl,hb2⟩))
 have hT:w2.cell? ⟨b,0,none⟩=some (.string s)∧Below w0.heap.size w0 w2:=by assumption
 replace hS:=HS.out.below hT.2;have hblk:=bf H0.out.2.1 hT.2 (aG H0.out.2.1);have hg:=aJ H0.out.2.2 (jR hT.2 (some b));have HT:=Lib.hid (qG s P i);have hU:=FP s (aL s P i);have hN:=G6 s (aL s P i);clear hT c0 c1 c2 f2 hbt hUn c0' OQ HS;generalize Ah s (aL s P i)=U at *;generalize tT s (aL s P i)=N at *;generalize BS s (aL s P i)=O at *;have HW:Hid (w.heap.size<w2.heap.size):=aG hblk;go_wp2_with fail
 go_loopw [] (fun wr=>∃k,SQ L wr b s P k∧wr.heap[w.heap.size]? =some (.cells #[.int .i64 0, .string ⟨#[]⟩, .int .i64 0, .int .i64 0] 276 (0,0))∧w.grownBy wr (some b)∧Hid (bF P N i=bF P N k)∧k≤P.length) (fun wr=>P.length - l7 wr b)
 case atStart=>exact ⟨i,hS,hblk,hg,rfl,by omega⟩
 case round=>
  clear hS hblk hg;obtain ⟨k,hS,hblk,hg,HE,hk⟩:=hrel;have HK:=Lib.hid (dX hS);by_cases hlk:k<P.length
  · have he:=Lib.hid (fun n=>qW (wr.drewN n) b s P k (hS.heap rfl) false (decide_eq_false (by omega)));obtain ⟨a,cap,_,c1,c2,f2,hc⟩:=hS.cells;obtain ⟨g,rfl,hcc⟩:=hc (by omega);have c4:wr.cell? ⟨g,k*3+1,none⟩=some (.int .i64 P[k].at_):=hcc _ _ (by have:=lI P k 1 hlk (by omega);rw [this];rfl);have HP:=Lib.hid (List.getElem?_eq_getElem hlk);clear hc hcc;generalize P[k]=p at *;have q5:(k:Int)<(P.length:Int):=by omega
    have q6:(0:Int)≤(k:Int):=by omega
    cases hq:decide ((p.at_:Int)<N)
    · have HF:Hid (bF P N i=k):=by show _=_;rw [HE.out];unfold bF;exact eu (by rw [HP.out];exact hq)
      go_wp2_with fail;go_quiet ((go_at_call 188;exact Calls.quiet_of (he.out _)));obtain ⟨w3,hw3⟩:∃w3,w3=wr.drewN nq:=⟨_,rfl⟩;replace hS:=hS.heap (w' :=w3) (by rw [hw3];rfl);replace hblk:w3.heap[w.heap.size]? =some (.cells #[.int .i64 0, .string ⟨#[]⟩, .int .i64 0, .int .i64 0] 276 (0,0)):=by rw [hw3];exact hblk
      replace hg:=aJ hg (show _ from hw3▸bD _ nq (some b));rw [←hw3];have t0:w3.cell? ⟨w.heap.size,0,none⟩=some (.int .i64 0):=by rw [aj hblk];rfl
      have t1:w3.cell? ⟨w.heap.size,1,none⟩=some (.string ⟨#[]⟩):=by rw [aj hblk];rfl
      have t2:w3.cell? ⟨w.heap.size,2,none⟩=some (.int .i64 0):=by rw [aj hblk];rfl
      have t3:w3.cell? ⟨w.heap.size,3,none⟩=some (.int .i64 0):=by rw [aj hblk];rfl
      have u0:=ak hblk 0;have u1:=ak hblk 1;have u2:=ak hblk 2;have u3:=ak hblk 3;clear hw3 c1 c2 f2 c4 q5 q6 hq HP he;have QL:=Lib.hid (fun hz=>Gc U w3 (HGW.out _ hg) hz);cases O
      · go_wp2_with fail;obtain ⟨r0,r1,r2,r3,pO,hg4⟩:=kS hS hblk hg HL (.int .i64 3) (.string U) (.int .i64 0) (.int .i64 i) _ rfl;refine bodyPost_ret (v:= .tuple #[.agg #[.int .i64 3, .string U, .int .i64 0, .int .i64 i], .bool false]) (by simp [results,results265,go_sem,r0,r1,r2,r3]) rfl ?_;refine ⟨?_, ?_,hg4⟩
        · rw [HT.out];rfl
        · rw [HT.out];show SQ L _ b s P (bF P N i);rw [HF.out];exact pO
      · have HZ:Hid (decide (U.size≤100)=decide ((U.size:Int)≤100)):=by show _=_;rw [decide_eq_decide];omega
        cases hz:decide ((U.size:Int)≤100)
        · have HZ2:=Lib.hid hz;clear QL;go_wp2_with fail;obtain ⟨r0,r1,r2,r3,pO,hg4⟩:=kS hS hblk hg HL (.int .i64 3) (.string U) (.int .i64 0) (.int .i64 i) _ rfl;refine bodyPost_ret (v:= .tuple #[.agg #[.int .i64 3, .string U, .int .i64 0, .int .i64 i], .bool false]) (by simp [results,results265,go_sem,r0,r1,r2,r3]) rfl ?_;refine ⟨?_, ?_,hg4⟩
          · rw [HT.out,HZ.out,HZ2.out];rfl
          · rw [HT.out];show SQ L _ b s P (bF P N i);rw [HF.out];exact pO
        · have hz2:U.size≤100:=by have:=of_decide_eq_true hz;omega
          go_wp2_with fail;refine (QL.out (by omega)).mono ?_;rintro e w4 ⟨rfl,hb4⟩;replace hS:=hS.below hb4;replace hg:=aJ hg (jR hb4 (some b));replace hblk:=bf hblk hb4 (aG hblk);clear t0 t1 t2 t3 u0 u1 u2 u3 QL hb4;have t0:w4.cell? ⟨w.heap.size,0,none⟩=some (.int .i64 0):=by rw [aj hblk];rfl
          have t1:w4.cell? ⟨w.heap.size,1,none⟩=some (.string ⟨#[]⟩):=by rw [aj hblk];rfl
          have t2:w4.cell? ⟨w.heap.size,2,none⟩=some (.int .i64 0):=by rw [aj hblk];rfl
          have t3:w4.cell? ⟨w.heap.size,3,none⟩=some (.int .i64 0):=by rw [aj hblk];rfl
          have u0:=ak hblk 0;have u1:=ak hblk 1;have u2:=ak hblk 2;have u3:=ak hblk 3;have HZ2:=Lib.hid hz;clear hz;go_wp2_with fail;obtain ⟨r0,r1,r2,r3,pO,hg4⟩:=kS hS hblk hg HL (.int .i64 3) (.string U) (.int .i64 0) (.int .i64 i) _ rfl;refine bodyPost_ret (v:= .tuple #[.agg #[.int .i64 3, .string U, .int .i64 0, .int .i64 i], .bool (valid U)]) (by simp [results,results265,go_sem,r0,r1,r2,r3]) rfl ?_;refine ⟨?_, ?_,hg4⟩
          · rw [HT.out,HZ.out,HZ2.out];rfl
          · rw [HT.out];show SQ L _ b s P (bF P N i);rw [HF.out];exact pO
    · have HF:Hid (bF P N i=bF P N (k+1)):=by show _=_;rw [HE.out];unfold bF;exact fF hlk (by rw [HP.out];exact hq)
      go_wp2_with fail;go_quiet ((go_at_call 188;exact Calls.quiet_of (he.out _)));go_wp2_with fail;go_roundw
      case rel=>
       refine ⟨k+1,by have:=(hS.heap (w' :=wr.drewN nq) rfl).set (k+1);push_cast at this;exact this,bg (by exact hblk) _ _ (by show _≠b;omega),aJ (aJ hg (bD _ nq (some b))) (jq _ _ _ _),HF,by omega⟩
      case measure=>
       have h1:=dX ((hS.heap (w' :=wr.drewN nq) rfl).set (k+1));push_cast at h1;rw [h1,HK.out];omega
  · have he:=Lib.hid (fun n=>qW (wr.drewN n) b s P k (hS.heap rfl) true (decide_eq_true (by omega)));have HF:Hid (bF P N i=k):=by show _=_;rw [HE.out];unfold bF;exact oz (by omega)
    go_wp2_with fail;go_quiet ((go_at_call 188;exact Calls.quiet_of (he.out _)));obtain ⟨w3,hw3⟩:∃w3,w3=wr.drewN nq:=⟨_,rfl⟩;replace hS:=hS.heap (w' :=w3) (by rw [hw3];rfl);replace hblk:w3.heap[w.heap.size]? =some (.cells #[.int .i64 0, .string ⟨#[]⟩, .int .i64 0, .int .i64 0] 276 (0,0)):=by rw [hw3];exact hblk
    replace hg:=aJ hg (show _ from hw3▸bD _ nq (some b));rw [←hw3];have t0:w3.cell? ⟨w.heap.size,0,none⟩=some (.int .i64 0):=by rw [aj hblk];rfl
    have t1:w3.cell? ⟨w.heap.size,1,none⟩=some (.string ⟨#[]⟩):=by rw [aj hblk];rfl
    have t2:w3.cell? ⟨w.heap.size,2,none⟩=some (.int .i64 0):=by rw [aj hblk];rfl
    have t3:w3.cell? ⟨w.heap.size,3,none⟩=some (.int .i64 0):=by rw [aj hblk];rfl
    have u0:=ak hblk 0;have u1:=ak hblk 1;have u2:=ak hblk 2;have u3:=ak hblk 3;clear hw3 he;have QL:=Lib.hid (fun hz=>Gc U w3 (HGW.out _ hg) hz);cases O
    · go_wp2_with fail;obtain ⟨r0,r1,r2,r3,pO,hg4⟩:=kS hS hblk hg HL (.int .i64 3) (.string U) (.int .i64 0) (.int .i64 i) _ rfl;refine bodyPost_ret (v:= .tuple #[.agg #[.int .i64 3, .string U, .int .i64 0, .int .i64 i], .bool false]) (by simp [results,results265,go_sem,r0,r1,r2,r3]) rfl ?_;refine ⟨?_, ?_,hg4⟩
      · rw [HT.out];rfl
      · rw [HT.out];show SQ L _ b s P (bF P N i);rw [HF.out];exact pO
    · have HZ:Hid (decide (U.size≤100)=decide ((U.size:Int)≤100)):=by show _=_;rw [decide_eq_decide];omega
      cases hz:decide ((U.size:Int)≤100)
      · go_wp2_with fail;obtain ⟨r0,r1,r2,r3,pO,hg4⟩:=kS hS hblk hg HL (.int .i64 3) (.string U) (.int .i64 0) (.int .i64 i) _ rfl;refine bodyPost_ret (v:= .tuple #[.agg #[.int .i64 3, .string U, .int .i64 0, .int .i64 i], .bool false]) (by simp [results,results265,go_sem,r0,r1,r2,r3]) rfl ?_;refine ⟨?_, ?_,hg4⟩
        · rw [HT.out,HZ.out,hz];rfl
        · rw [HT.out];show SQ L _ b s P (bF P N i);rw [HF.out];exact pO
      · have hz2:U.size≤100:=by have:=of_decide_eq_true hz;omega
        go_wp2_with fail;refine (QL.out (by omega)).mono ?_;rintro e w4 ⟨rfl,hb4⟩;replace hS:=hS.below hb4;replace hg:=aJ hg (jR hb4 (some b));replace hblk:=bf hblk hb4 (aG hblk);clear t0 t1 t2 t3 u0 u1 u2 u3 QL hb4;have t0:w4.cell? ⟨w.heap.size,0,none⟩=some (.int .i64 0):=by rw [aj hblk];rfl
        have t1:w4.cell? ⟨w.heap.size,1,none⟩=some (.string ⟨#[]⟩):=by rw [aj hblk];rfl
        have t2:w4.cell? ⟨w.heap.size,2,none⟩=some (.int .i64 0):=by rw [aj hblk];rfl
        have t3:w4.cell? ⟨w.heap.size,3,none⟩=some (.int .i64 0):=by rw [aj hblk];rfl
        have u0:=ak hblk 0;have u1:=ak hblk 1;have u2:=ak hblk 2;have u3:=ak hblk 3;have HZ2:=Lib.hid hz;clear hz;go_wp2_with fail;obtain ⟨r0,r1,r2,r3,pO,hg4⟩:=kS hS hblk hg HL (.int .i64 3) (.string U) (.int .i64 0) (.int .i64 i) _ rfl;refine bodyPost_ret (v:= .tuple #[.agg #[.int .i64 3, .string U, .int .i64 0, .int .i64 i], .bool (valid U)]) (by simp [results,results265,go_sem,r0,r1,r2,r3]) rfl ?_;refine ⟨?_, ?_,hg4⟩
        · rw [HT.out,HZ.out,HZ2.out];rfl
        · rw [HT.out];show SQ L _ b s P (bF P N i);rw [HF.out];exact pO
theorem QM {a w:World}{b k:Nat}(h:a.grownBy w (some b)) (hk:a.heap.size≤k) (s:ByteArray) (p:Nat):a.grownBy (w.iterAt k s p) (some b):=
 ⟨h.os,h.tape,h.output,by rw [Lib.iterAt_size];exact h.size,fun i hi hr=>by rw [Lib.iterAt_other _ _ _ _ _ (by omega)];exact h.block i hi hr⟩
theorem Zn {L:Nat}{w:World}{b:Nat}{s:ByteArray}{P:List Pt}{i:Nat}(h:SQ L w b s P i):w.cell? ⟨b,2,none⟩=some (.int .i64 i)∧w.frozen? ⟨b,2,none⟩=false:=by
 obtain ⟨_,_,_,_,c2,f2,_⟩:=h.cells;exact ⟨c2,f2⟩
theorem isx {L:Nat}{w wi w' :World}{b k g:Nat}{s:ByteArray}{P:List Pt}{i:Nat}{e v:Ending}{o x:Obj}(h:e=v∧∃m,w' =wi.drewN m) (hS:SQ L wi b s P i) (h1:wi.heap[k]? =some o) (h2:wi.heap[g]? =some x) (h3:w.grownBy wi (some b)):
 e=v∧SQ L w' b s P i∧w'.heap[k]? =some o∧w'.heap[g]? =some x∧w.grownBy w' (some b):=by
 obtain ⟨rfl,m,rfl⟩:=h;exact ⟨rfl,hS.heap rfl,h1,h2,aJ h3 (bD _ m _)⟩
theorem X5 (q:Nat) (h:q<6):Utf8.encode (tV q)=⟨#[UInt8.ofNat (tV q)]⟩:=by
 have:q=0∨q=1∨q=2∨q=3∨q=4∨q=5:=by omega
 rcases this with rfl|rfl|rfl|rfl|rfl|rfl<;>rfl
theorem jr {w:World}{g:Nat}{a b c d:Value}{T:TypeId}(h:w.heap[g]? =some (.cells #[a,b,c,d] T (0,0))):
 w.cell? ⟨g,0,none⟩=some a∧w.cell? ⟨g,1,none⟩=some b∧w.cell? ⟨g,2,none⟩=some c∧w.cell? ⟨g,3,none⟩=some d∧w.frozen? ⟨g,0,none⟩=false∧w.frozen? ⟨g,1,none⟩=false∧w.frozen? ⟨g,2,none⟩=false∧w.frozen? ⟨g,3,none⟩=false:=
 ⟨by rw [aj h];rfl,by rw [aj h];rfl,by rw [aj h];rfl,by rw [aj h];rfl,ak h 0,ak h 1,ak h 2,ak h 3⟩
theorem QN {L:Nat}(ws w:World) (b:Nat) (s:ByteArray) (P:List Pt) (i:Nat) (h:SQ L w b s P i) (hG:Glob ws) (hB:Below ws.heap.size ws w) (hwb:ws.heap.size≤b) (hs:s.size≤100000) (rO:uq s P) (hi:i<P.length):
 Calls prog 189 #[.pointer (some ⟨b,0,none⟩)] w (Ct L w b s P (dw s P i)):=by
 have X6:=Lib.hid rO;have hPl:=rO.1;have HL:=h.le;have hblt:=h.lt;have HB:Hid (∀wr,w.grownBy wr (some b)→Below ws.heap.size ws wr):=fun wr hg=>hB.trans (jC hg hwb hB.size)
 have hS:SQ L (w.alloc (.cells #[.int .i64 0, .string ⟨#[]⟩, .int .i64 0, .int .i64 0] 276)) b s P i:=h.below ((Below.refl _ _).alloc (Nat.le_refl _) _);have hg:=jR ((Below.refl w.heap.size w).alloc (Nat.le_refl _) (.cells #[.int .i64 0, .string ⟨#[]⟩, .int .i64 0, .int .i64 0] 276)) (some b);have hblk:=aB w (.cells #[.int .i64 0, .string ⟨#[]⟩, .int .i64 0, .int .i64 0] 276);clear h hB rO;go_enter func189,ntmps189;go_wp2_with fail;generalize w.alloc (.cells #[.int .i64 0, .string ⟨#[]⟩, .int .i64 0, .int .i64 0] 276)=w0 at *;cases hL:dn P i
 · refine (KD _ b s P i hS _ hL).mono ?_;rintro e w1 ⟨rfl,m,hm⟩;replace hS:=hS.heap (w' :=w1) (by rw [hm];rfl);replace hg:=aJ hg (show _ from hm▸bD _ m (some b));replace hblk:w1.heap[w.heap.size]? =some (.cells #[.int .i64 0, .string ⟨#[]⟩, .int .i64 0, .int .i64 0] 276 (0,0)):=by rw [hm];exact hblk
   clear hm;have WC:=Lib.hid hL;clear hL;go_wp2_with fail;cases hD:bT P i
   · refine (BD _ b s P i hS _ hD).mono ?_;rintro e w1 ⟨rfl,m,hm⟩;replace hS:=hS.heap (w' :=w1) (by rw [hm];rfl);replace hg:=aJ hg (show _ from hm▸bD _ m (some b));replace hblk:w1.heap[w.heap.size]? =some (.cells #[.int .i64 0, .string ⟨#[]⟩, .int .i64 0, .int .i64 0] 276 (0,0)):=by rw [hm];exact hblk
     clear hm;have HD:=Lib.hid hD;clear hD;go_wp2_with fail;cases h45:fE P i 45
     · refine (lJ _ b s P i 0 45 hS (by omega) (by omega) _ h45).mono ?_;rintro e w1 ⟨rfl,m,hm⟩;replace hS:=hS.heap (w' :=w1) (by rw [hm];rfl);replace hg:=aJ hg (show _ from hm▸bD _ m (some b));replace hblk:w1.heap[w.heap.size]? =some (.cells #[.int .i64 0, .string ⟨#[]⟩, .int .i64 0, .int .i64 0] 276 (0,0)):=by rw [hm];exact hblk
       clear hm;have Aa:=Lib.hid h45;clear h45;go_wp2_with fail;cases Xk:fE P i 39
       · refine (lJ _ b s P i 0 39 hS (by omega) (by omega) _ Xk).mono ?_;rintro e w1 ⟨rfl,m,hm⟩;replace hS:=hS.heap (w' :=w1) (by rw [hm];rfl);replace hg:=aJ hg (show _ from hm▸bD _ m (some b));replace hblk:w1.heap[w.heap.size]? =some (.cells #[.int .i64 0, .string ⟨#[]⟩, .int .i64 0, .int .i64 0] 276 (0,0)):=by rw [hm];exact hblk
         clear hm;have H39:=Lib.hid Xk;clear Xk;have HN:Hid (dw s P i=if uo (jl P i)then (⟨4,⟨#[UInt8.ofNat (jl P i).toNat]⟩,0,i⟩,true,i+1)else (⟨0,⟨#[]⟩,0,0⟩,false,i)):=by show _=_;unfold dw;rw [WC.out,HD.out,Aa.out,H39.out];rfl
         clear WC HD Aa H39;have aix:=aG hblk;go_wp2_with fail
         go_loopw [] (fun wr=>∃(q:Nat),q≤6∧wr.heap[w1.heap.size]? =some (.stringIter CK q)∧SQ L wr b s P i∧wr.heap[w.heap.size]? =some (.cells #[.int .i64 0, .string ⟨#[]⟩, .int .i64 0, .int .i64 0] 276 (0,0))∧w.grownBy wr (some b)∧Hid (∀k,k<q→fE P i (tV k)=false)) (fun wr=>6 - wr.iterPos w1.heap.size)
         case atStart=>exact ⟨0,by omega,World.iter_heap w1 CK 0,hS.below ((Below.refl _ _).alloc (Nat.le_refl _) _),ay hblk _,aJ hg (jR ((Below.refl _ _).alloc (Nat.le_refl _) _) _),fun k hk=>absurd hk (by omega)⟩
         case round=>
          obtain ⟨q,QO,hit,hSr,UL,hgr,HQ⟩:=hrel;have wG:=iterPos_of hit;have hLb:L≤w1.heap.size:=hS.le;have hb1:b<w1.heap.size:=hS.lt;by_cases hq:q<6
          · have hnx:∀ty,(Instr.next (.pointer (some ⟨w1.heap.size,0,none⟩)) true ty).run prog wr=_:=fun ty=>Lib.run_next_any_at wr w1.heap.size CK q ty hit (show q<CK.size from hq)
            rw [Tg q hq]at hnx;have hit2:=Lib.iterAt_heap wr w1.heap.size CK q (q+1) hit;have hS2:SQ L (wr.iterAt w1.heap.size CK (q+1)) b s P i:=hSr.keep (by rw [Lib.iterAt_size];exact Nat.le_refl _) (fun k hk=>Lib.iterAt_other _ _ _ _ _ (by omega));have hblk2:(wr.iterAt w1.heap.size CK (q+1)).heap[w.heap.size]? =some (.cells #[.int .i64 0, .string ⟨#[]⟩, .int .i64 0, .int .i64 0] 276 (0,0)):=by rw [Lib.iterAt_other _ _ _ _ _ (by omega)];exact UL
            have hg2:w.grownBy (wr.iterAt w1.heap.size CK (q+1)) (some b):=QM hgr (by omega) _ _;generalize wr.iterAt w1.heap.size CK (q+1)=wi at *;cases hB:fE P i (tV q)
            · have HQ2:Hid (∀k,k<q+1→fE P i (tV k)=false):=fun k hk=>by
               by_cases e:k=q
               · rw [e];exact hB
               · exact HQ.out k (by omega)
              have hc:=(lJ wi b s P i 0 (tV q) hS2 (by omega) (by omega) _ hB).mono (fun e w' h=>isx h hS2 hit2 hblk2 hg2);clear hB;generalize tV q=r at *;go_wp2_with (go_at_call 260;refine hc.mono ?_;rintro e w2 ⟨rfl,EU,hit3,hblk3,hg3⟩);go_roundw
              case rel=>exact ⟨q+1,by omega,hit3,EU,hblk3,hg3,HQ2⟩
              case measure=>rw [wG,iterPos_of hit3];omega
            · have hc:=(lJ wi b s P i 0 (tV q) hS2 (by omega) (by omega) _ hB).mono (fun e w' h=>isx h hS2 hit2 hblk2 hg2);obtain ⟨e1,e2⟩:=WX hq hB;rw [e2,e1]at HN;clear hB;have hr0:=WW q hq;go_wp2_with (go_at_call 260;refine hc.mono ?_;rintro e w2 ⟨rfl,EU,hit3,hblk3,hg3⟩;obtain ⟨c2,f2⟩:=Zn EU;obtain ⟨t0,t1,t2,t3,u0,u1,u2,u3⟩:=jr hblk3);obtain ⟨r0,r1,r2,r3,pO,hg4⟩:=kS (EU.set (i+1)) (bg hblk3 _ _ (by show w.heap.size≠b;omega)) (aJ hg3 (jq _ _ _ _)) HL (.int .i64 4) (.string (Utf8.encode (tV q))) (.int .i64 0) (.int .i64 i) _ rfl;rw [show ((i+1:Nat):Int)=(i:Int)+1 from by omega]at r0 r1 r2 r3 pO hg4;refine bodyPost_ret (v:= .tuple #[.agg #[.int .i64 4, .string (Utf8.encode (tV q)), .int .i64 0, .int .i64 i], .bool true]) (by simp [results,results189,go_sem,r0,r1,r2,r3]) rfl ?_;rw [HN.out];exact ⟨by rw [X5 q hq];rfl,pO,hg4⟩
          · have hnx:∀ty,(Instr.next (.pointer (some ⟨w1.heap.size,0,none⟩)) true ty).run prog wr=_:=fun ty=>Lib.run_next_end_at wr w1.heap.size CK q ty hit hq
            have HF:Hid (uo (jl P i)=false):=ZT fun k hk=>HQ.out k (by omega)
            obtain ⟨t0,t1,t2,t3,u0,u1,u2,u3⟩:=jr UL;go_wp2_with fail;obtain ⟨r0,r1,r2,r3,pO,hg4⟩:=kS hSr UL hgr HL (.int .i64 0) (.string ⟨#[]⟩) (.int .i64 0) (.int .i64 0) _ rfl;refine bodyPost_ret (v:= .tuple #[.agg #[.int .i64 0, .string ⟨#[]⟩, .int .i64 0, .int .i64 0], .bool false]) (by simp [results,results189,go_sem,r0,r1,r2,r3]) rfl ?_;rw [HN.out,HF.out];exact ⟨rfl,pO,hg4⟩
       · have HT:Hid (dw s P i=jm s P i):=by show _=_;unfold dw;rw [WC.out,HD.out,Aa.out,Xk];rfl
         refine (lJ _ b s P i 0 39 hS (by omega) (by omega) _ Xk).mono ?_;rintro e w1 ⟨rfl,m,hm⟩;replace hS:=hS.heap (w' :=w1) (by rw [hm];rfl);replace hg:=aJ hg (show _ from hm▸bD _ m (some b));replace hblk:w1.heap[w.heap.size]? =some (.cells #[.int .i64 0, .string ⟨#[]⟩, .int .i64 0, .int .i64 0] 276 (0,0)):=by rw [hm];exact hblk
         clear hm;clear Xk;go_wp2_with fail;obtain ⟨X,hX⟩:∃X,X=jm s P i:=⟨_,rfl⟩;have hc:=UK ws _ b s P i hS hG (HB.out _ hg) hwb hs X6.out hi;rw [←hX]at hc;obtain ⟨⟨K,S,N,A⟩,ok,nx⟩:=X;change Calls _ _ _ _ (fun e w' =>e= .returned (.tuple #[.agg #[.int .i64 K, .string S, .int .i64 N, .int .i64 A], .bool ok])∧SQ L w' b s P nx∧_)at hc;refine hc.mono ?_;rintro e w2 ⟨rfl,hS2,hg2⟩;replace hblk:w2.heap[w.heap.size]? =some (.cells #[.int .i64 0, .string ⟨#[]⟩, .int .i64 0, .int .i64 0] 276 (0,0)):=by rw [hg2.block _ (aG hblk) (by intro e;cases e;omega)];exact hblk
         replace hg:=aJ hg hg2;clear hc hg2 hS;have t0:w2.cell? ⟨w.heap.size,0,none⟩=some (.int .i64 0):=by rw [aj hblk];rfl
         have t1:w2.cell? ⟨w.heap.size,1,none⟩=some (.string ⟨#[]⟩):=by rw [aj hblk];rfl
         have t2:w2.cell? ⟨w.heap.size,2,none⟩=some (.int .i64 0):=by rw [aj hblk];rfl
         have t3:w2.cell? ⟨w.heap.size,3,none⟩=some (.int .i64 0):=by rw [aj hblk];rfl
         have u0:=ak hblk 0;have u1:=ak hblk 1;have u2:=ak hblk 2;have u3:=ak hblk 3;go_wp2_with fail;obtain ⟨r0,r1,r2,r3,pO,hg4⟩:=kS hS2 hblk hg HL (.int .i64 K) (.string S) (.int .i64 N) (.int .i64 A) _ rfl;refine bodyPost_ret (v:= .tuple #[.agg #[.int .i64 K, .string S, .int .i64 N, .int .i64 A], .bool ok]) (by simp [results,results189,go_sem,r0,r1,r2,r3]) rfl ?_;rw [HT.out,←hX];exact ⟨rfl,pO,hg4⟩
     · have HT:Hid (dw s P i=bR P i):=by show _=_;unfold dw;rw [WC.out,HD.out,h45];rfl
       refine (lJ _ b s P i 0 45 hS (by omega) (by omega) _ h45).mono ?_;rintro e w1 ⟨rfl,m,hm⟩;replace hS:=hS.heap (w' :=w1) (by rw [hm];rfl);replace hg:=aJ hg (show _ from hm▸bD _ m (some b));replace hblk:w1.heap[w.heap.size]? =some (.cells #[.int .i64 0, .string ⟨#[]⟩, .int .i64 0, .int .i64 0] 276 (0,0)):=by rw [hm];exact hblk
       clear hm;clear h45;go_wp2_with fail;obtain ⟨X,hX⟩:∃X,X=bR P i:=⟨_,rfl⟩;have hc:=DN _ b s P i hS hs X6.out hi;rw [←hX]at hc;obtain ⟨⟨K,S,N,A⟩,ok,nx⟩:=X;change Calls _ _ _ _ (fun e w' =>e= .returned (.tuple #[.agg #[.int .i64 K, .string S, .int .i64 N, .int .i64 A], .bool ok])∧SQ L w' b s P nx∧_)at hc;refine hc.mono ?_;rintro e w2 ⟨rfl,hS2,hg2⟩;replace hblk:w2.heap[w.heap.size]? =some (.cells #[.int .i64 0, .string ⟨#[]⟩, .int .i64 0, .int .i64 0] 276 (0,0)):=by rw [hg2.block _ (aG hblk) (by intro e;cases e;omega)];exact hblk
       replace hg:=aJ hg hg2;clear hc hg2 hS;have t0:w2.cell? ⟨w.heap.size,0,none⟩=some (.int .i64 0):=by rw [aj hblk];rfl
       have t1:w2.cell? ⟨w.heap.size,1,none⟩=some (.string ⟨#[]⟩):=by rw [aj hblk];rfl
       have t2:w2.cell? ⟨w.heap.size,2,none⟩=some (.int .i64 0):=by rw [aj hblk];rfl
       have t3:w2.cell? ⟨w.heap.size,3,none⟩=some (.int .i64 0):=by rw [aj hblk];rfl
       have u0:=ak hblk 0;have u1:=ak hblk 1;have u2:=ak hblk 2;have u3:=ak hblk 3;go_wp2_with fail;obtain ⟨r0,r1,r2,r3,pO,hg4⟩:=kS hS2 hblk hg HL (.int .i64 K) (.string S) (.int .i64 N) (.int .i64 A) _ rfl;refine bodyPost_ret (v:= .tuple #[.agg #[.int .i64 K, .string S, .int .i64 N, .int .i64 A], .bool ok]) (by simp [results,results189,go_sem,r0,r1,r2,r3]) rfl ?_;rw [HT.out,←hX];exact ⟨rfl,pO,hg4⟩
   · have HT:Hid (dw s P i=bR P i):=by show _=_;unfold dw;rw [WC.out,hD];rfl
     refine (BD _ b s P i hS _ hD).mono ?_;rintro e w1 ⟨rfl,m,hm⟩;replace hS:=hS.heap (w' :=w1) (by rw [hm];rfl);replace hg:=aJ hg (show _ from hm▸bD _ m (some b));replace hblk:w1.heap[w.heap.size]? =some (.cells #[.int .i64 0, .string ⟨#[]⟩, .int .i64 0, .int .i64 0] 276 (0,0)):=by rw [hm];exact hblk
     clear hm;clear hD;go_wp2_with fail;obtain ⟨X,hX⟩:∃X,X=bR P i:=⟨_,rfl⟩;have hc:=DN _ b s P i hS hs X6.out hi;rw [←hX]at hc;obtain ⟨⟨K,S,N,A⟩,ok,nx⟩:=X;change Calls _ _ _ _ (fun e w' =>e= .returned (.tuple #[.agg #[.int .i64 K, .string S, .int .i64 N, .int .i64 A], .bool ok])∧SQ L w' b s P nx∧_)at hc;refine hc.mono ?_;rintro e w2 ⟨rfl,hS2,hg2⟩;replace hblk:w2.heap[w.heap.size]? =some (.cells #[.int .i64 0, .string ⟨#[]⟩, .int .i64 0, .int .i64 0] 276 (0,0)):=by rw [hg2.block _ (aG hblk) (by intro e;cases e;omega)];exact hblk
     replace hg:=aJ hg hg2;clear hc hg2 hS;have t0:w2.cell? ⟨w.heap.size,0,none⟩=some (.int .i64 0):=by rw [aj hblk];rfl
     have t1:w2.cell? ⟨w.heap.size,1,none⟩=some (.string ⟨#[]⟩):=by rw [aj hblk];rfl
     have t2:w2.cell? ⟨w.heap.size,2,none⟩=some (.int .i64 0):=by rw [aj hblk];rfl
     have t3:w2.cell? ⟨w.heap.size,3,none⟩=some (.int .i64 0):=by rw [aj hblk];rfl
     have u0:=ak hblk 0;have u1:=ak hblk 1;have u2:=ak hblk 2;have u3:=ak hblk 3;go_wp2_with fail;obtain ⟨r0,r1,r2,r3,pO,hg4⟩:=kS hS2 hblk hg HL (.int .i64 K) (.string S) (.int .i64 N) (.int .i64 A) _ rfl;refine bodyPost_ret (v:= .tuple #[.agg #[.int .i64 K, .string S, .int .i64 N, .int .i64 A], .bool ok]) (by simp [results,results189,go_sem,r0,r1,r2,r3]) rfl ?_;rw [HT.out,←hX];exact ⟨rfl,pO,hg4⟩
 · have HT:Hid (dw s P i=jD s P i):=by show _=_;unfold dw;rw [hL];rfl
   refine (KD _ b s P i hS _ hL).mono ?_;rintro e w1 ⟨rfl,m,hm⟩;replace hS:=hS.heap (w' :=w1) (by rw [hm];rfl);replace hg:=aJ hg (show _ from hm▸bD _ m (some b));replace hblk:w1.heap[w.heap.size]? =some (.cells #[.int .i64 0, .string ⟨#[]⟩, .int .i64 0, .int .i64 0] 276 (0,0)):=by rw [hm];exact hblk
   clear hm;clear hL;go_wp2_with fail;obtain ⟨X,hX⟩:∃X,X=jD s P i:=⟨_,rfl⟩;have hc:=UD _ b s P i hS hs X6.out hi;rw [←hX]at hc;obtain ⟨⟨K,S,N,A⟩,ok,nx⟩:=X;change Calls _ _ _ _ (fun e w' =>e= .returned (.tuple #[.agg #[.int .i64 K, .string S, .int .i64 N, .int .i64 A], .bool ok])∧SQ L w' b s P nx∧_)at hc;refine hc.mono ?_;rintro e w2 ⟨rfl,hS2,hg2⟩;replace hblk:w2.heap[w.heap.size]? =some (.cells #[.int .i64 0, .string ⟨#[]⟩, .int .i64 0, .int .i64 0] 276 (0,0)):=by rw [hg2.block _ (aG hblk) (by intro e;cases e;omega)];exact hblk
   replace hg:=aJ hg hg2;clear hc hg2 hS;have t0:w2.cell? ⟨w.heap.size,0,none⟩=some (.int .i64 0):=by rw [aj hblk];rfl
   have t1:w2.cell? ⟨w.heap.size,1,none⟩=some (.string ⟨#[]⟩):=by rw [aj hblk];rfl
   have t2:w2.cell? ⟨w.heap.size,2,none⟩=some (.int .i64 0):=by rw [aj hblk];rfl
   have t3:w2.cell? ⟨w.heap.size,3,none⟩=some (.int .i64 0):=by rw [aj hblk];rfl
   have u0:=ak hblk 0;have u1:=ak hblk 1;have u2:=ak hblk 2;have u3:=ak hblk 3;go_wp2_with fail;obtain ⟨r0,r1,r2,r3,pO,hg4⟩:=kS hS2 hblk hg HL (.int .i64 K) (.string S) (.int .i64 N) (.int .i64 A) _ rfl;refine bodyPost_ret (v:= .tuple #[.agg #[.int .i64 K, .string S, .int .i64 N, .int .i64 A], .bool ok]) (by simp [results,results189,go_sem,r0,r1,r2,r3]) rfl ?_;rw [HT.out,←hX];exact ⟨rfl,pO,hg4⟩
def j5 (t:Tk):List Value:= [.int .i64 t.kind, .string t.s, .int .i64 t.n, .int .i64 t.at_]
def lK (l:List Tk):List Value:=l.flatMap j5
theorem DR (l:List Tk) (p:Tk):lK l++j5 p=lK (l++ [p]):=by simp [lK]
theorem BG (q:Tk):∀u∈j5 q,u.oneCell' =true:=by
 intro u hu;simp [j5]at hu;rcases hu with rfl|rfl|rfl|rfl<;>rfl
theorem mW {w:World}{base:Nat}{e:TypeId}{size:Nat}{v:Value}{n:Nat}{xs:List Value}(h:w.ownsRow base e size v n xs) (m:Nat):(w.drewN m).ownsRow base e size v n xs:=by
 obtain ⟨h1,h2⟩:=h;exact ⟨h1,h2⟩
theorem bH {w:World}{base b2:Nat}{e:TypeId}{size:Nat}{v:Value}{n:Nat}{xs:List Value}(h:w.ownsRow base e size v n xs) (hb:b2≤base):w.ownsRow b2 e size v n xs:=by
 obtain ⟨h1,h2⟩:=h;refine ⟨h1, ?_⟩;rcases h2 with h2|⟨g,cap,cur,a,b,c⟩
 · exact .inl h2
 · exact .inr ⟨g,cap,cur,a,Nat.le_trans hb b,c⟩
theorem mF {w w' :World}{base k:Nat}{e:TypeId}{size:Nat}{v:Value}{n:Nat}{xs:List Value}(h:w.ownsRow base e size v n xs) (hg:w.grownBy w' (some k)) (hk:k<base):w'.ownsRow base e size v n xs:=by
 obtain ⟨h1,h2⟩:=h;refine ⟨h1, ?_⟩;rcases h2 with h2|⟨g,cap,cur,a,b,c,d⟩
 · exact .inl h2
 · exact .inr ⟨g,cap,cur,a,b,by rw [hg.block g (aG c) (fun e=>by cases e;omega)];exact c,d⟩
theorem OT (w1:World) (X:Obj) (q:Tk) (t:TypeId):∀j u,(j5 q)[j]? =some u→((w1.alloc X).alloc (.cells #[.int .i64 q.kind, .string q.s, .int .i64 q.n, .int .i64 q.at_] t)).cell? ((⟨w1.heap.size+1,0,none⟩:Addr).add j)=some u:=by
 have:=vV (w1.alloc X) (j5 q) t;have e:(w1.alloc X).heap.size=w1.heap.size+1:=by simp
 rw [e]at this;exact this
theorem Tryz.aav:(prog.info? 276).map (fun i=>(i.zero,i.size,i.bytes))=some (some (.agg #[.int .i64 0, .string ⟨#[]⟩, .int .i64 0, .int .i64 0]),4,40):=by kernel_rfl
theorem mG (s:ByteArray) (w:World) (hG:Glob w):
 Calls prog 120 #[.string s] w fun e w' =>(∃v,e= .returned (.tuple #[v, .int .i64 (aX s).2.1, .int .i64 (aX s).2.2])∧w'.ownsRow w.heap.size 276 4 v (aX s).1.length (lK (aX s).1))∧Below w.heap.size w w' :=by
 obtain ⟨i0,hi,hz0,hz1,hz2⟩:=info_parts Tryz.aav;by_cases hbig:(1000:Int)<s.size
 · have HE:Hid (aX s=([],0,2)):=by show _=_;unfold aX;rw [if_pos (by omega)]
   go_enter func120,ntmps120;go_wp2_with fail;go_ret3;rw [HE.out];exact ⟨⟨_,rfl,World.ownsRow_nil _ _ _ _⟩,Below.refl _ _⟩
 have hs:s.size≤100000:=by omega
 go_enter func120,ntmps120;have ho:=UC s w hG hs;have rO:=Ag s;have hpl:(pts s).length≤100000:=Nat.le_trans rO.1 hs;have HL:Hid (aX s=match dP s (pts s) ((pts s).length+1) 0 with| .ok l=>(l,0,0)| .error a=>([],(a:Nat),3)):=by show _=_;unfold aX;rw [if_neg (by omega)];cases dP s (pts s) ((pts s).length+1) 0<;>rfl
 go_wp2_with fail;refine ho.mono ?_;rintro e w1 ⟨rfl,hS,hb1⟩;obtain ⟨P,hP⟩:∃P,pts s=P:=⟨_,rfl⟩;rw [hP]at hS rO hpl HL;clear hP ho;have hlt1:=hS.lt;obtain ⟨L,hLd⟩:∃L,L=w1.heap.size:=⟨_,rfl⟩;rw [←hLd]at hS hlt1;go_wp2_with fail;refine (KC _ _ _ _ _ hS (by omega) hpl).mono ?_;rintro e w2 ⟨rfl,hS,hg2⟩;go_wp2_with fail
 go_loopw [5] (fun a wr=>∃(j n:Nat) (done:List Tk),SQ L wr w.heap.size s P (skip P j)∧wr.ownsRow L 276 4 a done.length (lK done)∧Below w.heap.size w wr∧Hid (dP s P (P.length+1) 0=(dP s P (n+1) j).map (done++ ·))∧done.length≤j∧j≤P.length∧P.length≤n+j) (fun _ wr=>P.length - l7 wr w.heap.size)
 case atStart=>exact ⟨0,P.length, [],hS,World.ownsRow_nil _ _ _ _,hb1.trans (jC hg2 (Nat.le_refl _) (by omega)),by (show _=_;cases dP s P (P.length+1) 0<;>rfl),by simp,by omega,by omega⟩
 case round=>
  obtain ⟨j,n,done,hSr,hown,hbw,HR,hdj,hjP,hn⟩:=hrel;have hk:=uy P (P.length - j) j hjP;rw [show iL P (P.length - j) j=skip P j from rfl]at hk;have hkj:=jY P j;by_cases hend:P.length≤skip P j
  · have HX:Hid (aX s=(done,0,0)):=by show _=_;rw [HL.out,HR.out,uw hend];simp [Except.map]
    have he:=qW wr _ s P _ hSr true (decide_eq_true hend);go_wp2_with (go_at_call 188;refine he.mono ?_;rintro e w3 ⟨rfl,m,hm⟩);go_ret3;rw [HX.out];exact ⟨⟨_,rfl,bH (mW hown _) (by omega)⟩,aK.below_drewN hbw _⟩
  · have he:=qW wr _ s P _ hSr false (decide_eq_false hend);obtain ⟨i,hi0⟩:∃i,skip P j=i:=⟨_,rfl⟩;rw [hi0]at hSr hk hkj hend;have Hi:=Lib.hid hi0;have Hsc:=Lib.hid (dX hSr);have hown0:=fun m=>mW hown m
    have hbw0:=fun m=>aK.below_drewN hbw m
    have hS0:=fun m=>hSr.heap (w' :=wr.drewN m) rfl
    clear hown hbw hSr hi0;go_wp2_with (go_at_call 188;refine he.mono ?_;rintro e w3 ⟨rfl,m,hm⟩;have EU:=hS0 m;have hown3:=hown0 m;have uR:=hbw0 m;rw [←hm]at EU hown3 uR;obtain ⟨c2,f2⟩:=Zn EU;clear hS0 hown0 hbw0 hm);obtain ⟨⟨⟨K,S,N,A⟩,ok,nx⟩,hX⟩:∃X,X=dw s P i:=⟨_,rfl⟩;have hc:=QN w w3 _ s P i EU hG uR (Nat.le_refl _) hs rO (by omega);rw [←hX]at hc;change Calls _ _ _ _ (fun e w' =>e= .returned (.tuple #[.agg #[.int .i64 K, .string S, .int .i64 N, .int .i64 A], .bool ok])∧SQ L w' _ s P nx∧w3.grownBy w' (some w.heap.size))at hc;have hL3:=EU.le;refine hc.mono ?_;rintro e w4 ⟨rfl,pO,hg4⟩;have jd:w4.ownsRow L 276 4 u5 done.length (lK done):=mF hown3 hg4 (by omega);have xE:Below w.heap.size w w4:=uR.trans (jC hg4 (Nat.le_refl _) (by omega));clear hc EU hown3 uR hg4;cases ok
    · have HX:Hid (aX s=([],i,3)):=by
       have hb:(dw s P (skip P j)).2.1=false:=by rw [Hi.out,←hX]
       show _=_;rw [HL.out,HR.out,CO (by rw [Hi.out];omega) hb,Hi.out];rfl
      go_wp2_with fail;go_ret3;rw [HX.out];exact ⟨⟨_,rfl,World.ownsRow_nil _ _ _ _⟩,xE.alloc xE.size _⟩
    · have hg:=yA (s:=s) (i:=i) (P:=P) (by omega) (by rw [←hX]);rw [←hX]at hg;obtain ⟨hg1,hg2⟩:i<nx∧nx≤P.length:=hg;have hR2:=CP HR.out (m:=nx) (by rw [Hi.out];omega) (by rw [Hi.out,←hX]) (by rw [Hi.out,←hX]);rw [Hi.out,←hX]at hR2;have HR2:=Lib.hid hR2;clear hR2;have hL4:=pO.le;have hb4:=xE.size
      go_wp2_with (first
       |(at_builtin;go_loud (refine wpList_append_own _ rfl _ _ 193 rfl L 276 i0 (.agg #[.int .i64 0, .string ⟨#[]⟩, .int .i64 0, .int .i64 0]) 4 40 underlying193 hi hz0 hz1 hz2 rfl (by decide) _ _ _ rfl ((jd.alloc _).alloc _) ⟨w4.heap.size+1,0,none⟩ 1 1 (j5 ⟨K,S,N,A⟩) rfl rfl (OT _ _ ⟨K,S,N,A⟩ _) (BG _) (by unfold maxLen;omega) (by omega) (by simp;omega) ?_);intro v' w5 hown5 hg5 _;rw [DR]at hown5
         have UM:Below w.heap.size w w5:=((xE.alloc (by omega) _).alloc (by simp;omega) _).grown hg5 (by simp;omega) (fun k hk=>by have:=(jd.lt _ hk).1;omega)
         have hS5:SQ L w5 w.heap.size s P nx:=pO.keep (by have:=hg5.size;simp at this;omega) (fun k hk=>by
          rw [hg5.block k (by simp;omega) (fun e=>by have:=(jd.lt _ e.symm).1;omega)];rw [Below.heap_alloc _ _ _ (by simp;omega),Below.heap_alloc _ _ _ (by omega)])
         clear jd xE hg5 pO)
       |(go_at_call 187;refine (KC _ _ _ _ _ hS5 (by omega) hpl).mono ?_;rintro e w6 ⟨rfl,hS6,EW⟩
         have hown6:=mF hown5 EW (by omega);have ae1:Below w.heap.size w w6:=UM.trans (jC EW (Nat.le_refl _) (by have:=UM.size;omega));clear hown5 UM hS5 EW))
      have hl2:(done++ [(⟨K,S,N,A⟩:Tk)]).length=done.length+1:=by simp
      go_roundw
      case rel=>exact ⟨nx,n - 1,done++ [⟨K,S,N,A⟩],hS6,by rw [hl2];exact hown6,ae1,by rw [Nat.sub_add_cancel (by omega)];exact HR2,by rw [hl2];omega,by omega,by omega⟩
      case measure=>rw [dX hS6,Hsc.out];have:=jY P nx;omega
end Go.Proofs.YtnngbhpeeakfaaaGreatDoor
