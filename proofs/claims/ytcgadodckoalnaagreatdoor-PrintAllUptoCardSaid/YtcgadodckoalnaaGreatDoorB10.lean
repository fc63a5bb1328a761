/- Parts of a proof. -/
import Derived.StillTailTactics
import Derived.Deep.RegionWith
import Derived.Test.YtcgadodckoalnaaGreatDoorB01
import Derived.Test.YtcgadodckoalnaaGreatDoorB09
set_option maxHeartbeats 2000000
set_option maxRecDepth 100000
namespace Go.Proofs.YtcgadodckoalnaaGreatDoor
open Go.Proofs.Tryz
open Go.RowKit
open aN
def Wm (t:Tk):Value:= .agg #[.int .i64 t.kind, .string t.s, .int .i64 t.n, .int .i64 t.at_]
def Fx (L:Nat) (w:World) (b:Nat) (s:ByteArray) (P:List Pt) (x:Tk×Bool×Nat) (e:Ending) (w' :World):Prop:=
 e= .returned (.tuple #[Wm x.1, .bool x.2.1])∧SQ L w' b s P x.2.2∧w.grownBy w' (some b)
theorem NK {L:Nat}(w:World) (b:Nat) (s:ByteArray) (P:List Pt) (i:Nat) (h:SQ L w b s P i) (v:Bool) (hv:dJ P i=v):
 Calls prog 99 #[.pointer (some ⟨b,0,none⟩)] w fun e w' =>e= .returned (.bool v)∧∃m,w' =w.drewN m:=by
 rw [←hv];exact Lm w b s P i h
theorem EC {L:Nat}(w:World) (b:Nat) (s:ByteArray) (P:List Pt) (i:Nat) (h:SQ L w b s P i) (v:Bool) (hv:dh P i=v):
 Calls prog 101 #[.pointer (some ⟨b,0,none⟩)] w fun e w' =>e= .returned (.bool v)∧∃m,w' =w.drewN m:=by
 rw [←hv];exact Lp w b s P i h
theorem Dz.gb {T:TypeId}{flat:List Pt→List Value}{L:Nat}{w w' :World}{b:Nat}{s:ByteArray}{P:List Pt}{i:Nat}(h:Dz T flat L w b s P i) (hb:w.grownBy w' none):Dz T flat L w' b s P i:=
 h.below ⟨hb.os,hb.tape,hb.output,hb.size,fun k hk=>hb.block k hk (by simp)⟩
theorem NM {w:World}{g:Nat}{x0 x1 x2 x3:Value}{T:TypeId}(h:w.heap[g]? =some (.cells #[x0,x1,x2,x3] T (0,0))) (v0 v1 v2 v3:Value):
 ((((w.setCell ⟨g,0,none⟩ v0).setCell ⟨g,1,none⟩ v1).setCell ⟨g,2,none⟩ v2).setCell ⟨g,3,none⟩ v3).heap[g]? =some (.cells #[v0,v1,v2,v3] T (0,0)):=by
 have:=dB (dB (dB (dB h 0 v0) 1 v1) 2 v2) 3 v3;rw [this];simp
theorem BR (w:World) (g:Nat) (v0 v1 v2 v3:Value):w.grownBy ((((w.setCell ⟨g,0,none⟩ v0).setCell ⟨g,1,none⟩ v1).setCell ⟨g,2,none⟩ v2).setCell ⟨g,3,none⟩ v3) (some g):=
 aO (aO (aO (j6 _ _ _ _) (j6 _ _ _ _)) (j6 _ _ _ _)) (j6 _ _ _ _)
theorem ac1 {w w1 w2:World}{b:Nat}{o:Obj}(h:(w.alloc o).grownBy w1 (some b)) (k:w1.grownBy w2 (some w.heap.size)):w.grownBy w2 (some b):=
 ⟨k.os.trans h.os,k.tape.trans h.tape,k.output.trans h.output,by have h1:=h.size;have h2:=k.size;simp at h1;omega,fun i hi hr=>by
  have h1:=h.size;simp at h1;rw [k.block i (by omega) (fun e=>by cases e;omega),h.block i (by simp;omega) hr];exact Below.heap_alloc _ _ _ hi⟩
theorem XP {L:Nat}(w:World) (b:Nat) (s:ByteArray) (P:List Pt) (i:Nat) (h:SQ L w b s P i) (hs:s.size≤100000) (vk:xq s P) (hi:i<P.length):
 Calls prog 100 #[.pointer (some ⟨b,0,none⟩)] w (Fx L w b s P (kJ s P i)):=by
 obtain ⟨hPl,hmono,XQ⟩:=vk;have H:=Lib.hid h;have afn:=Lib.hid hmono;have ahz:=Lib.hid XQ;have hblt:=h.lt;obtain ⟨_,_,_,_,c2,f2,_⟩:=h.cells;have HW:Hid (SQ L (w.alloc (.cells #[.int .i64 0, .string ⟨#[]⟩, .int .i64 0, .int .i64 0] 95)) b s P i):=h.below ((Below.refl _ _).alloc (Nat.le_refl _) _);clear h hmono XQ;go_enter func100,ntmps100;go_wp2_with fail
 go_loopw [] (fun wr=>∃k,SQ L wr b s P k∧(w.alloc (.cells #[.int .i64 0, .string ⟨#[]⟩, .int .i64 0, .int .i64 0] 95)).grownBy wr (some b)∧Hid (fq P i=dO (fun k=>dJ P k||dh P k) P.length k)∧i≤k∧k≤P.length) (fun wr=>P.length - nR wr b)
 case atStart=>exact ⟨i,HW.out,vR _ _,rfl,Nat.le_refl _,by omega⟩
 case round=>
  obtain ⟨k,hS,hg,HE,hik,hk⟩:=hrel;have hk0:=fu hS;have HK:=Lib.hid hk0;clear hk0 c2 f2;cases hL:dJ P k
  case true=>
   have HL:=Lib.hid hL;have hlt:=Bj hL;go_wp2_with fail;refine (NK _ b s P k hS _ hL).mono ?_;rintro e w1 ⟨rfl,m,hm⟩;replace hS:=hS.heap (w' :=w1) (by rw [hm];rfl);replace hg:=aO hg (show _ from hm▸bK _ m (some b));clear hm hL;obtain ⟨_,_,_,_,c2,f2,_⟩:=hS.cells;go_wp2_with fail;go_roundw
   case rel=>
    refine ⟨k+1,by have:=hS.set (k+1);push_cast at this;exact this,aO hg (j6 _ _ _ _), ?_,by omega,by omega⟩;show _=_;rw [HE.out];exact gH hlt (by simp only [HL.out];rfl)
   case measure=>
    have h1:=fu (hS.set (k+1));push_cast at h1;rw [h1,HK.out];omega
  case false=>
   cases hD:dh P k
   case true=>
    have HL:=Lib.hid hL;have HD:=Lib.hid hD;have hlt:=vv hD;go_wp2_with fail;refine (NK _ b s P k hS _ hL).mono ?_;rintro e w1 ⟨rfl,m,hm⟩;replace hS:=hS.heap (w' :=w1) (by rw [hm];rfl);replace hg:=aO hg (show _ from hm▸bK _ m (some b));clear hm hL;go_wp2_with fail;refine (EC _ b s P k hS _ hD).mono ?_;rintro e w1 ⟨rfl,m,hm⟩;replace hS:=hS.heap (w' :=w1) (by rw [hm];rfl);replace hg:=aO hg (show _ from hm▸bK _ m (some b));clear hm hD;obtain ⟨_,_,_,_,c2,f2,_⟩:=hS.cells;go_wp2_with fail;go_roundw
    case rel=>
     refine ⟨k+1,by have:=hS.set (k+1);push_cast at this;exact this,aO hg (j6 _ _ _ _), ?_,by omega,by omega⟩;show _=_;rw [HE.out];exact gH hlt (by simp only [HL.out,HD.out];rfl)
    case measure=>
     have h1:=fu (hS.set (k+1));push_cast at h1;rw [h1,HK.out];omega
   case false=>
    have HL:=Lib.hid hL;have HD:=Lib.hid hD;have HF:Hid (fq P i=k):=by show _=_;rw [HE.out];exact fE (by simp only [HL.out,HD.out];rfl)
    go_wp2_with fail;refine (NK _ b s P k hS _ hL).mono ?_;rintro e w1 ⟨rfl,m,hm⟩;replace hS:=hS.heap (w' :=w1) (by rw [hm];rfl);replace hg:=aO hg (show _ from hm▸bK _ m (some b));clear hm hL;go_wp2_with fail;refine (EC _ b s P k hS _ hD).mono ?_;rintro e w1 ⟨rfl,m,hm⟩;replace hS:=hS.heap (w' :=w1) (by rw [hm];rfl);replace hg:=aO hg (show _ from hm▸bK _ m (some b));clear hm hD;obtain ⟨_,_,c0,_,c2,f2,_⟩:=hS.cells;have Wn:=Lib.hid (fun n=>Am (w1.drewN n) b s P k i (hS.heap rfl));have Jh:=Lib.hid (fun n=>Am (w1.drewN n) b s P k k (hS.heap rfl));have hx1:((aQ s P i:Nat):Int)≤((aQ s P k:Nat):Int):=by have:=afn.out i k hik;omega
    have hx2:((aQ s P k:Nat):Int)≤(s.size:Int):=by have:=ahz.out k;omega
    have hx0:(0:Int)≤((aQ s P i:Nat):Int):=by omega
    have HT:Hid (ng s P i=s.extract (aQ s P i) (aQ s P k)):=by show _=_;unfold ng;rw [HF.out]
    generalize aQ s P i=A at *;generalize aQ s P k=B at *;go_wp2_with fail;go_quiet ((go_at_call 139;first|(with_reducible exact Calls.quiet_of_same (Wn.out _))|(with_reducible exact Calls.quiet_of_same (Jh.out _))))
    have XR:w1.heap[w.heap.size]? =some (.cells #[.int .i64 0, .string ⟨#[]⟩, .int .i64 0, .int .i64 0] 95 (0,0)):=by
     rw [hg.block w.heap.size (by simp) (by intro e;cases e;omega)];exact aA w _
    have afo:=Lib.hid (fun W hsz=>XI (s.extract A B) W hsz);go_wp2_with fail;refine (afo.out _ (by rw [ByteArray.size_extract];omega)).mono ?_;rintro e w3 ⟨rfl,hb3⟩;have hb4:Below w1.heap.size w1 w3:=(aN.below_drewN (Below.refl _ _) nq).trans hb3;have hblk3:=aZ XR hb4 (aD XR);have Fy:=hS.below hb4;have hg3:=aO hg (lu hb4 (some b));have t0:w3.cell? ⟨w.heap.size,0,none⟩=some (.int .i64 0):=by rw [au hblk3];rfl
    have t1:w3.cell? ⟨w.heap.size,1,none⟩=some (.string ⟨#[]⟩):=by rw [au hblk3];rfl
    have t2:w3.cell? ⟨w.heap.size,2,none⟩=some (.int .i64 0):=by rw [au hblk3];rfl
    have t3:w3.cell? ⟨w.heap.size,3,none⟩=some (.int .i64 0):=by rw [au hblk3];rfl
    have u0:=aj hblk3 0;have u1:=aj hblk3 1;have u2:=aj hblk3 2;have u3:=aj hblk3 3;clear hb3 XR hS hg c0 c2 f2;go_wp2_with fail;have hp4:=NM hblk3 (.int .i64 1) (.string (fold (s.extract A B))) (.int .i64 0) (.int .i64 i);have qJ:=(((Fy.setOther (g:=w.heap.size) H.out.le 0 (.int .i64 1)).setOther (g:=w.heap.size) H.out.le 1 (.string (fold (s.extract A B)))).setOther (g:=w.heap.size) H.out.le 2 (.int .i64 0)).setOther (g:=w.heap.size) H.out.le 3 (.int .i64 i);have hg4:=ac1 (aO hg3 (vR _ _)) (BR w3 w.heap.size (.int .i64 1) (.string (fold (s.extract A B))) (.int .i64 0) (.int .i64 i));generalize (((w3.setCell ⟨w.heap.size,0,none⟩ (.int .i64 1)).setCell ⟨w.heap.size,1,none⟩ (.string (fold (s.extract A B)))).setCell ⟨w.heap.size,2,none⟩ (.int .i64 0)).setCell ⟨w.heap.size,3,none⟩ (.int .i64 i)=W4 at *;have r0:W4.cell? ⟨w.heap.size,0,none⟩=some (.int .i64 1):=by rw [au hp4];rfl
    have r1:W4.cell? ⟨w.heap.size,1,none⟩=some (.string (fold (s.extract A B))):=by rw [au hp4];rfl
    have r2:W4.cell? ⟨w.heap.size,2,none⟩=some (.int .i64 0):=by rw [au hp4];rfl
    have r3:W4.cell? ⟨w.heap.size,3,none⟩=some (.int .i64 i):=by rw [au hp4];rfl
    refine bodyPost_ret (v:= .tuple #[.agg #[.int .i64 1, .string (fold (s.extract A B)), .int .i64 0, .int .i64 i], .bool (decide ((s.extract A B).size≤100))]) (by simp [results,results100,go_sem,r0,r1,r2,r3];omega) rfl ?_;refine ⟨?_, ?_,hg4⟩
    · unfold kJ Wm;rw [HT.out]
    · show SQ L W4 b s P (fq P i);rw [HF.out];exact qJ
def zA (L:Nat) (w0 wr:World) (b:Nat) (s:ByteArray) (P:List Pt) (i k:Nat) (v:Int):Prop:=
 SQ L wr b s P k∧((w0.alloc (.cells #[.int .i64 0, .string ⟨#[]⟩, .int .i64 0, .int .i64 0] 95)).alloc (.cells #[.int .i64 2, .string ⟨#[]⟩, .int .i64 0, .int .i64 i] 95)).heap.size≤wr.heap.size∧
 wr.heap[w0.heap.size]? =some (.cells #[.int .i64 0, .string ⟨#[]⟩, .int .i64 0, .int .i64 0] 95 (0,0))∧
 wr.heap[w0.heap.size+1]? =some (.cells #[.int .i64 2, .string ⟨#[]⟩, .int .i64 v, .int .i64 i] 95 (0,0))∧
 w0.grownBy wr (some b)
theorem zA.drewN {L:Nat}{w0 wr w1:World}{b:Nat}{s:ByteArray}{P:List Pt}{i k m:Nat}{v:Int}(h:zA L w0 wr b s P i k v) (hm:w1=wr.drewN m):zA L w0 w1 b s P i k v:=by
 subst hm;obtain ⟨h1,h2,h3,h4,h5⟩:=h;exact ⟨h1.heap rfl,h2,h3,h4,aO h5 (bK _ _ _)⟩
theorem zA.XT {L:Nat}{w0 wr:World}{b:Nat}{s:ByteArray}{P:List Pt}{i k:Nat}{v:Int}(h:zA L w0 wr b s P i k v) (hL:L≤w0.heap.size) (j:Nat):zA L w0 (wr.setCell ⟨b,2,none⟩ (.int .i64 j)) b s P i j v:=by
 obtain ⟨h1,h2,h3,h4,h5⟩:=h;have hb:=h1.2.1;exact ⟨h1.set j,by simpa [World.setCell]using h2,bN h3 _ _ (by show _≠b;omega),bN h4 _ _ (by show _≠b;omega),aO h5 (j6 _ _ _ _)⟩
theorem zA.Lr {L:Nat}{w0 wr:World}{b:Nat}{s:ByteArray}{P:List Pt}{i k:Nat}{v:Int}(h:zA L w0 wr b s P i k v) (hL:L≤w0.heap.size) (u:Int):zA L w0 (wr.setCell ⟨w0.heap.size+1,2,none⟩ (.int .i64 u)) b s P i k u:=by
 obtain ⟨h1,h2,h3,h4,h5⟩:=h;refine ⟨h1.setOther (by omega) _ _,by simpa [World.setCell]using h2,bN h3 _ _ (by simp), ?_, ?_⟩
 · have:=dB h4 2 (.int .i64 u);rw [this];simp
 · have h6:=j6 wr (w0.heap.size+1) 2 (.int .i64 u)
   exact ⟨h6.os.trans h5.os,h6.tape.trans h5.tape,h6.output.trans h5.output,Nat.le_trans h5.size h6.size,fun q hq hr=>by
    have:=h5.size;rw [h6.block q (by omega) (fun e=>by cases e;omega)];exact h5.block q hq hr⟩
theorem XU {P:List Pt}{k:Nat}(h:dh P k=true):∃hk:k<P.length,48≤P[k].r∧P[k].r≤57∧j4 P k=P[k].r:=by
 have hk:=vv h;refine ⟨hk, ?_⟩;unfold dh at h;rw [List.getElem?_eq_getElem hk]at h;simp only [kG,Bool.and_eq_true,decide_eq_true_eq]at h;refine ⟨by omega,by omega, ?_⟩;unfold j4;rw [List.getElem?_eq_getElem hk]
theorem zA.fin {L:Nat}{w0 wr:World}{b:Nat}{s:ByteArray}{P:List Pt}{i k:Nat}{v:Int}(h:zA L w0 wr b s P i k v) (hL:L≤w0.heap.size) (n:Nat) (W:World)
 (hW:W=((((((wr.drewN n).setCell ⟨w0.heap.size,0,none⟩ (.int .i64 2)).setCell ⟨w0.heap.size,1,none⟩ (.string ⟨#[]⟩)).setCell ⟨w0.heap.size,2,none⟩ (.int .i64 v)).setCell ⟨w0.heap.size,3,none⟩ (.int .i64 i)))):
 W.cell? ⟨w0.heap.size,0,none⟩=some (.int .i64 2)∧W.cell? ⟨w0.heap.size,1,none⟩=some (.string ⟨#[]⟩)∧W.cell? ⟨w0.heap.size,2,none⟩=some (.int .i64 v)∧W.cell? ⟨w0.heap.size,3,none⟩=some (.int .i64 i)∧
 SQ L W b s P k∧w0.grownBy W (some b):=by
 subst hW;obtain ⟨h1,h2,h3,h4,h5⟩:=h.drewN (m:=n) rfl;have hp:=NM h3 (.int .i64 2) (.string ⟨#[]⟩) (.int .i64 v) (.int .i64 i);refine ⟨by rw [au hp];rfl,by rw [au hp];rfl,by rw [au hp];rfl,by rw [au hp];rfl,(((h1.setOther hL _ _).setOther hL _ _).setOther hL _ _).setOther hL _ _, ?_⟩;have h6:=BR (wr.drewN n) w0.heap.size (.int .i64 2) (.string ⟨#[]⟩) (.int .i64 v) (.int .i64 i)
 exact ⟨h6.os.trans h5.os,h6.tape.trans h5.tape,h6.output.trans h5.output,Nat.le_trans h5.size h6.size,fun q hq hr=>by
  have:=h5.size;rw [h6.block q (by omega) (fun e=>by cases e;omega)];exact h5.block q hq hr⟩
theorem GQ {L:Nat}(w:World) (b:Nat) (s:ByteArray) (P:List Pt) (i:Nat) (h:SQ L w b s P i) (hs:s.size≤100000) (vk:xq s P) (hi:i<P.length):
 Calls prog 102 #[.pointer (some ⟨b,0,none⟩)] w (Fx L w b s P (cO P i)):=by
 obtain ⟨hPl,_,_⟩:=vk;have HL:=h.le;have HS:=Lib.hid h;obtain ⟨_,_,_,_,c2,f2,_⟩:=h.cells;have hblt:=h.lt
 have HN0:Hid (zA L w ((w.alloc (.cells #[.int .i64 0, .string ⟨#[]⟩, .int .i64 0, .int .i64 0] 95)).alloc (.cells #[.int .i64 2, .string ⟨#[]⟩, .int .i64 0, .int .i64 i] 95)) b s P i i 0):=by
  have hb2:Below w.heap.size w ((w.alloc (.cells #[.int .i64 0, .string ⟨#[]⟩, .int .i64 0, .int .i64 0] 95)).alloc (.cells #[.int .i64 2, .string ⟨#[]⟩, .int .i64 0, .int .i64 i] 95)):=((Below.refl _ _).alloc (Nat.le_refl _) _).alloc (by simp) _;refine ⟨h.below hb2,Nat.le_refl _,aC (aA w _) _, ?_,lu hb2 _⟩;have:=aA (w.alloc (.cells #[.int .i64 0, .string ⟨#[]⟩, .int .i64 0, .int .i64 0] 95)) (.cells #[.int .i64 2, .string ⟨#[]⟩, .int .i64 0, .int .i64 i] 95);simpa using this
 clear h;go_enter func102,ntmps102;go_wp2_with fail;obtain ⟨wa,hwa⟩:∃wa,wa=((w.alloc (.cells #[.int .i64 0, .string ⟨#[]⟩, .int .i64 0, .int .i64 0] 95)).alloc (.cells #[.int .i64 2, .string ⟨#[]⟩, .int .i64 0, .int .i64 i] 95)):=⟨_,rfl⟩;rw [←hwa]at HN0⊢;have hN:=HN0.out;clear hwa HN0 c2 f2;cases h45:gG P i 45
 · have HNS:Hid (bS P i=i):=by show _=_;unfold bS;rw [h45];rfl
   refine (nC _ b s P i 0 45 hN.1 (by omega) (by omega) _ h45).mono ?_;rintro e w1 ⟨rfl,m,hm⟩;replace hN:=hN.drewN hm;clear hm;have Da:=Lib.hid h45;clear h45 HS;go_wp2_with fail;refine (Lp _ b s P i hN.1).mono ?_;rintro e w2 ⟨rfl,m,hm⟩;replace hN:=hN.drewN hm;clear hm;obtain ⟨d0,hd0⟩:∃d0,dh P i=d0:=⟨_,rfl⟩;have HR:Hid (iq P i=num P i 0 d0):=by show _=_;unfold iq;rw [HNS.out,hd0]
   rw [hd0];clear hd0;go_wp2_with fail
   go_loopw [6] (fun okv wr=>∃(k:Nat) (v:Int) (ok:Bool),okv= .bool ok∧zA L w wr b s P i k v∧Hid (num P i 0 d0=num P k v ok)∧0≤v∧v≤1099511627776∧k≤P.length) (fun _ wr=>P.length - nR wr b)
   case atStart=>exact ⟨i,0,d0,rfl,hN,rfl,by omega,by omega,by omega⟩
   case round=>
    obtain ⟨k,v,ok,rfl,hN,HE,hv0,hv1,hk⟩:=hrel;have HK:=Lib.hid (fu hN.1);cases hD:dh P k
    · have HF:Hid (iq P i=(v,ok,k)):=by show _=_;rw [HR.out,HE.out,kS hD]
      go_wp2_with fail;refine (EC _ b s P k hN.1 _ hD).mono ?_;rintro e w3 ⟨rfl,m,hm⟩;replace hN:=hN.drewN hm;clear hm hD;go_wp2_with fail;obtain ⟨t0,t1,t2,t3⟩:w3.cell? ⟨w.heap.size+1,0,none⟩=some (.int .i64 2)∧w3.cell? ⟨w.heap.size+1,1,none⟩=some (.string ⟨#[]⟩)∧w3.cell? ⟨w.heap.size+1,2,none⟩=some (.int .i64 v)∧w3.cell? ⟨w.heap.size+1,3,none⟩=some (.int .i64 i):=⟨by rw [au hN.2.2.2.1];rfl,by rw [au hN.2.2.2.1];rfl,by rw [au hN.2.2.2.1];rfl,by rw [au hN.2.2.2.1];rfl⟩;have Qn:=Lib.hid (fun n=>Lm (w3.drewN n) b s P k (hN.1.heap rfl));obtain ⟨y0,y1,y2,y3⟩:w3.cell? ⟨w.heap.size,0,none⟩=some (.int .i64 0)∧w3.cell? ⟨w.heap.size,1,none⟩=some (.string ⟨#[]⟩)∧w3.cell? ⟨w.heap.size,2,none⟩=some (.int .i64 0)∧w3.cell? ⟨w.heap.size,3,none⟩=some (.int .i64 0):=⟨by rw [au hN.2.2.1];rfl,by rw [au hN.2.2.1];rfl,by rw [au hN.2.2.1];rfl,by rw [au hN.2.2.1];rfl⟩;have u0:=aj hN.2.2.1 0;have u1:=aj hN.2.2.1 1;have u2:=aj hN.2.2.1 2;have u3:=aj hN.2.2.1 3;have hfin:=Lib.hid (hN.fin HL);clear hN;cases ok
      · clear Qn;go_region;obtain ⟨r0,r1,r2,r3,qJ,hg4⟩:=hfin.out 1 (((((w3.setCell ⟨w.heap.size,0,none⟩ (.int .i64 2)).setCell ⟨w.heap.size,1,none⟩ (.string ⟨#[]⟩)).setCell ⟨w.heap.size,2,none⟩ (.int .i64 v)).setCell ⟨w.heap.size,3,none⟩ (.int .i64 i))).drew rfl;go_wp2_with fail;refine bodyPost_ret (v:= .tuple #[.agg #[.int .i64 2, .string ⟨#[]⟩, .int .i64 v, .int .i64 i], .bool false]) (by simp [results,results102,go_sem,r0,r1,r2,r3]) rfl ?_;refine ⟨?_, ?_,hg4⟩
        · unfold cO Wm;rw [Da.out,HF.out];rfl
        · show SQ L _ b s P _;unfold cO;rw [HF.out];exact qJ
      · go_region_with ((go_at_call 99;refine (Qn.out 1).mono ?_;rintro e w4 ⟨rfl,m,hm⟩))
        all_goals
         obtain ⟨r0,r1,r2,r3,qJ,hg4⟩:=hfin.out (1+m) (((((w3.drewN (1+m)).setCell ⟨w.heap.size,0,none⟩ (.int .i64 2)).setCell ⟨w.heap.size,1,none⟩ (.string ⟨#[]⟩)).setCell ⟨w.heap.size,2,none⟩ (.int .i64 v)).setCell ⟨w.heap.size,3,none⟩ (.int .i64 i)) rfl;clear hm Qn t0 t1 t2 t3 y0 y1 y2 y3 u0 u1 u2 u3;go_wp2_with fail;refine bodyPost_ret (v:= .tuple #[.agg #[.int .i64 2, .string ⟨#[]⟩, .int .i64 v, .int .i64 i], .bool (!dJ P k)]) (by simp [results,results102,go_sem,r0,r1,r2,r3]) rfl ?_;refine ⟨?_, ?_,hg4⟩
         · unfold cO Wm;rw [Da.out,HF.out];rfl
         · show SQ L _ b s P _;unfold cO;rw [HF.out];exact qJ
    · obtain ⟨hkl,hr0,hr1,hrA⟩:=XU hD;have HG:=Lib.hid (qV (v:=v) (ok:=ok) hD);go_wp2_with fail;refine (EC _ b s P k hN.1 _ hD).mono ?_;rintro e w3 ⟨rfl,m,hm⟩;replace hN:=hN.drewN hm;clear hm hD;obtain ⟨a,cap,_,c1,c2,f2,hc⟩:=hN.1.cells;obtain ⟨g,rfl,hcc⟩:=hc (by omega);have c4:w3.cell? ⟨g,k*3,none⟩=some (.int .i32 P[k].r):=hcc _ _ (by have:=nA P k 0 hkl (by omega);rw [Nat.add_zero]at this;rw [this];rfl);have c5:w3.cell? ⟨w.heap.size+1,2,none⟩=some (.int .i64 v):=by rw [au hN.2.2.2.1];rfl
      have f5:w3.frozen? ⟨w.heap.size+1,2,none⟩=false:=aj hN.2.2.2.1 2;rw [hrA]at HG;clear hc hcc hrA;generalize P[k].r=r at *;have q1:IntKind.i64.wrap (v*10)=v*10:=IntWalk.i64_in _ (by omega);have q2:IntKind.i32.wrap ((r:Int) - 48)=(r:Int) - 48:=wraps_i32 _ (by omega) (by omega);have q3:IntKind.i64.wrap ((r:Int) - 48)=(r:Int) - 48:=IntWalk.i64_in _ (by omega);have q4:IntKind.i64.wrap (v*10+((r:Int) - 48))=v*10+((r:Int) - 48):=IntWalk.i64_in _ (by omega);have q5:(k:Int)<(P.length:Int):=by omega
      have q6:(0:Int)≤(k:Int):=by omega
      go_wp2_with fail;go_still_tail 18,(by kernel_rfl);cases ok
      all_goals
       go_wp2_with fail;go_roundw
       case rel=>
        refine ⟨k+1,min (v*10+((r:Int) - 48)) 1099511627776,_,rfl,zA.drewN (m:=1) ((((hN.Lr HL _).Lr HL _).XT HL (k+1))) (by push_cast;rfl), ?_,by omega,by omega,by omega⟩;show _=_;rw [HE.out,HG.out];rfl
       case measure=>
        have h1:=fu (((hN.Lr HL (v*10+((r:Int) - 48))).Lr HL (min (v*10+((r:Int) - 48)) 1099511627776)).XT HL (k+1)).1
        push_cast at h1
        have h2:=HK.out;rw [h2];refine Nat.lt_of_le_of_lt (Nat.le_of_eq (congrArg (P.length - ·) h1)) ?_;show P.length - (k+1)<P.length - k;omega
 · have HNS:Hid (bS P i=(i+1)):=by show _=_;unfold bS;rw [h45];rfl
   refine (nC _ b s P i 0 45 hN.1 (by omega) (by omega) _ h45).mono ?_;rintro e w1 ⟨rfl,m,hm⟩;replace hN:=hN.drewN hm;clear hm;have Da:=Lib.hid h45;obtain ⟨_,_,_,_,c2,f2,_⟩:=hN.1.cells;have HB:=Lib.hid hN;clear h45 HS hN;go_wp2_with fail;have hN:=HB.out.XT HL (i+1);rw [show (((i+1:Nat):Int))=(i:Int)+1 by push_cast;rfl]at hN;clear HB c2 f2;refine (Lp _ b s P (i+1) hN.1).mono ?_;rintro e w2 ⟨rfl,m,hm⟩;replace hN:=hN.drewN hm;clear hm;obtain ⟨d0,hd0⟩:∃d0,dh P (i+1)=d0:=⟨_,rfl⟩;have HR:Hid (iq P i=num P (i+1) 0 d0):=by show _=_;unfold iq;rw [HNS.out,hd0]
   rw [hd0];clear hd0;go_wp2_with fail
   go_loopw [6] (fun okv wr=>∃(k:Nat) (v:Int) (ok:Bool),okv= .bool ok∧zA L w wr b s P i k v∧Hid (num P (i+1) 0 d0=num P k v ok)∧0≤v∧v≤1099511627776∧k≤P.length) (fun _ wr=>P.length - nR wr b)
   case atStart=>exact ⟨(i+1),0,d0,rfl,hN,rfl,by omega,by omega,by omega⟩
   case round=>
    obtain ⟨k,v,ok,rfl,hN,HE,hv0,hv1,hk⟩:=hrel;have HK:=Lib.hid (fu hN.1);cases hD:dh P k
    · have HF:Hid (iq P i=(v,ok,k)):=by show _=_;rw [HR.out,HE.out,kS hD]
      go_wp2_with fail;refine (EC _ b s P k hN.1 _ hD).mono ?_;rintro e w3 ⟨rfl,m,hm⟩;replace hN:=hN.drewN hm;clear hm hD;have c5:w3.cell? ⟨w.heap.size+1,2,none⟩=some (.int .i64 v):=by rw [au hN.2.2.2.1];rfl
      have f5:w3.frozen? ⟨w.heap.size+1,2,none⟩=false:=aj hN.2.2.2.1 2;have q1:IntKind.i64.wrap (-v)= -v:=IntWalk.i64_in _ (by omega);have HB:=Lib.hid hN;clear hN;go_wp2_with fail;have hN:=HB.out.Lr HL (-v);generalize w3.setCell ⟨w.heap.size+1,2,none⟩ (.int .i64 (-v))=w5 at hN⊢;clear HB c5 f5 q1;obtain ⟨t0,t1,t2,t3⟩:w5.cell? ⟨w.heap.size+1,0,none⟩=some (.int .i64 2)∧w5.cell? ⟨w.heap.size+1,1,none⟩=some (.string ⟨#[]⟩)∧w5.cell? ⟨w.heap.size+1,2,none⟩=some (.int .i64 (-v))∧w5.cell? ⟨w.heap.size+1,3,none⟩=some (.int .i64 i):=⟨by rw [au hN.2.2.2.1];rfl,by rw [au hN.2.2.2.1];rfl,by rw [au hN.2.2.2.1];rfl,by rw [au hN.2.2.2.1];rfl⟩;have Qn:=Lib.hid (fun n=>Lm (w5.drewN n) b s P k (hN.1.heap rfl));obtain ⟨y0,y1,y2,y3⟩:w5.cell? ⟨w.heap.size,0,none⟩=some (.int .i64 0)∧w5.cell? ⟨w.heap.size,1,none⟩=some (.string ⟨#[]⟩)∧w5.cell? ⟨w.heap.size,2,none⟩=some (.int .i64 0)∧w5.cell? ⟨w.heap.size,3,none⟩=some (.int .i64 0):=⟨by rw [au hN.2.2.1];rfl,by rw [au hN.2.2.1];rfl,by rw [au hN.2.2.1];rfl,by rw [au hN.2.2.1];rfl⟩;have u0:=aj hN.2.2.1 0;have u1:=aj hN.2.2.1 1;have u2:=aj hN.2.2.1 2;have u3:=aj hN.2.2.1 3;have hfin:=Lib.hid (hN.fin HL);clear hN;cases ok
      · clear Qn;go_region;obtain ⟨r0,r1,r2,r3,qJ,hg4⟩:=hfin.out 1 (((((w5.setCell ⟨w.heap.size,0,none⟩ (.int .i64 2)).setCell ⟨w.heap.size,1,none⟩ (.string ⟨#[]⟩)).setCell ⟨w.heap.size,2,none⟩ (.int .i64 (-v))).setCell ⟨w.heap.size,3,none⟩ (.int .i64 i))).drew rfl;go_wp2_with fail;refine bodyPost_ret (v:= .tuple #[.agg #[.int .i64 2, .string ⟨#[]⟩, .int .i64 (-v), .int .i64 i], .bool false]) (by simp [results,results102,go_sem,r0,r1,r2,r3]) rfl ?_;refine ⟨?_, ?_,hg4⟩
        · unfold cO Wm;rw [Da.out,HF.out];rfl
        · show SQ L _ b s P _;unfold cO;rw [HF.out];exact qJ
      · go_region_with ((go_at_call 99;refine (Qn.out 1).mono ?_;rintro e w4 ⟨rfl,m,hm⟩))
        all_goals
         obtain ⟨r0,r1,r2,r3,qJ,hg4⟩:=hfin.out (1+m) (((((w5.drewN (1+m)).setCell ⟨w.heap.size,0,none⟩ (.int .i64 2)).setCell ⟨w.heap.size,1,none⟩ (.string ⟨#[]⟩)).setCell ⟨w.heap.size,2,none⟩ (.int .i64 (-v))).setCell ⟨w.heap.size,3,none⟩ (.int .i64 i)) rfl;clear hm Qn t0 t1 t2 t3 y0 y1 y2 y3 u0 u1 u2 u3;go_wp2_with fail;refine bodyPost_ret (v:= .tuple #[.agg #[.int .i64 2, .string ⟨#[]⟩, .int .i64 (-v), .int .i64 i], .bool (!dJ P k)]) (by simp [results,results102,go_sem,r0,r1,r2,r3]) rfl ?_;refine ⟨?_, ?_,hg4⟩
         · unfold cO Wm;rw [Da.out,HF.out];rfl
         · show SQ L _ b s P _;unfold cO;rw [HF.out];exact qJ
    · obtain ⟨hkl,hr0,hr1,hrA⟩:=XU hD;have HG:=Lib.hid (qV (v:=v) (ok:=ok) hD);go_wp2_with fail;refine (EC _ b s P k hN.1 _ hD).mono ?_;rintro e w3 ⟨rfl,m,hm⟩;replace hN:=hN.drewN hm;clear hm hD;obtain ⟨a,cap,_,c1,c2,f2,hc⟩:=hN.1.cells;obtain ⟨g,rfl,hcc⟩:=hc (by omega);have c4:w3.cell? ⟨g,k*3,none⟩=some (.int .i32 P[k].r):=hcc _ _ (by have:=nA P k 0 hkl (by omega);rw [Nat.add_zero]at this;rw [this];rfl);have c5:w3.cell? ⟨w.heap.size+1,2,none⟩=some (.int .i64 v):=by rw [au hN.2.2.2.1];rfl
      have f5:w3.frozen? ⟨w.heap.size+1,2,none⟩=false:=aj hN.2.2.2.1 2;rw [hrA]at HG;clear hc hcc hrA;generalize P[k].r=r at *;have q1:IntKind.i64.wrap (v*10)=v*10:=IntWalk.i64_in _ (by omega);have q2:IntKind.i32.wrap ((r:Int) - 48)=(r:Int) - 48:=wraps_i32 _ (by omega) (by omega);have q3:IntKind.i64.wrap ((r:Int) - 48)=(r:Int) - 48:=IntWalk.i64_in _ (by omega);have q4:IntKind.i64.wrap (v*10+((r:Int) - 48))=v*10+((r:Int) - 48):=IntWalk.i64_in _ (by omega);have q5:(k:Int)<(P.length:Int):=by omega
      have q6:(0:Int)≤(k:Int):=by omega
      go_wp2_with fail;go_still_tail 18,(by kernel_rfl);cases ok
      all_goals
       go_wp2_with fail;go_roundw
       case rel=>
        refine ⟨k+1,min (v*10+((r:Int) - 48)) 1099511627776,_,rfl,zA.drewN (m:=1) ((((hN.Lr HL _).Lr HL _).XT HL (k+1))) (by push_cast;rfl), ?_,by omega,by omega,by omega⟩;show _=_;rw [HE.out,HG.out];rfl
       case measure=>
        have h1:=fu (((hN.Lr HL (v*10+((r:Int) - 48))).Lr HL (min (v*10+((r:Int) - 48)) 1099511627776)).XT HL (k+1)).1
        push_cast at h1
        have h2:=HK.out;rw [h2];refine Nat.lt_of_le_of_lt (Nat.le_of_eq (congrArg (P.length - ·) h1)) ?_;show P.length - (k+1)<P.length - k;omega
theorem aa1 {w0 w1 w2:World}{a:Addr}{u:Value}(h:w1.cell? a=some u∧Below w0.heap.size w0 w1) (hb:Below w1.heap.size w1 w2):w2.cell? a=some u∧Below w0.heap.size w0 w2:=
 ⟨(Below.cell hb (World.block_lt_of_cell? _ _ h.1)).trans h.1,h.2.trans (hb.mono h.2.size)⟩
theorem mI {L:Nat}{w0 wr:World}{b:Nat}{s:ByteArray}{P:List Pt}{k:Nat}{x0 x1 x2 x3:Value}{T:TypeId}(h1:SQ L wr b s P k) (h3:wr.heap[w0.heap.size]? =some (.cells #[x0,x1,x2,x3] T (0,0))) (h5:w0.grownBy wr (some b)) (hL:L≤w0.heap.size) (v0 v1 v2 v3:Value) (W:World)
 (hW:W=(((wr.setCell ⟨w0.heap.size,0,none⟩ v0).setCell ⟨w0.heap.size,1,none⟩ v1).setCell ⟨w0.heap.size,2,none⟩ v2).setCell ⟨w0.heap.size,3,none⟩ v3):
 W.cell? ⟨w0.heap.size,0,none⟩=some v0∧W.cell? ⟨w0.heap.size,1,none⟩=some v1∧W.cell? ⟨w0.heap.size,2,none⟩=some v2∧W.cell? ⟨w0.heap.size,3,none⟩=some v3∧
 SQ L W b s P k∧w0.grownBy W (some b):=by
 subst hW;have hp:=NM h3 v0 v1 v2 v3;refine ⟨by rw [au hp];rfl,by rw [au hp];rfl,by rw [au hp];rfl,by rw [au hp];rfl,(((h1.setOther hL _ _).setOther hL _ _).setOther hL _ _).setOther hL _ _, ?_⟩;have h6:=BR wr w0.heap.size v0 v1 v2 v3
 exact ⟨h6.os.trans h5.os,h6.tape.trans h5.tape,h6.output.trans h5.output,Nat.le_trans h5.size h6.size,fun q hq hr=>by
  have:=h5.size;rw [h6.block q (by omega) (fun e=>by cases e;omega)];exact h5.block q hq hr⟩
theorem XV (s:ByteArray) (f:Int) (w:World) (hs:s.size≤1000000):
 Calls prog 141 #[.string s, .int .i64 f] w fun e w' =>e= .returned (.tuple #[.string (Dg s f), .int .i64 (wQ s f), .bool (ER s f)])∧Below w.heap.size w w' :=by
 rw [←RO];exact NG s f w hs
theorem XW {L:Nat}(ws w:World) (b:Nat) (s:ByteArray) (P:List Pt) (i:Nat) (h:SQ L w b s P i) (hG:Glob ws) (hB:Below ws.heap.size ws w) (hwb:ws.heap.size≤b) (hs:s.size≤100000) (vk:xq s P) (hi:i<P.length):
 Calls prog 103 #[.pointer (some ⟨b,0,none⟩)] w (Fx L w b s P (j5 s P i)):=by
 obtain ⟨hPl,hmono,XQ⟩:=vk;have HL:=h.le;have hblt:=h.lt;have Wn:=Lib.hid (XQ i);have HS:Hid (SQ L (w.alloc (.cells #[.int .i64 0, .string ⟨#[]⟩, .int .i64 0, .int .i64 0] 95)) b s P i):=h.below ((Below.refl _ _).alloc (Nat.le_refl _) _);have HGW:Hid (∀wr,w.grownBy wr (some b)→Glob wr):=fun wr hg=>hG.below (hB.trans (kE hg hwb hB.size))
 obtain ⟨a,cap,c0,c1,c2,f2,_⟩:=h.cells;clear h hG hmono XQ hB;go_enter func103,ntmps103;go_wp2_with fail;obtain ⟨w0,hw0⟩:∃w0,w0=w.alloc (.cells #[.int .i64 0, .string ⟨#[]⟩, .int .i64 0, .int .i64 0] 95):=⟨_,rfl⟩
 have H0:Hid (w0.heap.size=w.heap.size+1∧w0.heap[w.heap.size]? =some (.cells #[.int .i64 0, .string ⟨#[]⟩, .int .i64 0, .int .i64 0] 95 (0,0))∧w.grownBy w0 (some b)):=by
  refine ⟨by rw [hw0];simp,by rw [hw0];exact aA w _,by rw [hw0];exact lu ((Below.refl _ _).alloc (Nat.le_refl _) _) _⟩
 rw [←hw0]at HS⊢;clear hw0;have c0' :w0.cell? ⟨b,0,none⟩=some (.string s):=by obtain ⟨_,_,k0,_⟩:=HS.out.cells;exact k0
 have hS:w0.cell? ⟨b,0,none⟩=some (.string s)∧Below w0.heap.size w0 w0:=⟨c0',Below.refl _ _⟩;have hbt:=Lib.hid (Am (L:=L) · b s P i i);have hUn:=Lib.hid (fun f wx=>XV s f wx (by omega))
 go_region_held3 (fun w' =>w'.cell? ⟨b,0,none⟩=some (.string s)∧Below w0.heap.size w0 w') (first|exact aa1 (by assumption) hb2|exact ⟨c0',(Below.refl _ _).drew⟩)
  (first
   |(go_at_call 139;refine (hbt.out _ (HS.out.below (And.right (by assumption)))).mono ?_;rintro e w1 ⟨rfl,rfl⟩)
   |(go_at_call 141;refine (hUn.out _ _).mono ?_;rintro e w2 ⟨rfl,hb2⟩))
 have hT:w2.cell? ⟨b,0,none⟩=some (.string s)∧Below w0.heap.size w0 w2:=by assumption
 replace hS:=HS.out.below hT.2;have hblk:=aZ H0.out.2.1 hT.2 (aD H0.out.2.1);have hg:=aO H0.out.2.2 (lu hT.2 (some b));have HT:=Lib.hid (uj s P i);have hU:=JK s (aQ s P i);have hN:=KU s (aQ s P i);clear hT c0 c1 c2 f2 hbt hUn c0' Wn HS;generalize Dg s (aQ s P i)=U at *;generalize wQ s (aQ s P i)=N at *;generalize ER s (aQ s P i)=O at *;have HW:Hid (w.heap.size<w2.heap.size):=aD hblk;go_wp2_with fail
 go_loopw [] (fun wr=>∃k,SQ L wr b s P k∧wr.heap[w.heap.size]? =some (.cells #[.int .i64 0, .string ⟨#[]⟩, .int .i64 0, .int .i64 0] 95 (0,0))∧w.grownBy wr (some b)∧Hid (bP P N i=bP P N k)∧k≤P.length) (fun wr=>P.length - nR wr b)
 case atStart=>exact ⟨i,hS,hblk,hg,rfl,by omega⟩
 case round=>
  clear hS hblk hg;obtain ⟨k,hS,hblk,hg,HE,hk⟩:=hrel;have HK:=Lib.hid (fu hS);by_cases hlk:k<P.length
  · have he:=Lib.hid (fun n=>uK (wr.drewN n) b s P k (hS.heap rfl) false (decide_eq_false (by omega)));obtain ⟨a,cap,_,c1,c2,f2,hc⟩:=hS.cells;obtain ⟨g,rfl,hcc⟩:=hc (by omega);have c4:wr.cell? ⟨g,k*3+1,none⟩=some (.int .i64 P[k].at_):=hcc _ _ (by have:=nA P k 1 hlk (by omega);rw [this];rfl);have HP:=Lib.hid (List.getElem?_eq_getElem hlk);clear hc hcc;generalize P[k]=p at *;have q5:(k:Int)<(P.length:Int):=by omega
    have q6:(0:Int)≤(k:Int):=by omega
    cases hq:decide ((p.at_:Int)<N)
    · have HF:Hid (bP P N i=k):=by show _=_;rw [HE.out];unfold bP;exact fE (by rw [HP.out];exact hq)
      go_wp2_with fail;go_quiet ((go_at_call 60;exact Calls.quiet_of (he.out _)));obtain ⟨w3,hw3⟩:∃w3,w3=wr.drewN nq:=⟨_,rfl⟩;replace hS:=hS.heap (w' :=w3) (by rw [hw3];rfl);replace hblk:w3.heap[w.heap.size]? =some (.cells #[.int .i64 0, .string ⟨#[]⟩, .int .i64 0, .int .i64 0] 95 (0,0)):=by rw [hw3];exact hblk
      replace hg:=aO hg (show _ from hw3▸bK _ nq (some b));rw [←hw3];have t0:w3.cell? ⟨w.heap.size,0,none⟩=some (.int .i64 0):=by rw [au hblk];rfl
      have t1:w3.cell? ⟨w.heap.size,1,none⟩=some (.string ⟨#[]⟩):=by rw [au hblk];rfl
      have t2:w3.cell? ⟨w.heap.size,2,none⟩=some (.int .i64 0):=by rw [au hblk];rfl
      have t3:w3.cell? ⟨w.heap.size,3,none⟩=some (.int .i64 0):=by rw [au hblk];rfl
      have u0:=aj hblk 0;have u1:=aj hblk 1;have u2:=aj hblk 2;have u3:=aj hblk 3;clear hw3 c1 c2 f2 c4 q5 q6 hq HP he;have Uy:=Lib.hid (fun hz=>Ka U w3 (HGW.out _ hg) hz);cases O
      · go_wp2_with fail;obtain ⟨r0,r1,r2,r3,qJ,hg4⟩:=mI hS hblk hg HL (.int .i64 3) (.string U) (.int .i64 0) (.int .i64 i) _ rfl;refine bodyPost_ret (v:= .tuple #[.agg #[.int .i64 3, .string U, .int .i64 0, .int .i64 i], .bool false]) (by simp [results,results103,go_sem,r0,r1,r2,r3]) rfl ?_;refine ⟨?_, ?_,hg4⟩
        · rw [HT.out];rfl
        · rw [HT.out];show SQ L _ b s P (bP P N i);rw [HF.out];exact qJ
      · have HZ:Hid (decide (U.size≤100)=decide ((U.size:Int)≤100)):=by show _=_;rw [decide_eq_decide];omega
        cases hz:decide ((U.size:Int)≤100)
        · have HZ2:=Lib.hid hz;clear Uy;go_wp2_with fail;obtain ⟨r0,r1,r2,r3,qJ,hg4⟩:=mI hS hblk hg HL (.int .i64 3) (.string U) (.int .i64 0) (.int .i64 i) _ rfl;refine bodyPost_ret (v:= .tuple #[.agg #[.int .i64 3, .string U, .int .i64 0, .int .i64 i], .bool false]) (by simp [results,results103,go_sem,r0,r1,r2,r3]) rfl ?_;refine ⟨?_, ?_,hg4⟩
          · rw [HT.out,HZ.out,HZ2.out];rfl
          · rw [HT.out];show SQ L _ b s P (bP P N i);rw [HF.out];exact qJ
        · have hz2:U.size≤100:=by have:=of_decide_eq_true hz;omega
          go_wp2_with fail;refine (Uy.out (by omega)).mono ?_;rintro e w4 ⟨rfl,hb4⟩;replace hS:=hS.below hb4;replace hg:=aO hg (lu hb4 (some b));replace hblk:=aZ hblk hb4 (aD hblk);clear t0 t1 t2 t3 u0 u1 u2 u3 Uy hb4;have t0:w4.cell? ⟨w.heap.size,0,none⟩=some (.int .i64 0):=by rw [au hblk];rfl
          have t1:w4.cell? ⟨w.heap.size,1,none⟩=some (.string ⟨#[]⟩):=by rw [au hblk];rfl
          have t2:w4.cell? ⟨w.heap.size,2,none⟩=some (.int .i64 0):=by rw [au hblk];rfl
          have t3:w4.cell? ⟨w.heap.size,3,none⟩=some (.int .i64 0):=by rw [au hblk];rfl
          have u0:=aj hblk 0;have u1:=aj hblk 1;have u2:=aj hblk 2;have u3:=aj hblk 3;have HZ2:=Lib.hid hz;clear hz;go_wp2_with fail;obtain ⟨r0,r1,r2,r3,qJ,hg4⟩:=mI hS hblk hg HL (.int .i64 3) (.string U) (.int .i64 0) (.int .i64 i) _ rfl;refine bodyPost_ret (v:= .tuple #[.agg #[.int .i64 3, .string U, .int .i64 0, .int .i64 i], .bool (valid U)]) (by simp [results,results103,go_sem,r0,r1,r2,r3]) rfl ?_;refine ⟨?_, ?_,hg4⟩
          · rw [HT.out,HZ.out,HZ2.out];rfl
          · rw [HT.out];show SQ L _ b s P (bP P N i);rw [HF.out];exact qJ
    · have HF:Hid (bP P N i=bP P N (k+1)):=by show _=_;rw [HE.out];unfold bP;exact gH hlk (by rw [HP.out];exact hq)
      go_wp2_with fail;go_quiet ((go_at_call 60;exact Calls.quiet_of (he.out _)));go_wp2_with fail;go_roundw
      case rel=>
       refine ⟨k+1,by have:=(hS.heap (w' :=wr.drewN nq) rfl).set (k+1);push_cast at this;exact this,bN (by exact hblk) _ _ (by show _≠b;omega),aO (aO hg (bK _ nq (some b))) (j6 _ _ _ _),HF,by omega⟩
      case measure=>
       have h1:=fu ((hS.heap (w' :=wr.drewN nq) rfl).set (k+1));push_cast at h1;rw [h1,HK.out];omega
  · have he:=Lib.hid (fun n=>uK (wr.drewN n) b s P k (hS.heap rfl) true (decide_eq_true (by omega)));have HF:Hid (bP P N i=k):=by show _=_;rw [HE.out];unfold bP;exact qM (by omega)
    go_wp2_with fail;go_quiet ((go_at_call 60;exact Calls.quiet_of (he.out _)));obtain ⟨w3,hw3⟩:∃w3,w3=wr.drewN nq:=⟨_,rfl⟩;replace hS:=hS.heap (w' :=w3) (by rw [hw3];rfl);replace hblk:w3.heap[w.heap.size]? =some (.cells #[.int .i64 0, .string ⟨#[]⟩, .int .i64 0, .int .i64 0] 95 (0,0)):=by rw [hw3];exact hblk
    replace hg:=aO hg (show _ from hw3▸bK _ nq (some b));rw [←hw3];have t0:w3.cell? ⟨w.heap.size,0,none⟩=some (.int .i64 0):=by rw [au hblk];rfl
    have t1:w3.cell? ⟨w.heap.size,1,none⟩=some (.string ⟨#[]⟩):=by rw [au hblk];rfl
    have t2:w3.cell? ⟨w.heap.size,2,none⟩=some (.int .i64 0):=by rw [au hblk];rfl
    have t3:w3.cell? ⟨w.heap.size,3,none⟩=some (.int .i64 0):=by rw [au hblk];rfl
    have u0:=aj hblk 0;have u1:=aj hblk 1;have u2:=aj hblk 2;have u3:=aj hblk 3;clear hw3 he;have Uy:=Lib.hid (fun hz=>Ka U w3 (HGW.out _ hg) hz);cases O
    · go_wp2_with fail;obtain ⟨r0,r1,r2,r3,qJ,hg4⟩:=mI hS hblk hg HL (.int .i64 3) (.string U) (.int .i64 0) (.int .i64 i) _ rfl;refine bodyPost_ret (v:= .tuple #[.agg #[.int .i64 3, .string U, .int .i64 0, .int .i64 i], .bool false]) (by simp [results,results103,go_sem,r0,r1,r2,r3]) rfl ?_;refine ⟨?_, ?_,hg4⟩
      · rw [HT.out];rfl
      · rw [HT.out];show SQ L _ b s P (bP P N i);rw [HF.out];exact qJ
    · have HZ:Hid (decide (U.size≤100)=decide ((U.size:Int)≤100)):=by show _=_;rw [decide_eq_decide];omega
      cases hz:decide ((U.size:Int)≤100)
      · go_wp2_with fail;obtain ⟨r0,r1,r2,r3,qJ,hg4⟩:=mI hS hblk hg HL (.int .i64 3) (.string U) (.int .i64 0) (.int .i64 i) _ rfl;refine bodyPost_ret (v:= .tuple #[.agg #[.int .i64 3, .string U, .int .i64 0, .int .i64 i], .bool false]) (by simp [results,results103,go_sem,r0,r1,r2,r3]) rfl ?_;refine ⟨?_, ?_,hg4⟩
        · rw [HT.out,HZ.out,hz];rfl
        · rw [HT.out];show SQ L _ b s P (bP P N i);rw [HF.out];exact qJ
      · have hz2:U.size≤100:=by have:=of_decide_eq_true hz;omega
        go_wp2_with fail;refine (Uy.out (by omega)).mono ?_;rintro e w4 ⟨rfl,hb4⟩;replace hS:=hS.below hb4;replace hg:=aO hg (lu hb4 (some b));replace hblk:=aZ hblk hb4 (aD hblk);clear t0 t1 t2 t3 u0 u1 u2 u3 Uy hb4;have t0:w4.cell? ⟨w.heap.size,0,none⟩=some (.int .i64 0):=by rw [au hblk];rfl
        have t1:w4.cell? ⟨w.heap.size,1,none⟩=some (.string ⟨#[]⟩):=by rw [au hblk];rfl
        have t2:w4.cell? ⟨w.heap.size,2,none⟩=some (.int .i64 0):=by rw [au hblk];rfl
        have t3:w4.cell? ⟨w.heap.size,3,none⟩=some (.int .i64 0):=by rw [au hblk];rfl
        have u0:=aj hblk 0;have u1:=aj hblk 1;have u2:=aj hblk 2;have u3:=aj hblk 3;have HZ2:=Lib.hid hz;clear hz;go_wp2_with fail;obtain ⟨r0,r1,r2,r3,qJ,hg4⟩:=mI hS hblk hg HL (.int .i64 3) (.string U) (.int .i64 0) (.int .i64 i) _ rfl;refine bodyPost_ret (v:= .tuple #[.agg #[.int .i64 3, .string U, .int .i64 0, .int .i64 i], .bool (valid U)]) (by simp [results,results103,go_sem,r0,r1,r2,r3]) rfl ?_;refine ⟨?_, ?_,hg4⟩
        · rw [HT.out,HZ.out,HZ2.out];rfl
        · rw [HT.out];show SQ L _ b s P (bP P N i);rw [HF.out];exact qJ
theorem Uz {a w:World}{b k:Nat}(h:a.grownBy w (some b)) (hk:a.heap.size≤k) (s:ByteArray) (p:Nat):a.grownBy (w.iterAt k s p) (some b):=
 ⟨h.os,h.tape,h.output,by rw [Lib.iterAt_size];exact h.size,fun i hi hr=>by rw [Lib.iterAt_other _ _ _ _ _ (by omega)];exact h.block i hi hr⟩
theorem ab2 {L:Nat}{w:World}{b:Nat}{s:ByteArray}{P:List Pt}{i:Nat}(h:SQ L w b s P i):w.cell? ⟨b,2,none⟩=some (.int .i64 i)∧w.frozen? ⟨b,2,none⟩=false:=by
 obtain ⟨_,_,_,_,c2,f2,_⟩:=h.cells;exact ⟨c2,f2⟩
theorem isx {L:Nat}{w wi w' :World}{b k g:Nat}{s:ByteArray}{P:List Pt}{i:Nat}{e v:Ending}{o x:Obj}(h:e=v∧∃m,w' =wi.drewN m) (hS:SQ L wi b s P i) (h1:wi.heap[k]? =some o) (h2:wi.heap[g]? =some x) (h3:w.grownBy wi (some b)):
 e=v∧SQ L w' b s P i∧w'.heap[k]? =some o∧w'.heap[g]? =some x∧w.grownBy w' (some b):=by
 obtain ⟨rfl,m,rfl⟩:=h;exact ⟨rfl,hS.heap rfl,h1,h2,aO h3 (bK _ m _)⟩
theorem aa2 (q:Nat) (h:q<6):Utf8.encode (wR q)=⟨#[UInt8.ofNat (wR q)]⟩:=by
 have:q=0∨q=1∨q=2∨q=3∨q=4∨q=5:=by omega
 rcases this with rfl|rfl|rfl|rfl|rfl|rfl<;>rfl
theorem kg {w:World}{g:Nat}{a b c d:Value}{T:TypeId}(h:w.heap[g]? =some (.cells #[a,b,c,d] T (0,0))):
 w.cell? ⟨g,0,none⟩=some a∧w.cell? ⟨g,1,none⟩=some b∧w.cell? ⟨g,2,none⟩=some c∧w.cell? ⟨g,3,none⟩=some d∧w.frozen? ⟨g,0,none⟩=false∧w.frozen? ⟨g,1,none⟩=false∧w.frozen? ⟨g,2,none⟩=false∧w.frozen? ⟨g,3,none⟩=false:=
 ⟨by rw [au h];rfl,by rw [au h];rfl,by rw [au h];rfl,by rw [au h];rfl,aj h 0,aj h 1,aj h 2,aj h 3⟩
theorem UA {L:Nat}(ws w:World) (b:Nat) (s:ByteArray) (P:List Pt) (i:Nat) (h:SQ L w b s P i) (hG:Glob ws) (hB:Below ws.heap.size ws w) (hwb:ws.heap.size≤b) (hs:s.size≤100000) (vk:xq s P) (hi:i<P.length):
 Calls prog 61 #[.pointer (some ⟨b,0,none⟩)] w (Fx L w b s P (dK s P i)):=by
 have aa3:=Lib.hid vk;have hPl:=vk.1;have HL:=h.le;have hblt:=h.lt;have HB:Hid (∀wr,w.grownBy wr (some b)→Below ws.heap.size ws wr):=fun wr hg=>hB.trans (kE hg hwb hB.size)
 have hS:SQ L (w.alloc (.cells #[.int .i64 0, .string ⟨#[]⟩, .int .i64 0, .int .i64 0] 95)) b s P i:=h.below ((Below.refl _ _).alloc (Nat.le_refl _) _);have hg:=lu ((Below.refl w.heap.size w).alloc (Nat.le_refl _) (.cells #[.int .i64 0, .string ⟨#[]⟩, .int .i64 0, .int .i64 0] 95)) (some b);have hblk:=aA w (.cells #[.int .i64 0, .string ⟨#[]⟩, .int .i64 0, .int .i64 0] 95);clear h hB vk;go_enter func61,ntmps61;go_wp2_with fail;generalize w.alloc (.cells #[.int .i64 0, .string ⟨#[]⟩, .int .i64 0, .int .i64 0] 95)=w0 at *;cases hL:dJ P i
 · refine (NK _ b s P i hS _ hL).mono ?_;rintro e w1 ⟨rfl,m,hm⟩;replace hS:=hS.heap (w' :=w1) (by rw [hm];rfl);replace hg:=aO hg (show _ from hm▸bK _ m (some b));replace hblk:w1.heap[w.heap.size]? =some (.cells #[.int .i64 0, .string ⟨#[]⟩, .int .i64 0, .int .i64 0] 95 (0,0)):=by rw [hm];exact hblk
   clear hm;have ZV:=Lib.hid hL;clear hL;go_wp2_with fail;cases hD:dh P i
   · refine (EC _ b s P i hS _ hD).mono ?_;rintro e w1 ⟨rfl,m,hm⟩;replace hS:=hS.heap (w' :=w1) (by rw [hm];rfl);replace hg:=aO hg (show _ from hm▸bK _ m (some b));replace hblk:w1.heap[w.heap.size]? =some (.cells #[.int .i64 0, .string ⟨#[]⟩, .int .i64 0, .int .i64 0] 95 (0,0)):=by rw [hm];exact hblk
     clear hm;have HD:=Lib.hid hD;clear hD;go_wp2_with fail;cases h45:gG P i 45
     · refine (nC _ b s P i 0 45 hS (by omega) (by omega) _ h45).mono ?_;rintro e w1 ⟨rfl,m,hm⟩;replace hS:=hS.heap (w' :=w1) (by rw [hm];rfl);replace hg:=aO hg (show _ from hm▸bK _ m (some b));replace hblk:w1.heap[w.heap.size]? =some (.cells #[.int .i64 0, .string ⟨#[]⟩, .int .i64 0, .int .i64 0] 95 (0,0)):=by rw [hm];exact hblk
       clear hm;have Da:=Lib.hid h45;clear h45;go_wp2_with fail;cases h39:gG P i 39
       · refine (nC _ b s P i 0 39 hS (by omega) (by omega) _ h39).mono ?_;rintro e w1 ⟨rfl,m,hm⟩;replace hS:=hS.heap (w' :=w1) (by rw [hm];rfl);replace hg:=aO hg (show _ from hm▸bK _ m (some b));replace hblk:w1.heap[w.heap.size]? =some (.cells #[.int .i64 0, .string ⟨#[]⟩, .int .i64 0, .int .i64 0] 95 (0,0)):=by rw [hm];exact hblk
         clear hm;have H39:=Lib.hid h39;clear h39;have HN:Hid (dK s P i=if xk (j4 P i)then (⟨4,⟨#[UInt8.ofNat (j4 P i).toNat]⟩,0,i⟩,true,i+1)else (⟨0,⟨#[]⟩,0,0⟩,false,i)):=by show _=_;unfold dK;rw [ZV.out,HD.out,Da.out,H39.out];rfl
         clear ZV HD Da H39;have akF:=aD hblk;go_wp2_with fail
         go_loopw [] (fun wr=>∃(q:Nat),q≤6∧wr.heap[w1.heap.size]? =some (.stringIter FU q)∧SQ L wr b s P i∧wr.heap[w.heap.size]? =some (.cells #[.int .i64 0, .string ⟨#[]⟩, .int .i64 0, .int .i64 0] 95 (0,0))∧w.grownBy wr (some b)∧Hid (∀k,k<q→gG P i (wR k)=false)) (fun wr=>6 - wr.iterPos w1.heap.size)
         case atStart=>exact ⟨0,by omega,World.iter_heap w1 FU 0,hS.below ((Below.refl _ _).alloc (Nat.le_refl _) _),aC hblk _,aO hg (lu ((Below.refl _ _).alloc (Nat.le_refl _) _) _),fun k hk=>absurd hk (by omega)⟩
         case round=>
          obtain ⟨q,UC,hit,hSr,XY,hgr,HQ⟩:=hrel;have Et:=iterPos_of hit;have hLb:L≤w1.heap.size:=hS.le;have hb1:b<w1.heap.size:=hS.lt;by_cases hq:q<6
          · have hnx:∀ty,(Instr.next (.pointer (some ⟨w1.heap.size,0,none⟩)) true ty).run prog wr=_:=fun ty=>Lib.run_next_any_at wr w1.heap.size FU q ty hit (show q<FU.size from hq)
            rw [WI q hq]at hnx;have hit2:=Lib.iterAt_heap wr w1.heap.size FU q (q+1) hit;have hS2:SQ L (wr.iterAt w1.heap.size FU (q+1)) b s P i:=hSr.keep (by rw [Lib.iterAt_size];exact Nat.le_refl _) (fun k hk=>Lib.iterAt_other _ _ _ _ _ (by omega));have hblk2:(wr.iterAt w1.heap.size FU (q+1)).heap[w.heap.size]? =some (.cells #[.int .i64 0, .string ⟨#[]⟩, .int .i64 0, .int .i64 0] 95 (0,0)):=by rw [Lib.iterAt_other _ _ _ _ _ (by omega)];exact XY
            have hg2:w.grownBy (wr.iterAt w1.heap.size FU (q+1)) (some b):=Uz hgr (by omega) _ _;generalize wr.iterAt w1.heap.size FU (q+1)=wi at *;cases hB:gG P i (wR q)
            · have HQ2:Hid (∀k,k<q+1→gG P i (wR k)=false):=fun k hk=>by
               by_cases e:k=q
               · rw [e];exact hB
               · exact HQ.out k (by omega)
              have hc:=(nC wi b s P i 0 (wR q) hS2 (by omega) (by omega) _ hB).mono (fun e w' h=>isx h hS2 hit2 hblk2 hg2);clear hB;generalize wR q=r at *;go_wp2_with (go_at_call 98;refine hc.mono ?_;rintro e w2 ⟨rfl,Fy,hit3,hblk3,hg3⟩);go_roundw
              case rel=>exact ⟨q+1,by omega,hit3,Fy,hblk3,hg3,HQ2⟩
              case measure=>rw [Et,iterPos_of hit3];omega
            · have hc:=(nC wi b s P i 0 (wR q) hS2 (by omega) (by omega) _ hB).mono (fun e w' h=>isx h hS2 hit2 hblk2 hg2);obtain ⟨e1,e2⟩:=aae hq hB;rw [e2,e1]at HN;clear hB;have hr0:=aad q hq;go_wp2_with (go_at_call 98;refine hc.mono ?_;rintro e w2 ⟨rfl,Fy,hit3,hblk3,hg3⟩;obtain ⟨c2,f2⟩:=ab2 Fy;obtain ⟨t0,t1,t2,t3,u0,u1,u2,u3⟩:=kg hblk3);obtain ⟨r0,r1,r2,r3,qJ,hg4⟩:=mI (Fy.set (i+1)) (bN hblk3 _ _ (by show w.heap.size≠b;omega)) (aO hg3 (j6 _ _ _ _)) HL (.int .i64 4) (.string (Utf8.encode (wR q))) (.int .i64 0) (.int .i64 i) _ rfl;rw [show ((i+1:Nat):Int)=(i:Int)+1 from by omega]at r0 r1 r2 r3 qJ hg4;refine bodyPost_ret (v:= .tuple #[.agg #[.int .i64 4, .string (Utf8.encode (wR q)), .int .i64 0, .int .i64 i], .bool true]) (by simp [results,results61,go_sem,r0,r1,r2,r3]) rfl ?_;rw [HN.out];exact ⟨by rw [aa2 q hq];rfl,qJ,hg4⟩
          · have hnx:∀ty,(Instr.next (.pointer (some ⟨w1.heap.size,0,none⟩)) true ty).run prog wr=_:=fun ty=>Lib.run_next_end_at wr w1.heap.size FU q ty hit hq
            have HF:Hid (xk (j4 P i)=false):=acD fun k hk=>HQ.out k (by omega)
            obtain ⟨t0,t1,t2,t3,u0,u1,u2,u3⟩:=kg XY;go_wp2_with fail;obtain ⟨r0,r1,r2,r3,qJ,hg4⟩:=mI hSr XY hgr HL (.int .i64 0) (.string ⟨#[]⟩) (.int .i64 0) (.int .i64 0) _ rfl;refine bodyPost_ret (v:= .tuple #[.agg #[.int .i64 0, .string ⟨#[]⟩, .int .i64 0, .int .i64 0], .bool false]) (by simp [results,results61,go_sem,r0,r1,r2,r3]) rfl ?_;rw [HN.out,HF.out];exact ⟨rfl,qJ,hg4⟩
       · have HT:Hid (dK s P i=j5 s P i):=by show _=_;unfold dK;rw [ZV.out,HD.out,Da.out,h39];rfl
         refine (nC _ b s P i 0 39 hS (by omega) (by omega) _ h39).mono ?_;rintro e w1 ⟨rfl,m,hm⟩;replace hS:=hS.heap (w' :=w1) (by rw [hm];rfl);replace hg:=aO hg (show _ from hm▸bK _ m (some b));replace hblk:w1.heap[w.heap.size]? =some (.cells #[.int .i64 0, .string ⟨#[]⟩, .int .i64 0, .int .i64 0] 95 (0,0)):=by rw [hm];exact hblk
         clear hm;clear h39;go_wp2_with fail;obtain ⟨X,hX⟩:∃X,X=j5 s P i:=⟨_,rfl⟩;have hc:=XW ws _ b s P i hS hG (HB.out _ hg) hwb hs aa3.out hi;rw [←hX]at hc;obtain ⟨⟨K,S,N,A⟩,ok,nx⟩:=X;change Calls _ _ _ _ (fun e w' =>e= .returned (.tuple #[.agg #[.int .i64 K, .string S, .int .i64 N, .int .i64 A], .bool ok])∧SQ L w' b s P nx∧_)at hc;refine hc.mono ?_;rintro e w2 ⟨rfl,hS2,hg2⟩;replace hblk:w2.heap[w.heap.size]? =some (.cells #[.int .i64 0, .string ⟨#[]⟩, .int .i64 0, .int .i64 0] 95 (0,0)):=by rw [hg2.block _ (aD hblk) (by intro e;cases e;omega)];exact hblk
         replace hg:=aO hg hg2;clear hc hg2 hS;have t0:w2.cell? ⟨w.heap.size,0,none⟩=some (.int .i64 0):=by rw [au hblk];rfl
         have t1:w2.cell? ⟨w.heap.size,1,none⟩=some (.string ⟨#[]⟩):=by rw [au hblk];rfl
         have t2:w2.cell? ⟨w.heap.size,2,none⟩=some (.int .i64 0):=by rw [au hblk];rfl
         have t3:w2.cell? ⟨w.heap.size,3,none⟩=some (.int .i64 0):=by rw [au hblk];rfl
         have u0:=aj hblk 0;have u1:=aj hblk 1;have u2:=aj hblk 2;have u3:=aj hblk 3;go_wp2_with fail;obtain ⟨r0,r1,r2,r3,qJ,hg4⟩:=mI hS2 hblk hg HL (.int .i64 K) (.string S) (.int .i64 N) (.int .i64 A) _ rfl;refine bodyPost_ret (v:= .tuple #[.agg #[.int .i64 K, .string S, .int .i64 N, .int .i64 A], .bool ok]) (by simp [results,results61,go_sem,r0,r1,r2,r3]) rfl ?_;rw [HT.out,←hX];exact ⟨rfl,qJ,hg4⟩
     · have HT:Hid (dK s P i=cO P i):=by show _=_;unfold dK;rw [ZV.out,HD.out,h45];rfl
       refine (nC _ b s P i 0 45 hS (by omega) (by omega) _ h45).mono ?_;rintro e w1 ⟨rfl,m,hm⟩;replace hS:=hS.heap (w' :=w1) (by rw [hm];rfl);replace hg:=aO hg (show _ from hm▸bK _ m (some b));replace hblk:w1.heap[w.heap.size]? =some (.cells #[.int .i64 0, .string ⟨#[]⟩, .int .i64 0, .int .i64 0] 95 (0,0)):=by rw [hm];exact hblk
       clear hm;clear h45;go_wp2_with fail;obtain ⟨X,hX⟩:∃X,X=cO P i:=⟨_,rfl⟩;have hc:=GQ _ b s P i hS hs aa3.out hi;rw [←hX]at hc;obtain ⟨⟨K,S,N,A⟩,ok,nx⟩:=X;change Calls _ _ _ _ (fun e w' =>e= .returned (.tuple #[.agg #[.int .i64 K, .string S, .int .i64 N, .int .i64 A], .bool ok])∧SQ L w' b s P nx∧_)at hc;refine hc.mono ?_;rintro e w2 ⟨rfl,hS2,hg2⟩;replace hblk:w2.heap[w.heap.size]? =some (.cells #[.int .i64 0, .string ⟨#[]⟩, .int .i64 0, .int .i64 0] 95 (0,0)):=by rw [hg2.block _ (aD hblk) (by intro e;cases e;omega)];exact hblk
       replace hg:=aO hg hg2;clear hc hg2 hS;have t0:w2.cell? ⟨w.heap.size,0,none⟩=some (.int .i64 0):=by rw [au hblk];rfl
       have t1:w2.cell? ⟨w.heap.size,1,none⟩=some (.string ⟨#[]⟩):=by rw [au hblk];rfl
       have t2:w2.cell? ⟨w.heap.size,2,none⟩=some (.int .i64 0):=by rw [au hblk];rfl
       have t3:w2.cell? ⟨w.heap.size,3,none⟩=some (.int .i64 0):=by rw [au hblk];rfl
       have u0:=aj hblk 0;have u1:=aj hblk 1;have u2:=aj hblk 2;have u3:=aj hblk 3;go_wp2_with fail;obtain ⟨r0,r1,r2,r3,qJ,hg4⟩:=mI hS2 hblk hg HL (.int .i64 K) (.string S) (.int .i64 N) (.int .i64 A) _ rfl;refine bodyPost_ret (v:= .tuple #[.agg #[.int .i64 K, .string S, .int .i64 N, .int .i64 A], .bool ok]) (by simp [results,results61,go_sem,r0,r1,r2,r3]) rfl ?_;rw [HT.out,←hX];exact ⟨rfl,qJ,hg4⟩
   · have HT:Hid (dK s P i=cO P i):=by show _=_;unfold dK;rw [ZV.out,hD];rfl
     refine (EC _ b s P i hS _ hD).mono ?_;rintro e w1 ⟨rfl,m,hm⟩;replace hS:=hS.heap (w' :=w1) (by rw [hm];rfl);replace hg:=aO hg (show _ from hm▸bK _ m (some b));replace hblk:w1.heap[w.heap.size]? =some (.cells #[.int .i64 0, .string ⟨#[]⟩, .int .i64 0, .int .i64 0] 95 (0,0)):=by rw [hm];exact hblk
     clear hm;clear hD;go_wp2_with fail;obtain ⟨X,hX⟩:∃X,X=cO P i:=⟨_,rfl⟩;have hc:=GQ _ b s P i hS hs aa3.out hi;rw [←hX]at hc;obtain ⟨⟨K,S,N,A⟩,ok,nx⟩:=X;change Calls _ _ _ _ (fun e w' =>e= .returned (.tuple #[.agg #[.int .i64 K, .string S, .int .i64 N, .int .i64 A], .bool ok])∧SQ L w' b s P nx∧_)at hc;refine hc.mono ?_;rintro e w2 ⟨rfl,hS2,hg2⟩;replace hblk:w2.heap[w.heap.size]? =some (.cells #[.int .i64 0, .string ⟨#[]⟩, .int .i64 0, .int .i64 0] 95 (0,0)):=by rw [hg2.block _ (aD hblk) (by intro e;cases e;omega)];exact hblk
     replace hg:=aO hg hg2;clear hc hg2 hS;have t0:w2.cell? ⟨w.heap.size,0,none⟩=some (.int .i64 0):=by rw [au hblk];rfl
     have t1:w2.cell? ⟨w.heap.size,1,none⟩=some (.string ⟨#[]⟩):=by rw [au hblk];rfl
     have t2:w2.cell? ⟨w.heap.size,2,none⟩=some (.int .i64 0):=by rw [au hblk];rfl
     have t3:w2.cell? ⟨w.heap.size,3,none⟩=some (.int .i64 0):=by rw [au hblk];rfl
     have u0:=aj hblk 0;have u1:=aj hblk 1;have u2:=aj hblk 2;have u3:=aj hblk 3;go_wp2_with fail;obtain ⟨r0,r1,r2,r3,qJ,hg4⟩:=mI hS2 hblk hg HL (.int .i64 K) (.string S) (.int .i64 N) (.int .i64 A) _ rfl;refine bodyPost_ret (v:= .tuple #[.agg #[.int .i64 K, .string S, .int .i64 N, .int .i64 A], .bool ok]) (by simp [results,results61,go_sem,r0,r1,r2,r3]) rfl ?_;rw [HT.out,←hX];exact ⟨rfl,qJ,hg4⟩
 · have HT:Hid (dK s P i=kJ s P i):=by show _=_;unfold dK;rw [hL];rfl
   refine (NK _ b s P i hS _ hL).mono ?_;rintro e w1 ⟨rfl,m,hm⟩;replace hS:=hS.heap (w' :=w1) (by rw [hm];rfl);replace hg:=aO hg (show _ from hm▸bK _ m (some b));replace hblk:w1.heap[w.heap.size]? =some (.cells #[.int .i64 0, .string ⟨#[]⟩, .int .i64 0, .int .i64 0] 95 (0,0)):=by rw [hm];exact hblk
   clear hm;clear hL;go_wp2_with fail;obtain ⟨X,hX⟩:∃X,X=kJ s P i:=⟨_,rfl⟩;have hc:=XP _ b s P i hS hs aa3.out hi;rw [←hX]at hc;obtain ⟨⟨K,S,N,A⟩,ok,nx⟩:=X;change Calls _ _ _ _ (fun e w' =>e= .returned (.tuple #[.agg #[.int .i64 K, .string S, .int .i64 N, .int .i64 A], .bool ok])∧SQ L w' b s P nx∧_)at hc;refine hc.mono ?_;rintro e w2 ⟨rfl,hS2,hg2⟩;replace hblk:w2.heap[w.heap.size]? =some (.cells #[.int .i64 0, .string ⟨#[]⟩, .int .i64 0, .int .i64 0] 95 (0,0)):=by rw [hg2.block _ (aD hblk) (by intro e;cases e;omega)];exact hblk
   replace hg:=aO hg hg2;clear hc hg2 hS;have t0:w2.cell? ⟨w.heap.size,0,none⟩=some (.int .i64 0):=by rw [au hblk];rfl
   have t1:w2.cell? ⟨w.heap.size,1,none⟩=some (.string ⟨#[]⟩):=by rw [au hblk];rfl
   have t2:w2.cell? ⟨w.heap.size,2,none⟩=some (.int .i64 0):=by rw [au hblk];rfl
   have t3:w2.cell? ⟨w.heap.size,3,none⟩=some (.int .i64 0):=by rw [au hblk];rfl
   have u0:=aj hblk 0;have u1:=aj hblk 1;have u2:=aj hblk 2;have u3:=aj hblk 3;go_wp2_with fail;obtain ⟨r0,r1,r2,r3,qJ,hg4⟩:=mI hS2 hblk hg HL (.int .i64 K) (.string S) (.int .i64 N) (.int .i64 A) _ rfl;refine bodyPost_ret (v:= .tuple #[.agg #[.int .i64 K, .string S, .int .i64 N, .int .i64 A], .bool ok]) (by simp [results,results61,go_sem,r0,r1,r2,r3]) rfl ?_;rw [HT.out,←hX];exact ⟨rfl,qJ,hg4⟩
end Go.Proofs.YtcgadodckoalnaaGreatDoor
