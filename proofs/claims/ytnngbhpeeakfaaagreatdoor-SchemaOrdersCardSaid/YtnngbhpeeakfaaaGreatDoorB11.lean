/- Parts of a proof. -/
import Derived.Deep.QuietTactic
import Derived.BigQuiet
import Derived.Deep.RegionHeld3
import Derived.Test.YtnngbhpeeakfaaaGreatDoorB01
import Derived.Test.YtnngbhpeeakfaaaGreatDoorB07
import Derived.Test.YtnngbhpeeakfaaaGreatDoorB10
set_option maxHeartbeats 2000000
set_option maxRecDepth 100000
namespace Go.Proofs.YtnngbhpeeakfaaaGreatDoor
open Go.Proofs.Tryz
open Go.RowKit
open aK
def Cr (T:TypeId) (flat:List Pt→List Value) (L:Nat) (w:World) (b:Nat) (s:ByteArray) (P:List Pt) (i:Nat):Prop:=
 L≤w.heap.size∧b<L∧∃a cap,w.heap[b]? =some (.cells #[.string s, .slice a P.length cap, .int .i64 i] T (0,0))∧
  (0<P.length→∃g,a=some ⟨g,0,none⟩∧g≠b∧g<L∧∀j u,(flat P)[j]? =some u→w.cell? ⟨g,j,none⟩=some u)
section
variable {T:TypeId}{flat:List Pt→List Value}{L:Nat}{w w' :World}{b:Nat}{s:ByteArray}{P:List Pt}{i:Nat}
theorem Cr.heap (h:Cr T flat L w b s P i) (hh:w'.heap=w.heap):Cr T flat L w' b s P i:=by
 obtain ⟨h0,h0',a,cap,h1,h2⟩:=h;refine ⟨by rw [hh];exact h0,h0',a,cap,by rw [hh];exact h1,fun hp=> ?_⟩;obtain ⟨g,e1,e2,e3,e4⟩:=h2 hp;refine ⟨g,e1,e2,e3,fun j u hj=> ?_⟩;rw [←e4 j u hj];unfold World.cell?;rw [hh]
theorem Cr.keep (h:Cr T flat L w b s P i) (hs:w.heap.size≤w'.heap.size) (hb:∀k,k<L→w'.heap[k]? =w.heap[k]?):Cr T flat L w' b s P i:=by
 obtain ⟨h0,h0',a,cap,h1,h2⟩:=h;refine ⟨Nat.le_trans h0 hs,h0',a,cap,by rw [hb b h0'];exact h1,fun hp=> ?_⟩;obtain ⟨g,e1,e2,e3,e4⟩:=h2 hp;refine ⟨g,e1,e2,e3,fun j u hj=> ?_⟩;rw [←e4 j u hj];unfold World.cell?;rw [hb g e3]
theorem Cr.below (h:Cr T flat L w b s P i) (hb:Below w.heap.size w w'):Cr T flat L w' b s P i:=
 h.keep hb.size (fun k hk=>hb.block k (Nat.lt_of_lt_of_le hk h.1))
theorem Cr.lt (h:Cr T flat L w b s P i):b<w.heap.size:=Nat.lt_of_lt_of_le h.2.1 h.1
theorem Cr.le (h:Cr T flat L w b s P i):L≤w.heap.size:=h.1
theorem Cr.set (h:Cr T flat L w b s P i) (j:Nat):Cr T flat L (w.setCell ⟨b,2,none⟩ (.int .i64 j)) b s P j:=by
 obtain ⟨h0,h0',a,cap,h1,h2⟩:=h;refine ⟨by simpa [World.setCell]using h0,h0',a,cap,bG h1 2 _,fun hp=> ?_⟩;obtain ⟨g,e1,e2,e3,e4⟩:=h2 hp;refine ⟨g,e1,e2,e3,fun k u hj=> ?_⟩;rw [←e4 k u hj];unfold World.cell?;rw [Below.heap_setCell _ _ _ _ e2]
theorem Cr.setOther (h:Cr T flat L w b s P i) {g:Nat}(hg:L≤g) (o:Nat) (u:Value):Cr T flat L (w.setCell ⟨g,o,none⟩ u) b s P i:=
 h.keep (by simp [World.setCell]) (fun k hk=>Below.heap_setCell _ _ _ _ (by show k≠g;omega))
end
theorem aJ {a b c:World}{r:Option Nat}(h:a.grownBy b r) (k:b.grownBy c r):a.grownBy c r:=
 ⟨k.os.trans h.os,k.tape.trans h.tape,k.output.trans h.output,Nat.le_trans h.size k.size,fun i hi hr=>(k.block i (Nat.lt_of_lt_of_le hi h.size) hr).trans (h.block i hi hr)⟩
theorem bD (a:World) (n:Nat) (r:Option Nat):a.grownBy (a.drewN n) r:=⟨rfl,rfl,rfl,Nat.le_refl _,fun _ _ _=>rfl⟩
theorem jR {a b:World}(h:Below a.heap.size a b) (r:Option Nat):a.grownBy b r:=⟨h.os,h.tape,h.output,h.size,fun i hi _=>h.block i hi⟩
theorem jq (a:World) (b:Nat) (o:Nat) (u:Value):a.grownBy (a.setCell ⟨b,o,none⟩ u) (some b):=
 ⟨rfl,rfl,rfl,by simp [World.setCell],fun i _ hr=>Below.heap_setCell _ _ _ _ (fun e=>hr (by rw [e]))⟩
theorem jC {a b:World}{B k:Nat}(h:a.grownBy b (some k)) (hB:B≤k) (hs:B≤a.heap.size):Below B a b:=
 ⟨h.os,h.tape,h.output,h.size,fun i hi=>h.block i (by omega) (fun e=>by cases e;omega)⟩
def jS (p:Pt):List Value:= [.int .i32 p.r, .int .i64 p.at_, .bool p.ok]
def BA (l:List Pt):List Value:=l.flatMap jS
theorem DK (l:List Pt) (p:Pt):BA l++jS p=BA (l++ [p]):=by simp [BA]
theorem lI:∀(l:List Pt) (k j:Nat) (h:k<l.length) (_:j<3),(BA l)[k*3+j]? =(jS l[k])[j]?
 |p::l,0,j,_,hj=>by
  simp only [BA,List.flatMap_cons,Nat.zero_mul,Nat.zero_add,List.getElem_cons_zero];rw [List.getElem?_append_left (by simp [jS];omega)]
 |p::l,k+1,j,h,hj=>by
  have:=lI l k j (by simp at h;omega) hj;simp only [BA,List.flatMap_cons,List.getElem_cons_succ]at this⊢;rw [List.getElem?_append_right (by simp [jS];omega)];have e:(k+1)*3+j - (jS p).length=k*3+j:=by simp [jS];omega
  rw [e];exact this
abbrev SQ:=Cr 275 BA
theorem X3 {L:Nat}(w:World) (b:Nat) (s:ByteArray) (P:List Pt) (i:Nat) (h:SQ L w b s P i):
 Calls prog 188 #[.pointer (some ⟨b,0,none⟩)] w fun e w' =>e= .returned (.bool (decide (P.length≤i)))∧∃m,w' =w.drewN m:=by
 obtain ⟨_,_,a,cap,h1,_⟩:=h;have c1:w.cell? ⟨b,1,none⟩=some (.slice a P.length cap):=by rw [aj h1];rfl
 have c2:w.cell? ⟨b,2,none⟩=some (.int .i64 i):=by rw [aj h1];rfl
 clear h1;go_enter func188,ntmps188;go_wp2_with fail;go_quiet (fail);go_wp2_with fail;go_ret;exact ⟨aR (by simp),_,rfl⟩
theorem qW {L:Nat}(w:World) (b:Nat) (s:ByteArray) (P:List Pt) (i:Nat) (h:SQ L w b s P i) (v:Bool) (hv:decide (P.length≤i)=v):
 Calls prog 188 #[.pointer (some ⟨b,0,none⟩)] w fun e w' =>e= .returned (.bool v)∧∃m,w' =w.drewN m:=by
 rw [←hv];exact X3 w b s P i h
theorem Cr.cells {T:TypeId}{flat:List Pt→List Value}{L:Nat}{w:World}{b:Nat}{s:ByteArray}{P:List Pt}{i:Nat}(h:Cr T flat L w b s P i):
 ∃a cap,w.cell? ⟨b,0,none⟩=some (.string s)∧w.cell? ⟨b,1,none⟩=some (.slice a P.length cap)∧w.cell? ⟨b,2,none⟩=some (.int .i64 i)∧w.frozen? ⟨b,2,none⟩=false∧
 (0<P.length→∃g,a=some ⟨g,0,none⟩∧∀j u,(flat P)[j]? =some u→w.cell? ⟨g,j,none⟩=some u):=by
 obtain ⟨_,_,a,cap,h1,h2⟩:=h;refine ⟨a,cap,by rw [aj h1];rfl,by rw [aj h1];rfl,by rw [aj h1];rfl,ak h1 2,fun hp=> ?_⟩;obtain ⟨g,e1,_,_,e4⟩:=h2 hp;exact ⟨g,e1,e4⟩
theorem aan {L:Nat}(w:World) (b:Nat) (s:ByteArray) (P:List Pt) (i more:Nat) (r:Int) (h:SQ L w b s P i) (hi:i≤1000000) (hm:more≤1):
 Calls prog 260 #[.pointer (some ⟨b,0,none⟩), .int .i64 more, .int .i32 r] w fun e w' =>e= .returned (.bool (fE P (i+more) r))∧∃m,w' =w.drewN m:=by
 obtain ⟨a,cap,c0,c1,c2,_,h2⟩:=h.cells;have hw:IntKind.i64.wrap ((i:Int)+(more:Int))=(i:Int)+(more:Int):=IntWalk.i64_in _ (by omega);have hn:((i:Int)+(more:Int)).toNat=i+more:=by omega
 have h0:(0:Int)≤(i:Int)+(more:Int):=by omega
 by_cases hlt:i+more<P.length
 · obtain ⟨g,rfl,hc⟩:=h2 (by omega);have c3:w.cell? ⟨g,(i+more)*3,none⟩=some (.int .i32 P[i+more].r):=hc _ _ (by have:=lI P (i+more) 0 hlt (by omega);rw [Nat.add_zero]at this;rw [this];rfl);have HE:Hid (fE P (i+more) r=((P[i+more].r:Int)==r)):=by show _=_;unfold fE;rw [List.getElem?_eq_getElem hlt]
   have h3:(i:Int)+(more:Int)<(P.length:Int):=by omega
   have hd:decide ((i:Int)+(more:Int)<(P.length:Int))=true:=decide_eq_true h3;clear hc h2 c0;generalize P[i+more]=q at *;go_enter func260,ntmps260;go_wp2_with fail;go_quiet (fail);go_wp2_with fail;go_ret;exact ⟨aR (by rw [HE.out]),_,rfl⟩
 · have HE:Hid (fE P (i+more) r=false):=by show _=_;unfold fE;rw [List.getElem?_eq_none (by omega)]
   have hd:decide ((i:Int)+(more:Int)<(P.length:Int))=false:=decide_eq_false (by omega);clear h2 c0;go_enter func260,ntmps260;go_wp2_with fail;go_quiet (fail);go_wp2_with fail;go_ret;exact ⟨aR (by rw [HE.out]),_,rfl⟩
theorem xC {L:Nat}(w:World) (b:Nat) (s:ByteArray) (P:List Pt) (i k:Nat) (h:SQ L w b s P i):
 Calls prog 310 #[.pointer (some ⟨b,0,none⟩), .int .i64 k] w fun e w' =>e= .returned (.int .i64 (aL s P k))∧w' =w:=by
 obtain ⟨a,cap,c0,c1,c2,_,h2⟩:=h.cells;by_cases hlt:k<P.length
 · obtain ⟨g,rfl,hc⟩:=h2 (by omega);have c3:w.cell? ⟨g,k*3+1,none⟩=some (.int .i64 P[k].at_):=hc _ _ (by rw [lI P k 1 hlt (by omega)];rfl);have HE:Hid (aL s P k=P[k].at_):=by show _=_;unfold aL;rw [List.getElem?_eq_getElem hlt]
   clear hc h2;generalize P[k]=q at *;go_enter func310,ntmps310;go_wp2_with fail;go_ret;exact ⟨j4 (by rw [HE.out]),rfl⟩
 · have HE:Hid (aL s P k=s.size):=by show _=_;unfold aL;rw [List.getElem?_eq_none (by omega)]
   clear h2;go_enter func310,ntmps310;go_wp2_with fail;go_ret;exact ⟨j4 (by rw [HE.out]),rfl⟩
theorem Im {L:Nat}(w:World) (b:Nat) (s:ByteArray) (P:List Pt) (i:Nat) (h:SQ L w b s P i):
 Calls prog 261 #[.pointer (some ⟨b,0,none⟩)] w fun e w' =>e= .returned (.bool (dn P i))∧∃m,w' =w.drewN m:=by
 obtain ⟨a,cap,c0,c1,c2,_,h2⟩:=h.cells;by_cases hlt:i<P.length
 · obtain ⟨g,rfl,hc⟩:=h2 (by omega);have c3:w.cell? ⟨g,i*3+2,none⟩=some (.bool P[i].ok):=hc _ _ (by rw [lI P i 2 hlt (by omega)];rfl);have c4:w.cell? ⟨g,i*3,none⟩=some (.int .i32 P[i].r):=hc _ _ (by have:=lI P i 0 hlt (by omega);rw [Nat.add_zero]at this;rw [this];rfl);have HE:Hid (dn P i=(P[i].ok&&(dV P[i].r||(decide (65≤(P[i].r:Int))&&decide ((P[i].r:Int)≤90))))):=by show _=_;unfold dn;rw [List.getElem?_eq_getElem hlt]
   have he:=Lib.hid (fun n=>qW (w.drewN n) b s P i (h.heap rfl) false (decide_eq_false (by omega)));have h3:(i:Int)<(P.length:Int):=by omega
   have h4:(0:Int)≤(i:Int):=by omega
   clear hc h2 c0 h;generalize P[i]=q at *;obtain ⟨ok,hok⟩:∃ok,q.ok=ok:=⟨_,rfl⟩;obtain ⟨r,hr⟩:∃r:Nat,q.r=r:=⟨_,rfl⟩;rw [hok,hr]at HE;rw [hok]at c3;rw [hr]at c4;clear hok hr;cases ok
   · go_enter func261,ntmps261;go_wp2_with fail;go_quiet ((go_at_call 188;exact Calls.quiet_of (he.out _)));go_wp2_with fail;go_ret;exact ⟨aR (by rw [HE.out];rfl),_,rfl⟩
   · go_enter func261,ntmps261;go_wp2_with fail;go_quiet ((go_at_call 188;exact Calls.quiet_of (he.out _)));go_wp2_with fail;go_quiet (fail);go_wp2_with fail;all_goals go_ret
     all_goals refine ⟨aR ?_,_,rfl⟩
     all_goals (rw [HE.out];unfold dV;rw [Bool.eq_iff_iff];simp;try omega)
 · have HE:Hid (dn P i=false):=by show _=_;unfold dn;rw [List.getElem?_eq_none (by omega)]
   have he:=Lib.hid (fun n=>qW (w.drewN n) b s P i (h.heap rfl) true (decide_eq_true (by omega)));clear h2 c0 h;go_enter func261,ntmps261;go_wp2_with fail;go_quiet ((go_at_call 188;exact Calls.quiet_of (he.out _)));go_wp2_with fail;go_ret;exact ⟨aR (by rw [HE.out]),_,rfl⟩
theorem Io {L:Nat}(w:World) (b:Nat) (s:ByteArray) (P:List Pt) (i:Nat) (h:SQ L w b s P i):
 Calls prog 263 #[.pointer (some ⟨b,0,none⟩)] w fun e w' =>e= .returned (.bool (bT P i))∧∃m,w' =w.drewN m:=by
 obtain ⟨a,cap,c0,c1,c2,_,h2⟩:=h.cells;by_cases hlt:i<P.length
 · obtain ⟨g,rfl,hc⟩:=h2 (by omega);have c4:w.cell? ⟨g,i*3,none⟩=some (.int .i32 P[i].r):=hc _ _ (by have:=lI P i 0 hlt (by omega);rw [Nat.add_zero]at this;rw [this];rfl);have HE:Hid (bT P i=iw P[i].r):=by show _=_;unfold bT;rw [List.getElem?_eq_getElem hlt]
   have he:=Lib.hid (fun n=>qW (w.drewN n) b s P i (h.heap rfl) false (decide_eq_false (by omega)));have h3:(i:Int)<(P.length:Int):=by omega
   have h4:(0:Int)≤(i:Int):=by omega
   clear hc h2 c0 h;generalize P[i]=q at *;obtain ⟨r,hr⟩:∃r:Nat,q.r=r:=⟨_,rfl⟩;rw [hr]at HE;rw [hr]at c4;clear hr;by_cases h5:48≤r
   · have h5d:decide ((48:Int)≤(r:Int))=true:=decide_eq_true (by omega);go_enter func263,ntmps263;go_wp2_with fail;go_quiet ((go_at_call 188;exact Calls.quiet_of (he.out _)));go_wp2_with fail;go_ret;exact ⟨aR (by rw [HE.out];unfold iw;rw [h5d];simp),_,rfl⟩
   · have h5d:decide ((48:Int)≤(r:Int))=false:=decide_eq_false (by omega);go_enter func263,ntmps263;go_wp2_with fail;go_quiet ((go_at_call 188;exact Calls.quiet_of (he.out _)));go_wp2_with fail;go_ret;exact ⟨aR (by rw [HE.out];unfold iw;rw [h5d];simp),_,rfl⟩
 · have HE:Hid (bT P i=false):=by show _=_;unfold bT;rw [List.getElem?_eq_none (by omega)]
   have he:=Lib.hid (fun n=>qW (w.drewN n) b s P i (h.heap rfl) true (decide_eq_true (by omega)));clear h2 c0 h;go_enter func263,ntmps263;go_wp2_with fail;go_quiet ((go_at_call 188;exact Calls.quiet_of (he.out _)));go_wp2_with fail;go_ret;exact ⟨aR (by rw [HE.out]),_,rfl⟩
theorem Tryz.aao:(prog.info? 324).map (fun i=>(i.zero,i.size,i.bytes))=some (some (.agg #[.int .i32 0, .int .i64 0, .bool false]),3,24):=by kernel_rfl
theorem lJ {L:Nat}(w:World) (b:Nat) (s:ByteArray) (P:List Pt) (i more:Nat) (r:Int) (h:SQ L w b s P i) (hi:i≤1000000) (hm:more≤1) (v:Bool) (hv:fE P (i+more) r=v):
 Calls prog 260 #[.pointer (some ⟨b,0,none⟩), .int .i64 more, .int .i32 r] w fun e w' =>e= .returned (.bool v)∧∃m,w' =w.drewN m:=by
 rw [←hv];exact aan w b s P i more r h hi hm
def l7 (w:World) (b:Nat):Nat:=match w.cell? ⟨b,2,none⟩with|some (.int _ n)=>n.toNat|_=>0
theorem dX {T:TypeId}{flat:List Pt→List Value}{L:Nat}{w:World}{b:Nat}{s:ByteArray}{P:List Pt}{i:Nat}(h:Cr T flat L w b s P i):l7 w b=i:=by
 obtain ⟨_,_,_,_,c2,_⟩:=h.cells;unfold l7;rw [c2];exact Int.toNat_natCast i
theorem KC {L:Nat}(w:World) (b:Nat) (s:ByteArray) (P:List Pt) (i:Nat) (h:SQ L w b s P i) (hi:i≤P.length) (hP:P.length≤100000):
 Calls prog 187 #[.pointer (some ⟨b,0,none⟩)] w fun e w' =>e= .returned (.tuple #[])∧SQ L w' b s P (skip P i)∧w.grownBy w' (some b):=by
 have H:=Lib.hid h;clear h;go_enter func187,ntmps187;go_wp2_with fail
 go_loopw [] (fun wr=>∃k,SQ L wr b s P k∧w.grownBy wr (some b)∧Hid (skip P i=skip P k)∧k≤P.length) (fun wr=>P.length - l7 wr b)
 case atStart=>exact ⟨i,H.out,sI _ _,rfl,hi⟩
 case round=>
  obtain ⟨k,hS,hg,HE,hk⟩:=hrel;have hk0:=dX hS;have HK:=Lib.hid hk0;clear hk0;by_cases hlt:k<P.length
  · have HL:=Lib.hid hlt;go_wp2_with fail;refine (qW _ b s P k hS false (decide_eq_false (by omega))).mono ?_;rintro e w1 ⟨rfl,m,hm⟩;replace hS:=hS.heap (w' :=w1) (by rw [hm];rfl);replace hg:=aJ hg (show _ from hm▸bD _ m (some b));clear hm;cases h32:fE P k 32
    case true=>
     go_wp2_with fail;refine (lJ _ b s P k 0 32 hS (by omega) (by omega) _ h32).mono ?_;rintro e w1 ⟨rfl,m,hm⟩;replace hS:=hS.heap (w' :=w1) (by rw [hm];rfl);replace hg:=aJ hg (show _ from hm▸bD _ m (some b));clear hm;obtain ⟨_,_,_,_,c2,f2,_⟩:=hS.cells;go_wp2_with fail;go_roundw
     case rel=>
      refine ⟨k+1,by have:=hS.set (k+1);push_cast at this;exact this,aJ hg (jq _ _ _ _), ?_,by omega⟩;show _=_;rw [HE.out,gu HL.out (by unfold dL;rw [h32];rfl)]
     case measure=>
      have h1:=dX (hS.set (k+1));push_cast at h1;rw [h1,HK.out];omega
    case false=>
     cases h9:fE P k 9
     case true=>
      go_wp2_with fail;refine (lJ _ b s P k 0 32 hS (by omega) (by omega) _ h32).mono ?_;rintro e w1 ⟨rfl,m,hm⟩;replace hS:=hS.heap (w' :=w1) (by rw [hm];rfl);replace hg:=aJ hg (show _ from hm▸bD _ m (some b));clear hm;go_wp2_with fail;refine (lJ _ b s P k 0 9 hS (by omega) (by omega) _ h9).mono ?_;rintro e w1 ⟨rfl,m,hm⟩;replace hS:=hS.heap (w' :=w1) (by rw [hm];rfl);replace hg:=aJ hg (show _ from hm▸bD _ m (some b));clear hm;obtain ⟨_,_,_,_,c2,f2,_⟩:=hS.cells;go_wp2_with fail;go_roundw
      case rel=>
       refine ⟨k+1,by have:=hS.set (k+1);push_cast at this;exact this,aJ hg (jq _ _ _ _), ?_,by omega⟩;show _=_;rw [HE.out,gu HL.out (by unfold dL;rw [h32,h9];rfl)]
      case measure=>
       have h1:=dX (hS.set (k+1));push_cast at h1;rw [h1,HK.out];omega
     case false=>
      cases h10:fE P k 10
      case true=>
       go_wp2_with fail;refine (lJ _ b s P k 0 32 hS (by omega) (by omega) _ h32).mono ?_;rintro e w1 ⟨rfl,m,hm⟩;replace hS:=hS.heap (w' :=w1) (by rw [hm];rfl);replace hg:=aJ hg (show _ from hm▸bD _ m (some b));clear hm;go_wp2_with fail;refine (lJ _ b s P k 0 9 hS (by omega) (by omega) _ h9).mono ?_;rintro e w1 ⟨rfl,m,hm⟩;replace hS:=hS.heap (w' :=w1) (by rw [hm];rfl);replace hg:=aJ hg (show _ from hm▸bD _ m (some b));clear hm;go_wp2_with fail;refine (lJ _ b s P k 0 10 hS (by omega) (by omega) _ h10).mono ?_;rintro e w1 ⟨rfl,m,hm⟩;replace hS:=hS.heap (w' :=w1) (by rw [hm];rfl);replace hg:=aJ hg (show _ from hm▸bD _ m (some b));clear hm;obtain ⟨_,_,_,_,c2,f2,_⟩:=hS.cells;go_wp2_with fail;go_roundw
       case rel=>
        refine ⟨k+1,by have:=hS.set (k+1);push_cast at this;exact this,aJ hg (jq _ _ _ _), ?_,by omega⟩;show _=_;rw [HE.out,gu HL.out (by unfold dL;rw [h32,h9,h10];rfl)]
       case measure=>
        have h1:=dX (hS.set (k+1));push_cast at h1;rw [h1,HK.out];omega
      case false=>
       cases P8:fE P k 13
       case true=>
        go_wp2_with fail;refine (lJ _ b s P k 0 32 hS (by omega) (by omega) _ h32).mono ?_;rintro e w1 ⟨rfl,m,hm⟩;replace hS:=hS.heap (w' :=w1) (by rw [hm];rfl);replace hg:=aJ hg (show _ from hm▸bD _ m (some b));clear hm;go_wp2_with fail;refine (lJ _ b s P k 0 9 hS (by omega) (by omega) _ h9).mono ?_;rintro e w1 ⟨rfl,m,hm⟩;replace hS:=hS.heap (w' :=w1) (by rw [hm];rfl);replace hg:=aJ hg (show _ from hm▸bD _ m (some b));clear hm;go_wp2_with fail;refine (lJ _ b s P k 0 10 hS (by omega) (by omega) _ h10).mono ?_;rintro e w1 ⟨rfl,m,hm⟩;replace hS:=hS.heap (w' :=w1) (by rw [hm];rfl);replace hg:=aJ hg (show _ from hm▸bD _ m (some b));clear hm;go_wp2_with fail;refine (lJ _ b s P k 0 13 hS (by omega) (by omega) _ P8).mono ?_;rintro e w1 ⟨rfl,m,hm⟩;replace hS:=hS.heap (w' :=w1) (by rw [hm];rfl);replace hg:=aJ hg (show _ from hm▸bD _ m (some b));clear hm;obtain ⟨_,_,_,_,c2,f2,_⟩:=hS.cells;go_wp2_with fail;go_roundw
        case rel=>
         refine ⟨k+1,by have:=hS.set (k+1);push_cast at this;exact this,aJ hg (jq _ _ _ _), ?_,by omega⟩;show _=_;rw [HE.out,gu HL.out (by unfold dL;rw [h32,h9,h10,P8];rfl)]
        case measure=>
         have h1:=dX (hS.set (k+1));push_cast at h1;rw [h1,HK.out];omega
       case false=>
        have HB:Hid (dL P k=false):=by show _=_;unfold dL;rw [h32,h9,h10,P8];rfl
        go_wp2_with fail;refine (lJ _ b s P k 0 32 hS (by omega) (by omega) _ h32).mono ?_;rintro e w1 ⟨rfl,m,hm⟩;replace hS:=hS.heap (w' :=w1) (by rw [hm];rfl);replace hg:=aJ hg (show _ from hm▸bD _ m (some b));clear hm;go_wp2_with fail;refine (lJ _ b s P k 0 9 hS (by omega) (by omega) _ h9).mono ?_;rintro e w1 ⟨rfl,m,hm⟩;replace hS:=hS.heap (w' :=w1) (by rw [hm];rfl);replace hg:=aJ hg (show _ from hm▸bD _ m (some b));clear hm;go_wp2_with fail;refine (lJ _ b s P k 0 10 hS (by omega) (by omega) _ h10).mono ?_;rintro e w1 ⟨rfl,m,hm⟩;replace hS:=hS.heap (w' :=w1) (by rw [hm];rfl);replace hg:=aJ hg (show _ from hm▸bD _ m (some b));clear hm;go_wp2_with fail;refine (lJ _ b s P k 0 13 hS (by omega) (by omega) _ P8).mono ?_;rintro e w1 ⟨rfl,m,hm⟩;replace hS:=hS.heap (w' :=w1) (by rw [hm];rfl);replace hg:=aJ hg (show _ from hm▸bD _ m (some b));clear hm;cases h45:fE P k 45
        case false=>
         go_wp2_with fail;refine (lJ _ b s P k 0 45 hS (by omega) (by omega) _ h45).mono ?_;rintro e w1 ⟨rfl,m,hm⟩;replace hS:=hS.heap (w' :=w1) (by rw [hm];rfl);replace hg:=aJ hg (show _ from hm▸bD _ m (some b));clear hm
         have HF:Hid (skip P i=k):=by
          show _=_;rw [HE.out,gK HB.out (by unfold iK;rw [h45];rfl)]
         clear h32 h9 h10 P8 h45;go_wp2_with fail
         ((try simp only [Exit.inBlock,Exit.then]);refine bodyPost_ret (results_none rfl _ _ _) rfl ?_)
         exact ⟨rfl,by rw [HF.out];exact hS,hg⟩
        case true=>
         cases h46:fE P (k+1) 45
         case false=>
          go_wp2_with fail;refine (lJ _ b s P k 0 45 hS (by omega) (by omega) _ h45).mono ?_;rintro e w1 ⟨rfl,m,hm⟩;replace hS:=hS.heap (w' :=w1) (by rw [hm];rfl);replace hg:=aJ hg (show _ from hm▸bD _ m (some b));clear hm;go_wp2_with fail;refine (lJ _ b s P k 1 45 hS (by omega) (by omega) _ h46).mono ?_;rintro e w1 ⟨rfl,m,hm⟩;replace hS:=hS.heap (w' :=w1) (by rw [hm];rfl);replace hg:=aJ hg (show _ from hm▸bD _ m (some b));clear hm
          have HF:Hid (skip P i=k):=by
           show _=_;rw [HE.out,gK HB.out (by unfold iK;rw [h45,h46];rfl)]
          clear h32 h9 h10 P8 h45 h46;go_wp2_with fail
          ((try simp only [Exit.inBlock,Exit.then]);refine bodyPost_ret (results_none rfl _ _ _) rfl ?_)
          exact ⟨rfl,by rw [HF.out];exact hS,hg⟩
         case true=>
          go_wp2_with fail;refine (lJ _ b s P k 0 45 hS (by omega) (by omega) _ h45).mono ?_;rintro e w1 ⟨rfl,m,hm⟩;replace hS:=hS.heap (w' :=w1) (by rw [hm];rfl);replace hg:=aJ hg (show _ from hm▸bD _ m (some b));clear hm;go_wp2_with fail;refine (lJ _ b s P k 1 45 hS (by omega) (by omega) _ h46).mono ?_;rintro e w1 ⟨rfl,m,hm⟩;replace hS:=hS.heap (w' :=w1) (by rw [hm];rfl);replace hg:=aJ hg (show _ from hm▸bD _ m (some b));clear hm;have HD:Hid (iK P k=true):=by show _=_;unfold iK;rw [h45,h46];rfl
          have HF:Hid (skip P i=skip P (lineEnd P k)):=by
           show _=_;rw [HE.out,mg HL.out HB.out HD.out]
          clear h32 h9 h10 P8 h45 h46;go_wp2_with fail
          go_loopw [] (fun wi=>∃j,SQ L wi b s P j∧w.grownBy wi (some b)∧Hid (lineEnd P k=dF (fun j=> !fE P j 10) P.length j)∧j≤P.length) (fun wi=>P.length - l7 wi b)
          case atStart=>exact ⟨k,hS,hg,rfl,hk⟩
          case round=>
           obtain ⟨j,hS,hg,HJ,hj⟩:=hrel;have hj0:=dX hS;have HJ0:=Lib.hid hj0;clear hj0;by_cases hlj:j<P.length
           · cases h10:fE P j 10
             case false=>
              go_wp2_with fail;refine (qW _ b s P j hS false (decide_eq_false (by omega))).mono ?_;rintro e w1 ⟨rfl,m,hm⟩;replace hS:=hS.heap (w' :=w1) (by rw [hm];rfl);replace hg:=aJ hg (show _ from hm▸bD _ m (some b));clear hm;go_wp2_with fail;refine (lJ _ b s P j 0 10 hS (by omega) (by omega) _ h10).mono ?_;rintro e w1 ⟨rfl,m,hm⟩;replace hS:=hS.heap (w' :=w1) (by rw [hm];rfl);replace hg:=aJ hg (show _ from hm▸bD _ m (some b));clear hm;obtain ⟨_,_,_,_,c2,f2,_⟩:=hS.cells;have HJ2:Hid (lineEnd P k=dF (fun j=> !fE P j 10) P.length (j+1)):=by show _=_;rw [HJ.out];exact fF hlj (by simp only [h10];rfl)
              clear h10;go_wp2_with fail;go_roundw
              case rel=>exact ⟨j+1,by have:=hS.set (j+1);push_cast at this;exact this,aJ hg (jq _ _ _ _),HJ2,by omega⟩
              case measure=>
               have h1:=dX (hS.set (j+1));push_cast at h1;rw [h1,HJ0.out];omega
             case true=>
              go_wp2_with fail;refine (qW _ b s P j hS false (decide_eq_false (by omega))).mono ?_;rintro e w1 ⟨rfl,m,hm⟩;replace hS:=hS.heap (w' :=w1) (by rw [hm];rfl);replace hg:=aJ hg (show _ from hm▸bD _ m (some b));clear hm;go_wp2_with fail;refine (lJ _ b s P j 0 10 hS (by omega) (by omega) _ h10).mono ?_;rintro e w1 ⟨rfl,m,hm⟩;replace hS:=hS.heap (w' :=w1) (by rw [hm];rfl);replace hg:=aJ hg (show _ from hm▸bD _ m (some b));clear hm;have H10:=Lib.hid h10;clear h10;have Zm:Hid (lineEnd P k=j):=by show _=_;rw [HJ.out];exact eu (by simp only [H10.out];rfl)
              have hgt:=iX HD.out;have HGT:Hid (k<j):=by rw [←Zm.out];exact hgt.1
              clear hgt;go_wp2_with fail;go_roundw
              case rel=>exact ⟨j,hS,hg,(by show _=_;rw [HF.out,Zm.out]),hj⟩
              case measure=>rw [dX hS,HK.out];have:=HGT.out;have:=HL.out;omega
           · skip
             go_wp2_with fail;refine (qW _ b s P j hS true (decide_eq_true (by omega))).mono ?_;rintro e w1 ⟨rfl,m,hm⟩;replace hS:=hS.heap (w' :=w1) (by rw [hm];rfl);replace hg:=aJ hg (show _ from hm▸bD _ m (some b));clear hm;have Zm:Hid (lineEnd P k=j):=by show _=_;rw [HJ.out];exact oz (by omega)
             have hgt:=iX HD.out;have HGT:Hid (k<j):=by rw [←Zm.out];exact hgt.1
             clear hgt;go_wp2_with fail;go_roundw
             case rel=>exact ⟨j,hS,hg,(by show _=_;rw [HF.out,Zm.out]),hj⟩
             case measure=>rw [dX hS,HK.out];have:=HGT.out;have:=HL.out;omega
  · have HF:Hid (skip P i=k):=by show _=_;rw [HE.out,um (by omega)]
    go_wp2_with fail;refine (qW _ b s P k hS true (decide_eq_true (by omega))).mono ?_;rintro e w1 ⟨rfl,m,hm⟩;replace hS:=hS.heap (w' :=w1) (by rw [hm];rfl);replace hg:=aJ hg (show _ from hm▸bD _ m (some b));clear hm;go_wp2_with fail
    go_end0
    exact ⟨rfl,by rw [HF.out];exact hS,hg⟩
theorem ownsRow_iterAt {w:World}{base:Nat}{e:TypeId}{size:Nat}{v:Value}{n:Nat}{xs:List Value}(h:w.ownsRow base e size v n xs) {k:Nat}(hk:k<base) (s:ByteArray) (p:Nat):(w.iterAt k s p).ownsRow base e size v n xs:=by
 obtain ⟨h1,h2⟩:=h;refine ⟨h1, ?_⟩;rcases h2 with h2|⟨g,cap,cur,a,b,c,d⟩
 · exact .inl h2
 · exact .inr ⟨g,cap,cur,a,b,by rw [Lib.iterAt_other _ _ _ _ _ (by omega)];exact c,d⟩
theorem uQ {w:World}{base:Nat}{e:TypeId}{size:Nat}{v:Value}{n:Nat}{xs:List Value}(h:w.ownsRow base e size v n xs) {a:Addr}(ha:a.block<base) (u:Value):(w.setCell a u).ownsRow base e size v n xs:=ownsRow_setCell_below h ha u
theorem OP (r a:Int) (x:Bool):∀u∈ [Value.int .i32 r,Value.int .i64 a,Value.bool x],u.oneCell' =true:=by
 intro u hu;simp at hu;rcases hu with rfl|rfl|rfl<;>rfl
theorem UC (s:ByteArray) (w:World) (hG:Glob w) (hs:s.size≤100000):
 Calls prog 186 #[.string s] w fun e w' =>e= .returned (.pointer (some ⟨w.heap.size,0,none⟩))∧SQ w'.heap.size w' w.heap.size s (pts s) 0∧Below w.heap.size w w' :=by
 obtain ⟨i0,hi,hz0,hz1,hz2⟩:=info_parts Tryz.aao;have HG:=Lib.hid hG;clear hG;go_enter func186,ntmps186;go_wp2_with fail
 go_loopw [] (fun wr=>∃(pos:Nat) (done:List Pt) (v:Value),wr.heap[w.heap.size+1]? =some (.stringIter s pos)∧wr.heap[w.heap.size]? =some (.cells #[.string s,v, .int .i64 0] 275 (0,0))∧wr.ownsRow (w.heap.size+2) 324 3 v done.length (BA done)∧Below w.heap.size w wr∧Hid (pts s=done++dD s pos)∧done.length≤pos∧pos≤s.size) (fun wr=>s.size - wr.iterPos (w.heap.size+1))
 case atStart=>
  refine ⟨0, [], .slice none 0 0, ?_, ?_,World.ownsRow_nil _ _ _ _,((Below.refl _ _).alloc (Nat.le_refl _) _).alloc (by simp) _,rfl,by simp,by omega⟩
  · have:=World.iter_heap (w.alloc (.cells #[.string s, .slice none 0 0, .int .i64 0] 275)) s 0;simpa using this
  · exact ay (aB w _) _
 case round=>
  obtain ⟨pos,done,v,hit,hblk,hown,hbw,HS,hk,hpos⟩:=hrel;have wG:=iterPos_of hit;by_cases hp:pos<s.size
  · have hnx:∀ty,(Instr.next (.pointer (some ⟨w.heap.size+1,0,none⟩)) true ty).run prog wr=_:=fun ty=>Lib.run_next_any_at wr (w.heap.size+1) s pos ty hit hp
    have hwd:=width_pos s pos hp;have hwl:=width_le s pos hp;have hit2:=Lib.iterAt_heap wr (w.heap.size+1) s pos (pos+(Utf8.decode s pos).2) hit;have hbw2:=Lib.below_iterAt hbw (k:=w.heap.size+1) (by omega) s (pos+(Utf8.decode s pos).2);have hblk2:(wr.iterAt (w.heap.size+1) s (pos+(Utf8.decode s pos).2)).heap[w.heap.size]? =some (.cells #[.string s,v, .int .i64 0] 275 (0,0)):=by rw [Lib.iterAt_other _ _ _ _ _ (by omega)];exact hblk
    have hown2:=ownsRow_iterAt hown (k:=w.heap.size+1) (by omega) s (pos+(Utf8.decode s pos).2);obtain ⟨W1,hW1⟩:∃W1,W1=wr.iterAt (w.heap.size+1) s (pos+(Utf8.decode s pos).2):=⟨_,rfl⟩;rw [←hW1]at hnx hit2 hbw2 hblk2 hown2;have hlt:=aG hit2;clear hW1 hit hbw hblk hown;have hd:=OH s pos W1 (HG.out.below (hbw2.mono (by omega))) hp
    have HS2:Hid (pts s=(done++ [⟨(Utf8.decode s pos).1,pos,(Utf8.decode s pos).2⟩])++dD s (pos+(Utf8.decode s pos).2)):=by
     show _=_;rw [HS.out,bq s pos hp];simp
    obtain ⟨q,hq⟩:∃q:Pt,q=⟨(Utf8.decode s pos).1,pos,(Utf8.decode s pos).2⟩:=⟨_,rfl⟩;have hq1:(Utf8.decode s pos).1=q.r:=by rw [hq]
    have hq2:(Utf8.decode s pos).2=q.n:=by rw [hq]
    have HQ:Hid (pos=q.at_):=by rw [hq];rfl
    rw [←hq]at HS2;rw [hq1,hq2]at hd;rw [hq1]at hnx;rw [hq2]at hwd hwl HS2 hit2;have xD:Hid (q.ok=((q.r:Int) !=65533||decide (1<q.n))):=rfl;have Hd:=Lib.hid hd;clear hq hq1 hq2 HS hd;cases hr:((q.r:Int) !=65533)
    · rw [hr]at xD;have HX:Hid (q.ok=decide (1<(q.n:Int))):=by show _=_;rw [xD.out,Bool.false_or];exact decide_eq_decide.2 (by omega)
      go_wp2_with fail;refine Hd.out.mono ?_;rintro e w1 ⟨rfl,hb1⟩;have hblk3:=bf hblk2 hb1 (by omega);have hit3:=bf hit2 hb1 hlt;have hown3:=ownsRow_below hown2 hb1;have uR:=hbw2.trans (hb1.mono (by omega));have hz1' :=hb1.size;have c1:w1.cell? ⟨w.heap.size,1,none⟩=some v:=by rw [aj hblk3];rfl
      clear hblk2 hit2 hown2 hbw2 hb1 hnx
      go_wp2_with (at_builtin;refine wpList_append_own _ rfl _ _ 273 rfl (w.heap.size+2) 324 i0 (.agg #[.int .i32 0, .int .i64 0, .bool false]) 3 24 underlying273 hi hz0 hz1 hz2 rfl (by decide) _ _ _ rfl (hown3.alloc _) ⟨w1.heap.size,0,none⟩ 1 1 [.int .i32 q.r, .int .i64 pos, .bool (decide (1<(q.n:Int)))] rfl rfl (vV _ _ _) (OP _ _ _) (by unfold maxLen;omega) (by omega) (by simp;omega) ?_;intro v' w2 jd hg2 _;obtain ⟨a',cap',hv',_⟩:=aN jd;rw [hv']at jd⊢;clear hv'
                   have hne:some w.heap.size≠v.ownBlock:=fun h=>by have:=(hown3.lt _ h.symm).1;omega
                   have hne2:some (w.heap.size+1)≠v.ownBlock:=fun h=>by have:=(hown3.lt _ h.symm).1;omega
                   have eZ:w2.heap[w.heap.size]? =some (.cells #[.string s,v, .int .i64 0] 275 (0,0)):=by rw [hg2.block _ (by simp;omega) hne];exact ay hblk3 _
                   have aaq:w2.heap[w.heap.size+1]? =some (.stringIter s (pos+q.n)):=by rw [hg2.block _ (by simp;omega) hne2];exact ay hit3 _
                   have xE:Below w.heap.size w w2:=(uR.alloc (by omega) _).grown hg2 (by simp;omega) (fun k hk=>by have:=(hown3.lt _ hk).1;omega);have c4:w2.cell? ⟨w.heap.size,1,none⟩=some v:=by rw [aj eZ];rfl
                   have f4:w2.frozen? ⟨w.heap.size,1,none⟩=false:=ak eZ 1;clear hown3 hblk3 hit3 uR hg2 hne hne2)
      have h5:(w2.setCell ⟨w.heap.size,1,none⟩ (.slice a' (done.length+1) cap')).heap[w.heap.size+1]? =some (.stringIter s (pos+q.n)):=bg aaq _ _ (by simp);go_roundw
      case rel=>
       refine ⟨pos+q.n,done++ [q],_,h5,bG eZ 1 _, ?_,xE.setCell (Nat.le_refl _) _,HS2,by simp;omega,hwl⟩;have e: [Value.int .i32 q.r,Value.int .i64 pos,Value.bool (decide (1<(q.n:Int)))]=jS q:=by unfold jS;rw [HX.out,←HQ.out]
       rw [e,DK]at jd;have e2:(done++ [q]).length=done.length+1:=by simp
       rw [e2];exact uQ jd (by show _<_;simp) _
      case measure=>rw [iterPos_of h5,wG];omega
    · rw [hr]at xD;have HX:Hid (q.ok=true):=by show _=_;rw [xD.out];rfl
      go_wp2_with fail;refine Hd.out.mono ?_;rintro e w1 ⟨rfl,hb1⟩;have hblk3:=bf hblk2 hb1 (by omega);have hit3:=bf hit2 hb1 hlt;have hown3:=ownsRow_below hown2 hb1;have uR:=hbw2.trans (hb1.mono (by omega));have hz1' :=hb1.size;have c1:w1.cell? ⟨w.heap.size,1,none⟩=some v:=by rw [aj hblk3];rfl
      clear hblk2 hit2 hown2 hbw2 hb1 hnx
      go_wp2_with (at_builtin;refine wpList_append_own _ rfl _ _ 273 rfl (w.heap.size+2) 324 i0 (.agg #[.int .i32 0, .int .i64 0, .bool false]) 3 24 underlying273 hi hz0 hz1 hz2 rfl (by decide) _ _ _ rfl (hown3.alloc _) ⟨w1.heap.size,0,none⟩ 1 1 [.int .i32 q.r, .int .i64 pos, .bool (true)] rfl rfl (vV _ _ _) (OP _ _ _) (by unfold maxLen;omega) (by omega) (by simp;omega) ?_;intro v' w2 jd hg2 _;obtain ⟨a',cap',hv',_⟩:=aN jd;rw [hv']at jd⊢;clear hv'
                   have hne:some w.heap.size≠v.ownBlock:=fun h=>by have:=(hown3.lt _ h.symm).1;omega
                   have hne2:some (w.heap.size+1)≠v.ownBlock:=fun h=>by have:=(hown3.lt _ h.symm).1;omega
                   have eZ:w2.heap[w.heap.size]? =some (.cells #[.string s,v, .int .i64 0] 275 (0,0)):=by rw [hg2.block _ (by simp;omega) hne];exact ay hblk3 _
                   have aaq:w2.heap[w.heap.size+1]? =some (.stringIter s (pos+q.n)):=by rw [hg2.block _ (by simp;omega) hne2];exact ay hit3 _
                   have xE:Below w.heap.size w w2:=(uR.alloc (by omega) _).grown hg2 (by simp;omega) (fun k hk=>by have:=(hown3.lt _ hk).1;omega);have c4:w2.cell? ⟨w.heap.size,1,none⟩=some v:=by rw [aj eZ];rfl
                   have f4:w2.frozen? ⟨w.heap.size,1,none⟩=false:=ak eZ 1;clear hown3 hblk3 hit3 uR hg2 hne hne2)
      have h5:(w2.setCell ⟨w.heap.size,1,none⟩ (.slice a' (done.length+1) cap')).heap[w.heap.size+1]? =some (.stringIter s (pos+q.n)):=bg aaq _ _ (by simp);go_roundw
      case rel=>
       refine ⟨pos+q.n,done++ [q],_,h5,bG eZ 1 _, ?_,xE.setCell (Nat.le_refl _) _,HS2,by simp;omega,hwl⟩;have e: [Value.int .i32 q.r,Value.int .i64 pos,Value.bool (true)]=jS q:=by unfold jS;rw [HX.out,←HQ.out]
       rw [e,DK]at jd;have e2:(done++ [q]).length=done.length+1:=by simp
       rw [e2];exact uQ jd (by show _<_;simp) _
      case measure=>rw [iterPos_of h5,wG];omega
  · have hnx:∀ty,(Instr.next (.pointer (some ⟨w.heap.size+1,0,none⟩)) true ty).run prog wr=_:=fun ty=>Lib.run_next_end_at wr (w.heap.size+1) s pos ty hit hp
    have hE:Hid (pts s=done):=by show _=_;rw [HS.out,bI s pos hp,List.append_nil]
    clear HS;go_wp2_with fail;go_ret;refine ⟨rfl, ?_,hbw⟩;obtain ⟨a,cap,rfl,hr⟩:=aN hown;rw [hE.out];refine ⟨Nat.le_refl _,aG hblk,a,cap,hblk,fun h0=> ?_⟩;obtain ⟨g,e1,e2,e3,e4⟩:=hr h0;exact ⟨g,e1,by omega,e3,e4⟩
def SY (t:Tk):Value:= .agg #[.int .i64 t.kind, .string t.s, .int .i64 t.n, .int .i64 t.at_]
def Ct (L:Nat) (w:World) (b:Nat) (s:ByteArray) (P:List Pt) (x:Tk×Bool×Nat) (e:Ending) (w' :World):Prop:=
 e= .returned (.tuple #[SY x.1, .bool x.2.1])∧SQ L w' b s P x.2.2∧w.grownBy w' (some b)
theorem KD {L:Nat}(w:World) (b:Nat) (s:ByteArray) (P:List Pt) (i:Nat) (h:SQ L w b s P i) (v:Bool) (hv:dn P i=v):
 Calls prog 261 #[.pointer (some ⟨b,0,none⟩)] w fun e w' =>e= .returned (.bool v)∧∃m,w' =w.drewN m:=by
 rw [←hv];exact Im w b s P i h
theorem BD {L:Nat}(w:World) (b:Nat) (s:ByteArray) (P:List Pt) (i:Nat) (h:SQ L w b s P i) (v:Bool) (hv:bT P i=v):
 Calls prog 263 #[.pointer (some ⟨b,0,none⟩)] w fun e w' =>e= .returned (.bool v)∧∃m,w' =w.drewN m:=by
 rw [←hv];exact Io w b s P i h
theorem MO {w:World}{g:Nat}{x0 x1 x2 x3:Value}{T:TypeId}(h:w.heap[g]? =some (.cells #[x0,x1,x2,x3] T (0,0))) (v0 v1 v2 v3:Value):
 ((((w.setCell ⟨g,0,none⟩ v0).setCell ⟨g,1,none⟩ v1).setCell ⟨g,2,none⟩ v2).setCell ⟨g,3,none⟩ v3).heap[g]? =some (.cells #[v0,v1,v2,v3] T (0,0)):=by
 have:=bG (bG (bG (bG h 0 v0) 1 v1) 2 v2) 3 v3;rw [this];simp
theorem yV (w:World) (g:Nat) (v0 v1 v2 v3:Value):w.grownBy ((((w.setCell ⟨g,0,none⟩ v0).setCell ⟨g,1,none⟩ v1).setCell ⟨g,2,none⟩ v2).setCell ⟨g,3,none⟩ v3) (some g):=
 aJ (aJ (aJ (jq _ _ _ _) (jq _ _ _ _)) (jq _ _ _ _)) (jq _ _ _ _)
theorem aar {w w1 w2:World}{b:Nat}{o:Obj}(h:(w.alloc o).grownBy w1 (some b)) (k:w1.grownBy w2 (some w.heap.size)):w.grownBy w2 (some b):=
 ⟨k.os.trans h.os,k.tape.trans h.tape,k.output.trans h.output,by have h1:=h.size;have h2:=k.size;simp at h1;omega,fun i hi hr=>by
  have h1:=h.size;simp at h1;rw [k.block i (by omega) (fun e=>by cases e;omega),h.block i (by simp;omega) hr];exact Below.heap_alloc _ _ _ hi⟩
theorem UD {L:Nat}(w:World) (b:Nat) (s:ByteArray) (P:List Pt) (i:Nat) (h:SQ L w b s P i) (hs:s.size≤100000) (rO:uq s P) (hi:i<P.length):
 Calls prog 262 #[.pointer (some ⟨b,0,none⟩)] w (Ct L w b s P (jD s P i)):=by
 obtain ⟨hPl,hmono,UE⟩:=rO;have H:=Lib.hid h;have acG:=Lib.hid hmono;have aeY:=Lib.hid UE;have hblt:=h.lt;obtain ⟨_,_,_,_,c2,f2,_⟩:=h.cells;have HW:Hid (SQ L (w.alloc (.cells #[.int .i64 0, .string ⟨#[]⟩, .int .i64 0, .int .i64 0] 276)) b s P i):=h.below ((Below.refl _ _).alloc (Nat.le_refl _) _);clear h hmono UE;go_enter func262,ntmps262;go_wp2_with fail
 go_loopw [] (fun wr=>∃k,SQ L wr b s P k∧(w.alloc (.cells #[.int .i64 0, .string ⟨#[]⟩, .int .i64 0, .int .i64 0] 276)).grownBy wr (some b)∧Hid (dW P i=dF (fun k=>dn P k||bT P k) P.length k)∧i≤k∧k≤P.length) (fun wr=>P.length - l7 wr b)
 case atStart=>exact ⟨i,HW.out,sI _ _,rfl,Nat.le_refl _,by omega⟩
 case round=>
  obtain ⟨k,hS,hg,HE,hik,hk⟩:=hrel;have hk0:=dX hS;have HK:=Lib.hid hk0;clear hk0 c2 f2;cases hL:dn P k
  case true=>
   have HL:=Lib.hid hL;have hlt:=yw hL;go_wp2_with fail;refine (KD _ b s P k hS _ hL).mono ?_;rintro e w1 ⟨rfl,m,hm⟩;replace hS:=hS.heap (w' :=w1) (by rw [hm];rfl);replace hg:=aJ hg (show _ from hm▸bD _ m (some b));clear hm hL;obtain ⟨_,_,_,_,c2,f2,_⟩:=hS.cells;go_wp2_with fail;go_roundw
   case rel=>
    refine ⟨k+1,by have:=hS.set (k+1);push_cast at this;exact this,aJ hg (jq _ _ _ _), ?_,by omega,by omega⟩;show _=_;rw [HE.out];exact fF hlt (by simp only [HL.out];rfl)
   case measure=>
    have h1:=dX (hS.set (k+1));push_cast at h1;rw [h1,HK.out];omega
  case false=>
   cases hD:bT P k
   case true=>
    have HL:=Lib.hid hL;have HD:=Lib.hid hD;have hlt:=rP hD;go_wp2_with fail;refine (KD _ b s P k hS _ hL).mono ?_;rintro e w1 ⟨rfl,m,hm⟩;replace hS:=hS.heap (w' :=w1) (by rw [hm];rfl);replace hg:=aJ hg (show _ from hm▸bD _ m (some b));clear hm hL;go_wp2_with fail;refine (BD _ b s P k hS _ hD).mono ?_;rintro e w1 ⟨rfl,m,hm⟩;replace hS:=hS.heap (w' :=w1) (by rw [hm];rfl);replace hg:=aJ hg (show _ from hm▸bD _ m (some b));clear hm hD;obtain ⟨_,_,_,_,c2,f2,_⟩:=hS.cells;go_wp2_with fail;go_roundw
    case rel=>
     refine ⟨k+1,by have:=hS.set (k+1);push_cast at this;exact this,aJ hg (jq _ _ _ _), ?_,by omega,by omega⟩;show _=_;rw [HE.out];exact fF hlt (by simp only [HL.out,HD.out];rfl)
    case measure=>
     have h1:=dX (hS.set (k+1));push_cast at h1;rw [h1,HK.out];omega
   case false=>
    have HL:=Lib.hid hL;have HD:=Lib.hid hD;have HF:Hid (dW P i=k):=by show _=_;rw [HE.out];exact eu (by simp only [HL.out,HD.out];rfl)
    go_wp2_with fail;refine (KD _ b s P k hS _ hL).mono ?_;rintro e w1 ⟨rfl,m,hm⟩;replace hS:=hS.heap (w' :=w1) (by rw [hm];rfl);replace hg:=aJ hg (show _ from hm▸bD _ m (some b));clear hm hL;go_wp2_with fail;refine (BD _ b s P k hS _ hD).mono ?_;rintro e w1 ⟨rfl,m,hm⟩;replace hS:=hS.heap (w' :=w1) (by rw [hm];rfl);replace hg:=aJ hg (show _ from hm▸bD _ m (some b));clear hm hD;obtain ⟨_,_,c0,_,c2,f2,_⟩:=hS.cells;have OQ:=Lib.hid (fun n=>xC (w1.drewN n) b s P k i (hS.heap rfl));have BF:=Lib.hid (fun n=>xC (w1.drewN n) b s P k k (hS.heap rfl));have hx1:((aL s P i:Nat):Int)≤((aL s P k:Nat):Int):=by have:=acG.out i k hik;omega
    have hx2:((aL s P k:Nat):Int)≤(s.size:Int):=by have:=aeY.out k;omega
    have hx0:(0:Int)≤((aL s P i:Nat):Int):=by omega
    have HT:Hid (lD s P i=s.extract (aL s P i) (aL s P k)):=by show _=_;unfold lD;rw [HF.out]
    generalize aL s P i=A at *;generalize aL s P k=B at *;go_wp2_with fail;go_quiet ((go_at_call 310;first|(with_reducible exact Calls.quiet_of_same (OQ.out _))|(with_reducible exact Calls.quiet_of_same (BF.out _))))
    have UF:w1.heap[w.heap.size]? =some (.cells #[.int .i64 0, .string ⟨#[]⟩, .int .i64 0, .int .i64 0] 276 (0,0)):=by
     rw [hg.block w.heap.size (by simp) (by intro e;cases e;omega)];exact aB w _
    have acH:=Lib.hid (fun W hsz=>Kk (s.extract A B) W hsz);go_wp2_with fail;refine (acH.out _ (by rw [ByteArray.size_extract];omega)).mono ?_;rintro e w3 ⟨rfl,hb3⟩;have hb4:Below w1.heap.size w1 w3:=(aK.below_drewN (Below.refl _ _) nq).trans hb3;have hblk3:=bf UF hb4 (aG UF);have EU:=hS.below hb4;have hg3:=aJ hg (jR hb4 (some b));have t0:w3.cell? ⟨w.heap.size,0,none⟩=some (.int .i64 0):=by rw [aj hblk3];rfl
    have t1:w3.cell? ⟨w.heap.size,1,none⟩=some (.string ⟨#[]⟩):=by rw [aj hblk3];rfl
    have t2:w3.cell? ⟨w.heap.size,2,none⟩=some (.int .i64 0):=by rw [aj hblk3];rfl
    have t3:w3.cell? ⟨w.heap.size,3,none⟩=some (.int .i64 0):=by rw [aj hblk3];rfl
    have u0:=ak hblk3 0;have u1:=ak hblk3 1;have u2:=ak hblk3 2;have u3:=ak hblk3 3;clear hb3 UF hS hg c0 c2 f2;go_wp2_with fail;have hp4:=MO hblk3 (.int .i64 1) (.string (fold (s.extract A B))) (.int .i64 0) (.int .i64 i);have pO:=(((EU.setOther (g:=w.heap.size) H.out.le 0 (.int .i64 1)).setOther (g:=w.heap.size) H.out.le 1 (.string (fold (s.extract A B)))).setOther (g:=w.heap.size) H.out.le 2 (.int .i64 0)).setOther (g:=w.heap.size) H.out.le 3 (.int .i64 i);have hg4:=aar (aJ hg3 (sI _ _)) (yV w3 w.heap.size (.int .i64 1) (.string (fold (s.extract A B))) (.int .i64 0) (.int .i64 i));generalize (((w3.setCell ⟨w.heap.size,0,none⟩ (.int .i64 1)).setCell ⟨w.heap.size,1,none⟩ (.string (fold (s.extract A B)))).setCell ⟨w.heap.size,2,none⟩ (.int .i64 0)).setCell ⟨w.heap.size,3,none⟩ (.int .i64 i)=W4 at *;have r0:W4.cell? ⟨w.heap.size,0,none⟩=some (.int .i64 1):=by rw [aj hp4];rfl
    have r1:W4.cell? ⟨w.heap.size,1,none⟩=some (.string (fold (s.extract A B))):=by rw [aj hp4];rfl
    have r2:W4.cell? ⟨w.heap.size,2,none⟩=some (.int .i64 0):=by rw [aj hp4];rfl
    have r3:W4.cell? ⟨w.heap.size,3,none⟩=some (.int .i64 i):=by rw [aj hp4];rfl
    refine bodyPost_ret (v:= .tuple #[.agg #[.int .i64 1, .string (fold (s.extract A B)), .int .i64 0, .int .i64 i], .bool (decide ((s.extract A B).size≤100))]) (by simp [results,results262,go_sem,r0,r1,r2,r3];omega) rfl ?_;refine ⟨?_, ?_,hg4⟩
    · unfold jD SY;rw [HT.out]
    · show SQ L W4 b s P (dW P i);rw [HF.out];exact pO
end Go.Proofs.YtnngbhpeeakfaaaGreatDoor
