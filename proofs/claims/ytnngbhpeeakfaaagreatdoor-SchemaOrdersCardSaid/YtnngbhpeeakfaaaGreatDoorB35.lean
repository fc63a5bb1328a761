/- Parts of a proof. -/
import Derived.StillTailTactics
import Derived.Test.YtnngbhpeeakfaaaGreatDoorB08
import Derived.Test.YtnngbhpeeakfaaaGreatDoorB12
set_option maxHeartbeats 2000000
set_option maxRecDepth 100000
namespace Go.Proofs.YtnngbhpeeakfaaaGreatDoor
open Go.Proofs.Tryz
open Go.RowKit
open aK
abbrev SR:=Cr 234 sH
def RG (L:Nat) (w wr:World) (b:Nat) (s:ByteArray) (P:List Pt) (k:Nat):Prop:=SR L wr b s P k∧w.grownBy wr (some b)
section
variable {L:Nat}{w wr wi:World}{b:Nat}{s:ByteArray}{P:List Pt}{k:Nat}
theorem RG.drew (h:RG L w wr b s P k) (m:Nat):RG L w (wr.drewN m) b s P k:=⟨h.1.heap rfl,aJ h.2 (bD _ _ _)⟩
theorem RG.set (h:RG L w wr b s P k) (j:Nat) (v:Int) (hv:v=j):RG L w (wr.setCell ⟨b,2,none⟩ (.int .i64 v)) b s P j:=by subst hv;exact ⟨h.1.set j,aJ h.2 (jq _ _ _ _)⟩
theorem RG.below (h:RG L w wr b s P k) (hb:Below wr.heap.size wr wi):RG L w wi b s P k:=⟨h.1.below hb,aJ h.2 (jR hb _)⟩
theorem RG.alloc (h:RG L w wr b s P k) (o:Obj):RG L w (wr.alloc o) b s P k:=h.below ((Below.refl _ _).alloc (Nat.le_refl _) _)
theorem RG.scan (h:RG L w wr b s P k):l7 wr b=k:=dX h.1
end
theorem drewN_drewN (w:World) (a b:Nat):(w.drewN a).drewN b=w.drewN (a+b):=by
 simp [World.drewN,Nat.add_assoc]
theorem wS (P:List Pt) (i:Nat) (c:Int) (hc:0≤c):fE P i c=(jl P i==c):=by
 unfold fE jl;cases P[i]? with
 |none=>show false=((-1:Int)==c);exact (beq_eq_false_iff_ne.2 (by omega)).symm
 |some p=>rfl
theorem EI (P:List Pt) (i:Nat):bT P i=(decide (48≤jl P i)&&decide (jl P i≤57)):=by
 unfold bT jl;cases P[i]? with
 |none=>rfl
 |some p=>simp only [iw]
theorem ND {L:Nat}{w:World}(wr:World) (b:Nat) (s:ByteArray) (P:List Pt) (i more:Nat) (h:RG L w wr b s P i) (hi:i≤1000000) (hm:more≤1) (hP:P.length≤1000000):
 Calls prog 224 #[.pointer (some ⟨b,0,none⟩), .int .i64 more] wr fun e w' =>e= .returned (.int .i32 (jl P (i+more)))∧∃m,w' =wr.drewN m:=by
 obtain ⟨a,cap,c0,c1,c2,_,h2⟩:=h.1.cells;have hw:IntKind.i64.wrap ((i:Int)+(more:Int))=(i:Int)+(more:Int):=IntWalk.i64_in _ (by omega);have hn:((i:Int)+(more:Int)).toNat=i+more:=by omega
 have h0:(0:Int)≤(i:Int)+(more:Int):=by omega
 by_cases hlt:i+more<P.length
 · obtain ⟨g,rfl,hc⟩:=h2 (by omega);have c3:wr.cell? ⟨g,(i+more)*4,none⟩=some (.int .i32 P[i+more].r):=hc _ _ (by have:=lG P (i+more) 0 hlt (by omega);rw [Nat.add_zero]at this;rw [this];rfl);have HE:Hid (jl P (i+more)=(P[i+more].r:Int)):=by show _=_;unfold jl;rw [List.getElem?_eq_getElem hlt]
   have h3:(i:Int)+(more:Int)<(P.length:Int):=by omega
   have hd:decide ((P.length:Int)≤(i:Int)+(more:Int))=false:=decide_eq_false (by omega);clear hc h2 c0 h;generalize P[i+more]=q at *;go_enter func224,ntmps224;go_wp2_with fail;go_quiet (fail);go_wp2_with fail;go_quiet (fail);go_wp2_with fail;go_ret;exact ⟨j4 (by rw [HE.out]),_,drewN_drewN _ _ _⟩
 · have HE:Hid (jl P (i+more)= -1):=by show _=_;unfold jl;rw [List.getElem?_eq_none (by omega)]
   have hd:decide ((P.length:Int)≤(i:Int)+(more:Int))=true:=decide_eq_true (by omega);clear h2 c0 h;go_enter func224,ntmps224;go_wp2_with fail;go_quiet (fail);go_wp2_with fail;go_ret;exact ⟨j4 (by rw [HE.out]),_,rfl⟩
theorem ady {L:Nat}{w:World}(wr:World) (b:Nat) (s:ByteArray) (P:List Pt) (i more:Nat) (h:RG L w wr b s P i) (hi:i≤1000000) (hm:more≤1) (hP:P.length≤1000000) (v:Int) (hv:jl P (i+more)=v):
 Calls prog 224 #[.pointer (some ⟨b,0,none⟩), .int .i64 more] wr fun e w' =>e= .returned (.int .i32 v)∧RG L w w' b s P i:=
 (ND wr b s P i more h hi hm hP).mono fun e w' ⟨he,m,hm⟩=>⟨by rw [he,hv],by rw [hm];exact h.drew m⟩
theorem V5 (r:Int) (w:World):
 Calls prog 227 #[.int .i32 r] w fun e w' =>e= .returned (.bool (decide (48≤r)&&decide (r≤57)))∧w' =w:=by
 go_enter func227,ntmps227;go_wp2_with fail;all_goals go_ret
 all_goals exact ⟨aR (by rw [Bool.eq_iff_iff];simp;try omega),rfl⟩
theorem RV {L:Nat}{w:World}(wr:World) (b:Nat) (s:ByteArray) (P:List Pt) (i:Nat) (h:RG L w wr b s P i):
 Calls prog 225 #[.pointer (some ⟨b,0,none⟩), .bool true] wr fun e w' =>e= .returned (.bool (dn P i||(true&&bT P i)))∧RG L w w' b s P i:=by
 obtain ⟨a,cap,c0,c1,c2,_,h2⟩:=h.1.cells;have HR:=Lib.hid (fun (w' :World) (hb:Below wr.heap.size wr w')=>h.below hb);by_cases hlt:i<P.length
 · obtain ⟨g,rfl,hc⟩:=h2 (by omega);have hrow:=lG P i;have c3:wr.cell? ⟨g,i*4,none⟩=some (.int .i32 P[i].r):=hc _ _ (by have:=hrow 0 hlt (by omega);rw [Nat.add_zero]at this;rw [this];rfl);have c4:wr.cell? ⟨g,i*4+1,none⟩=some (.int .i64 P[i].at_):=hc _ _ (by rw [hrow 1 hlt (by omega)];rfl);have c5:wr.cell? ⟨g,i*4+2,none⟩=some (.int .i64 P[i].n):=hc _ _ (by rw [hrow 2 hlt (by omega)];rfl);have c6:wr.cell? ⟨g,i*4+3,none⟩=some (.bool P[i].ok):=hc _ _ (by rw [hrow 3 hlt (by omega)];rfl)
   have HE:Hid ((dn P i||(true&&bT P i))=((P[i].ok&&(dV P[i].r||(decide (65≤(P[i].r:Int))&&decide ((P[i].r:Int)≤90))))||(true&&iw P[i].r))):=by
    show _=_;unfold dn bT;rw [List.getElem?_eq_getElem hlt]
   have HO:Hid (P[i].ok=true∨P[i].r=65533):=by
    show _∨_;unfold Pt.ok;by_cases e:P[i].r=65533
    · exact .inr e
    · left;rw [Bool.or_eq_true];left;exact bne_iff_ne.2 (by omega)
   have h3:(i:Int)<(P.length:Int):=by omega
   have h4:(0:Int)≤(i:Int):=by omega
   have hd:decide ((P.length:Int)≤(i:Int))=false:=decide_eq_false (by omega);have lg:=eH c3;have lb:=eH c1;clear hc h2 c0 h hrow;generalize P[i]=q at *;have hL:=fun w=>Bz q w _ rfl
   obtain ⟨ok,hok⟩:∃ok,q.ok=ok:=⟨_,rfl⟩;obtain ⟨r,hr⟩:∃r:Nat,q.r=r:=⟨_,rfl⟩;rw [hok,hr]at HE HO hL;rw [hok]at c6;rw [hr]at c3;clear hok hr;cases hq:(dV r&&ok)
   · have hq2:∀x y:Bool,((ok&&(dV r||x))||y)=((ok&&x)||y):=by intro x y;revert hq;cases dV r<;>cases ok<;>simp
     rw [hq2]at HE;have HE2:Hid (((65≤(r:Int)∧(r:Int)≤90)→ok=true)):=fun h=>HO.out.resolve_right (by omega)
     rw [hq]at hL;go_enter func225,ntmps225;go_wp2_with fail;go_quiet (fail);have k1:=HR.out _ (aK.below_drewN (Below.refl _ _) nq);have d1:(wr.drewN nq).cell? ⟨b,1,none⟩=some (.slice (some ⟨g,0,none⟩) P.length cap):=c1;have d2:(wr.drewN nq).cell? ⟨b,2,none⟩=some (.int .i64 i):=c2;have d3:(wr.drewN nq).cell? ⟨g,i*4,none⟩=some (.int .i32 r):=c3;have d4:(wr.drewN nq).cell? ⟨g,i*4+1,none⟩=some (.int .i64 q.at_):=c4;have d5:(wr.drewN nq).cell? ⟨g,i*4+2,none⟩=some (.int .i64 q.n):=c5;have d6:(wr.drewN nq).cell? ⟨g,i*4+3,none⟩=some (.bool ok):=c6;have lg' :g<(wr.drewN nq).heap.size:=lg;have lb' :b<(wr.drewN nq).heap.size:=lb;clear c1 c2 c3 c4 c5 c6 lg lb HR;generalize wr.drewN nq=w1 at *;go_wp2_with fail;go_region;have hblk:((w1.alloc (.cells #[.int .i32 r, .int .i64 q.at_, .int .i64 q.n, .bool ok] 300)).drew).heap[w1.heap.size]? =_:=aB w1 _;have k2:RG L w ((w1.alloc (.cells #[.int .i32 r, .int .i64 q.at_, .int .i64 q.n, .bool ok] 300)).drew) b s P i:=(k1.alloc _).drew 1;generalize ((w1.alloc (.cells #[.int .i32 r, .int .i64 q.at_, .int .i64 q.n, .bool ok] 300)).drew)=w2 at *;clear d1 d2 d3 d4 d5 d6 lg' lb' k1;obtain ⟨x0,x1,x2,x3,_,_,_,_⟩:=jr hblk;go_wp2_with (go_at_call 289;refine (hL _).mono ?_;rintro e w3 ⟨rfl,hb3⟩;obtain ⟨y0,y1,y2,y3,_,_,_,_⟩:=jr (bf hblk hb3 (aG hblk));replace k2:=k2.below hb3);all_goals go_ret
     all_goals refine ⟨aR ?_,k2⟩
     all_goals
      have h:=HE.out;try simp only [Bool.true_and]at h⊢
      have h2:=HE2.out;rw [h];cases ok<;>(rw [Bool.eq_iff_iff];simp [iw]at h2⊢;try omega)
   · have hq2:∀x y:Bool,((ok&&(dV r||x))||y)=true:=by intro x y;revert hq;cases dV r<;>cases ok<;>simp
     rw [hq2]at HE;rw [hq]at hL;go_enter func225,ntmps225;go_wp2_with fail;go_quiet (fail);have k1:=HR.out _ (aK.below_drewN (Below.refl _ _) nq);have d1:(wr.drewN nq).cell? ⟨b,1,none⟩=some (.slice (some ⟨g,0,none⟩) P.length cap):=c1;have d2:(wr.drewN nq).cell? ⟨b,2,none⟩=some (.int .i64 i):=c2;have d3:(wr.drewN nq).cell? ⟨g,i*4,none⟩=some (.int .i32 r):=c3;have d4:(wr.drewN nq).cell? ⟨g,i*4+1,none⟩=some (.int .i64 q.at_):=c4;have d5:(wr.drewN nq).cell? ⟨g,i*4+2,none⟩=some (.int .i64 q.n):=c5;have d6:(wr.drewN nq).cell? ⟨g,i*4+3,none⟩=some (.bool ok):=c6;have lg' :g<(wr.drewN nq).heap.size:=lg;have lb' :b<(wr.drewN nq).heap.size:=lb;clear c1 c2 c3 c4 c5 c6 lg lb HR;generalize wr.drewN nq=w1 at *;go_wp2_with fail;go_region;have hblk:((w1.alloc (.cells #[.int .i32 r, .int .i64 q.at_, .int .i64 q.n, .bool ok] 300)).drew).heap[w1.heap.size]? =_:=aB w1 _;have k2:RG L w ((w1.alloc (.cells #[.int .i32 r, .int .i64 q.at_, .int .i64 q.n, .bool ok] 300)).drew) b s P i:=(k1.alloc _).drew 1;generalize ((w1.alloc (.cells #[.int .i32 r, .int .i64 q.at_, .int .i64 q.n, .bool ok] 300)).drew)=w2 at *;clear d1 d2 d3 d4 d5 d6 lg' lb' k1;obtain ⟨x0,x1,x2,x3,_,_,_,_⟩:=jr hblk;go_wp2_with (go_at_call 289;refine (hL _).mono ?_;rintro e w3 ⟨rfl,hb3⟩;obtain ⟨y0,y1,y2,y3,_,_,_,_⟩:=jr (bf hblk hb3 (aG hblk));replace k2:=k2.below hb3);all_goals go_ret
     all_goals refine ⟨aR ?_,k2⟩
     all_goals
      have h:=HE.out;try simp only [Bool.true_and]at h⊢
      rw [h]
 · have HE:Hid ((dn P i||(true&&bT P i))=false):=by show _=_;unfold dn bT;rw [List.getElem?_eq_none (by omega)];simp
   have hd:decide ((P.length:Int)≤(i:Int))=true:=decide_eq_true (by omega);clear h2 c0 h;go_enter func225,ntmps225;go_wp2_with fail;go_quiet (fail);go_wp2_with fail;go_ret;exact ⟨aR (by rw [HE.out]),HR.out _ (aK.below_drewN (Below.refl _ _) _)⟩
theorem RX {L:Nat}{w:World}(wr:World) (b:Nat) (s:ByteArray) (P:List Pt) (i:Nat) (h:RG L w wr b s P i):
 Calls prog 225 #[.pointer (some ⟨b,0,none⟩), .bool false] wr fun e w' =>e= .returned (.bool (dn P i||(false&&bT P i)))∧RG L w w' b s P i:=by
 obtain ⟨a,cap,c0,c1,c2,_,h2⟩:=h.1.cells;have HR:=Lib.hid (fun (w' :World) (hb:Below wr.heap.size wr w')=>h.below hb);by_cases hlt:i<P.length
 · obtain ⟨g,rfl,hc⟩:=h2 (by omega);have hrow:=lG P i;have c3:wr.cell? ⟨g,i*4,none⟩=some (.int .i32 P[i].r):=hc _ _ (by have:=hrow 0 hlt (by omega);rw [Nat.add_zero]at this;rw [this];rfl);have c4:wr.cell? ⟨g,i*4+1,none⟩=some (.int .i64 P[i].at_):=hc _ _ (by rw [hrow 1 hlt (by omega)];rfl);have c5:wr.cell? ⟨g,i*4+2,none⟩=some (.int .i64 P[i].n):=hc _ _ (by rw [hrow 2 hlt (by omega)];rfl);have c6:wr.cell? ⟨g,i*4+3,none⟩=some (.bool P[i].ok):=hc _ _ (by rw [hrow 3 hlt (by omega)];rfl)
   have HE:Hid ((dn P i||(false&&bT P i))=((P[i].ok&&(dV P[i].r||(decide (65≤(P[i].r:Int))&&decide ((P[i].r:Int)≤90))))||(false&&iw P[i].r))):=by
    show _=_;unfold dn bT;rw [List.getElem?_eq_getElem hlt]
   have HO:Hid (P[i].ok=true∨P[i].r=65533):=by
    show _∨_;unfold Pt.ok;by_cases e:P[i].r=65533
    · exact .inr e
    · left;rw [Bool.or_eq_true];left;exact bne_iff_ne.2 (by omega)
   have h3:(i:Int)<(P.length:Int):=by omega
   have h4:(0:Int)≤(i:Int):=by omega
   have hd:decide ((P.length:Int)≤(i:Int))=false:=decide_eq_false (by omega);have lg:=eH c3;have lb:=eH c1;clear hc h2 c0 h hrow;generalize P[i]=q at *;have hL:=fun w=>Bz q w _ rfl
   obtain ⟨ok,hok⟩:∃ok,q.ok=ok:=⟨_,rfl⟩;obtain ⟨r,hr⟩:∃r:Nat,q.r=r:=⟨_,rfl⟩;rw [hok,hr]at HE HO hL;rw [hok]at c6;rw [hr]at c3;clear hok hr;cases hq:(dV r&&ok)
   · have hq2:∀x y:Bool,((ok&&(dV r||x))||y)=((ok&&x)||y):=by intro x y;revert hq;cases dV r<;>cases ok<;>simp
     rw [hq2]at HE;have HE2:Hid (((65≤(r:Int)∧(r:Int)≤90)→ok=true)):=fun h=>HO.out.resolve_right (by omega)
     rw [hq]at hL;go_enter func225,ntmps225;go_wp2_with fail;go_quiet (fail);have k1:=HR.out _ (aK.below_drewN (Below.refl _ _) nq);have d1:(wr.drewN nq).cell? ⟨b,1,none⟩=some (.slice (some ⟨g,0,none⟩) P.length cap):=c1;have d2:(wr.drewN nq).cell? ⟨b,2,none⟩=some (.int .i64 i):=c2;have d3:(wr.drewN nq).cell? ⟨g,i*4,none⟩=some (.int .i32 r):=c3;have d4:(wr.drewN nq).cell? ⟨g,i*4+1,none⟩=some (.int .i64 q.at_):=c4;have d5:(wr.drewN nq).cell? ⟨g,i*4+2,none⟩=some (.int .i64 q.n):=c5;have d6:(wr.drewN nq).cell? ⟨g,i*4+3,none⟩=some (.bool ok):=c6;have lg' :g<(wr.drewN nq).heap.size:=lg;have lb' :b<(wr.drewN nq).heap.size:=lb;clear c1 c2 c3 c4 c5 c6 lg lb HR;generalize wr.drewN nq=w1 at *;go_wp2_with fail;go_region;have hblk:((w1.alloc (.cells #[.int .i32 r, .int .i64 q.at_, .int .i64 q.n, .bool ok] 300)).drew).heap[w1.heap.size]? =_:=aB w1 _;have k2:RG L w ((w1.alloc (.cells #[.int .i32 r, .int .i64 q.at_, .int .i64 q.n, .bool ok] 300)).drew) b s P i:=(k1.alloc _).drew 1;generalize ((w1.alloc (.cells #[.int .i32 r, .int .i64 q.at_, .int .i64 q.n, .bool ok] 300)).drew)=w2 at *;clear d1 d2 d3 d4 d5 d6 lg' lb' k1;obtain ⟨x0,x1,x2,x3,_,_,_,_⟩:=jr hblk;go_wp2_with (go_at_call 289;refine (hL _).mono ?_;rintro e w3 ⟨rfl,hb3⟩;obtain ⟨y0,y1,y2,y3,_,_,_,_⟩:=jr (bf hblk hb3 (aG hblk));replace k2:=k2.below hb3);all_goals go_ret
     all_goals refine ⟨aR ?_,k2⟩
     all_goals
      have h:=HE.out;try simp only [Bool.false_and,Bool.or_false]at h⊢
      have h2:=HE2.out;rw [h];cases ok<;>(rw [Bool.eq_iff_iff];simp at h2⊢;try omega)
   · have hq2:∀x y:Bool,((ok&&(dV r||x))||y)=true:=by intro x y;revert hq;cases dV r<;>cases ok<;>simp
     rw [hq2]at HE;rw [hq]at hL;go_enter func225,ntmps225;go_wp2_with fail;go_quiet (fail);have k1:=HR.out _ (aK.below_drewN (Below.refl _ _) nq);have d1:(wr.drewN nq).cell? ⟨b,1,none⟩=some (.slice (some ⟨g,0,none⟩) P.length cap):=c1;have d2:(wr.drewN nq).cell? ⟨b,2,none⟩=some (.int .i64 i):=c2;have d3:(wr.drewN nq).cell? ⟨g,i*4,none⟩=some (.int .i32 r):=c3;have d4:(wr.drewN nq).cell? ⟨g,i*4+1,none⟩=some (.int .i64 q.at_):=c4;have d5:(wr.drewN nq).cell? ⟨g,i*4+2,none⟩=some (.int .i64 q.n):=c5;have d6:(wr.drewN nq).cell? ⟨g,i*4+3,none⟩=some (.bool ok):=c6;have lg' :g<(wr.drewN nq).heap.size:=lg;have lb' :b<(wr.drewN nq).heap.size:=lb;clear c1 c2 c3 c4 c5 c6 lg lb HR;generalize wr.drewN nq=w1 at *;go_wp2_with fail;go_region;have hblk:((w1.alloc (.cells #[.int .i32 r, .int .i64 q.at_, .int .i64 q.n, .bool ok] 300)).drew).heap[w1.heap.size]? =_:=aB w1 _;have k2:RG L w ((w1.alloc (.cells #[.int .i32 r, .int .i64 q.at_, .int .i64 q.n, .bool ok] 300)).drew) b s P i:=(k1.alloc _).drew 1;generalize ((w1.alloc (.cells #[.int .i32 r, .int .i64 q.at_, .int .i64 q.n, .bool ok] 300)).drew)=w2 at *;clear d1 d2 d3 d4 d5 d6 lg' lb' k1;obtain ⟨x0,x1,x2,x3,_,_,_,_⟩:=jr hblk;go_wp2_with (go_at_call 289;refine (hL _).mono ?_;rintro e w3 ⟨rfl,hb3⟩;obtain ⟨y0,y1,y2,y3,_,_,_,_⟩:=jr (bf hblk hb3 (aG hblk));replace k2:=k2.below hb3);all_goals go_ret
     all_goals refine ⟨aR ?_,k2⟩
     all_goals
      have h:=HE.out;try simp only [Bool.false_and,Bool.or_false]at h⊢
      rw [h]
 · have HE:Hid ((dn P i||(false&&bT P i))=false):=by show _=_;unfold dn bT;rw [List.getElem?_eq_none (by omega)];simp
   have hd:decide ((P.length:Int)≤(i:Int))=true:=decide_eq_true (by omega);clear h2 c0 h;go_enter func225,ntmps225;go_wp2_with fail;go_quiet (fail);go_wp2_with fail;go_ret;exact ⟨aR (by rw [HE.out]),HR.out _ (aK.below_drewN (Below.refl _ _) _)⟩
theorem RY {L:Nat}{w:World}(wr:World) (b:Nat) (s:ByteArray) (P:List Pt) (i k:Nat) (h:RG L w wr b s P k) (hi:i<P.length) (hik:i≤k) (rO:uq s P) (_hs:s.size≤1000000):
 Calls prog 290 #[.pointer (some ⟨b,0,none⟩), .int .i64 i] wr fun e w' =>e= .returned (.string (s.extract (aL s P i) (aL s P k)))∧RG L w w' b s P k:=by
 obtain ⟨a,cap,c0,c1,c2,_,h2⟩:=h.1.cells;obtain ⟨g,rfl,hc⟩:=h2 (by omega);have c3:wr.cell? ⟨g,i*4+1,none⟩=some (.int .i64 P[i].at_):=hc _ _ (by rw [lG P i 1 hi (by omega)];rfl);have e1:aL s P i=P[i].at_:=by unfold aL;rw [List.getElem?_eq_getElem hi]
 have HR:=Lib.hid (fun (w' :World) (hb:Below wr.heap.size wr w')=>h.below hb);have hm:=rO.2.1 i k hik;have hl:=rO.2.2 k;have h4:(0:Int)≤(i:Int):=by omega
 have h5:(i:Int)<(P.length:Int):=by omega
 by_cases hlt:k<P.length
 · have c4:wr.cell? ⟨g,k*4+1,none⟩=some (.int .i64 P[k].at_):=hc _ _ (by rw [lG P k 1 hlt (by omega)];rfl);have e2:aL s P k=P[k].at_:=by unfold aL;rw [List.getElem?_eq_getElem hlt]
   have h3:(k:Int)<(P.length:Int):=by omega
   have h6:(0:Int)≤(k:Int):=by omega
   have hd:decide ((k:Int)<(P.length:Int))=true:=decide_eq_true (by omega);clear h2 hc h rO;rw [e1,e2]at hm⊢;rw [e2]at hl;clear e1 e2;generalize P[i]=p at *;generalize P[k]=q at *;obtain ⟨x,hx⟩:∃x,p.at_=x:=⟨_,rfl⟩;obtain ⟨y,hy⟩:∃y,q.at_=y:=⟨_,rfl⟩;rw [hx]at hm c3⊢;rw [hy]at hm hl c4⊢;clear hx hy;have h7:(x:Int)≤(y:Int):=by omega
   have h8:(y:Int)≤(s.size:Int):=by omega
   have h9:(0:Int)≤(x:Int):=by omega
   go_enter func290,ntmps290;go_wp2_with fail;go_quiet (fail);go_wp2_with fail;go_quiet (fail);go_wp2_with fail;go_quiet (fail);go_wp2_with fail;go_ret;exact ⟨rfl,HR.out _ (aK.below_drewN (aK.below_drewN (aK.below_drewN (Below.refl _ _) _) _) _)⟩
 · have e2:aL s P k=s.size:=by unfold aL;rw [List.getElem?_eq_none (by omega)]
   have hd:decide ((k:Int)<(P.length:Int))=false:=decide_eq_false (by omega);clear h2 hc h rO;rw [e1,e2]at hm⊢;clear e1 e2;generalize P[i]=p at *;obtain ⟨x,hx⟩:∃x,p.at_=x:=⟨_,rfl⟩;rw [hx]at hm c3⊢;clear hx;have h7:(x:Int)≤(s.size:Int):=by omega
   have h9:(0:Int)≤(x:Int):=by omega
   go_enter func290,ntmps290;go_wp2_with fail;go_quiet (fail);go_wp2_with fail;go_quiet (fail);go_wp2_with fail;go_ret;exact ⟨rfl,HR.out _ (aK.below_drewN (aK.below_drewN (Below.refl _ _) _) _)⟩
def RB (L:Nat) (w wr:World) (b:Nat) (s:ByteArray) (P:List Pt) (k:Nat):Prop:=RG L w wr b s P k∧L≤w.heap.size∧wr.heap[w.heap.size]? =some (.cells #[.int .i64 0, .string ⟨#[]⟩, .int .i64 0, .int .i64 0] 236 (0,0))
def RTP (L:Nat) (w:World) (b:Nat) (s:ByteArray) (P:List Pt) (x:Tk×Bool×Nat) (e:Ending) (w' :World):Prop:=
 e= .returned (.tuple #[SY x.1, .bool x.2.1])∧RG L w w' b s P x.2.2
section
variable {L:Nat}{w wr wi:World}{b:Nat}{s:ByteArray}{P:List Pt}{k:Nat}
theorem RG.start (h:SR L w b s P k):RG L w w b s P k:=⟨h,sI _ _⟩
theorem RB.start (h:SR L w b s P k):RB L w (w.alloc (.cells #[.int .i64 0, .string ⟨#[]⟩, .int .i64 0, .int .i64 0] 236)) b s P k:=⟨(RG.start h).alloc _,h.le,aB _ _⟩
theorem RB.drew (h:RB L w wr b s P k) (m:Nat):RB L w (wr.drewN m) b s P k:=⟨h.1.drew m,h.2.1,h.2.2⟩
theorem RB.set (h:RB L w wr b s P k) (j:Nat) (v:Int) (hv:v=j):RB L w (wr.setCell ⟨b,2,none⟩ (.int .i64 v)) b s P j:=⟨h.1.set j v hv,h.2.1,bg h.2.2 _ _ (by have:=h.1.1.2.1;have:=h.2.1;show _≠b;omega)⟩
theorem RB.below (h:RB L w wr b s P k) (hb:Below wr.heap.size wr wi):RB L w wi b s P k:=⟨h.1.below hb,h.2.1,bf h.2.2 hb (aG h.2.2)⟩
theorem RB.scan (h:RB L w wr b s P k):l7 wr b=k:=h.1.scan
theorem RB.fin (h:RB L w wr b s P k) (v0 v1 v2 v3:Value) (W:World)
 (hW:W=(((wr.setCell ⟨w.heap.size,0,none⟩ v0).setCell ⟨w.heap.size,1,none⟩ v1).setCell ⟨w.heap.size,2,none⟩ v2).setCell ⟨w.heap.size,3,none⟩ v3):
 W.cell? ⟨w.heap.size,0,none⟩=some v0∧W.cell? ⟨w.heap.size,1,none⟩=some v1∧W.cell? ⟨w.heap.size,2,none⟩=some v2∧W.cell? ⟨w.heap.size,3,none⟩=some v3∧RG L w W b s P k:=by
 subst hW;obtain ⟨⟨h1,h5⟩,hL,h3⟩:=h;have hp:=MO h3 v0 v1 v2 v3;refine ⟨by rw [aj hp];rfl,by rw [aj hp];rfl,by rw [aj hp];rfl,by rw [aj hp];rfl,(((h1.setOther hL _ _).setOther hL _ _).setOther hL _ _).setOther hL _ _, ?_⟩;have h6:=yV wr w.heap.size v0 v1 v2 v3
 exact ⟨h6.os.trans h5.os,h6.tape.trans h5.tape,h6.output.trans h5.output,Nat.le_trans h5.size h6.size,fun q hq hr=>by
  have:=h5.size;rw [h6.block q (by omega) (fun e=>by cases e;omega)];exact h5.block q hq hr⟩
end
theorem V6 (P:List Pt) (k:Nat):dL P k=(jl P k==32||jl P k==9||jl P k==10||jl P k==13):=by
 unfold dL;rw [wS P k 32 (by decide),wS P k 9 (by decide),wS P k 10 (by decide),wS P k 13 (by decide)]
theorem NG {L:Nat}{w:World}(w0:World) (b:Nat) (s:ByteArray) (P:List Pt) (i:Nat) (h:RG L w w0 b s P i) (hi:i≤P.length) (hP:P.length≤100000):
 Calls prog 151 #[.pointer (some ⟨b,0,none⟩)] w0 fun e w' =>e= .returned (.tuple #[])∧RG L w w' b s P (skip P i):=by
 have H:=Lib.hid h;clear h;go_enter func151,ntmps151;go_wp2_with fail
 go_loopw [] (fun wr=>∃k,RG L w wr b s P k∧Hid (skip P i=skip P k)∧k≤P.length) (fun wr=>P.length - l7 wr b)
 case atStart=>exact ⟨i,H.out,rfl,hi⟩
 case round=>
  obtain ⟨k,hS,HE,hk⟩:=hrel;have HK:=Lib.hid hS.scan;obtain ⟨a,cap,c0,c1,c2,f2,_⟩:=hS.1.cells;by_cases hlt:k<P.length
  · have HL:=Lib.hid hlt;have hd:decide ((k:Int)<(P.length:Int))=true:=decide_eq_true (by omega);go_wp2_with fail;go_quiet (fail);replace hS:=hS.drew nq;obtain ⟨a,cap,c0,c1,c2,f2,_⟩:=hS.1.cells;generalize wr.drewN nq=w1 at *;clear hd;go_wp2_with fail;refine (ady _ b s P k 0 hS (by omega) (by omega) (by omega) _ rfl).mono ?_;rintro e w2 ⟨rfl,hS⟩;obtain ⟨a,cap,c0,c1,c2,f2,_⟩:=hS.1.cells;rw [Nat.add_zero];have HB:=Lib.hid (V6 P k);have HD:=Lib.hid (show iK P k=(fE P k 45&&fE P (k+1) 45)from rfl);have Aa:=Lib.hid (wS P k 45 (by decide));obtain ⟨r,hr⟩:∃r,jl P k=r:=⟨_,rfl⟩;rw [hr]at HB Aa⊢;clear hr;cases q:(r==32||r==9||r==10||r==13)
    case true=>
     have HX:Hid (skip P i=skip P (k+1)):=by show _=_;rw [HE.out];exact gu HL.out (by rw [HB.out,q])
     go_wp2_with fail
     all_goals
      go_roundw
      case rel=>exact ⟨k+1,hS.set (k+1) _ (by omega),HX,by omega⟩
      case measure=>rw [HK.out,(hS.set (k+1) _ (by omega)).scan];omega
    case false=>
     simp only [Bool.or_eq_false_iff]at q;obtain ⟨⟨⟨q1,q2⟩,q3⟩,q4⟩:=q;have HB2:Hid (dL P k=false):=by show _=_;rw [HB.out,q1,q2,q3,q4];rfl
     cases q5:(r==45)
     case false=>
      have HX:Hid (skip P i=k):=by show _=_;rw [HE.out];exact gK HB2.out (by rw [HD.out,Aa.out,show (r==45)=false from q5];rfl)
      clear HB HB2 HD Aa;go_wp2_with fail
      ((try simp only [Exit.inBlock,Exit.then]);refine bodyPost_ret (results_none rfl _ _ _) rfl ?_)
      exact ⟨rfl,by rw [HX.out];exact hS⟩
     case true=>
      have H1:=Lib.hid (wS P (k+1) 45 (by decide));have hc:=fun wx hx=>ady (L:=L) (w:=w) wx b s P k 1 hx (by omega) (by omega) (by omega) _ rfl
      obtain ⟨r1,hr1⟩:∃r1,jl P (k+1)=r1:=⟨_,rfl⟩;rw [hr1]at H1 hc;clear hr1;cases q6:(r1==45)
      case false=>
       have HX:Hid (skip P i=k):=by show _=_;rw [HE.out];exact gK HB2.out (by rw [HD.out,H1.out,show (r1==45)=false from q6,Bool.and_false])
       clear HB HB2 HD Aa H1;go_wp2_with (go_at_call 224;refine (hc _ hS).mono ?_;rintro e w3 ⟨rfl,hS⟩)
       ((try simp only [Exit.inBlock,Exit.then]);refine bodyPost_ret (results_none rfl _ _ _) rfl ?_)
       exact ⟨rfl,by rw [HX.out];exact hS⟩
      case true=>
       have HDD:Hid (iK P k=true):=by show _=_;rw [HD.out,Aa.out,H1.out,show (r1==45)=true from q6,show (r==45)=true from q5];rfl
       have HX:Hid (skip P i=skip P (lineEnd P k)):=by show _=_;rw [HE.out];exact mg HL.out HB2.out HDD.out
       have Zm:Hid (k<lineEnd P k∧lineEnd P k≤P.length):=iX HDD.out;clear HB HB2 HD Aa H1 HDD;go_wp2_with (go_at_call 224;refine (hc _ hS).mono ?_;rintro e w3 ⟨rfl,hS⟩)
       go_loopw [] (fun wr=>∃j,RG L w wr b s P j∧Hid (lineEnd P k=dF (fun j=> !fE P j 10) P.length j)∧j≤P.length) (fun wr=>P.length - l7 wr b)
       case atStart=>exact ⟨k,hS,rfl,by omega⟩
       case round=>
        clear c0 c1 c2 f2 hS;obtain ⟨j,hS,HJ,hj⟩:=hrel;have HKJ:=Lib.hid hS.scan;obtain ⟨a,cap,c0,c1,c2,f2,_⟩:=hS.1.cells;by_cases hjl:j<P.length
        · have HJL:=Lib.hid hjl;have hd:decide ((j:Int)<(P.length:Int))=true:=decide_eq_true (by omega);have H10:=Lib.hid (wS P j 10 (by decide));have hq:=Lib.hid (fun n=>ND (L:=L) (w:=w) (wr.drewN n) b s P j 0 (hS.drew n) (by omega) (by omega) (by omega));rw [Nat.add_zero]at hq;obtain ⟨r2,hr2⟩:∃r2,jl P j=r2:=⟨_,rfl⟩;rw [hr2]at H10 hq;clear hr2;cases q7:(r2 !=10)
          case true=>
           have HN:Hid (lineEnd P k=dF (fun j=> !fE P j 10) P.length (j+1)):=by
            show _=_;rw [HJ.out];refine fF HJL.out ?_;show (!fE P j 10)=true;rw [show fE P j 10=(r2==10)from H10.out];exact q7
           go_wp2_with fail;go_quiet ((go_at_call 224;exact Calls.quiet_of (hq.out _)));replace hS:=hS.drew nq;obtain ⟨a,cap,c0,c1,c2,f2,_⟩:=hS.1.cells;generalize wr.drewN nq=w4 at *;go_wp2_with fail;go_roundw
           case rel=>exact ⟨j+1,hS.set (j+1) _ (by omega),HN,by omega⟩
           case measure=>rw [HKJ.out,(hS.set (j+1) _ (by omega)).scan];omega
          case false=>
           have HN:Hid (lineEnd P k=j):=by
            show _=_;rw [HJ.out];refine eu ?_;show (!fE P j 10)=false;rw [show fE P j 10=(r2==10)from H10.out];exact q7
           go_wp2_with fail;go_quiet ((go_at_call 224;exact Calls.quiet_of (hq.out _)));replace hS:=hS.drew nq;generalize wr.drewN nq=w4 at *;go_wp2_with fail;go_roundw
           case rel=>exact ⟨j,hS,by rw [←HN.out];exact HX,by omega⟩
           case measure=>rw [HK.out,hS.scan];have:=Zm.out;have:=HN.out;omega
        · have hd:decide ((j:Int)<(P.length:Int))=false:=decide_eq_false (by omega);have HN:Hid (lineEnd P k=j):=by show _=_;rw [HJ.out];exact oz (by omega)
          go_wp2_with fail;go_quiet (fail);replace hS:=hS.drew nq;generalize wr.drewN nq=w4 at *;go_wp2_with fail;go_roundw
          case rel=>exact ⟨j,hS,by rw [←HN.out];exact HX,by omega⟩
          case measure=>rw [HK.out,hS.scan];have:=Zm.out;have:=HN.out;omega
  · have hd:decide ((k:Int)<(P.length:Int))=false:=decide_eq_false (by omega);have HX:Hid (skip P i=k):=by show _=_;rw [HE.out];exact um (by omega)
    go_wp2_with fail;go_quiet (fail);replace hS:=hS.drew nq;generalize wr.drewN nq=w4 at *;go_wp2_with fail
    go_end0
    exact ⟨rfl,by rw [HX.out];exact hS⟩
theorem RZ {L:Nat}{w:World}(wr:World) (b:Nat) (s:ByteArray) (P:List Pt) (i:Nat) (h:RB L w wr b s P i) (hi:i≤1000000) (hP:P.length≤1000000):
 Calls prog 224 #[.pointer (some ⟨b,0,none⟩), .int .i64 (0:Nat)] wr fun e w' =>e= .returned (.int .i32 (jl P i))∧RB L w w' b s P i:=
 (ND wr b s P i 0 h.1 hi (by omega) hP).mono fun e w' ⟨he,m,hm⟩=>⟨by rw [he,Nat.add_zero],by rw [hm];exact h.drew m⟩
theorem pI {L:Nat}{w wr w' :World}{b:Nat}{s:ByteArray}{P:List Pt}{i j:Nat}(h:RB L w wr b s P i) (hk:RG L wr w' b s P j):RB L w w' b s P j:=by
 have hb:w'.heap[w.heap.size]? =wr.heap[w.heap.size]? :=hk.2.block _ (aG h.2.2) (by have:=h.1.1.2.1;have:=h.2.1;intro e;cases e;omega);exact ⟨⟨hk.1,aJ h.1.2 hk.2⟩,h.2.1,by rw [hb];exact h.2.2⟩
theorem Cx {L:Nat}{w:World}(wr:World) (b:Nat) (s:ByteArray) (P:List Pt) (i:Nat) (h:RB L w wr b s P i):
 Calls prog 225 #[.pointer (some ⟨b,0,none⟩), .bool false] wr fun e w' =>e= .returned (.bool (dn P i))∧RB L w w' b s P i:=
 (RX wr b s P i (RG.start h.1.1)).mono fun e w' ⟨he,hk⟩=>⟨by rw [he];simp,pI h hk⟩
theorem YP {L:Nat}{w:World}(wr:World) (b:Nat) (s:ByteArray) (P:List Pt) (i:Nat) (h:RB L w wr b s P i):
 Calls prog 225 #[.pointer (some ⟨b,0,none⟩), .bool true] wr fun e w' =>e= .returned (.bool (dn P i||bT P i))∧RB L w w' b s P i:=
 (RV wr b s P i (RG.start h.1.1)).mono fun e w' ⟨he,hk⟩=>⟨by rw [he];simp,pI h hk⟩
theorem YQ {L:Nat}{w:World}(wr:World) (b:Nat) (s:ByteArray) (P:List Pt) (i k:Nat) (h:RB L w wr b s P k) (hi:i<P.length) (hik:i≤k) (rO:uq s P) (hs:s.size≤1000000):
 Calls prog 290 #[.pointer (some ⟨b,0,none⟩), .int .i64 i] wr fun e w' =>e= .returned (.string (s.extract (aL s P i) (aL s P k)))∧RB L w w' b s P k:=
 (RY wr b s P i k (RG.start h.1.1) hi hik rO hs).mono fun _e _w' ⟨he,hk⟩=>⟨he,pI h hk⟩
theorem xU (P:List Pt) (i:Nat) (v:Bool) (hv:bT P i=v) (w:World):
 Calls prog 227 #[.int .i32 (jl P i)] w fun e w' =>e= .returned (.bool v)∧w' =w:=by
 rw [←hv,EI];exact V5 _ w
theorem RB.cells {L:Nat}{w wr:World}{b:Nat}{s:ByteArray}{P:List Pt}{i:Nat}(h:RB L w wr b s P i):
 wr.cell? ⟨b,2,none⟩=some (.int .i64 i)∧wr.frozen? ⟨b,2,none⟩=false∧
 wr.cell? ⟨w.heap.size,0,none⟩=some (.int .i64 0)∧wr.cell? ⟨w.heap.size,1,none⟩=some (.string ⟨#[]⟩)∧wr.cell? ⟨w.heap.size,2,none⟩=some (.int .i64 0)∧wr.cell? ⟨w.heap.size,3,none⟩=some (.int .i64 0)∧
 wr.frozen? ⟨w.heap.size,0,none⟩=false∧wr.frozen? ⟨w.heap.size,1,none⟩=false∧wr.frozen? ⟨w.heap.size,2,none⟩=false∧wr.frozen? ⟨w.heap.size,3,none⟩=false:=by
 obtain ⟨_,_,_,_,c2,f2,_⟩:=h.1.1.cells;obtain ⟨t0,t1,t2,t3,u0,u1,u2,u3⟩:=jr h.2.2;exact ⟨c2,f2,t0,t1,t2,t3,u0,u1,u2,u3⟩
theorem R3 {L:Nat}(w:World) (b:Nat) (s:ByteArray) (P:List Pt) (i:Nat) (h:SR L w b s P i) (hs:s.size≤100000) (rO:uq s P) (hi:i<P.length) (hl:dn P i=true):
 Calls prog 226 #[.pointer (some ⟨b,0,none⟩)] w (RTP L w b s P (jD s P i)):=by
 have H0:=Lib.hid (RB.start h);have xD:=Lib.hid rO;have hPl:=rO.1;have HLi:=Lib.hid hl;have lb:=h.lt;obtain ⟨_,_,_,_,c2,f2,_⟩:=h.cells;clear h rO hl;go_enter func226,ntmps226;go_wp2_with fail;clear c2 f2 lb
 go_loopw [] (fun wr=>∃k,RB L w wr b s P k∧Hid (dW P i=dF (fun k=>dn P k||bT P k) P.length k)∧i≤k∧k≤P.length) (fun wr=>P.length - l7 wr b)
 case atStart=>exact ⟨i,H0.out,rfl,Nat.le_refl _,by omega⟩
 case round=>
  obtain ⟨k,hS,HE,hik,hk⟩:=hrel;have HK:=Lib.hid hS.scan;obtain ⟨c2,f2,t0,t1,t2,t3,u0,u1,u2,u3⟩:=hS.cells;by_cases hki:k=i
  · subst hki;have hc:=Cx _ b s P k hS;rw [HLi.out]at hc;have HX:Hid (dW P k=dF (fun k=>dn P k||bT P k) P.length (k+1)):=by show _=_;rw [HE.out];exact fF hi (by rw [HLi.out];rfl)
    go_wp2_with (go_at_call 225;refine hc.mono ?_;rintro e w3 ⟨rfl,hS⟩;obtain ⟨c2,f2,t0,t1,t2,t3,u0,u1,u2,u3⟩:=hS.cells);go_roundw
    case rel=>exact ⟨k+1,hS.set (k+1) _ (by omega),HX,by omega,by omega⟩
    case measure=>rw [HK.out,(hS.set (k+1) _ (by omega)).scan];omega
  · have hd:decide (i<k)=true:=decide_eq_true (by omega);have hc:=YP _ b s P k hS;cases hq:(dn P k||bT P k)
    case true=>
     rw [hq]at hc;have hlt:k<P.length:=by rw [Bool.or_eq_true]at hq;rcases hq with hq|hq;exact yw hq;exact rP hq
     have HX:Hid (dW P i=dF (fun k=>dn P k||bT P k) P.length (k+1)):=by show _=_;rw [HE.out];exact fF hlt hq
     clear hq;go_wp2_with (go_at_call 225;refine hc.mono ?_;rintro e w3 ⟨rfl,hS⟩;obtain ⟨c2,f2,t0,t1,t2,t3,u0,u1,u2,u3⟩:=hS.cells);go_roundw
     case rel=>exact ⟨k+1,hS.set (k+1) _ (by omega),HX,by omega,by omega⟩
     case measure=>rw [HK.out,(hS.set (k+1) _ (by omega)).scan];omega
    case false=>
     rw [hq]at hc;have HF:Hid (dW P i=k):=by show _=_;rw [HE.out];exact eu hq
     clear hq;have HT:Hid (lD s P i=s.extract (aL s P i) (aL s P k)):=by show _=_;unfold lD;rw [HF.out]
     have hfr:=fun wx hx=>YQ (L:=L) (w:=w) wx b s P i k hx hi hik xD.out (by omega)
     obtain ⟨X,hX⟩:∃X,s.extract (aL s P i) (aL s P k)=X:=⟨_,rfl⟩;have hXs:X.size≤100000:=by rw [←hX,ByteArray.size_extract];have:=xD.out.2.2 k;omega
     rw [hX]at hfr HT;have hfo:=fun wx=>QG X wx (by omega)
     clear hX
     go_wp2_with (first
      |(go_at_call 225;refine hc.mono ?_;rintro e w3 ⟨rfl,hS⟩;obtain ⟨c2,f2,t0,t1,t2,t3,u0,u1,u2,u3⟩:=hS.cells)
      |(go_at_call 290;refine (hfr _ hS).mono ?_;rintro e w4 ⟨rfl,hS⟩;obtain ⟨c2,f2,t0,t1,t2,t3,u0,u1,u2,u3⟩:=hS.cells)
      |(go_at_call 291;refine (hfo _).mono ?_;rintro e w4 ⟨rfl,hb⟩;replace hS:=hS.below hb;clear hb;obtain ⟨c2,f2,t0,t1,t2,t3,u0,u1,u2,u3⟩:=hS.cells))
     obtain ⟨r0,r1,r2,r3,hR⟩:=hS.fin (.int .i64 1) (.string (fold X)) (.int .i64 0) (.int .i64 i) _ rfl;refine bodyPost_ret (v:= .tuple #[.agg #[.int .i64 1, .string (fold X), .int .i64 0, .int .i64 i], .bool (decide ((X.size:Int)≤100))]) (by simp [results,results226,go_sem,r0,r1,r2,r3]) rfl ?_;refine ⟨?_, ?_⟩
     · unfold jD SY;rw [HT.out];show _=Ending.returned (.tuple #[_, .bool (decide (X.size≤100))]);rw [show decide (X.size≤100)=decide ((X.size:Int)≤100)from decide_eq_decide.2 (by omega)]
     · show RG L w _ b s P (dW P i);rw [HF.out];exact hR
theorem BQ {L:Nat}(w:World) (b:Nat) (s:ByteArray) (P:List Pt) (i:Nat) (h:SR L w b s P i) (hs:s.size≤100000) (rO:uq s P) (hi:i<P.length):
 Calls prog 228 #[.pointer (some ⟨b,0,none⟩)] w (RTP L w b s P (bR P i)):=by
 have hS:=RB.start h;have hPl:=rO.1;have lb:=h.lt;obtain ⟨_,_,_,_,c2,f2,_⟩:=h.cells;clear h rO;go_enter func228,ntmps228;go_wp2_with fail;refine (RZ _ b s P i hS (by omega) (by omega)).mono ?_;rintro e w1 ⟨rfl,hS⟩;clear c2 f2 lb;obtain ⟨c2,f2,t0,t1,t2,t3,u0,u1,u2,u3⟩:=hS.cells;have HI:=Lib.hid (wS P i 45 (by decide));obtain ⟨r0,hr0⟩:∃r0,jl P i=r0:=⟨_,rfl⟩;rw [hr0]at HI⊢;clear hr0;cases q:(r0==45)
 case true=>
  have HNS:Hid (bJ P i=i+1):=by show _=_;unfold bJ;rw [HI.out,show (r0==45)=true from q];rfl
  have Aa:Hid (fE P i 45=true):=by show _=_;rw [HI.out];exact q
  clear HI;obtain ⟨d0,hd0⟩:∃d0,bT P (i+1)=d0:=⟨_,rfl⟩;have hdg:=xU P (i+1) d0 hd0
  go_wp2_with (first
   |(go_at_call 224;refine (RZ _ b s P (i+1) (hS.set (i+1) _ (by omega)) (by omega) (by omega)).mono ?_;rintro e w4 ⟨rfl,hS⟩;obtain ⟨c2,f2,t0,t1,t2,t3,u0,u1,u2,u3⟩:=hS.cells)
   |(go_at_call 227;refine (hdg _).mono ?_;rintro e w5 ⟨rfl,rfl⟩))
  go_loopw [6,7] (fun a o wr=>∃(k:Nat) (v:Int) (ok:Bool),RB L w wr b s P k∧a= .int .i64 v∧o= .bool ok∧Hid (fV P i=num P k v ok)∧k≤P.length∧0≤v∧v≤1099511627776) (fun _ _ wr=>P.length - l7 wr b)
  case atStart=>exact ⟨i+1,0,d0,hS,rfl,rfl,by (show _=_;unfold fV;rw [HNS.out,hd0]),by omega,by omega,by omega⟩
  case round=>
   clear hdg hd0 hS c2 f2 t0 t1 t2 t3 u0 u1 u2 u3;obtain ⟨k,v,ok,hS,rfl,rfl,HV,hk,hv0,hv1⟩:=hrel;have HK:=Lib.hid hS.scan;obtain ⟨c2,f2,t0,t1,t2,t3,u0,u1,u2,u3⟩:=hS.cells;have hcr:=fun wx hx=>RZ (L:=L) (w:=w) wx b s P k hx (by omega) (by omega)
   cases hD:bT P k
   case true=>
    have hlt:=rP hD;have HX:Hid (fV P i=num P (k+1) (min (v*10+(jl P k - 48)) 1099511627776) (ok&&decide (v*10+(jl P k - 48)≤1099511627776))):=by show _=_;rw [HV.out];exact oI hD
    have hdg:=xU P k true hD;have hr1:=EI P k;rw [hD]at hr1;obtain ⟨r,hr⟩:∃r,jl P k=r:=⟨_,rfl⟩;rw [hr]at hdg HX hcr hr1;replace hr1:48≤r∧r≤57:=by simpa using hr1.symm
    obtain ⟨hr1,hr2⟩:=hr1;clear hr hD;have hm:(10:Int)*v=v*10:=Int.mul_comm _ _;cases ok
    all_goals
     go_wp2_with (first
      |(go_at_call 224;refine (hcr _ hS).mono ?_;rintro e w4 ⟨rfl,hS⟩;obtain ⟨c2,f2,t0,t1,t2,t3,u0,u1,u2,u3⟩:=hS.cells)
      |(go_at_call 227;refine (hdg _).mono ?_;rintro e w5 ⟨rfl,rfl⟩))
     go_roundw
     case rel=>exact ⟨k+1,_,_,hS.set (k+1) _ (by omega),rfl,rfl,by simpa using HX,by omega,by omega,by omega⟩
     case measure=>rw [HK.out,(hS.set (k+1) _ (by omega)).scan];omega
   case false=>
    have HX:Hid (fV P i=(v,ok,k)):=by show _=_;rw [HV.out];exact jI hD
    have hdg:=xU P k false hD;have hcl:=fun wx hx=>Cx (L:=L) (w:=w) wx b s P k hx
    cases ok
    · clear hcl
      go_wp2_with (first
       |(go_at_call 224;refine (hcr _ hS).mono ?_;rintro e w4 ⟨rfl,hS⟩;obtain ⟨c2,f2,t0,t1,t2,t3,u0,u1,u2,u3⟩:=hS.cells)
       |(go_at_call 227;refine (hdg _).mono ?_;rintro e w5 ⟨rfl,rfl⟩))
      obtain ⟨r0,r1,r2,r3,hR⟩:=hS.fin (.int .i64 2) (.string ⟨#[]⟩) (.int .i64 (-v)) (.int .i64 i) _ rfl;refine bodyPost_ret (v:= .tuple #[.agg #[.int .i64 2, .string ⟨#[]⟩, .int .i64 (-v), .int .i64 i], .bool false]) (by simp [results,results228,go_sem,r0,r1,r2,r3]) rfl ?_;refine ⟨?_, ?_⟩
      · unfold bR SY;rw [Aa.out,HX.out];rfl
      · show RG L w _ b s P (fV P i).2.2;rw [HX.out];exact hR
    · skip
      go_wp2_with (first
       |(go_at_call 224;refine (hcr _ hS).mono ?_;rintro e w4 ⟨rfl,hS⟩;obtain ⟨c2,f2,t0,t1,t2,t3,u0,u1,u2,u3⟩:=hS.cells)
       |(go_at_call 227;refine (hdg _).mono ?_;rintro e w5 ⟨rfl,rfl⟩)
       |(go_at_call 225;refine (hcl _ hS).mono ?_;rintro e w6 ⟨rfl,hS⟩;obtain ⟨c2,f2,t0,t1,t2,t3,u0,u1,u2,u3⟩:=hS.cells))
      obtain ⟨r0,r1,r2,r3,hR⟩:=hS.fin (.int .i64 2) (.string ⟨#[]⟩) (.int .i64 (-v)) (.int .i64 i) _ rfl;refine bodyPost_ret (v:= .tuple #[.agg #[.int .i64 2, .string ⟨#[]⟩, .int .i64 (-v), .int .i64 i], .bool (!dn P k)]) (by simp [results,results228,go_sem,r0,r1,r2,r3]) rfl ?_;refine ⟨?_, ?_⟩
      · unfold bR SY;rw [Aa.out,HX.out];rfl
      · show RG L w _ b s P (fV P i).2.2;rw [HX.out];exact hR
 case false=>
  have HNS:Hid (bJ P i=i):=by show _=_;unfold bJ;rw [HI.out,show (r0==45)=false from q];rfl
  have Aa:Hid (fE P i 45=false):=by show _=_;rw [HI.out];exact q
  clear HI;obtain ⟨d0,hd0⟩:∃d0,bT P (i)=d0:=⟨_,rfl⟩;have hdg:=xU P (i) d0 hd0
  go_wp2_with (first
   |(go_at_call 224;refine (RZ _ b s P (i) (hS) (by omega) (by omega)).mono ?_;rintro e w4 ⟨rfl,hS⟩;obtain ⟨c2,f2,t0,t1,t2,t3,u0,u1,u2,u3⟩:=hS.cells)
   |(go_at_call 227;refine (hdg _).mono ?_;rintro e w5 ⟨rfl,rfl⟩))
  go_loopw [6,7] (fun a o wr=>∃(k:Nat) (v:Int) (ok:Bool),RB L w wr b s P k∧a= .int .i64 v∧o= .bool ok∧Hid (fV P i=num P k v ok)∧k≤P.length∧0≤v∧v≤1099511627776) (fun _ _ wr=>P.length - l7 wr b)
  case atStart=>exact ⟨i,0,d0,hS,rfl,rfl,by (show _=_;unfold fV;rw [HNS.out,hd0]),by omega,by omega,by omega⟩
  case round=>
   clear hdg hd0 hS c2 f2 t0 t1 t2 t3 u0 u1 u2 u3;obtain ⟨k,v,ok,hS,rfl,rfl,HV,hk,hv0,hv1⟩:=hrel;have HK:=Lib.hid hS.scan;obtain ⟨c2,f2,t0,t1,t2,t3,u0,u1,u2,u3⟩:=hS.cells;have hcr:=fun wx hx=>RZ (L:=L) (w:=w) wx b s P k hx (by omega) (by omega)
   cases hD:bT P k
   case true=>
    have hlt:=rP hD;have HX:Hid (fV P i=num P (k+1) (min (v*10+(jl P k - 48)) 1099511627776) (ok&&decide (v*10+(jl P k - 48)≤1099511627776))):=by show _=_;rw [HV.out];exact oI hD
    have hdg:=xU P k true hD;have hr1:=EI P k;rw [hD]at hr1;obtain ⟨r,hr⟩:∃r,jl P k=r:=⟨_,rfl⟩;rw [hr]at hdg HX hcr hr1;replace hr1:48≤r∧r≤57:=by simpa using hr1.symm
    obtain ⟨hr1,hr2⟩:=hr1;clear hr hD;have hm:(10:Int)*v=v*10:=Int.mul_comm _ _;cases ok
    all_goals
     go_wp2_with (first
      |(go_at_call 224;refine (hcr _ hS).mono ?_;rintro e w4 ⟨rfl,hS⟩;obtain ⟨c2,f2,t0,t1,t2,t3,u0,u1,u2,u3⟩:=hS.cells)
      |(go_at_call 227;refine (hdg _).mono ?_;rintro e w5 ⟨rfl,rfl⟩))
     go_roundw
     case rel=>exact ⟨k+1,_,_,hS.set (k+1) _ (by omega),rfl,rfl,by simpa using HX,by omega,by omega,by omega⟩
     case measure=>rw [HK.out,(hS.set (k+1) _ (by omega)).scan];omega
   case false=>
    have HX:Hid (fV P i=(v,ok,k)):=by show _=_;rw [HV.out];exact jI hD
    have hdg:=xU P k false hD;have hcl:=fun wx hx=>Cx (L:=L) (w:=w) wx b s P k hx
    cases ok
    · clear hcl
      go_wp2_with (first
       |(go_at_call 224;refine (hcr _ hS).mono ?_;rintro e w4 ⟨rfl,hS⟩;obtain ⟨c2,f2,t0,t1,t2,t3,u0,u1,u2,u3⟩:=hS.cells)
       |(go_at_call 227;refine (hdg _).mono ?_;rintro e w5 ⟨rfl,rfl⟩))
      obtain ⟨r0,r1,r2,r3,hR⟩:=hS.fin (.int .i64 2) (.string ⟨#[]⟩) (.int .i64 v) (.int .i64 i) _ rfl;refine bodyPost_ret (v:= .tuple #[.agg #[.int .i64 2, .string ⟨#[]⟩, .int .i64 v, .int .i64 i], .bool false]) (by simp [results,results228,go_sem,r0,r1,r2,r3]) rfl ?_;refine ⟨?_, ?_⟩
      · unfold bR SY;rw [Aa.out,HX.out];rfl
      · show RG L w _ b s P (fV P i).2.2;rw [HX.out];exact hR
    · skip
      go_wp2_with (first
       |(go_at_call 224;refine (hcr _ hS).mono ?_;rintro e w4 ⟨rfl,hS⟩;obtain ⟨c2,f2,t0,t1,t2,t3,u0,u1,u2,u3⟩:=hS.cells)
       |(go_at_call 227;refine (hdg _).mono ?_;rintro e w5 ⟨rfl,rfl⟩)
       |(go_at_call 225;refine (hcl _ hS).mono ?_;rintro e w6 ⟨rfl,hS⟩;obtain ⟨c2,f2,t0,t1,t2,t3,u0,u1,u2,u3⟩:=hS.cells))
      obtain ⟨r0,r1,r2,r3,hR⟩:=hS.fin (.int .i64 2) (.string ⟨#[]⟩) (.int .i64 v) (.int .i64 i) _ rfl;refine bodyPost_ret (v:= .tuple #[.agg #[.int .i64 2, .string ⟨#[]⟩, .int .i64 v, .int .i64 i], .bool (!dn P k)]) (by simp [results,results228,go_sem,r0,r1,r2,r3]) rfl ?_;refine ⟨?_, ?_⟩
      · unfold bR SY;rw [Aa.out,HX.out];rfl
      · show RG L w _ b s P (fV P i).2.2;rw [HX.out];exact hR
end Go.Proofs.YtnngbhpeeakfaaaGreatDoor
