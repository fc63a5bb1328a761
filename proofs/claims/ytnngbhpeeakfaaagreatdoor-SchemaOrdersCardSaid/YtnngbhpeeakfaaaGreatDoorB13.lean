/- Parts of a proof. -/
import Derived.Lib.LaidTab
import Derived.Lib.ItoaNum
import Derived.Test.YtnngbhpeeakfaaaGreatDoorB01
import Derived.Test.YtnngbhpeeakfaaaGreatDoorB07
import Derived.Test.YtnngbhpeeakfaaaGreatDoorB08
import Derived.Test.YtnngbhpeeakfaaaGreatDoorB10
import Derived.Test.YtnngbhpeeakfaaaGreatDoorB12
set_option maxHeartbeats 2000000
set_option maxRecDepth 100000
namespace Go.Proofs.YtnngbhpeeakfaaaGreatDoor
open Go.Proofs.Tryz
open Go.RowKit
open aK
theorem iP:∀(l:List Tk) (k j:Nat) (h:k<l.length) (_:j<4),(lK l)[k*4+j]? =(j5 l[k])[j]?
 |p::l,0,j,_,hj=>by
  simp only [lK,List.flatMap_cons,Nat.zero_mul,Nat.zero_add,List.getElem_cons_zero];rw [List.getElem?_append_left (by simp [j5];omega)]
 |p::l,k+1,j,h,hj=>by
  have:=iP l k j (by simp at h;omega) hj;simp only [lK,List.flatMap_cons,List.getElem_cons_succ]at this⊢;rw [List.getElem?_append_right (by simp [j5];omega)];have e:(k+1)*4+j - (j5 p).length=k*4+j:=by simp [j5];omega
  rw [e];exact this
def Gp (w:World):Prop:=Glob w∧Lib.TabIs prog w "strings.asciiSpace" .u8 Lib.asciiSpaceTab∧Lib.TabIs prog w "internal/strconv.uint64pow10" .u64 Lib.pow10Tab
theorem Tryz.OU:prog.globalNamed "strings.asciiSpace" =some 2:=by kernel_rfl
theorem Tryz.OV:prog.globalNamed "internal/strconv.uint64pow10" =some 1:=by kernel_rfl
theorem Gg {n:String}{g:Nat}{k:IntKind}{zs:List Int}{w w' :World}(hg:prog.globalNamed n=some g) (h:Lib.TabIs prog w n k zs) (hb:Below w.heap.size w w'):Lib.TabIs prog w' n k zs:=by
 unfold Lib.TabIs World.var? at h⊢;rw [hg]at h⊢;simp only [Option.bind_some]at h⊢
 have hlt:g<w.heap.size:=by
  rcases Nat.lt_or_ge g w.heap.size with h' |h'
  · exact h'
  · rw [Array.getElem?_eq_none h']at h;cases h
 rw [hb.block g hlt];exact h
theorem Gp.below {w w' :World}(h:Gp w) (hb:Below w.heap.size w w'):Gp w' :=
 ⟨h.1.below hb,Gg Tryz.OU h.2.1 hb,Gg Tryz.OV h.2.2 hb⟩
structure PK where
 ws:World
 L:Nat
 b:Nat
 X:Tx
 hG:Gp ws
 hb:ws.heap.size≤b
 hL:b<L
 hT:X.T.length≤100000
def PQ (K:PK) (w:World) (σ:Ps):Prop:=
 K.L≤w.heap.size∧Below K.ws.heap.size K.ws w∧∃a cap,w.heap[K.b]? =some (.cells #[.slice a K.X.T.length cap, .int .i64 σ.i, .int .i64 K.X.en, .int .i64 σ.iB] 198 (0,0))∧
  (0<K.X.T.length→∃g,a=some ⟨g,0,none⟩∧g≠K.b∧g<K.L∧∀j u,(lK K.X.T)[j]? =some u→w.cell? ⟨g,j,none⟩=some u)
def Did (K:PK) (w0:World) (σ:Ps) (w:World):Prop:=PQ K w σ∧w0.grownBy w (some K.b)∧K.L≤w0.heap.size
section
variable {K:PK}{w0 w w' :World}{σ σ' :Ps}
theorem PQ.glob (h:PQ K w σ):Gp w:=K.hG.below h.2.1
theorem PQ.le (h:PQ K w σ):K.L≤w.heap.size:=h.1
theorem PQ.lt (h:PQ K w σ):K.b<w.heap.size:=Nat.lt_of_lt_of_le K.hL h.1
theorem PQ.keep (h:PQ K w σ) (hs:w.heap.size≤w'.heap.size) (hb:∀k,k<K.L→w'.heap[k]? =w.heap[k]?) (hw:Below K.ws.heap.size K.ws w'):PQ K w' σ:=by
 obtain ⟨h0,hB,a,cap,h1,h2⟩:=h;refine ⟨Nat.le_trans h0 hs,hw,a,cap,by rw [hb K.b K.hL];exact h1,fun hp=> ?_⟩;obtain ⟨g,e1,e2,e3,e4⟩:=h2 hp;refine ⟨g,e1,e2,e3,fun j u hj=> ?_⟩;rw [←e4 j u hj];unfold World.cell?;rw [hb g e3]
theorem PQ.below (h:PQ K w σ) (hb:Below w.heap.size w w'):PQ K w' σ:=
 h.keep hb.size (fun k hk=>hb.block k (Nat.lt_of_lt_of_le hk h.1)) (h.2.1.trans (hb.mono h.2.1.size))
theorem PQ.own (h:PQ K w σ) {k:Nat}(hk:K.L≤k) (o:Nat) (u:Value):PQ K (w.setCell ⟨k,o,none⟩ u) σ:=
 h.keep (by simp [World.setCell]) (fun j hj=>Below.heap_setCell _ _ _ _ (by show j≠k;omega)) (h.2.1.trans ⟨rfl,rfl,rfl,by simp [World.setCell],fun i hi=>Below.heap_setCell _ _ _ _ (by show i≠k;have:=K.hb;have:=K.hL;omega)⟩)
theorem PQ.set (h:PQ K w σ) (j:Nat) (v:Value) (σ' :Ps) (hv:(#[Value.slice none 0 0, .int .i64 σ.i, .int .i64 K.X.en, .int .i64 σ.iB]:Array Value).setIfInBounds j v= #[Value.slice none 0 0, .int .i64 σ'.i, .int .i64 K.X.en, .int .i64 σ'.iB]) (hj:j=1∨j=3):PQ K (w.setCell ⟨K.b,j,none⟩ v) σ' :=by
 obtain ⟨h0,hB,a,cap,h1,h2⟩:=h;refine ⟨by simpa [World.setCell]using h0,hB.trans ⟨rfl,rfl,rfl,by simp [World.setCell],fun i hi=>Below.heap_setCell _ _ _ _ (by show i≠K.b;have:=K.hb;omega)⟩,a,cap, ?_,fun hp=> ?_⟩
 · rw [bG h1 j v];rcases hj with rfl|rfl
   · simp at hv⊢;exact ⟨hv.1,hv.2⟩
   · simp at hv⊢;exact ⟨hv.1,hv.2⟩
 obtain ⟨g,e1,e2,e3,e4⟩:=h2 hp;refine ⟨g,e1,e2,e3,fun k u hk=> ?_⟩;rw [←e4 k u hk];unfold World.cell?;rw [Below.heap_setCell _ _ _ _ e2]
theorem PQ.step (h:PQ K w σ):PQ K (w.setCell ⟨K.b,1,none⟩ (.int .i64 ((σ.i:Int)+1))) σ.step:=
 h.set 1 _ _ (by simp [Ps.step,Ps.iB]) (.inl rfl)
theorem PQ.bad (h:PQ K w σ) (a:Nat):PQ K (w.setCell ⟨K.b,3,none⟩ (.int .i64 a)) ⟨σ.i,some a⟩:=
 h.set 3 _ _ (by simp [Ps.iB]) (.inr rfl)
theorem PQ.cells (h:PQ K w σ):∃a cap,w.cell? ⟨K.b,0,none⟩=some (.slice a K.X.T.length cap)∧w.cell? ⟨K.b,1,none⟩=some (.int .i64 σ.i)∧w.cell? ⟨K.b,2,none⟩=some (.int .i64 K.X.en)∧w.cell? ⟨K.b,3,none⟩=some (.int .i64 σ.iB)∧
 w.frozen? ⟨K.b,1,none⟩=false∧w.frozen? ⟨K.b,3,none⟩=false∧(0<K.X.T.length→∃g,a=some ⟨g,0,none⟩∧∀j u,(lK K.X.T)[j]? =some u→w.cell? ⟨g,j,none⟩=some u):=by
 obtain ⟨_,_,a,cap,h1,h2⟩:=h;refine ⟨a,cap,by rw [aj h1];rfl,by rw [aj h1];rfl,by rw [aj h1];rfl,by rw [aj h1];rfl,ak h1 1,ak h1 3,fun hp=> ?_⟩;obtain ⟨g,e1,_,_,e4⟩:=h2 hp;exact ⟨g,e1,e4⟩
theorem Did.refl (h:PQ K w σ):Did K w σ w:=⟨h,sI _ _,h.1⟩
theorem Did.trans (h:Did K w0 σ w) (k:Did K w σ' w'):Did K w0 σ' w' :=⟨k.1,aJ h.2.1 k.2.1,h.2.2⟩
theorem Did.below (h:Did K w0 σ w) (hb:Below w.heap.size w w'):Did K w0 σ w' :=⟨h.1.below hb,aJ h.2.1 (jR hb _),h.2.2⟩
theorem Did.drewN (h:Did K w0 σ w) (n:Nat):Did K w0 σ (w.drewN n):=h.below (aK.below_drewN (Below.refl _ _) n)
theorem Did.alloc (h:Did K w0 σ w) (o:Obj):Did K w0 σ (w.alloc o):=h.below ((Below.refl _ _).alloc (Nat.le_refl _) _)
theorem Did.size (h:Did K w0 σ w):w0.heap.size≤w.heap.size:=h.2.1.size
theorem Did.own (h:Did K w0 σ w) {k:Nat}(hk:w0.heap.size≤k) (o:Nat) (u:Value):Did K w0 σ (w.setCell ⟨k,o,none⟩ u):=
 ⟨h.1.own (Nat.le_trans h.2.2 hk) o u,⟨h.2.1.os,h.2.1.tape,h.2.1.output,by have:=h.2.1.size;simpa [World.setCell]using this,fun i hi hr=>by
  rw [Below.heap_setCell _ _ _ _ (by show i≠k;omega)];exact h.2.1.block i hi hr⟩,h.2.2⟩
theorem Did.step (h:Did K w0 σ w):Did K w0 σ.step (w.setCell ⟨K.b,1,none⟩ (.int .i64 ((σ.i:Int)+1))):=⟨h.1.step,aJ h.2.1 (jq _ _ _ _),h.2.2⟩
theorem Did.bad (h:Did K w0 σ w) (a:Nat):Did K w0 ⟨σ.i,some a⟩ (w.setCell ⟨K.b,3,none⟩ (.int .i64 a)):=⟨h.1.bad a,aJ h.2.1 (jq _ _ _ _),h.2.2⟩
theorem Did.blk (h:Did K w σ' w') {k:Nat}{o:Obj}(hk:w.heap[k]? =some o) (hkb:K.L≤k):w'.heap[k]? =some o:=by
 rw [h.2.1.block k (aG hk) (fun e=>by cases e;have:=K.hL;omega)];exact hk
theorem Did.row (h:Did K w σ' w') {base:Nat}{e:TypeId}{size:Nat}{v:Value}{n:Nat}{xs:List Value}(hr:w.ownsRow base e size v n xs) (hb:K.L≤base):w'.ownsRow base e size v n xs:=
 mF hr h.2.1 (by have:=K.hL;omega)
end
abbrev uS (K:PK) (w:World) (v:Value) (σ:Ps):Ending→World→Prop:=fun e w' =>e= .returned v∧Did K w σ w'
theorem UN (σ:Ps):decide (σ.iB<0)=σ.bad.isNone:=by
 unfold Ps.iB;cases σ.bad with
 |none=>rfl
 |some a=>simp
theorem X7 {K:PK}{w:World}{σ:Ps}(h:PQ K w σ):
 Calls prog 126 #[.pointer (some ⟨K.b,0,none⟩)] w fun e w' =>e= .returned (.bool σ.bad.isNone)∧∃m,w' =w.drewN m:=by
 obtain ⟨a,cap,c0,c1,c2,c3,_⟩:=h.cells;go_enter func126,ntmps126;go_wp2_with fail;go_ret;exact ⟨aR (UN σ),0,rfl⟩
theorem tK {K:PK}{w:World}{σ:Ps}(h:PQ K w σ) {v:Bool}(hv:σ.bad.isNone=v):
 Calls prog 126 #[.pointer (some ⟨K.b,0,none⟩)] w fun e w' =>e= .returned (.bool v)∧∃m,w' =w.drewN m:=by
 rw [←hv];exact X7 h
theorem iQ {K:PK}{w:World}{σ:Ps}(h:PQ K w σ):
 Calls prog 125 #[.pointer (some ⟨K.b,0,none⟩)] w fun e w' =>e= .returned (.int .i64 (K.X.here σ))∧∃m,w' =w.drewN m:=by
 obtain ⟨a,cap,c0,c1,c2,c3,_,_,hc⟩:=h.cells;by_cases hlt:σ.i<K.X.T.length
 · obtain ⟨g,rfl,hg⟩:=hc (by omega);have q0:(σ.i:Int)<(K.X.T.length:Int):=by omega
   have q1:(0:Int)≤(σ.i:Int):=by omega
   have c4:w.cell? ⟨g,σ.i*4+3,none⟩=some (.int .i64 K.X.T[σ.i].at_):=hg _ _ (by rw [iP _ σ.i 3 hlt (by omega)];rfl);have HE:Hid (K.X.here σ=K.X.T[σ.i].at_):=by show _=_;unfold Tx.here;rw [List.getElem?_eq_getElem hlt]
   clear hc hg;generalize K.X.T[σ.i]=t at *;go_enter func125,ntmps125;go_wp2_with fail;go_quiet (fail);go_wp2_with fail;go_quiet (fail);go_wp2_with fail;go_ret;exact ⟨j4 (by rw [HE.out]),_,World.drewN_drewN _ _ _⟩
 · have q0:¬(σ.i:Int)<(K.X.T.length:Int):=by omega
   have HE:Hid (K.X.here σ=K.X.en):=by show _=_;unfold Tx.here;rw [List.getElem?_eq_none (by omega)]
   clear hc;go_enter func125,ntmps125;go_wp2_with fail;go_quiet (fail);go_wp2_with fail;go_ret;exact ⟨j4 (by rw [HE.out]),_,rfl⟩
theorem gM {K:PK}{w:World}{σ:Ps}(h:PQ K w σ) (a:Nat):
 Calls prog 124 #[.pointer (some ⟨K.b,0,none⟩), .int .i64 a] w (uS K w (.tuple #[]) (σ.wrong a)):=by
 obtain ⟨_,_,_,_,_,_,_,f3,_⟩:=h.cells;have HD:=Did.refl h;cases hb:σ.bad with
 |none=>
  have hok:=tK h (v:=true) (by rw [hb];rfl);have HE:Hid (σ.wrong a=⟨σ.i,some a⟩):=by show _=_;unfold Ps.wrong;rw [hb]
  go_enter func124,ntmps124;go_wp2_with (go_at_call 126;refine hok.mono ?_;rintro e w1 ⟨rfl,m,rfl⟩)
  go_end0
  rw [HE.out];exact ⟨rfl,(HD.drewN m).bad a⟩
 |some x=>
  have hok:=tK h (v:=false) (by rw [hb];rfl);have HE:Hid (σ.wrong a=σ):=by show _=_;unfold Ps.wrong;rw [hb]
  go_enter func124,ntmps124;go_wp2_with (go_at_call 126;refine hok.mono ?_;rintro e w1 ⟨rfl,m,rfl⟩)
  go_end0
  rw [HE.out];exact ⟨rfl,HD.drewN m⟩
def tk0:Tk:=⟨0,⟨#[]⟩,0,0⟩
def DT (o:Option Tk):Tk:=match o with|some t=>t|none=>tk0
def tkA (t:Tk):Value:= .agg #[.int .i64 t.kind, .string t.s, .int .i64 t.n, .int .i64 t.at_]
theorem X8 {w w1:World}{x0 x1 x2 x3:Value}{T:TypeId}(h1:w1.heap[w.heap.size]? =some (.cells #[x0,x1,x2,x3] T (0,0))) (hb:Below w.heap.size w w1) (v0 v1 v2 v3:Value) (W:World)
 (hW:W=(((w1.setCell ⟨w.heap.size,0,none⟩ v0).setCell ⟨w.heap.size,1,none⟩ v1).setCell ⟨w.heap.size,2,none⟩ v2).setCell ⟨w.heap.size,3,none⟩ v3):
 W.cell? ⟨w.heap.size,0,none⟩=some v0∧W.cell? ⟨w.heap.size,1,none⟩=some v1∧W.cell? ⟨w.heap.size,2,none⟩=some v2∧W.cell? ⟨w.heap.size,3,none⟩=some v3∧Below w.heap.size w W:=by
 subst hW;have hp:=MO h1 v0 v1 v2 v3;exact ⟨by rw [aj hp];rfl,by rw [aj hp];rfl,by rw [aj hp];rfl,by rw [aj hp];rfl,hb.trans (jC (yV w1 w.heap.size v0 v1 v2 v3) (Nat.le_refl _) hb.size)⟩
theorem KE {K:PK}{w:World}{σ:Ps}(h:PQ K w σ) (k:Int):
 Calls prog 274 #[.pointer (some ⟨K.b,0,none⟩), .int .i64 k] w fun e w' =>e= .returned (.tuple #[tkA (DT (K.X.next σ k)), .bool (K.X.next σ k).isSome])∧Below w.heap.size w w' :=by
 have hbl:=aB w (.cells #[.int .i64 0, .string ⟨#[]⟩, .int .i64 0, .int .i64 0] 276);have hbw:=(Below.refl w.heap.size w).alloc (Nat.le_refl _) (.cells #[.int .i64 0, .string ⟨#[]⟩, .int .i64 0, .int .i64 0] 276);have h0:PQ K (w.alloc (.cells #[.int .i64 0, .string ⟨#[]⟩, .int .i64 0, .int .i64 0] 276)) σ:=h.below hbw;obtain ⟨a,cap,c0,c1,c2,c3,_,_,hc⟩:=h0.cells;have hok:=fun m v hv=>tK (σ:=σ) (v:=v) (h0.below (aK.below_drewN (Below.refl _ _) m)) hv
 have s0:(w.alloc (.cells #[.int .i64 0, .string ⟨#[]⟩, .int .i64 0, .int .i64 0] 276)).cell? ⟨w.heap.size,0,none⟩=some (.int .i64 0):=by rw [aj hbl];rfl
 have s1:(w.alloc (.cells #[.int .i64 0, .string ⟨#[]⟩, .int .i64 0, .int .i64 0] 276)).cell? ⟨w.heap.size,1,none⟩=some (.string ⟨#[]⟩):=by rw [aj hbl];rfl
 have s2:(w.alloc (.cells #[.int .i64 0, .string ⟨#[]⟩, .int .i64 0, .int .i64 0] 276)).cell? ⟨w.heap.size,2,none⟩=some (.int .i64 0):=by rw [aj hbl];rfl
 have s3:(w.alloc (.cells #[.int .i64 0, .string ⟨#[]⟩, .int .i64 0, .int .i64 0] 276)).cell? ⟨w.heap.size,3,none⟩=some (.int .i64 0):=by rw [aj hbl];rfl
 have f0:=ak hbl 0;have f1:=ak hbl 1;have f2:=ak hbl 2;have f3:=ak hbl 3;have HN:Hid ((w.alloc (.cells #[.int .i64 0, .string ⟨#[]⟩, .int .i64 0, .int .i64 0] 276)).heap[w.heap.size]? =some (.cells #[.int .i64 0, .string ⟨#[]⟩, .int .i64 0, .int .i64 0] 276 (0,0))∧Below w.heap.size w (w.alloc (.cells #[.int .i64 0, .string ⟨#[]⟩, .int .i64 0, .int .i64 0] 276))):=⟨hbl,hbw⟩;clear hbl hbw h h0;cases hb:σ.bad with
 |some x=>
  have HO:=Lib.hid (fun m=>hok m false (by rw [hb];rfl));have HE:Hid (K.X.next σ k=none):=by show _=_;unfold Tx.next;rw [hb]
  clear hok hc;go_enter func274,ntmps274;go_wp2_with fail;generalize w.alloc (.cells #[.int .i64 0, .string ⟨#[]⟩, .int .i64 0, .int .i64 0] 276)=w0 at *;go_quiet ((go_at_call 126;exact Calls.quiet_of (HO.out _)));go_wp2_with fail;obtain ⟨r0,r1,r2,r3,hB⟩:=X8 (by exact HN.out.1) (aK.below_drewN HN.out.2 nq) (.int .i64 0) (.string ⟨#[]⟩) (.int .i64 0) (.int .i64 0) _ rfl;refine bodyPost_ret (v:= .tuple #[.agg #[.int .i64 0, .string ⟨#[]⟩, .int .i64 0, .int .i64 0], .bool false]) (by simp [results,results274,go_sem,r0,r1,r2,r3]) rfl ?_;rw [HE.out];exact ⟨rfl,hB⟩
 |none=>
  have HO:=Lib.hid (fun m=>hok m true (by rw [hb];rfl));clear hok;by_cases hlt:σ.i<K.X.T.length
  · obtain ⟨g,rfl,hg⟩:=hc (by omega);have q0:¬((K.X.T.length:Int)≤(σ.i:Int)):=by omega
    have q1:(0:Int)≤(σ.i:Int):=by omega
    have q2:(σ.i:Int)<(K.X.T.length:Int):=by omega
    have k0:=hg (σ.i*4) (.int .i64 K.X.T[σ.i].kind) (by have:=iP K.X.T σ.i 0 hlt (by omega);rw [Nat.add_zero]at this;rw [this];rfl);have k1:=hg (σ.i*4+1) (.string K.X.T[σ.i].s) (by rw [iP _ σ.i 1 hlt (by omega)];rfl);have k2:=hg (σ.i*4+2) (.int .i64 K.X.T[σ.i].n) (by rw [iP _ σ.i 2 hlt (by omega)];rfl);have k3:=hg (σ.i*4+3) (.int .i64 K.X.T[σ.i].at_) (by rw [iP _ σ.i 3 hlt (by omega)];rfl);have HX:Hid (K.X.next σ k=if K.X.T[σ.i].kind=k then some K.X.T[σ.i]else none):=by show _=_;unfold Tx.next;rw [hb,List.getElem?_eq_getElem hlt]
    clear hc hg;generalize K.X.T[σ.i]=t at *;by_cases hk:t.kind=k
    · have q3:(t.kind !=k)=false:=by rw [hk];simp
      have HE:Hid (K.X.next σ k=some t):=by show _=_;rw [HX.out,if_pos hk]
      clear hk HX;go_enter func274,ntmps274;go_wp2_with fail;generalize w.alloc (.cells #[.int .i64 0, .string ⟨#[]⟩, .int .i64 0, .int .i64 0] 276)=w0 at *;go_quiet ((go_at_call 126;exact Calls.quiet_of (HO.out _)));go_wp2_with fail;replace c0:(w0.drewN nq).cell? _=_:=c0;replace c1:(w0.drewN nq).cell? _=_:=c1;replace k0:(w0.drewN nq).cell? _=_:=k0;replace k1:(w0.drewN nq).cell? _=_:=k1;replace k2:(w0.drewN nq).cell? _=_:=k2;replace k3:(w0.drewN nq).cell? _=_:=k3;replace s0:(w0.drewN nq).cell? _=_:=s0;replace s1:(w0.drewN nq).cell? _=_:=s1;replace s2:(w0.drewN nq).cell? _=_:=s2;replace s3:(w0.drewN nq).cell? _=_:=s3;replace f0:(w0.drewN nq).frozen? _=_:=f0;replace f1:(w0.drewN nq).frozen? _=_:=f1;replace f2:(w0.drewN nq).frozen? _=_:=f2;replace f3:(w0.drewN nq).frozen? _=_:=f3;have hbl:(w0.drewN nq).heap[w.heap.size]? =_:=HN.out.1;have hbw:=aK.below_drewN HN.out.2 nq;generalize w0.drewN nq=w1 at *;go_still_tail 10,(by kernel_rfl);go_wp2_with fail;obtain ⟨r0,r1,r2,r3,hB⟩:=X8 (w1:=w1) hbl hbw (.int .i64 t.kind) (.string t.s) (.int .i64 t.n) (.int .i64 t.at_) _ rfl;generalize (((w1.setCell ⟨w.heap.size,0,none⟩ (.int .i64 t.kind)).setCell ⟨w.heap.size,1,none⟩ (.string t.s)).setCell ⟨w.heap.size,2,none⟩ (.int .i64 t.n)).setCell ⟨w.heap.size,3,none⟩ (.int .i64 t.at_)=W at *;refine bodyPost_ret (v:= .tuple #[tkA t, .bool true]) (by simp [tkA,results,results274,go_sem,r0,r1,r2,r3]) rfl ?_;rw [HE.out];exact ⟨rfl,hB.drew⟩
    · have q3:(t.kind !=k)=true:=bne_iff_ne.2 hk;have HE:Hid (K.X.next σ k=none):=by show _=_;rw [HX.out,if_neg hk]
      clear hk HX;go_enter func274,ntmps274;go_wp2_with fail;generalize w.alloc (.cells #[.int .i64 0, .string ⟨#[]⟩, .int .i64 0, .int .i64 0] 276)=w0 at *;go_quiet ((go_at_call 126;exact Calls.quiet_of (HO.out _)));go_wp2_with fail;obtain ⟨r0,r1,r2,r3,hB⟩:=X8 (by exact HN.out.1) (aK.below_drewN HN.out.2 nq) (.int .i64 0) (.string ⟨#[]⟩) (.int .i64 0) (.int .i64 0) _ rfl;refine bodyPost_ret (v:= .tuple #[.agg #[.int .i64 0, .string ⟨#[]⟩, .int .i64 0, .int .i64 0], .bool false]) (by simp [results,results274,go_sem,r0,r1,r2,r3]) rfl ?_;rw [HE.out];exact ⟨rfl,hB⟩
  · have q0:(K.X.T.length:Int)≤(σ.i:Int):=by omega
    have HE:Hid (K.X.next σ k=none):=by show _=_;unfold Tx.next;rw [hb,List.getElem?_eq_none (by omega)]
    clear hc;go_enter func274,ntmps274;go_wp2_with fail;generalize w.alloc (.cells #[.int .i64 0, .string ⟨#[]⟩, .int .i64 0, .int .i64 0] 276)=w0 at *;go_quiet ((go_at_call 126;exact Calls.quiet_of (HO.out _)));go_wp2_with fail;obtain ⟨r0,r1,r2,r3,hB⟩:=X8 (by exact HN.out.1) (aK.below_drewN HN.out.2 nq) (.int .i64 0) (.string ⟨#[]⟩) (.int .i64 0) (.int .i64 0) _ rfl;refine bodyPost_ret (v:= .tuple #[.agg #[.int .i64 0, .string ⟨#[]⟩, .int .i64 0, .int .i64 0], .bool false]) (by simp [results,results274,go_sem,r0,r1,r2,r3]) rfl ?_;rw [HE.out];exact ⟨rfl,hB⟩
theorem Ip {K:PK}{w:World}{σ:Ps}(h:PQ K w σ) (k:Int) (t:Tk) (b:Bool) (ht:DT (K.X.next σ k)=t) (hb:(K.X.next σ k).isSome=b):
 Calls prog 274 #[.pointer (some ⟨K.b,0,none⟩), .int .i64 k] w fun e w' =>e= .returned (.tuple #[.agg #[.int .i64 t.kind, .string t.s, .int .i64 t.n, .int .i64 t.at_], .bool b])∧Below w.heap.size w w' :=by
 rw [←ht,←hb];exact KE h k
theorem PQ.alloc {K:PK}{w:World}{σ:Ps}(h:PQ K w σ) (o:Obj):PQ K (w.alloc o) σ:=h.below ((Below.refl _ _).alloc (Nat.le_refl _) _)
theorem PQ.MO {K:PK}{w:World}{σ:Ps}(h:PQ K w σ) {g:Nat}(hg:K.L≤g) (v0 v1 v2 v3:Value):PQ K ((((w.setCell ⟨g,0,none⟩ v0).setCell ⟨g,1,none⟩ v1).setCell ⟨g,2,none⟩ v2).setCell ⟨g,3,none⟩ v3) σ:=(((h.own hg _ _).own hg _ _).own hg _ _).own hg _ _
theorem yX {K:PK}{w:World}{σ:Ps}(h:PQ K w σ) (s:ByteArray):
 Calls prog 199 #[.pointer (some ⟨K.b,0,none⟩), .string s] w fun e w' =>e= .returned (.bool (K.X.sees σ s))∧Below w.heap.size w w' :=by
 have HE:Hid (K.X.sees σ s=(((K.X.next σ 1).isSome&&fB (DT (K.X.next σ 1)).s s)||((K.X.next σ 4).isSome&&fB (DT (K.X.next σ 4)).s s))):=by
  show _=_;unfold Tx.sees;cases K.X.next σ 1<;>cases K.X.next σ 4<;>simp [DT]
 have n1:=fun w h=>Ip (K:=K) (w:=w) (σ:=σ) h 1 _ _ rfl rfl
 have n4:=fun w h=>Ip (K:=K) (w:=w) (σ:=σ) h 4 _ _ rfl rfl
 generalize DT (K.X.next σ 1)=t1 at *;generalize DT (K.X.next σ 4)=t4 at *;generalize (K.X.next σ 1).isSome=b1 at *;generalize (K.X.next σ 4).isSome=b4 at *;have hle:=h.le;have e1:=bU t1.s s;have e4:=bU t4.s s;go_enter func199,ntmps199;go_wp2_with fail;refine (n1 w h).mono ?_;rintro e w1 ⟨rfl,hb1⟩;have hP1:=h.below hb1;have hs1:=hb1.size;generalize fB t1.s s=q1 at *;generalize fB t4.s s=q4 at *;go_wp2_with fail;have hP2:=hP1.alloc (.cells #[.int .i64 t1.kind, .string t1.s, .int .i64 t1.n, .int .i64 t1.at_] 276);refine (n4 _ hP2).mono ?_;rintro e w2 ⟨rfl,hb2⟩;have aaw:=hb1.trans (((Below.refl _ _).alloc (Nat.le_refl _) (.cells #[.int .i64 t1.kind, .string t1.s, .int .i64 t1.n, .int .i64 t1.at_] 276)).mono hs1);have aax:=aaw.trans (hb2.mono aaw.size)
 have c1:w2.cell? ⟨w1.heap.size,1,none⟩=some (.string t1.s):=by
  rw [hb2.cell (p:=⟨w1.heap.size,1,none⟩) (by simp),aj (aB w1 _)];rfl
 have hlt:w1.heap.size<w2.heap.size:=by have:=hb2.size;simp at this;omega
 have hB:=aax.alloc aax.size (.cells #[.int .i64 t4.kind, .string t4.s, .int .i64 t4.n, .int .i64 t4.at_] 276);clear hb1 hb2 aaw aax hP1 hP2 h n1 n4;cases b1<;>cases b4<;>cases q1<;>cases q4
 all_goals
  go_wp2_with fail;go_ret;exact ⟨aR (by rw [HE.out];rfl),hB⟩
theorem next_lt {X:Tx}{σ:Ps}{k:Int}(h:(X.next σ k).isSome=true):σ.i<X.T.length∧σ.bad=none:=by
 unfold Tx.next at h;cases hb:σ.bad with
 |some a=>rw [hb]at h;cases h
 |none=>
  rw [hb]at h;refine ⟨?_,rfl⟩;refine Decidable.byContradiction fun hn=> ?_
  rw [List.getElem?_eq_none (by omega)]at h;cases h
theorem sJ {X:Tx}{σ:Ps}{s:ByteArray}(h:X.sees σ s=true):σ.i<X.T.length∧σ.bad=none:=by
 unfold Tx.sees at h;rw [Bool.or_eq_true]at h;rcases h with h|h
 · exact next_lt (k:=1) (by cases hx:X.next σ 1 with|none=>rw [hx]at h;cases h|some t=>rfl)
 · exact next_lt (k:=4) (by cases hx:X.next σ 4 with|none=>rw [hx]at h;cases h|some t=>rfl)
theorem Did.cell {K:PK}{w w' :World}{σ:Ps}(h:Did K w σ w') {g:Nat}(hg:g<w.heap.size) (hgb:g≠K.b) (j:Nat):w'.cell? ⟨g,j,none⟩=w.cell? ⟨g,j,none⟩:=by
 unfold World.cell?;rw [h.2.1.block g hg (fun e=>by cases e;exact hgb rfl)]
theorem aS {K:PK}{w:World}{σ:Ps}(h:PQ K w σ) (s:ByteArray):
 Calls prog 123 #[.pointer (some ⟨K.b,0,none⟩), .string s] w (uS K w (.bool (K.X.sees σ s)) (K.X.may σ s)):=by
 have hD:=Did.refl h;have wo:=yX h s;unfold Tx.may;cases hs:K.X.sees σ s with
 |false=>
  rw [hs]at wo;go_enter func123,ntmps123;go_wp2_with (go_at_call 199;refine wo.mono ?_;rintro e w1 ⟨rfl,hb⟩);go_ret;exact ⟨rfl,hD.below hb⟩
 |true=>
  rw [hs]at wo;obtain ⟨hlt,_⟩:=sJ hs;have hT:=K.hT;have hov:IntKind.i64.wrap ((σ.i:Int)+1)=(σ.i:Int)+1:=IntWalk.i64_in _ (by omega);go_enter func123,ntmps123;go_wp2_with fail;refine wo.mono ?_;rintro e w1 ⟨rfl,hb⟩;replace hD:=hD.below hb;obtain ⟨_,_,c0,c1,_,_,f1,_,_⟩:=hD.1.cells;go_wp2_with fail;go_ret;exact ⟨rfl,hD.step⟩
theorem Gh (X:Tx) (σ:Ps) (l:List ByteArray) (j:Nat) (h:j<l.length):X.must σ (l.take (j+1))=X.bS (X.must σ (l.take j)) l[j]:=by
 unfold Tx.must;rw [List.take_succ_eq_append_getElem h,List.foldl_append];rfl
theorem UO {K:PK}{w:World}{σ:Ps}(h:PQ K w σ) (l:List ByteArray) (g cap:Nat) (hg:g<w.heap.size) (hgb:g≠K.b) (hl:l.length≤1000) (hc:∀j (h:j<l.length),w.cell? ⟨g,j,none⟩=some (.string l[j])):
 Calls prog 266 #[.pointer (some ⟨K.b,0,none⟩), .slice (some ⟨g,0,none⟩) l.length cap] w (uS K w (.tuple #[]) (K.X.must σ l)):=by
 have hD:=Did.refl h;have HC:=Lib.hid hc;clear hc;go_enter func266,ntmps266;go_wp2_with fail
 go_loopw [5,8] (fun _ i wr=>∃j:Nat,i= .int .i64 j∧j≤l.length∧Did K w (K.X.must σ (l.take j)) wr) (fun _ i _=>l.length - (intOf i).toNat)
 case atStart=>exact ⟨0,rfl,by omega,hD⟩
 case round=>
  clear hD;obtain ⟨j,rfl,hj,hD⟩:=hrel;by_cases hlt:j<l.length
  · have q0:(j:Int)<(l.length:Int):=by omega
    have q1:(0:Int)≤(j:Int):=by omega
    have c0:=(hD.cell hg hgb j).trans (HC.out j hlt);have hm:=aS hD.1 l[j];have HX:Hid (K.X.must σ (l.take (j+1))=K.X.bS (K.X.must σ (l.take j)) l[j]):=Gh K.X σ l j hlt;generalize l[j]=s at *;unfold Tx.may at hm;have HM:Hid (K.X.bS (K.X.must σ (l.take j)) s=if K.X.sees (K.X.must σ (l.take j)) s then (K.X.must σ (l.take j)).step else K.X.fail (K.X.must σ (l.take j))):=rfl;generalize K.X.must σ (l.take j)=σ1 at *;cases hs:K.X.sees σ1 s with
    |true=>
     rw [hs]at hm;go_wp2_with (go_at_call 123;refine hm.mono ?_;rintro e w1 ⟨rfl,hd⟩);go_roundw
     case rel=>exact ⟨j+1,by go_num,by omega,by rw [HX.out,HM.out,hs,if_pos rfl];exact hD.trans hd⟩
     case measure=>simp [intOf];omega
    |false=>
     rw [hs]at hm;go_wp2_with fail;refine hm.mono ?_;rintro e w1 ⟨rfl,hd⟩;replace hd:Did K wr σ1 w1:=hd;have ha:=iQ hd.1;go_wp2_with fail;refine ha.mono ?_;rintro e w2 ⟨rfl,m,rfl⟩;have hd2:=hd.drewN m;have hw:=gM hd2.1 (K.X.here σ1);go_wp2_with fail;refine hw.mono ?_;rintro e w3 ⟨rfl,hd3⟩;go_wp2_with fail;go_roundw
     case rel=>exact ⟨j+1,by go_num,by omega,by rw [HX.out,HM.out,hs,if_neg (by decide)];exact (hD.trans hd2).trans hd3⟩
     case measure=>simp [intOf];omega
  · have hj2:j=l.length:=by omega
    subst hj2;rw [List.take_length]at hD;go_wp2_with fail
    go_end0
    exact ⟨rfl,hD⟩
theorem yY {K:PK}{w:World}{σ:Ps}(h:PQ K w σ) (l:List ByteArray) (hl:l.length≤1000):
 Calls prog 266 #[.pointer (some ⟨K.b,0,none⟩), .slice (some ⟨w.heap.size,0,none⟩) l.length l.length] (w.alloc (.cells (l.map Value.string).toArray 9)) (uS K w (.tuple #[]) (K.X.must σ l)):=by
 have hD:=(Did.refl h).alloc (.cells (l.map Value.string).toArray 9);have hb:=K.hL;have hle:=h.le;refine (UO hD.1 l w.heap.size l.length (by simp) (by omega) hl (fun j hj=> ?_)).mono fun e w' he=>⟨he.1,hD.trans he.2⟩
 rw [aj (aB w _)];simp [hj]
theorem oh (x:ByteArray) (l:List ByteArray):lu x l=true ↔ x∈l:=by
 unfold lu fB;rw [List.any_eq_true];exact ⟨fun ⟨y,hy,he⟩=>by rw [decide_eq_true_eq]at he;rw [he];exact hy,fun h=>⟨x,h,by simp⟩⟩
theorem mX (l:List ByteArray) (x:ByteArray):Lib.containsS l x=lu x l:=by
 rw [Bool.eq_iff_iff,Lib.containsS_iff,oh]
def resT:ByteArray:=(⟨#[99,114,101,97,116,101,32,116,97,98,108,101,32,112,114,105,109,97,114,121,32,107,101,121,32,109,97,116,101,114,105,97,108,105,122,101,100,32,118,105,101,119,32,97,115,32,115,101,108,101,99,116,32,102,114,111,109,32,119,104,101,114,101,32,105,115,32,110,111,116,32,110,117,108,108,32,105,110,100,101,120,32,111,110,32,100,114,111,112,32,105,110,115,101,114,116,32,105,110,116,111,32,118,97,108,117,101,115,32,117,115,105,110,103,32,117,112,100,97,116,101,32,115,101,116,32,97,110,100,32,100,101,108,101,116,101,32,116,105,109,101,115,116,97,109,112,32,108,105,109,105,116,32,98,101,103,105,110,32,98,97,116,99,104,32,97,112,112,108,121,32,116,116,108,32,116,101,120,116,32,105,110,116]⟩:ah)
theorem MQ:(Lib.fields resT.data.toList).map (fun l=>(⟨l.toArray⟩:ah))=CQ:=by kernel_rfl
theorem QS:resT.size<4294967281:=of_decide_eq_true (by kernel_rfl)
theorem MR:∀(j:Nat) b,resT.data.toList[j]? =some b→b.toNat<128:=by
 intro j b h;have hall:resT.data.toList.all (fun b=>decide (b.toNat<128))=true:=by kernel_rfl
 exact of_decide_eq_true (List.all_eq_true.1 hall b (List.mem_of_getElem? h))
theorem yZ (s:ByteArray) (w:World) (hG:Gp w):
 Calls prog 247 #[.string s] w fun e w' =>e= .returned (.bool (tX s))∧Below w.heap.size w w' :=by
 have hf:=Tryz.strings_Fields resT w QS MR hG.2.1;have hR:=MQ;obtain ⟨F,hF⟩:∃F,Lib.fields resT.data.toList=F:=⟨_,rfl⟩;rw [hF]at hf hR
 have hlen:F.length=32:=by
  have:=congrArg List.length hR;rw [List.length_map]at this;exact this
 have hmap:(F.map fun l=>Value.string ⟨l.toArray⟩)=CQ.map Value.string:=by
  rw [←hR,List.map_map];rfl
 rw [hlen,hmap]at hf
 have hc:=Tryz.slices_Contains_string w.heap.size 0 32 32 CQ s (w.alloc (.cells (CQ.map Value.string).toArray 9)) (by decide) (by decide) (fun j hj=>by
  rw [aj (aB w _)];rw [List.getElem?_toArray,Nat.zero_add,List.getElem?_map,List.getD_eq_getElem?_getD,List.getElem?_eq_getElem hj];rfl)
 rw [show CQ.take 32=CQ from rfl,mX]at hc;have hB:=(Below.refl w.heap.size w).alloc (Nat.le_refl _) (.cells (CQ.map Value.string).toArray 9);unfold tX;generalize lu s CQ=q at *;generalize w.alloc (.cells (CQ.map Value.string).toArray 9)=w1 at *;clear hF hR hlen hmap;go_enter func247,ntmps247;go_wp2_with fail;refine hf.mono ?_;rintro e w2 ⟨rfl,rfl⟩;go_wp2_with fail;refine hc.mono ?_;rintro e w3 ⟨rfl,rfl⟩;go_wp2_with fail;go_ret;exact ⟨rfl,hB⟩
theorem dS {K:PK}{w:World}{σ:Ps}(h:PQ K w σ):
 Calls prog 195 #[.pointer (some ⟨K.b,0,none⟩)] w (uS K w (.string (K.X.name σ).1) (K.X.name σ).2):=by
 have hD:=Did.refl h;have n1:=KE h 1;unfold tkA at n1;cases hx:K.X.next σ 1 with
 |none=>
  rw [hx]at n1;have HE:Hid (K.X.name σ=(⟨#[]⟩,K.X.fail σ)):=by show _=_;unfold Tx.name;rw [hx]
  go_enter func195,ntmps195;go_wp2_with fail;refine n1.mono ?_;rintro e w1 ⟨rfl,hb⟩;replace hD:=(hD.below hb).alloc (.cells #[.int .i64 0, .string ⟨#[]⟩, .int .i64 0, .int .i64 0] 276);have ha:=iQ hD.1;go_wp2_with fail;refine ha.mono ?_;rintro e w2 ⟨rfl,m,rfl⟩;have hd2:=hD.drewN m;have hw:=gM hd2.1 (K.X.here σ);go_wp2_with fail;refine hw.mono ?_;rintro e w3 ⟨rfl,hd3⟩;go_wp2_with fail;go_ret;rw [HE.out];exact ⟨rfl,hd2.trans hd3⟩
 |some t=>
  rw [hx]at n1;replace n1:Calls prog 274 #[.pointer (some ⟨K.b,0,none⟩), .int .i64 1] w fun e w' =>e= .returned (.tuple #[.agg #[.int .i64 t.kind, .string t.s, .int .i64 t.n, .int .i64 t.at_], .bool true])∧Below w.heap.size w w' :=n1
  have HR:=fun w=>yZ t.s w
  cases hr:tX t.s with
  |true=>
   rw [hr]at HR;have HE:Hid (K.X.name σ=(⟨#[]⟩,K.X.fail σ)):=by show _=_;unfold Tx.name;rw [hx];simp only;rw [hr];rfl
   go_enter func195,ntmps195;go_wp2_with fail;refine n1.mono ?_;rintro e w1 ⟨rfl,hb⟩;replace hD:=(hD.below hb).alloc (.cells #[.int .i64 t.kind, .string t.s, .int .i64 t.n, .int .i64 t.at_] 276);have hr2:=HR _ hD.1.glob;go_wp2_with fail;refine hr2.mono ?_;rintro e w2 ⟨rfl,hb2⟩;replace hD:=hD.below hb2;have ha:=iQ hD.1;go_wp2_with fail;refine ha.mono ?_;rintro e w3 ⟨rfl,m,rfl⟩;have hd2:=hD.drewN m;have hw:=gM hd2.1 (K.X.here σ);go_wp2_with fail;refine hw.mono ?_;rintro e w4 ⟨rfl,hd3⟩;go_wp2_with fail;go_ret;rw [HE.out];exact ⟨rfl,hd2.trans hd3⟩
  |false=>
   rw [hr]at HR;obtain ⟨hlt,_⟩:=next_lt (X:=K.X) (σ:=σ) (k:=1) (by rw [hx];rfl);have hT:=K.hT;have hov:IntKind.i64.wrap ((σ.i:Int)+1)=(σ.i:Int)+1:=IntWalk.i64_in _ (by omega);have HE:Hid (K.X.name σ=(t.s,σ.step)):=by show _=_;unfold Tx.name;rw [hx];simp only;rw [hr];rfl
   go_enter func195,ntmps195;go_wp2_with fail;refine n1.mono ?_;rintro e w1 ⟨rfl,hb⟩;replace hD:=(hD.below hb).alloc (.cells #[.int .i64 t.kind, .string t.s, .int .i64 t.n, .int .i64 t.at_] 276);have hr2:=HR _ hD.1.glob;go_wp2_with fail;refine hr2.mono ?_;rintro e w2 ⟨rfl,hb2⟩
   have s1:w2.cell? ⟨w1.heap.size,1,none⟩=some (.string t.s):=by
    rw [hb2.cell (p:=⟨w1.heap.size,1,none⟩) (by simp),aj (aB w1 _)];rfl
   replace hD:=hD.below hb2;obtain ⟨_,_,c0,c1,_,_,f1,_,_⟩:=hD.1.cells;have hne:w1.heap.size≠K.b:=by have:=h.lt;have:=hb.size;omega
   go_wp2_with fail;go_ret;rw [HE.out];exact ⟨rfl,hD.step⟩
def tmV (t:Tm):Value:= .agg #[.int .i64 t.ty, .string t.s, .int .i64 t.n]
theorem ae2 {w:World}{g:Nat}{x0 x1 x2:Value}{T:TypeId}(h:w.heap[g]? =some (.cells #[x0,x1,x2] T (0,0))) (v0 v1 v2:Value):
 (((w.setCell ⟨g,0,none⟩ v0).setCell ⟨g,1,none⟩ v1).setCell ⟨g,2,none⟩ v2).heap[g]? =some (.cells #[v0,v1,v2] T (0,0)):=by
 have:=bG (bG (bG h 0 v0) 1 v1) 2 v2;rw [this];simp
theorem aay {K:PK}{w w1:World}{σ:Ps}{k:Nat}{x0 x1 x2:Value}{T:TypeId}(h1:w1.heap[k]? =some (.cells #[x0,x1,x2] T (0,0))) (hD:Did K w σ w1) (hk:w.heap.size≤k) (v0 v1 v2:Value) (W:World)
 (hW:W=((w1.setCell ⟨k,0,none⟩ v0).setCell ⟨k,1,none⟩ v1).setCell ⟨k,2,none⟩ v2):
 W.cell? ⟨k,0,none⟩=some v0∧W.cell? ⟨k,1,none⟩=some v1∧W.cell? ⟨k,2,none⟩=some v2∧Did K w σ W:=by
 subst hW;have hp:=ae2 h1 v0 v1 v2;exact ⟨by rw [aj hp];rfl,by rw [aj hp];rfl,by rw [aj hp];rfl,((hD.own hk _ _).own hk _ _).own hk _ _⟩
theorem X9 {w:World}{g:Nat}{x0 x1 x2:Value}{T:TypeId}(h:w.heap[g]? =some (.cells #[x0,x1,x2] T (0,0))):
 w.cell? ⟨g,0,none⟩=some x0∧w.cell? ⟨g,1,none⟩=some x1∧w.cell? ⟨g,2,none⟩=some x2∧w.frozen? ⟨g,0,none⟩=false∧w.frozen? ⟨g,1,none⟩=false∧w.frozen? ⟨g,2,none⟩=false:=
 ⟨by rw [aj h];rfl,by rw [aj h];rfl,by rw [aj h];rfl,ak h 0,ak h 1,ak h 2⟩
theorem UQ {K:PK}{w:World}{σ:Ps}(h:PQ K w σ) (k:Int) {t:Tk}(hx:K.X.next σ k=some t):
 Calls prog 274 #[.pointer (some ⟨K.b,0,none⟩), .int .i64 k] w fun e w' =>e= .returned (.tuple #[.agg #[.int .i64 t.kind, .string t.s, .int .i64 t.n, .int .i64 t.at_], .bool true])∧Below w.heap.size w w' :=
 Ip h k t true (by rw [hx];rfl) (by rw [hx];rfl)
theorem UR {K:PK}{w:World}{σ:Ps}(h:PQ K w σ) (k:Int) (hx:K.X.next σ k=none):
 Calls prog 274 #[.pointer (some ⟨K.b,0,none⟩), .int .i64 k] w fun e w' =>e= .returned (.tuple #[.agg #[.int .i64 0, .string ⟨#[]⟩, .int .i64 0, .int .i64 0], .bool false])∧Below w.heap.size w w' :=
 Ip h k tk0 false (by rw [hx];rfl) (by rw [hx];rfl)
theorem mH {w:World}{a:Addr}{v:Value}(h:w.cell? a=some v) (o:Obj):(w.alloc o).cell? a=some v:=
 (((Below.refl w.heap.size w).alloc (Nat.le_refl _) o).cell (eH h)).trans h
theorem AP {W:World}{tm:Array Value}{k:Nat}{v0 v1 v2:Value}(ht:tm[2]? =some (.pointer (some ⟨k,0,none⟩))) (r0:W.cell? ⟨k,0,none⟩=some v0) (r1:W.cell? ⟨k,1,none⟩=some v1) (r2:W.cell? ⟨k,2,none⟩=some v2):
 (results Tryz.f268 tm).run prog W= .ok (.agg #[v0,v1,v2]) W:=by
 simp [results,results268,go_sem,ht,r0,r1,r2]
theorem QT {K:PK}{w:World}{σ:Ps}(h:PQ K w σ):
 Calls prog 268 #[.pointer (some ⟨K.b,0,none⟩)] w (uS K w (tmV (K.X.value σ).1) (K.X.value σ).2):=by
 have hD:=(Did.refl h).alloc (.cells #[.int .i64 0, .string ⟨#[]⟩, .int .i64 0] 41);have hbl:=aB w (.cells #[.int .i64 0, .string ⟨#[]⟩, .int .i64 0] 41);have hne:w.heap.size≠K.b:=by have:=h.lt;omega
 have hT:=K.hT;cases hx:K.X.next σ 3 with
 |some t=>
  obtain ⟨hlt,_⟩:=next_lt (X:=K.X) (σ:=σ) (k:=3) (by rw [hx];rfl);have hov:IntKind.i64.wrap ((σ.i:Int)+1)=(σ.i:Int)+1:=IntWalk.i64_in _ (by omega);have HE:Hid (K.X.value σ=(⟨1,t.s,0⟩,σ.step)):=by show _=_;unfold Tx.value;rw [hx]
  have n3:=UQ hD.1 3 hx;go_enter func268,ntmps268;go_wp2_with fail;refine n3.mono ?_;rintro e w1 ⟨rfl,hb⟩;have Fb:=bf hbl hb (by simp);have DU:=ay Fb (.cells #[.int .i64 t.kind, .string t.s, .int .i64 t.n, .int .i64 t.at_] 276);replace hD:=hD.below hb;have hs1:w.heap.size<w1.heap.size:=by have:=hb.size;simp at this;omega
  have hs2:=hD.1.lt;have hne1:w1.heap.size≠K.b:=by omega
  have hne2:w1.heap.size≠w.heap.size:=by omega
  obtain ⟨_,_,c0,c1,_,_,f1,_,_⟩:=hD.1.cells;obtain ⟨t0,t1,t2,u0,u1,u2⟩:=X9 Fb;go_wp2_with fail;obtain ⟨r0,r1,r2,hD2⟩:=aay (bg Fb _ _ (by show w.heap.size≠K.b;exact hne)) hD.step (Nat.le_refl _) (.int .i64 1) (.string t.s) (.int .i64 0) _ rfl;refine bodyPost_ret (AP rfl (mH r0 _) (mH r1 _) (mH r2 _)) rfl ?_;rw [HE.out];exact ⟨rfl,hD2.alloc _⟩
 |none=>
  have n3:=UR hD.1 3 hx;cases hy:K.X.next σ 2 with
  |some t=>
   obtain ⟨hlt,_⟩:=next_lt (X:=K.X) (σ:=σ) (k:=2) (by rw [hy];rfl);have hov:IntKind.i64.wrap ((σ.i:Int)+1)=(σ.i:Int)+1:=IntWalk.i64_in _ (by omega);have HE:Hid (K.X.value σ=(⟨2,⟨#[]⟩,t.n⟩,σ.step)):=by show _=_;unfold Tx.value;rw [hx,hy]
   have n2:=fun w h=>UQ (K:=K) (w:=w) (σ:=σ) h 2 hy
   go_enter func268,ntmps268;go_wp2_with fail;refine n3.mono ?_;rintro e w1 ⟨rfl,hb⟩;have DU:=ay (bf hbl hb (by simp)) (.cells #[.int .i64 0, .string ⟨#[]⟩, .int .i64 0, .int .i64 0] 276);replace hD:=(hD.below hb).alloc (.cells #[.int .i64 0, .string ⟨#[]⟩, .int .i64 0, .int .i64 0] 276);have hs1:w.heap.size<w1.heap.size:=by have:=hb.size;simp at this;omega
   have nn:=n2 _ hD.1;go_wp2_with fail;refine nn.mono ?_;rintro e w3 ⟨rfl,hb3⟩;have hs3:w1.heap.size<w3.heap.size:=by have:=hb3.size;simp at this;omega
   have Fb:=bf DU hb3 (by simp;omega);replace DU:=ay Fb (.cells #[.int .i64 t.kind, .string t.s, .int .i64 t.n, .int .i64 t.at_] 276);replace hD:=hD.below hb3;have hs2:=hD.1.lt;have hs4:w.heap.size<w3.heap.size:=by omega
   have hne1:w3.heap.size≠K.b:=by omega
   have hne2:w3.heap.size≠w.heap.size:=by omega
   obtain ⟨_,_,c0,c1,_,_,f1,_,_⟩:=hD.1.cells;obtain ⟨t0,t1,t2,u0,u1,u2⟩:=X9 Fb;go_wp2_with fail;obtain ⟨r0,r1,r2,hD2⟩:=aay (bg Fb _ _ (by show w.heap.size≠K.b;exact hne)) hD.step (Nat.le_refl _) (.int .i64 2) (.string ⟨#[]⟩) (.int .i64 t.n) _ rfl;refine bodyPost_ret (AP rfl (mH r0 _) (mH r1 _) (mH r2 _)) rfl ?_;rw [HE.out];exact ⟨rfl,hD2.alloc _⟩
  |none=>
   have HE:Hid (K.X.value σ=(Tm.zero,K.X.fail σ)):=by show _=_;unfold Tx.value;rw [hx,hy]
   have n2:=fun w h=>UR (K:=K) (w:=w) (σ:=σ) h 2 hy
   go_enter func268,ntmps268;go_wp2_with fail;refine n3.mono ?_;rintro e w1 ⟨rfl,hb⟩;have DU:=ay (bf hbl hb (by simp)) (.cells #[.int .i64 0, .string ⟨#[]⟩, .int .i64 0, .int .i64 0] 276);replace hD:=(hD.below hb).alloc (.cells #[.int .i64 0, .string ⟨#[]⟩, .int .i64 0, .int .i64 0] 276);have hs1:w.heap.size<w1.heap.size:=by have:=hb.size;simp at this;omega
   have nn:=n2 _ hD.1;go_wp2_with fail;refine nn.mono ?_;rintro e w3 ⟨rfl,hb3⟩;replace DU:=ay (bf DU hb3 (by simp;omega)) (.cells #[.int .i64 0, .string ⟨#[]⟩, .int .i64 0, .int .i64 0] 276);replace hD:=(hD.below hb3).alloc (.cells #[.int .i64 0, .string ⟨#[]⟩, .int .i64 0, .int .i64 0] 276);have ha:=iQ hD.1;go_wp2_with fail;refine ha.mono ?_;rintro e w4 ⟨rfl,m,rfl⟩;have hd2:=hD.drewN m;have hw:=gM hd2.1 (K.X.here σ);go_wp2_with fail;refine hw.mono ?_;rintro e w5 ⟨rfl,hd3⟩;have Ya:=hd3.blk DU h.le;replace hD:=hd2.trans hd3;obtain ⟨t0,t1,t2,u0,u1,u2⟩:=X9 Ya;go_wp2_with fail;obtain ⟨r0,r1,r2,hD2⟩:=aay Ya hD (Nat.le_refl _) (.int .i64 0) (.string ⟨#[]⟩) (.int .i64 0) _ rfl;refine bodyPost_ret (AP rfl r0 r1 r2) rfl ?_;rw [HE.out];exact ⟨rfl,hD2⟩
theorem za {K:PK}{w:World}{σ:Ps}(h:PQ K w σ) {t:Tm}{σ' :Ps}(hv:K.X.value σ=(t,σ')):
 Calls prog 268 #[.pointer (some ⟨K.b,0,none⟩)] w (uS K w (.agg #[.int .i64 t.ty, .string t.s, .int .i64 t.n]) σ'):=by
 have:=QT h;rw [hv]at this;exact this
theorem mI {K:PK}{w:World}{σ:Ps}(h:PQ K w σ):
 Calls prog 273 #[.pointer (some ⟨K.b,0,none⟩)] w (uS K w (.int .i64 (K.X.count σ).1) (K.X.count σ).2):=by
 have hD:=Did.refl h;have ha:=iQ h;obtain ⟨⟨t,σ'⟩,hv⟩:∃r,K.X.value σ=r:=⟨_,rfl⟩;have hval:=fun w h=>za (K:=K) (w:=w) h hv
 have HE:Hid (K.X.count σ=(t.n,if t.ty≠2∨t.n<1∨1099511627776<t.n then σ'.wrong (K.X.here σ)else σ')):=by show _=_;unfold Tx.count;rw [hv]
 generalize K.X.here σ=OW at *;by_cases hbad:t.ty≠2∨t.n<1∨1099511627776<t.n
 · have hq:((t.ty !=2)=true)∨((t.ty !=2)=false∧t.n<1)∨((t.ty !=2)=false∧¬t.n<1∧1099511627776<t.n):=by
    by_cases h1:t.ty=2
    · have h2:(t.ty !=2)=false:=by rw [h1];rfl
      rcases hbad with h|h|h
      · exact absurd h1 h
      · exact .inr (.inl ⟨h2,h⟩)
      · exact .inr (.inr ⟨h2,by omega,h⟩)
    · exact .inl (bne_iff_ne.2 h1)
   have HE2:Hid (K.X.count σ=(t.n,σ'.wrong OW)):=by show _=_;rw [HE.out,if_pos hbad]
   clear hbad HE;rcases hq with q1|⟨q1,q2⟩|⟨q1,q2,q3⟩
   all_goals
    go_enter func273,ntmps273;go_wp2_with fail;refine ha.mono ?_;rintro e w1 ⟨rfl,m,rfl⟩;replace hD:=hD.drewN m;have hv2:=hval _ hD.1;go_wp2_with fail;refine hv2.mono ?_;rintro e w2 ⟨rfl,hd2⟩;replace hD:=(hD.trans hd2).alloc (.cells #[.int .i64 t.ty, .string t.s, .int .i64 t.n] 41);have hbl:=aB w2 (.cells #[.int .i64 t.ty, .string t.s, .int .i64 t.n] 41);have hw:=gM hD.1 OW;go_wp2_with fail;refine hw.mono ?_;rintro e w3 ⟨rfl,hd3⟩;obtain ⟨t0,t1,t2,_,_,_⟩:=X9 (hd3.blk hbl hd2.1.le);go_wp2_with fail;go_ret;rw [HE2.out];exact ⟨rfl,hD.trans hd3⟩
 · have q1:(t.ty !=2)=false:=by have:t.ty=2:=by omega
                                rw [this];rfl
   have q2:¬t.n<1:=by omega
   have q3:¬1099511627776<t.n:=by omega
   have HE2:Hid (K.X.count σ=(t.n,σ')):=by show _=_;rw [HE.out,if_neg hbad]
   clear hbad HE;go_enter func273,ntmps273;go_wp2_with fail;refine ha.mono ?_;rintro e w1 ⟨rfl,m,rfl⟩;replace hD:=hD.drewN m;have hv2:=hval _ hD.1;go_wp2_with fail;refine hv2.mono ?_;rintro e w2 ⟨rfl,hd2⟩;replace hD:=(hD.trans hd2).alloc (.cells #[.int .i64 t.ty, .string t.s, .int .i64 t.n] 41);go_wp2_with fail;go_ret;rw [HE2.out];exact ⟨rfl,hD⟩
def Else (K:PK) (w w' :World) (v v' :Value):Prop:=(∀k o,K.L≤k→v.ownBlock≠some k→w.heap[k]? =some o→w'.heap[k]? =some o)∧(∀g,v'.ownBlock=some g→v.ownBlock=some g∨w.heap.size≤g)
section
variable {K:PK}{w0 w w1 w' :World}{σ σ' :Ps}{v v' u:Value}
theorem Did.grown (h:Did K w0 σ w) {r:Option Nat}(hg:w.grownBy w' r) (hr:∀g,r=some g→w0.heap.size≤g):Did K w0 σ w' :=by
 have hK:=h.2.2;have hL:=K.hL;have hs:=h.2.1.size;have hw:=K.hb;refine ⟨h.1.keep hg.size (fun k hk=>hg.block k (by have:=h.1.le;omega) (fun e=>by have:=hr k e.symm;omega)) (h.1.2.1.trans ⟨hg.os,hg.tape,hg.output,hg.size,fun i hi=>hg.block i (by have:=h.1.lt;omega) (fun e=>by have:=hr i e.symm;omega)⟩), ?_,hK⟩;exact ⟨hg.os.trans h.2.1.os,hg.tape.trans h.2.1.tape,hg.output.trans h.2.1.output,Nat.le_trans hs hg.size,fun i hi hne=>(hg.block i (by omega) (fun e=>by have:=hr i e.symm;omega)).trans (h.2.1.block i hi hne)⟩
theorem Else.of (hd:Did K w σ w1) (hg:w1.grownBy w' v.ownBlock) (hn:MK w1 v v'):Else K w w' v v' :=
 ⟨fun k o hk hv hb=>by
  have:=hd.blk hb hk;rw [hg.block k (aG this) (fun e=>hv e.symm)];exact this,
  fun g hv=>(hn g hv).imp_right (fun h=>Nat.le_trans hd.2.1.size h)⟩
theorem Else.row (h:Else K w w' v v') (ha:Apart v u) {base:Nat}{e:TypeId}{size n:Nat}{xs:List Value}(hu:w.ownsRow base e size u n xs) (hb:K.L≤base):w'.ownsRow base e size u n xs:=by
 obtain ⟨h1,h2⟩:=hu;refine ⟨h1, ?_⟩;rcases h2 with h2|⟨g,cap,cur,a,b,c,d⟩
 · exact .inl h2
 · refine .inr ⟨g,cap,cur,a,b,h.1 g _ (by omega) (fun e=>ha g e (by rw [a];rfl)) c,d⟩
theorem Else.apart (h:Else K w w' v v') (ha:Apart v u) {base:Nat}{e:TypeId}{size n:Nat}{xs:List Value}(hu:w.ownsRow base e size u n xs):Apart v' u:=by
 intro g hv hg;rcases h.2 g hv with h1|h1
 · exact ha g h1 hg
 · have:=(hu.lt g hg).2;omega
end
theorem sK {w:World}{base:Nat}{v:Value}{l:List ByteArray}(hown:w.ownsRow base 9 1 v l.length (l.map Value.string)) (hl:l.length≤100000) (x:ByteArray):
 Calls prog 59 #[v, .string x] w fun e w' =>e= .returned (.bool (lu x l))∧w' =w:=by
 obtain ⟨a,cap,rfl,hr⟩:=aN hown;by_cases h0:0<l.length
 · obtain ⟨g,rfl,_,_,hc⟩:=hr h0
   have:=Tryz.slices_Contains_string g 0 l.length cap l x w (Nat.le_refl _) (by omega) (fun j hj=>by
    rw [Nat.zero_add,List.getD_eq_getElem?_getD,List.getElem?_eq_getElem hj];exact hc j _ (by rw [List.getElem?_map,List.getElem?_eq_getElem hj];rfl))
   rw [List.take_length,mX]at this;exact this
 · have hl0:l= []:=List.eq_nil_of_length_eq_zero (by omega);subst hl0;exact Tryz.slices_Contains_string_empty a cap x w
theorem sM {K:PK}{w0 w:World}{σ:Ps}(hD:Did K w0 σ w) (base:Nat) (hb0:w0.heap.size≤base) (hb1:base≤w.heap.size) (v:Value) (l:List ByteArray) (most:Nat) (hown:w.ownsRow base 9 1 v l.length (l.map Value.string)) (hl:l.length≤100000) (_hm:most≤100):
 Calls prog 270 #[.pointer (some ⟨K.b,0,none⟩),v, .int .i64 most] w fun e w' =>
  ∃a' c',e= .returned (.slice a' (l.length+1) c')∧Did K w0 (K.X.column σ l most).2 w' ∧w'.ownsRow base 9 1 (.slice a' (l.length+1) c') (l.length+1) ((K.X.column σ l most).1.map Value.string)∧Else K w w' v (.slice a' (l.length+1) c'):=by
 have ha:=iQ hD.1
 have HE:Hid (∀σ1 x σ2 (b:Bool),(if most≤l.length then σ.wrong (K.X.here σ)else σ)=σ1→K.X.name σ1=(x,σ2)→lu x l=b→K.X.column σ l most=(l++ [x],if b then σ2.wrong (K.X.here σ)else σ2)):=by
  show∀σ1 x σ2 b,_;intro σ1 x σ2 b h1 h2 h3;unfold Tx.column;simp only [h1,h2,h3]
 obtain ⟨a0,cap0,rfl,_⟩:=aN hown;have hbK:K.L≤base:=Nat.le_trans hD.2.2 hb0;obtain ⟨OW,AQ⟩:∃x,K.X.here σ=x:=⟨_,rfl⟩;rw [AQ]at ha HE;clear AQ
 have hfin:Hid (∀(w3:World) (x:ByteArray) (σ3:Ps),Did K w σ3 w3→∀a' c' w',w'.ownsRow base 9 1 (.slice a' (l.length+1) c') (l.length+1) (l.map Value.string++ [.string x])→(w3.alloc (.cells #[.string x] 9)).grownBy w' (Value.slice a0 l.length cap0).ownBlock→MK (w3.alloc (.cells #[.string x] 9)) (.slice a0 l.length cap0) (.slice a' (l.length+1) c')→
  Did K w0 σ3 w' ∧Else K w w' (.slice a0 l.length cap0) (.slice a' (l.length+1) c')):=by
  show∀(w3:World) (x:ByteArray) (σ3:Ps),_;intro w3 x σ3 hd a' c' w' _ hg hn;have hd2:=hd.alloc (.cells #[.string x] 9);exact ⟨(hD.trans hd2).grown hg (fun g hg2=>Nat.le_trans hb0 (hown.lt g hg2).1),Else.of hd2 hg hn⟩
 have hD1:=Did.refl hD.1;have HD0:Hid (K.L≤base):=hbK;by_cases Zo:most≤l.length
 · have q0:(most:Int)≤(l.length:Int):=by omega
   obtain ⟨⟨x,σ2⟩,hx⟩:∃r,K.X.name (σ.wrong OW)=r:=⟨_,rfl⟩;cases hc:lu x l
   all_goals
    have HE2:=HE.out _ x σ2 _ (if_pos Zo) hx hc;go_enter func270,ntmps270;go_wp2_with fail;refine ha.mono ?_;rintro e w1 ⟨rfl,m,rfl⟩;replace hD1:=hD1.drewN m;have hw:=gM hD1.1 OW;go_wp2_with fail;refine hw.mono ?_;rintro e w2 ⟨rfl,hd2⟩;replace hD1:=hD1.trans hd2;have hnm:=dS hD1.1;rw [hx]at hnm;go_wp2_with fail;refine hnm.mono ?_;rintro e w3 ⟨rfl,hd3⟩;replace hD1:=hD1.trans hd3;have hcon:=sK (hD1.row hown HD0.out) hl x;rw [hc]at hcon;go_wp2_with fail;refine hcon.mono ?_;rintro e w4 ⟨rfl,rfl⟩
   · have hown3:=hD1.row hown HD0.out;have hs3:=hD1.size;have F:=hfin.out _ x _ hD1;go_wp2_with (at_builtin;refine app1 Tryz.tY rfl _ _ rfl base _ _ _ rfl (hown3.alloc _) _ _ [.string x] rfl rfl (bA _ _ _) (by intro u hu;rw [List.mem_singleton.1 hu];rfl) (by omega) (by simp;omega) ?_;intro a' c' w5 h5 hg hn);go_ret;rw [HE2];have F2:=F a' c' w5 h5 hg hn;exact ⟨a',c',rfl,F2.1,by rw [List.map_append];exact h5,F2.2⟩
   · have hw2:=gM hD1.1 OW;go_wp2_with fail;refine hw2.mono ?_;rintro e w4 ⟨rfl,hd4⟩;replace hD1:=hD1.trans hd4;have hown3:=hD1.row hown HD0.out;have hs3:=hD1.size;have F:=hfin.out _ x _ hD1;go_wp2_with (at_builtin;refine app1 Tryz.tY rfl _ _ rfl base _ _ _ rfl (hown3.alloc _) _ _ [.string x] rfl rfl (bA _ _ _) (by intro u hu;rw [List.mem_singleton.1 hu];rfl) (by omega) (by simp;omega) ?_;intro a' c' w5 h5 hg hn);go_ret;rw [HE2];have F2:=F a' c' w5 h5 hg hn;exact ⟨a',c',rfl,F2.1,by rw [List.map_append];exact h5,F2.2⟩
 · have q0:¬(most:Int)≤(l.length:Int):=by omega
   obtain ⟨⟨x,σ2⟩,hx⟩:∃r,K.X.name σ=r:=⟨_,rfl⟩;cases hc:lu x l
   all_goals
    have HE2:=HE.out _ x σ2 _ (if_neg Zo) hx hc;go_enter func270,ntmps270;go_wp2_with fail;refine ha.mono ?_;rintro e w1 ⟨rfl,m,rfl⟩;replace hD1:=hD1.drewN m;have hnm:=dS hD1.1;rw [hx]at hnm;go_wp2_with fail;refine hnm.mono ?_;rintro e w3 ⟨rfl,hd3⟩;replace hD1:=hD1.trans hd3;have hcon:=sK (hD1.row hown HD0.out) hl x;rw [hc]at hcon;go_wp2_with fail;refine hcon.mono ?_;rintro e w4 ⟨rfl,rfl⟩
   · have hown3:=hD1.row hown HD0.out;have hs3:=hD1.size;have F:=hfin.out _ x _ hD1;go_wp2_with (at_builtin;refine app1 Tryz.tY rfl _ _ rfl base _ _ _ rfl (hown3.alloc _) _ _ [.string x] rfl rfl (bA _ _ _) (by intro u hu;rw [List.mem_singleton.1 hu];rfl) (by omega) (by simp;omega) ?_;intro a' c' w5 h5 hg hn);go_ret;rw [HE2];have F2:=F a' c' w5 h5 hg hn;exact ⟨a',c',rfl,F2.1,by rw [List.map_append];exact h5,F2.2⟩
   · have hw2:=gM hD1.1 OW;go_wp2_with fail;refine hw2.mono ?_;rintro e w4 ⟨rfl,hd4⟩;replace hD1:=hD1.trans hd4;have hown3:=hD1.row hown HD0.out;have hs3:=hD1.size;have F:=hfin.out _ x _ hD1;go_wp2_with (at_builtin;refine app1 Tryz.tY rfl _ _ rfl base _ _ _ rfl (hown3.alloc _) _ _ [.string x] rfl rfl (bA _ _ _) (by intro u hu;rw [List.mem_singleton.1 hu];rfl) (by omega) (by simp;omega) ?_;intro a' c' w5 h5 hg hn);go_ret;rw [HE2];have F2:=F a' c' w5 h5 hg hn;exact ⟨a',c',rfl,F2.1,by rw [List.map_append];exact h5,F2.2⟩
theorem oq (σ:Ps) (a:Nat):(σ.wrong a).i=σ.i:=by unfold Ps.wrong;split<;>rfl
theorem aaz (X:Tx) (σ:Ps):σ.i≤(X.name σ).2.i:=by
 unfold Tx.name;split
 · split
   · show σ.i≤(σ.wrong _).i;rw [oq];exact Nat.le_refl _
   · show σ.i≤σ.i+1;omega
 · show σ.i≤(σ.wrong _).i;rw [oq];exact Nat.le_refl _
theorem DV (X:Tx) (σ:Ps) (l:List ByteArray) (most:Nat):σ.i≤(X.column σ l most).2.i:=by
 unfold Tx.column;have h1:∀(b:Bool) (τ:Ps) (a:Nat),(if b=true then τ.wrong a else τ).i=τ.i:=by intro b τ a;cases b<;>simp [oq]
 simp only [h1];refine Nat.le_trans (Nat.le_of_eq ?_) (aaz X _);split
 · rw [oq]
 · rfl
theorem sN (X:Tx) (σ:Ps) (l:List ByteArray) (most:Nat):(X.column σ l most).1.length=l.length+1:=by
 unfold Tx.column;simp
def UU (K:PK) (w:World):Nat:=match w.cell? ⟨K.b,1,none⟩with|some (.int _ i)=>i.toNat|_=>0
theorem xG {K:PK}{w:World}{σ:Ps}(h:PQ K w σ):UU K w=σ.i:=by
 obtain ⟨_,_,_,c1,_⟩:=h.cells;unfold UU;rw [c1];simp
theorem uT {K:PK}{w:World}{σ:Ps}(h:PQ K w σ) (most:Nat) (hm:most≤100):
 Calls prog 267 #[.pointer (some ⟨K.b,0,none⟩), .int .i64 most] w fun e w' =>
  ∃a' c',e= .returned (.slice a' (K.X.columns σ most).1.length c')∧Did K w (K.X.columns σ most).2 w' ∧w'.ownsRow w.heap.size 9 1 (.slice a' (K.X.columns σ most).1.length c') (K.X.columns σ most).1.length ((K.X.columns σ most).1.map Value.string):=by
 have hT:=K.hT;have hc0:=sM (Did.refl h) w.heap.size (Nat.le_refl _) (Nat.le_refl _) (.slice none 0 0) [] most (World.ownsRow_nil _ _ _ _) (by simp) hm;have hi0:=DV K.X σ [] most;have hl0:=sN K.X σ [] most;have HF:Hid (K.X.columns σ most=K.X.dH most K.X.T.length (K.X.column σ [] most).2 (K.X.column σ [] most).1):=rfl;obtain ⟨⟨l0,ZV⟩,hx⟩:∃r,K.X.column σ [] most=r:=⟨_,rfl⟩;rw [hx]at hc0 hi0 hl0 HF;replace hl0:l0.length=1:=hl0;clear hx hi0;obtain ⟨R,hR⟩:∃R,K.X.columns σ most=R:=⟨_,rfl⟩;rw [hR]at HF⊢;clear hR;go_enter func267,ntmps267;go_wp2_with fail;refine hc0.mono ?_;rintro e w1 ⟨a1,c1,rfl,hD,hown,_⟩;clear hc0;go_wp2_with fail
 go_loopw [5] (fun v wr=>∃(l:List ByteArray) (a:Option Addr) (c:Nat) (σ2:Ps) (n:Nat),v= .slice a l.length c∧Did K w σ2 wr∧wr.ownsRow w.heap.size 9 1 (.slice a l.length c) l.length (l.map Value.string)∧Hid (R=K.X.dH most n σ2 l)∧K.X.T.length - σ2.i≤n∧l.length+n≤K.X.T.length+1) (fun _ wr=>K.X.T.length - UU K wr)
 case atStart=>
  refine ⟨l0,a1,c1,ZV,K.X.T.length, ?_,hD, ?_,HF.out,by omega,by omega⟩
  · rw [hl0]
  · have:=hown;rw [hl0];exact this
 case round=>
  clear hD hown HF;obtain ⟨l,a,c,σ2,n,rfl,hD,hown,HR,hn,hln⟩:=hrel;have hmay:=aS hD.1 (⟨#[44]⟩:ah);have hpI:=xG hD.1;have hsz:=hD.size;cases hs:K.X.sees σ2 (⟨#[44]⟩:ah)with
  |false=>
   unfold Tx.may at hmay;rw [hs]at hmay
   have HR2:Hid (R=(l,σ2)):=by
    show _=_;rw [HR.out];cases n with
    |zero=>rfl
    |succ n=>unfold Tx.dH;rw [hs];rfl
   go_wp2_with fail;refine hmay.mono ?_;rintro e w2 ⟨rfl,hd2⟩;go_wp2_with fail;go_ret;rw [HR2.out];exact ⟨a,c,rfl,hD.trans hd2,hd2.row hown hD.2.2⟩
  |true=>
   obtain ⟨hlt,_⟩:=sJ hs;unfold Tx.may at hmay;rw [hs]at hmay;obtain ⟨n,rfl⟩:∃m,n=m+1:=⟨n - 1,by omega⟩;have hst:σ2.step.i=σ2.i+1:=rfl;have hi:=DV K.X σ2.step l most;have hle:=sN K.X σ2.step l most
   have HR2:Hid (R=K.X.dH most n (K.X.column σ2.step l most).2 (K.X.column σ2.step l most).1):=by
    show _=_;rw [HR.out,Tx.dH,hs];rfl
   go_wp2_with fail;refine hmay.mono ?_;rintro e w2 ⟨rfl,hd2⟩;have hD2:Did K w σ2.step w2:=hD.trans hd2;have hc:=sM hD2 w.heap.size (Nat.le_refl _) hD2.size _ l most (hd2.row hown hD.2.2) (by omega) hm;obtain ⟨⟨l3,σ3⟩,hx⟩:∃r,K.X.column σ2.step l most=r:=⟨_,rfl⟩;rw [hx]at hc hi hle HR2;replace hi:σ2.step.i≤σ3.i:=hi;replace hle:l3.length=l.length+1:=hle;clear hx HR hown hD;go_wp2_with fail;refine hc.mono ?_;rintro e w3 ⟨a3,c3,rfl,hD3,hown3,_⟩;have ae4:=xG hD3.1;go_wp2_with fail;go_roundw
   case rel=>
    refine ⟨l3,a3,c3,σ3,n,by rw [hle],hD3, ?_,HR2.out,by omega,by omega⟩;rw [hle];exact hown3
   case measure=>rw [hpI,ae4];omega
theorem DW {K:PK}{w:World}{σ:Ps}(h:PQ K w σ):
 Calls prog 272 #[.pointer (some ⟨K.b,0,none⟩)] w fun e w' =>
  ∃a' c',e= .returned (.slice a' (K.X.some_ σ).1.length c')∧Did K w (K.X.some_ σ).2 w' ∧w'.ownsRow w.heap.size 9 1 (.slice a' (K.X.some_ σ).1.length c') (K.X.some_ σ).1.length ((K.X.some_ σ).1.map Value.string):=by
 have hmay:=aS h (⟨#[42]⟩:ah);unfold Tx.may at hmay;unfold Tx.some_;cases hs:K.X.sees σ (⟨#[42]⟩:ah)with
 |true=>
  rw [hs]at hmay;go_enter func272,ntmps272;go_wp2_with fail;refine hmay.mono ?_;rintro e w2 ⟨rfl,hd2⟩;go_wp2_with fail;go_ret;exact ⟨none,0,rfl,hd2,World.ownsRow_nil _ _ _ _⟩
 |false=>
  rw [hs]at hmay;go_enter func272,ntmps272;go_wp2_with fail;refine hmay.mono ?_;rintro e w2 ⟨rfl,hd2⟩;replace hd2:Did K w σ w2:=hd2;have hc:=uT hd2.1 8 (by omega);go_wp2_with fail;refine hc.mono ?_;rintro e w3 ⟨a3,c3,rfl,hd3,hown3⟩;go_wp2_with fail;go_ret;exact ⟨a3,c3,rfl,hd2.trans hd3,bH hown3 hd2.size⟩
theorem Yb {K:PK}{w:World}{σ:Ps}(h:PQ K w σ) {base:Nat}{v:Value}{l:List ByteArray}(hown:w.ownsRow base 9 1 v l.length (l.map Value.string)) (hb:K.L≤base) (hl:l.length≤100000) (but:ByteArray):
 Calls prog 276 #[.pointer (some ⟨K.b,0,none⟩),v, .string but] w (uS K w (.string (K.X.one σ l but).1) (K.X.one σ l but).2):=by
 have hD:=Did.refl h;have ha:=iQ h;obtain ⟨a0,cap0,rfl,_⟩:=aN hown;obtain ⟨⟨x,σ2⟩,hx⟩:∃r,K.X.name σ=r:=⟨_,rfl⟩;have HE:Hid (K.X.one σ l but=(x,if !lu x l||fB x but then σ2.wrong (K.X.here σ)else σ2)):=by show _=_;unfold Tx.one;simp only [hx]
 generalize K.X.here σ=OW at *;have e1:=bU x but;cases hc:lu x l<;>cases hq:fB x but
 all_goals
  rw [hc,hq]at HE;rw [hq]at e1;go_enter func276,ntmps276;go_wp2_with fail;refine ha.mono ?_;rintro e w1 ⟨rfl,m,rfl⟩;replace hD:=hD.drewN m;have hnm:=dS hD.1;rw [hx]at hnm;go_wp2_with fail;refine hnm.mono ?_;rintro e w3 ⟨rfl,hd3⟩;replace hD:=hD.trans hd3;have hcon:=sK (hD.row hown hb) hl x;rw [hc]at hcon;go_wp2_with fail;refine hcon.mono ?_;rintro e w4 ⟨rfl,rfl⟩;have hw2:=gM hD.1 OW;go_wp2_with fail
  first
   |(refine hw2.mono ?_;rintro e w5 ⟨rfl,hd5⟩
     go_wp2_with fail;go_ret;rw [HE.out];exact ⟨rfl,hD.trans hd5⟩)
   |(go_ret
     rw [HE.out];exact ⟨rfl,hD⟩)
theorem bS {K:PK}{w:World}{σ:Ps}(h:PQ K w σ) (s:ByteArray):
 Calls prog 266 #[.pointer (some ⟨K.b,0,none⟩), .slice (some ⟨w.heap.size,0,none⟩) 1 1] (w.alloc (.cells #[.string s] 9)) (uS K w (.tuple #[]) (K.X.must σ [s])):=yY h [s] (by simp)
theorem KF {K:PK}{w:World}{σ:Ps}(h:PQ K w σ) (s t:ByteArray):
 Calls prog 266 #[.pointer (some ⟨K.b,0,none⟩), .slice (some ⟨w.heap.size,0,none⟩) 2 2] (w.alloc (.cells #[.string s, .string t] 9)) (uS K w (.tuple #[]) (K.X.must σ [s,t])):=yY h [s,t] (by simp)
theorem acM {K:PK}{w:World}{σ:Ps}(h:PQ K w σ) (s t u:ByteArray):
 Calls prog 266 #[.pointer (some ⟨K.b,0,none⟩), .slice (some ⟨w.heap.size,0,none⟩) 3 3] (w.alloc (.cells #[.string s, .string t, .string u] 9)) (uS K w (.tuple #[]) (K.X.must σ [s,t,u])):=yY h [s,t,u] (by simp)
theorem acN {K:PK}{w:World}{σ:Ps}(h:PQ K w σ) (s t u x y z:ByteArray):
 Calls prog 266 #[.pointer (some ⟨K.b,0,none⟩), .slice (some ⟨w.heap.size,0,none⟩) 6 6] (w.alloc (.cells #[.string s, .string t, .string u, .string x, .string y, .string z] 9)) (uS K w (.tuple #[]) (K.X.must σ [s,t,u,x,y,z])):=yY h [s,t,u,x,y,z] (by simp)
theorem UW {K:PK}{w:World}{σ:Ps}(h:PQ K w σ):
 Calls prog 275 #[.pointer (some ⟨K.b,0,none⟩)] w (uS K w (.int .i64 (K.X.kind σ).1) (K.X.kind σ).2):=by
 have hmay:=aS h (⟨#[116,101,120,116]⟩:ah);unfold Tx.may at hmay;unfold Tx.kind;cases hs:K.X.sees σ (⟨#[116,101,120,116]⟩:ah)with
 |true=>
  rw [hs]at hmay;go_enter func275,ntmps275;go_wp2_with fail;refine hmay.mono ?_;rintro e w2 ⟨rfl,hd2⟩;go_wp2_with fail;go_ret;exact ⟨rfl,hd2⟩
 |false=>
  rw [hs]at hmay;go_enter func275,ntmps275;go_wp2_with fail;refine hmay.mono ?_;rintro e w2 ⟨rfl,hd2⟩;replace hd2:Did K w σ w2:=hd2;go_wp2_with fail;refine (bS hd2.1 _).mono ?_;rintro e w3 ⟨rfl,hd3⟩;go_wp2_with fail;go_ret;exact ⟨rfl,hd2.trans hd3⟩
end Go.Proofs.YtnngbhpeeakfaaaGreatDoor
