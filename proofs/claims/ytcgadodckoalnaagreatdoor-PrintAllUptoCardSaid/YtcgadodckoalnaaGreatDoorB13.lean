/- Parts of a proof. -/
import Derived.Deep.WholeRow
import Derived.Deep.MidRow
import Derived.Test.YtcgadodckoalnaaGreatDoorB12
set_option maxHeartbeats 4000000
set_option maxRecDepth 100000
namespace Go.Proofs.YtcgadodckoalnaaGreatDoor
open Go.Proofs.Tryz
open Go.RowKit
open aN
def kI (p:Pr):List Value:= [.string p.name, .int .i64 p.t.ty, .string p.t.s, .int .i64 p.t.n]
def dI (l:List Pr):List Value:=l.flatMap kI
theorem Tryz.vV:X0 prog 28 62 (.agg #[.string ⟨#[]⟩, .int .i64 0, .string ⟨#[]⟩, .int .i64 0]) 4 48:=DC underlying28 (by kernel_rfl) rfl (by decide)
theorem av (w:World) (o:Obj):(w.alloc o).heap.size=w.heap.size+1:=by simp
theorem sN (w:World) (L:List Value) (T:TypeId) (n size base:Nat) (hl:L.length=n*size) (hn:n≤maxLen) (hb:base≤w.heap.size):(w.alloc (.cells L.toArray T)).ownsRow base T size (.slice (some ⟨w.heap.size,0,none⟩) n n) n L:=by
 refine ⟨hl, .inr ⟨w.heap.size,n,L.toArray,rfl,hb,aA w _,Nat.le_refl _,hn,by simp [hl], ?_⟩⟩;rw [←hl];simp
theorem afu {K:PK}{w w1:World}{σ:Ps}{k:Nat}{x0 x1 x2 x3:Value}{T:TypeId}(h1:w1.heap[k]? =some (.cells #[x0,x1,x2,x3] T (0,0))) (hD:Did K w σ w1) (hk:w.heap.size≤k) (v0 v1 v2 v3:Value) (W:World)
 (hW:W=(((w1.setCell ⟨k,0,none⟩ v0).setCell ⟨k,1,none⟩ v1).setCell ⟨k,2,none⟩ v2).setCell ⟨k,3,none⟩ v3):
 W.cell? ⟨k,0,none⟩=some v0∧W.cell? ⟨k,1,none⟩=some v1∧W.cell? ⟨k,2,none⟩=some v2∧W.cell? ⟨k,3,none⟩=some v3∧Did K w σ W:=by
 subst hW;have hp:=NM h1 v0 v1 v2 v3;exact ⟨by rw [au hp];rfl,by rw [au hp];rfl,by rw [au hp];rfl,by rw [au hp];rfl,(((hD.own hk _ _).own hk _ _).own hk _ _).own hk _ _⟩
theorem Kg {w:World}{g:Nat}{x0 x1 x2 x3:Value}{T:TypeId}(h:w.heap[g]? =some (.cells #[x0,x1,x2,x3] T (0,0))):
 w.cell? ⟨g,0,none⟩=some x0∧w.cell? ⟨g,1,none⟩=some x1∧w.cell? ⟨g,2,none⟩=some x2∧w.cell? ⟨g,3,none⟩=some x3∧w.frozen? ⟨g,0,none⟩=false∧w.frozen? ⟨g,1,none⟩=false∧w.frozen? ⟨g,2,none⟩=false∧w.frozen? ⟨g,3,none⟩=false:=
 ⟨by rw [au h];rfl,by rw [au h];rfl,by rw [au h];rfl,by rw [au h];rfl,aj h 0,aj h 1,aj h 2,aj h 3⟩
theorem UH {W:World}{tm:Array Value}{k:Nat}{v0 v1 v2 v3:Value}(ht:tm[2]? =some (.pointer (some ⟨k,0,none⟩))) (r0:W.cell? ⟨k,0,none⟩=some v0) (r1:W.cell? ⟨k,1,none⟩=some v1) (r2:W.cell? ⟨k,2,none⟩=some v2) (r3:W.cell? ⟨k,3,none⟩=some v3):
 (results Tryz.f144 tm).run prog W= .ok (.agg #[v0,v1,v2,v3]) W:=by
 simp [results,results144,go_sem,ht,r0,r1,r2,r3]
theorem UJ {K:PK}{w:World}{σ:Ps}(h:PQ K w σ):
 Calls prog 144 #[.pointer (some ⟨K.b,0,none⟩)] w (yc K w (.agg (kI (K.X.equal σ).1).toArray) (K.X.equal σ).2):=by
 obtain ⟨⟨x,σ1⟩,hx⟩:∃r,K.X.name σ=r:=⟨_,rfl⟩;obtain ⟨⟨t,σ3⟩,hv⟩:∃r,K.X.value (K.X.must σ1 [(⟨#[61]⟩:ah)])=r:=⟨_,rfl⟩;have HE:Hid (K.X.equal σ=(⟨x,t⟩,σ3)):=by show _=_;unfold Tx.equal;simp only [hx,hv]
 have hD0:=(Did.refl h).alloc (.cells #[.string ⟨#[]⟩, .int .i64 0, .string ⟨#[]⟩, .int .i64 0] 62);have hbl:=aA w (.cells #[.string ⟨#[]⟩, .int .i64 0, .string ⟨#[]⟩, .int .i64 0] 62);have hle:=h.le;have hnm:=gu hD0.1;rw [hx]at hnm;go_enter func144,ntmps144;go_wp2_with fail;refine hnm.mono ?_;rintro e w1 ⟨rfl,hd1⟩;have DI:=hd1.blk hbl hle;have hs1:=hd1.size;simp only [av]at hs1;have hD1:=(hD0.trans hd1).alloc (.cells #[.string x, .int .i64 0, .string ⟨#[]⟩, .int .i64 0] 62);have ada:=aA w1 (.cells #[.string x, .int .i64 0, .string ⟨#[]⟩, .int .i64 0] 62);have adb:=aC DI (.cells #[.string x, .int .i64 0, .string ⟨#[]⟩, .int .i64 0] 62);have hm:=bC hD1.1 (⟨#[61]⟩:ah);simp only [av]at hm;go_wp2_with fail;refine hm.mono ?_;rintro e w2 ⟨rfl,hd2⟩;have ade:=hd2.blk ada (by omega);have adf:=hd2.blk adb hle;have hs2:=hd2.size;simp only [av]at hs2;have hD2:=hD1.trans hd2;have hval:=BX hD2.1 hv;go_wp2_with fail;refine hval.mono ?_;rintro e w3 ⟨rfl,hd3⟩;have adg:=hd3.blk ade (by omega);have X9:=hd3.blk adf hle;have hD3:=hD2.trans hd3;have hne:w.heap.size≠w1.heap.size:=by omega
 obtain ⟨t0,t1,t2,t3,u0,u1,u2,u3⟩:=Kg adg;obtain ⟨y0,y1,y2,y3,z0,z1,z2,z3⟩:=Kg X9;go_wp2_with fail;have hD4:=((hD3.own (k:=w1.heap.size) (by omega) 1 (.int .i64 t.ty)).own (k:=w1.heap.size) (by omega) 2 (.string t.s)).own (k:=w1.heap.size) (by omega) 3 (.int .i64 t.n);have adh:=bN (bN (bN X9 ⟨w1.heap.size,1,none⟩ (.int .i64 t.ty) hne) ⟨w1.heap.size,2,none⟩ (.string t.s) hne) ⟨w1.heap.size,3,none⟩ (.int .i64 t.n) hne;obtain ⟨r0,r1,r2,r3,hD5⟩:=afu adh hD4 (Nat.le_refl _) (.string x) (.int .i64 t.ty) (.string t.s) (.int .i64 t.n) _ rfl;refine bodyPost_ret (UH rfl r0 r1 r2 r3) rfl ?_;rw [HE.out];exact ⟨rfl,hD5⟩
theorem BZ {K:PK}{w:World}{σ:Ps}(h:PQ K w σ) {p:Pr}{σ' :Ps}(hv:K.X.equal σ=(p,σ')):
 Calls prog 144 #[.pointer (some ⟨K.b,0,none⟩)] w (yc K w (.agg #[.string p.name, .int .i64 p.t.ty, .string p.t.s, .int .i64 p.t.n]) σ'):=by
 have:=UJ h;rw [hv]at this;exact this
theorem uL {K:PK}{w:World}{σ:Ps}(h:PQ K w σ) (both:Bool):
 Calls prog 109 #[.pointer (some ⟨K.b,0,none⟩), .bool both] w fun e w' =>
  ∃a' c',e= .returned (.slice a' (K.X.aH σ both).1.length c')∧Did K w (K.X.aH σ both).2 w' ∧w'.ownsRow w.heap.size 62 4 (.slice a' (K.X.aH σ both).1.length c') (K.X.aH σ both).1.length (dI (K.X.aH σ both).1):=by
 have hm0:=bC h (⟨#[119,104,101,114,101]⟩:ah);obtain ⟨σ1,hs1⟩:∃x,K.X.must σ [(⟨#[119,104,101,114,101]⟩:ah)]=x:=⟨_,rfl⟩;obtain ⟨⟨p,σ2⟩,hp⟩:∃r,K.X.equal σ1=r:=⟨_,rfl⟩;have hle:=h.le;rw [hs1]at hm0;cases both with
 |true=>
  obtain ⟨⟨q,σ3⟩,hq⟩:∃r,K.X.equal (K.X.must σ2 [(⟨#[97,110,100]⟩:ah)])=r:=⟨_,rfl⟩;have HE:Hid (K.X.aH σ true=([p,q],σ3)):=by show _=_;unfold Tx.aH;simp only [hs1,hp,hq,if_true]
  go_enter func109,ntmps109;go_wp2_with fail;refine hm0.mono ?_;rintro e w1 ⟨rfl,hd1⟩;have he:=BZ hd1.1 hp;go_wp2_with fail;refine he.mono ?_;rintro e w2 ⟨rfl,hd2⟩;have hD2:=(hd1.trans hd2).alloc (.cells #[.string p.name, .int .i64 p.t.ty, .string p.t.s, .int .i64 p.t.n] 62);have hr2:=sN w2 [.string p.name, .int .i64 p.t.ty, .string p.t.s, .int .i64 p.t.n] 62 1 4 w.heap.size rfl (by decide) (hd1.trans hd2).size;have hm:=bC hD2.1 (⟨#[97,110,100]⟩:ah);simp only [av]at hm;go_wp2_with fail;refine hm.mono ?_;rintro e w3 ⟨rfl,hd3⟩;have hr3:=hd3.row hr2 hle;have hD3:=hD2.trans hd3;have he2:=BZ hD3.1 hq;go_wp2_with fail;refine he2.mono ?_;rintro e w4 ⟨rfl,hd4⟩;have hr4:=hd4.row hr3 hle;have hD4:=hD3.trans hd4;have hs4:=hD4.size;go_wp2_with (at_builtin;refine app1 Tryz.vV rfl _ _ rfl w.heap.size _ _ _ rfl (hr4.alloc _) _ _ [.string q.name, .int .i64 q.t.ty, .string q.t.s, .int .i64 q.t.n] rfl rfl (bg _ _ _) (by intro u hu;simp at hu;rcases hu with rfl|rfl|rfl|rfl<;>rfl) (by omega) (by simp;omega) ?_;intro a' c' w5 h5 hg hn);go_ret;rw [HE.out];exact ⟨a',c',rfl,(hD4.alloc _).grown hg (fun g hg2=>(hr4.lt g hg2).1),h5⟩
 |false=>
  cases hs:K.X.sees σ2 (⟨#[97,110,100]⟩:ah)with
  |true=>
   obtain ⟨⟨q,σ3⟩,hq⟩:∃r,K.X.equal σ2.step=r:=⟨_,rfl⟩;have HE:Hid (K.X.aH σ false=([p,q],σ3)):=by show _=_;unfold Tx.aH;simp only [hs1,hp,hs,hq,if_true,if_neg (show¬(false=true)by decide)]
   go_enter func109,ntmps109;go_wp2_with fail;refine hm0.mono ?_;rintro e w1 ⟨rfl,hd1⟩;have he:=BZ hd1.1 hp;go_wp2_with fail;refine he.mono ?_;rintro e w2 ⟨rfl,hd2⟩;have hD2:=(hd1.trans hd2).alloc (.cells #[.string p.name, .int .i64 p.t.ty, .string p.t.s, .int .i64 p.t.n] 62);have hr2:=sN w2 [.string p.name, .int .i64 p.t.ty, .string p.t.s, .int .i64 p.t.n] 62 1 4 w.heap.size rfl (by decide) (hd1.trans hd2).size;have hm:=aV hD2.1 (⟨#[97,110,100]⟩:ah);unfold Tx.may at hm;rw [hs]at hm;go_wp2_with fail;refine hm.mono ?_;rintro e w3 ⟨rfl,hd3⟩;have hr3:=hd3.row hr2 hle;have hD3:Did K w σ2.step w3:=hD2.trans hd3;have he2:=BZ hD3.1 hq;go_wp2_with fail;refine he2.mono ?_;rintro e w4 ⟨rfl,hd4⟩;have hr4:=hd4.row hr3 hle;have hD4:=hD3.trans hd4;have hs4:=hD4.size;go_wp2_with (at_builtin;refine app1 Tryz.vV rfl _ _ rfl w.heap.size _ _ _ rfl (hr4.alloc _) _ _ [.string q.name, .int .i64 q.t.ty, .string q.t.s, .int .i64 q.t.n] rfl rfl (bg _ _ _) (by intro u hu;simp at hu;rcases hu with rfl|rfl|rfl|rfl<;>rfl) (by omega) (by simp;omega) ?_;intro a' c' w5 h5 hg hn);go_ret;rw [HE.out];exact ⟨a',c',rfl,(hD4.alloc _).grown hg (fun g hg2=>(hr4.lt g hg2).1),h5⟩
  |false=>
   have HE:Hid (K.X.aH σ false=([p],σ2)):=by show _=_;unfold Tx.aH;simp only [hs1,hp,hs,if_neg (show¬(false=true)by decide)]
   go_enter func109,ntmps109;go_wp2_with fail;refine hm0.mono ?_;rintro e w1 ⟨rfl,hd1⟩;have he:=BZ hd1.1 hp;go_wp2_with fail;refine he.mono ?_;rintro e w2 ⟨rfl,hd2⟩;have hD2:=(hd1.trans hd2).alloc (.cells #[.string p.name, .int .i64 p.t.ty, .string p.t.s, .int .i64 p.t.n] 62);have hr2:=sN w2 [.string p.name, .int .i64 p.t.ty, .string p.t.s, .int .i64 p.t.n] 62 1 4 w.heap.size rfl (by decide) (hd1.trans hd2).size;have hm:=aV hD2.1 (⟨#[97,110,100]⟩:ah);unfold Tx.may at hm;rw [hs]at hm;go_wp2_with fail;refine hm.mono ?_;rintro e w3 ⟨rfl,hd3⟩;have hr3:=hd3.row hr2 hle;have hD3:Did K w σ2 w3:=hD2.trans hd3;go_wp2_with fail;go_ret;rw [HE.out];exact ⟨_,_,rfl,hD3,hr3⟩
abbrev aG (x:Sx) (tc c s wv pv:Value):Array Value:= #[.int .i64 x.kind, .string x.name, .string x.bT, .string x.on, .string x.bG, .int .i64 x.tid, .string x.part.name, .int .i64 x.part.ty, .string x.aX.name, .int .i64 x.aX.ty,tc,c,s,wv, .int .i64 x.stamp, .int .i64 x.ttl, .int .i64 x.limit,pv]
abbrev ak:Value:= .slice none 0 0
def mJ (c:Cl):List Value:= [.string c.name, .int .i64 c.ty]
def iO (l:List Cl):List Value:=l.flatMap mJ
def eX (w:World) (base:Nat) (x:Sx) (tc c s wv:Value):Prop:=
 w.ownsRow base 23 2 tc x.aB.length (iO x.aB)∧w.ownsRow base 9 1 c x.aI.length (x.aI.map Value.string)∧w.ownsRow base 62 4 s x.sets.length (dI x.sets)∧w.ownsRow base 62 4 wv x.aH.length (dI x.aH)
def iH (K:PK) (w:World) (T:TypeId) (x:Sx) (σ:Ps):Ending→World→Prop:=fun e w' =>
 ∃tc c s wv,e= .returned (.iface T (.agg (aG x tc c s wv ak)))∧Did K w σ w' ∧eX w' w.heap.size x tc c s wv
theorem ko (w:World) (base:Nat) (x:Sx) (h1:x.aB= []) (h2:x.aI= []) (h3:x.sets= []) (h4:x.aH= []):eX w base x ak ak ak ak:=by
 unfold eX;rw [h1,h2,h3,h4];exact ⟨World.ownsRow_nil _ _ _ _,World.ownsRow_nil _ _ _ _,World.ownsRow_nil _ _ _ _,World.ownsRow_nil _ _ _ _⟩
section
variable {w:World}{b:Nat}{x:Sx}{tc c s wv pv:Value}{T:TypeId}
theorem aK (h:w.heap[b]? =some (.cells (aG x tc c s wv pv) T (0,0))):
 w.cell? ⟨b,0,none⟩=some (.int .i64 x.kind)∧w.cell? ⟨b,1,none⟩=some (.string x.name)∧w.cell? ⟨b,2,none⟩=some (.string x.bT)∧w.cell? ⟨b,3,none⟩=some (.string x.on)∧w.cell? ⟨b,4,none⟩=some (.string x.bG)∧w.cell? ⟨b,5,none⟩=some (.int .i64 x.tid)∧w.cell? ⟨b,6,none⟩=some (.string x.part.name)∧w.cell? ⟨b,7,none⟩=some (.int .i64 x.part.ty)∧w.cell? ⟨b,8,none⟩=some (.string x.aX.name)∧w.cell? ⟨b,9,none⟩=some (.int .i64 x.aX.ty)∧w.cell? ⟨b,10,none⟩=some (tc)∧w.cell? ⟨b,11,none⟩=some (c)∧w.cell? ⟨b,12,none⟩=some (s)∧w.cell? ⟨b,13,none⟩=some (wv)∧w.cell? ⟨b,14,none⟩=some (.int .i64 x.stamp)∧w.cell? ⟨b,15,none⟩=some (.int .i64 x.ttl)∧w.cell? ⟨b,16,none⟩=some (.int .i64 x.limit)∧w.cell? ⟨b,17,none⟩=some (pv):=
 ⟨by rw [au h];rfl,by rw [au h];rfl,by rw [au h];rfl,by rw [au h];rfl,by rw [au h];rfl,by rw [au h];rfl,by rw [au h];rfl,by rw [au h];rfl,by rw [au h];rfl,by rw [au h];rfl,by rw [au h];rfl,by rw [au h];rfl,by rw [au h];rfl,by rw [au h];rfl,by rw [au h];rfl,by rw [au h];rfl,by rw [au h];rfl,by rw [au h];rfl⟩
theorem DJ (h:w.heap[b]? =some (.cells (aG x tc c s wv pv) T (0,0))) (v:ByteArray):(w.setCell ⟨b,2,none⟩ (.string v)).heap[b]? =some (.cells (aG {x with bT:=v} tc c s wv pv) T (0,0)):=by
 rw [dB h 2 _];rfl
theorem Ya (h:w.heap[b]? =some (.cells (aG x tc c s wv pv) T (0,0))) (v:ByteArray):(w.setCell ⟨b,3,none⟩ (.string v)).heap[b]? =some (.cells (aG {x with on:=v} tc c s wv pv) T (0,0)):=by
 rw [dB h 3 _];rfl
theorem Yb (h:w.heap[b]? =some (.cells (aG x tc c s wv pv) T (0,0))) (v:Value):(w.setCell ⟨b,10,none⟩ v).heap[b]? =some (.cells (aG x v c s wv pv) T (0,0)):=by
 rw [dB h 10 _];rfl
theorem NR (h:w.heap[b]? =some (.cells (aG x tc c s wv pv) T (0,0))) (v:Value):(w.setCell ⟨b,11,none⟩ v).heap[b]? =some (.cells (aG x tc v s wv pv) T (0,0)):=by
 rw [dB h 11 _];rfl
theorem uM (h:w.heap[b]? =some (.cells (aG x tc c s wv pv) T (0,0))) (v:Value):(w.setCell ⟨b,12,none⟩ v).heap[b]? =some (.cells (aG x tc c v wv pv) T (0,0)):=by
 rw [dB h 12 _];rfl
theorem uN (h:w.heap[b]? =some (.cells (aG x tc c s wv pv) T (0,0))) (v:Value):(w.setCell ⟨b,13,none⟩ v).heap[b]? =some (.cells (aG x tc c s v pv) T (0,0)):=by
 rw [dB h 13 _];rfl
theorem DK (h:w.heap[b]? =some (.cells (aG x tc c s wv pv) T (0,0))) (v:Int):(w.setCell ⟨b,14,none⟩ (.int .i64 v)).heap[b]? =some (.cells (aG {x with stamp:=v} tc c s wv pv) T (0,0)):=by
 rw [dB h 14 _];rfl
theorem SB (h:w.heap[b]? =some (.cells (aG x tc c s wv pv) T (0,0))) (v:Int):(w.setCell ⟨b,15,none⟩ (.int .i64 v)).heap[b]? =some (.cells (aG {x with ttl:=v} tc c s wv pv) T (0,0)):=by
 rw [dB h 15 _];rfl
theorem UK (h:w.heap[b]? =some (.cells (aG x tc c s wv pv) T (0,0))) (v:Int):(w.setCell ⟨b,16,none⟩ (.int .i64 v)).heap[b]? =some (.cells (aG {x with limit:=v} tc c s wv pv) T (0,0)):=by
 rw [dB h 16 _];rfl
end
def Kept (K:PK) (w w' :World) (bx:Nat):Prop:=∀k o,K.L≤k→k≠bx→w.heap[k]? =some o→w'.heap[k]? =some o
section
variable {K:PK}{w0 w w1 w' :World}{σ σ' :Ps}{bx:Nat}
theorem Kept.refl:Kept K w w bx:=fun _ _ _ _ h=>h
theorem Kept.did (h:Kept K w w1 bx) (hd:Did K w1 σ w'):Kept K w w' bx:=fun k o hk hn hb=>hd.blk (h k o hk hn hb) hk
theorem Kept.set (h:Kept K w w1 bx) (o:Nat) (v:Value):Kept K w (w1.setCell ⟨bx,o,none⟩ v) bx:=fun k o' hk hn hb=>bN (h k o' hk hn hb) _ _ hn
theorem Kept.trans (h:Kept K w w1 bx) (h' :Kept K w1 w' bx):Kept K w w' bx:=fun k o hk hn hb=>h' k o hk hn (h k o hk hn hb)
theorem Kept.row (h:Kept K w w' bx) {base:Nat}{e T:TypeId}{size n:Nat}{u:Value}{xs:List Value}{C:Array Value}{fr:Nat×Nat}(hu:w.ownsRow base e size u n xs) (hb:K.L≤base) (hx:w.heap[bx]? =some (.cells C T fr)) (hne:e≠T):w'.ownsRow base e size u n xs:=by
 obtain ⟨h1,h2⟩:=hu;refine ⟨h1, ?_⟩;rcases h2 with h2|⟨g,cap,cur,a,b,c,d⟩
 · exact .inl h2
 · refine .inr ⟨g,cap,cur,a,b,h g _ (by omega) (fun e2=> ?_) c,d⟩;rw [e2,hx]at c;injection c with c
   injection c with _ c _
   exact hne c.symm
theorem aL {base:Nat}{e T:TypeId}{size n:Nat}{u:Value}{xs:List Value}{C:Array Value}{fr:Nat×Nat}(hu:w.ownsRow base e size u n xs) (hx:w.heap[bx]? =some (.cells C T fr)) (hne:e≠T) (o:Nat) (v:Value):(w.setCell ⟨bx,o,none⟩ v).ownsRow base e size u n xs:=by
 obtain ⟨h1,h2⟩:=hu;refine ⟨h1, ?_⟩;rcases h2 with h2|⟨g,cap,cur,a,b,c,d⟩
 · exact .inl h2
 · refine .inr ⟨g,cap,cur,a,b,bN c _ _ (fun e2=> ?_),d⟩;rw [e2,hx]at c;injection c with c
   injection c with _ c _
   exact hne c.symm
end
theorem mQ {K:PK}{w0 w:World}{σ:Ps}(hD:Did K w0 σ w) {bx:Nat}(hbx:w0.heap.size≤bx) {x:Sx}{tc c s wv pv:Value}(hblk:w.heap[bx]? =some (.cells (aG x tc c s wv pv) 31 (0,0))) (ttl:Bool):
 Calls prog 107 #[.pointer (some ⟨K.b,0,none⟩), .pointer (some ⟨bx,0,none⟩), .bool ttl] w fun e w' =>
  e= .returned (.tuple #[])∧Did K w0 (K.X.using_ σ ttl x).2 w' ∧w'.heap[bx]? =some (.cells (aG (K.X.using_ σ ttl x).1 tc c s wv pv) 31 (0,0))∧Kept K w w' bx:=by
 have dW:K.L≤bx:=Nat.le_trans hD.2.2 hbx;have hm0:=aV hD.1 (⟨#[117,115,105,110,103]⟩:ah);have hK0:Kept K w w bx:=Kept.refl;unfold Tx.may at hm0;unfold Tx.using_;cases hs:K.X.sees σ (⟨#[117,115,105,110,103]⟩:ah)with
 |false=>
  rw [hs]at hm0;go_enter func107,ntmps107;go_wp2_with fail;refine hm0.mono ?_;rintro e w1 ⟨rfl,hd1⟩;go_wp2_with fail
  (first|go_end0|refine bodyPost_ret (v:= .tuple #[]) (by simp [results,results107,go_sem]) rfl ?_)
  exact ⟨rfl,hD.trans hd1,hd1.blk hblk dW,hK0.did hd1⟩
 |true=>
  rw [hs]at hm0;cases ttl with
  |true=>
   cases ht:K.X.sees σ.step (⟨#[116,116,108]⟩:ah)with
   |true=>
    obtain ⟨⟨n,σ2⟩,hc⟩:∃r,K.X.count σ.step.step=r:=⟨_,rfl⟩;go_enter func107,ntmps107;go_wp2_with fail;refine hm0.mono ?_;rintro e w1 ⟨rfl,hd1⟩;have hD1:Did K w0 σ.step w1:=hD.trans hd1;have hm1:=aV hD1.1 (⟨#[116,116,108]⟩:ah);unfold Tx.may at hm1;rw [ht]at hm1;go_wp2_with fail;refine hm1.mono ?_;rintro e w2 ⟨rfl,hd2⟩;have hD2:Did K w0 σ.step.step w2:=hD1.trans hd2;have hct:=oh hD2.1;rw [hc]at hct;go_wp2_with fail;refine hct.mono ?_;rintro e w3 ⟨rfl,hd3⟩;have hblk3:=hd3.blk (hd2.blk (hd1.blk hblk dW) dW) dW;have t15:=(aK hblk3).2.2.2.2.2.2.2.2.2.2.2.2.2.2.2.1;have u15:=aj hblk3 15;go_wp2_with fail
    (first|go_end0|refine bodyPost_ret (v:= .tuple #[]) (by simp [results,results107,go_sem]) rfl ?_)
    simp only;exact ⟨trivial,(hD2.trans hd3).own hbx 15 _,SB hblk3 n,(((hK0.did hd1).did hd2).did hd3).set 15 _⟩
   |false=>
    obtain ⟨⟨n,σ2⟩,hc⟩:∃r,K.X.count (K.X.must σ.step [(⟨#[116,105,109,101,115,116,97,109,112]⟩:ah)])=r:=⟨_,rfl⟩;cases ha:K.X.sees σ2 (⟨#[97,110,100]⟩:ah)with
    |true=>
     obtain ⟨⟨n3,σ3⟩,hc3⟩:∃r,K.X.count (K.X.must σ2.step [(⟨#[116,116,108]⟩:ah)])=r:=⟨_,rfl⟩;go_enter func107,ntmps107;go_wp2_with fail;refine hm0.mono ?_;rintro e w1 ⟨rfl,hd1⟩;have hD1:Did K w0 σ.step w1:=hD.trans hd1;have hm1:=aV hD1.1 (⟨#[116,116,108]⟩:ah);unfold Tx.may at hm1;rw [ht]at hm1;go_wp2_with fail;refine hm1.mono ?_;rintro e w2 ⟨rfl,hd2⟩;have hD2:Did K w0 σ.step w2:=hD1.trans hd2;go_wp2_with fail;refine (bC hD2.1 _).mono ?_;rintro e w3 ⟨rfl,hd3⟩;have hD3:=hD2.trans hd3;have hct:=oh hD3.1;rw [hc]at hct;go_wp2_with fail;refine hct.mono ?_;rintro e w4 ⟨rfl,hd4⟩;have fK:=hd4.blk (hd3.blk (hd2.blk (hd1.blk hblk dW) dW) dW) dW;have t14:=(aK fK).2.2.2.2.2.2.2.2.2.2.2.2.2.2.1;have u14:=aj fK 14;have hD5:=(hD3.trans hd4).own hbx 14 (.int .i64 n);have hblk5:=DK fK n;have hK5:=((((hK0.did hd1).did hd2).did hd3).did hd4).set 14 (.int .i64 n);have rF:=aV hD5.1 (⟨#[97,110,100]⟩:ah);unfold Tx.may at rF;rw [ha]at rF;go_wp2_with fail;refine rF.mono ?_;rintro e w6 ⟨rfl,hd6⟩;have hD6:Did K w0 σ2.step w6:=hD5.trans hd6;go_wp2_with fail;refine (bC hD6.1 _).mono ?_;rintro e w7 ⟨rfl,hd7⟩;have hD7:=hD6.trans hd7;have afx:=oh hD7.1;rw [hc3]at afx;go_wp2_with fail;refine afx.mono ?_;rintro e w8 ⟨rfl,EF⟩;have mR:=EF.blk (hd7.blk (hd6.blk hblk5 dW) dW) dW;have t15:=(aK mR).2.2.2.2.2.2.2.2.2.2.2.2.2.2.2.1;have u15:=aj mR 15;go_wp2_with fail
     (first|go_end0|refine bodyPost_ret (v:= .tuple #[]) (by simp [results,results107,go_sem]) rfl ?_)
     simp only;exact ⟨trivial,(hD7.trans EF).own hbx 15 _,SB mR n3,(((hK5.did hd6).did hd7).did EF).set 15 _⟩
    |false=>
     go_enter func107,ntmps107;go_wp2_with fail;refine hm0.mono ?_;rintro e w1 ⟨rfl,hd1⟩;have hD1:Did K w0 σ.step w1:=hD.trans hd1;have hm1:=aV hD1.1 (⟨#[116,116,108]⟩:ah);unfold Tx.may at hm1;rw [ht]at hm1;go_wp2_with fail;refine hm1.mono ?_;rintro e w2 ⟨rfl,hd2⟩;have hD2:Did K w0 σ.step w2:=hD1.trans hd2;go_wp2_with fail;refine (bC hD2.1 _).mono ?_;rintro e w3 ⟨rfl,hd3⟩;have hD3:=hD2.trans hd3;have hct:=oh hD3.1;rw [hc]at hct;go_wp2_with fail;refine hct.mono ?_;rintro e w4 ⟨rfl,hd4⟩;have fK:=hd4.blk (hd3.blk (hd2.blk (hd1.blk hblk dW) dW) dW) dW;have t14:=(aK fK).2.2.2.2.2.2.2.2.2.2.2.2.2.2.1;have u14:=aj fK 14;have hD5:=(hD3.trans hd4).own hbx 14 (.int .i64 n);have hblk5:=DK fK n;have hK5:=((((hK0.did hd1).did hd2).did hd3).did hd4).set 14 (.int .i64 n);have rF:=aV hD5.1 (⟨#[97,110,100]⟩:ah);unfold Tx.may at rF;rw [ha]at rF;go_wp2_with fail;refine rF.mono ?_;rintro e w6 ⟨rfl,hd6⟩;go_wp2_with fail
     (first|go_end0|refine bodyPost_ret (v:= .tuple #[]) (by simp [results,results107,go_sem]) rfl ?_)
     simp only;exact ⟨trivial,hD5.trans hd6,hd6.blk hblk5 dW,hK5.did hd6⟩
  |false=>
   obtain ⟨⟨n,σ2⟩,hc⟩:∃r,K.X.count (K.X.must σ.step [(⟨#[116,105,109,101,115,116,97,109,112]⟩:ah)])=r:=⟨_,rfl⟩;go_enter func107,ntmps107;go_wp2_with fail;refine hm0.mono ?_;rintro e w1 ⟨rfl,hd1⟩;have hD2:Did K w0 σ.step w1:=hD.trans hd1;go_wp2_with fail;refine (bC hD2.1 _).mono ?_;rintro e w3 ⟨rfl,hd3⟩;have hD3:=hD2.trans hd3;have hct:=oh hD3.1;rw [hc]at hct;go_wp2_with fail;refine hct.mono ?_;rintro e w4 ⟨rfl,hd4⟩;have fK:=hd4.blk (hd3.blk (hd1.blk hblk dW) dW) dW;have t14:=(aK fK).2.2.2.2.2.2.2.2.2.2.2.2.2.2.1;have u14:=aj fK 14;go_wp2_with fail
   (first|go_end0|refine bodyPost_ret (v:= .tuple #[]) (by simp [results,results107,go_sem]) rfl ?_)
   simp only;exact ⟨trivial,(hD3.trans hd4).own hbx 14 _,DK fK n,(((hK0.did hd1).did hd3).did hd4).set 14 _⟩
theorem bO (w:World) (a:Addr) (v:Value):(w.setCell a v).heap.size=w.heap.size:=by simp [World.setCell]
theorem Tryz.vW:(prog.info? 31).map (·.size)=some 18:=by kernel_rfl
theorem Tryz.Kh:∃d,prog.underlying 31=some d∧d.isRow=true:=⟨_,underlying31,rfl⟩
theorem Lv (k:Int)  (w:World):(Instr.build 31 #[(0, .int .i64 k)]).run prog w= .ok (.agg #[.int .i64 k, .string ⟨#[]⟩, .string ⟨#[]⟩, .string ⟨#[]⟩, .string ⟨#[]⟩, .int .i64 0, .string ⟨#[]⟩, .int .i64 0, .string ⟨#[]⟩, .int .i64 0, .slice none 0 0, .slice none 0 0, .slice none 0 0, .slice none 0 0, .int .i64 0, .int .i64 0, .int .i64 0, .slice none 0 0]) w:=by kernel_rfl
theorem Ca (k:Int) (x:ByteArray) (w:World):(Instr.build 31 #[(0, .int .i64 k),(1, .string x)]).run prog w= .ok (.agg #[.int .i64 k, .string x, .string ⟨#[]⟩, .string ⟨#[]⟩, .string ⟨#[]⟩, .int .i64 0, .string ⟨#[]⟩, .int .i64 0, .string ⟨#[]⟩, .int .i64 0, .slice none 0 0, .slice none 0 0, .slice none 0 0, .slice none 0 0, .int .i64 0, .int .i64 0, .int .i64 0, .slice none 0 0]) w:=by kernel_rfl
theorem NS (k:Int) (x:ByteArray) (w:World):(Instr.build 31 #[(0, .int .i64 k),(2, .string x)]).run prog w= .ok (.agg #[.int .i64 k, .string ⟨#[]⟩, .string x, .string ⟨#[]⟩, .string ⟨#[]⟩, .int .i64 0, .string ⟨#[]⟩, .int .i64 0, .string ⟨#[]⟩, .int .i64 0, .slice none 0 0, .slice none 0 0, .slice none 0 0, .slice none 0 0, .int .i64 0, .int .i64 0, .int .i64 0, .slice none 0 0]) w:=by kernel_rfl
theorem NT (k:Int) (n c:Nat) (a:Option Addr) (w:World):(Instr.build 31 #[(0, .int .i64 k),(5, .slice a n c)]).run prog w= .ok (.agg #[.int .i64 k, .string ⟨#[]⟩, .string ⟨#[]⟩, .string ⟨#[]⟩, .string ⟨#[]⟩, .int .i64 0, .string ⟨#[]⟩, .int .i64 0, .string ⟨#[]⟩, .int .i64 0, .slice none 0 0, .slice a n c, .slice none 0 0, .slice none 0 0, .int .i64 0, .int .i64 0, .int .i64 0, .slice none 0 0]) w:=by kernel_rfl
theorem Yc (w:World) (V:Array Value) (hV:V.size=18) (h1' :V.toList.all (·.oneCell')=true):
 (Instr.storeAt 31 (.pointer (some ⟨w.heap.size,0,none⟩)) (.agg V)).run prog (w.alloc (.cells bf 31))= .ok () (w.alloc (.cells V 31))∧
 (storeCells ⟨w.heap.size,0,none⟩ V.toList 0).run prog (w.alloc (.cells bf 31))= .ok () (w.alloc (.cells V 31)):=
 have h1:V.all (·.oneCell')=true:=by rw [←Array.all_toList];exact h1'
 ⟨run_storeAt_new w _ _ V (by rw [hV];exact Tryz.vW) (by rw [hV];rfl) h1,run_storeCells_new w _ _ V (by rw [hV];exact Tryz.vW) (by rw [hV];rfl) h1⟩
theorem aT {ops:Array Oper}{rest:List Oper}{op:Oper}{a:Act}{w:World}{Q:Exit→Act→World→Prop}{b:Nat}{V:Array Value}{T:TypeId}(hgd:op.guard=none) (x:Operand) (ho:op.op= .load 31 x)
 (hx:a.eval x= .pointer (some ⟨b,0,none⟩)) (hV:V.size=18) (hb:w.heap[b]? =some (.cells V T (0,0))) (h:wpList prog ops Q rest (a.put op.dst (.agg V)) w):wpList prog ops Q (op::rest) a w:=by
 obtain ⟨d,hu,hd⟩:=Tryz.Kh;refine wpList_load_mid hgd 31 x ho b 0 hx V.toList d (fun j v hv=> ?_) hu hd (by rw [show V.toList.length=18 by simpa using hV];exact Tryz.vW) (by simpa using h);rw [Nat.zero_add,au hb];simpa using hv
theorem lT {ops:Array Oper}{rest:List Oper}{op:Oper}{a:Act}{w:World}{Q:Exit→Act→World→Prop}{V:Array Value}(hgd:op.guard=none) (x y:Operand) (ho:op.op= .store 31 x y)
 (hx:a.eval x= .pointer (some ⟨w.heap.size,0,none⟩)) (hy:a.eval y= .agg V) (hV:V.size=18) (h1' :V.toList.all (·.oneCell')=true) (h:wpList prog ops Q rest (a.put op.dst undef) (w.alloc (.cells V 31))):
 wpList prog ops Q (op::rest) a (w.alloc (.cells bf 31)):=by
 refine wpList_plain hgd fun K hK=> ?_
 unfold Oper.wp execOp;have:=(Yc w V hV h1').1;simp only [ho,hx,hy,Sem.run_bind,this,Result.andThen_ok,Sem.run_pure];exact hK _ _ h
theorem rG (v0 v1 v2 v3 v4 v5 v6 v7 v8 v9 v10 v11 v12 v13 v14 v15 v16 v17:Value) (w:World):(Instr.build 100 #[(0, .agg #[v0,v1,v2,v3,v4,v5,v6,v7,v8,v9,v10,v11,v12,v13,v14,v15,v16,v17])]).run prog w= .ok (.agg #[v0,v1,v2,v3,v4,v5,v6,v7,v8,v9,v10,v11,v12,v13,v14,v15,v16,v17]) w:=by kernel_rfl
theorem oV (v0 v1 v2 v3 v4 v5 v6 v7 v8 v9 v10 v11 v12 v13 v14 v15 v16 v17:Value) (w:World):(Instr.build 133 #[(0, .agg #[v0,v1,v2,v3,v4,v5,v6,v7,v8,v9,v10,v11,v12,v13,v14,v15,v16,v17])]).run prog w= .ok (.agg #[v0,v1,v2,v3,v4,v5,v6,v7,v8,v9,v10,v11,v12,v13,v14,v15,v16,v17]) w:=by kernel_rfl
theorem yj (v0 v1 v2 v3 v4 v5 v6 v7 v8 v9 v10 v11 v12 v13 v14 v15 v16 v17:Value) (w:World):(Instr.makeInterface 100 (.agg #[v0,v1,v2,v3,v4,v5,v6,v7,v8,v9,v10,v11,v12,v13,v14,v15,v16,v17])).run prog w= .ok (.iface 100 (.agg #[v0,v1,v2,v3,v4,v5,v6,v7,v8,v9,v10,v11,v12,v13,v14,v15,v16,v17])) w:=by kernel_rfl
theorem yt (v0 v1 v2 v3 v4 v5 v6 v7 v8 v9 v10 v11 v12 v13 v14 v15 v16 v17:Value) (w:World):(Instr.makeInterface 133 (.agg #[v0,v1,v2,v3,v4,v5,v6,v7,v8,v9,v10,v11,v12,v13,v14,v15,v16,v17])).run prog w= .ok (.iface 133 (.agg #[v0,v1,v2,v3,v4,v5,v6,v7,v8,v9,v10,v11,v12,v13,v14,v15,v16,v17])) w:=by kernel_rfl
theorem lD (X:Tx) (σ:Ps) (ttl:Bool) (x y:Sx) (σ' :Ps) (h:X.using_ σ ttl x=(y,σ')):∃a b,y={x with stamp:=a,ttl:=b}:=by
 unfold Tx.using_ at h;simp only at h;split at h
 · split at h
   · cases h;exact ⟨x.stamp,_,rfl⟩
   · split at h
     · cases h;exact ⟨_,_,rfl⟩
     · cases h;exact ⟨_,x.ttl,rfl⟩
 · cases h;exact ⟨x.stamp,x.ttl,rfl⟩
theorem Yd {w:World}{base:Nat}{x y:Sx}{tc c s wv:Value}{q:List Pr}(hu:Hid (∃a b,y={x with stamp:=a,ttl:=b})) (h1:w.ownsRow base 23 2 tc x.aB.length (iO x.aB)) (h2:w.ownsRow base 9 1 c x.aI.length (x.aI.map Value.string)) (h3:w.ownsRow base 62 4 s x.sets.length (dI x.sets)) (h4:w.ownsRow base 62 4 wv q.length (dI q)):eX w base {y with aH:=q} tc c s wv:=by
 obtain ⟨a,b,rfl⟩:=hu.out;exact ⟨h1,h2,h3,h4⟩
theorem UL {K:PK}{w:World}{σ:Ps}(h:PQ K w σ):
 Calls prog 70 #[.pointer (some ⟨K.b,0,none⟩)] w (iH K w 100 (K.X.index σ).1 (K.X.index σ).2):=by
 have hle:=h.le;have hD0:=Did.refl h;obtain ⟨σ1,hq1⟩:∃r,K.X.must σ [(⟨#[105,110,100,101,120]⟩:ah)]=r:=⟨_,rfl⟩;obtain ⟨⟨x,σ2⟩,hq2⟩:∃r,K.X.name σ1=r:=⟨_,rfl⟩;obtain ⟨σ3,hq3⟩:∃r,K.X.must σ2 [(⟨#[111,110]⟩:ah)]=r:=⟨_,rfl⟩;obtain ⟨⟨o,jS⟩,hq4⟩:∃r,K.X.name σ3=r:=⟨_,rfl⟩;obtain ⟨lX,MC⟩:∃r,K.X.must jS [(⟨#[40]⟩:ah)]=r:=⟨_,rfl⟩;obtain ⟨⟨n,yT⟩,UC⟩:∃r,K.X.name lX=r:=⟨_,rfl⟩;obtain ⟨LA,hq7⟩:∃r,K.X.must yT [(⟨#[41]⟩:ah)]=r:=⟨_,rfl⟩;have HE:Hid (K.X.index σ=({Sx.zero with kind:=3,name:=x,bT:=o,on:=n},LA)):=by show _=_;unfold Tx.index;simp only [hq1,hq2,hq3,hq4,MC,UC,hq7]
 go_enter func70,ntmps70;have hm1:=bC hD0.1 (⟨#[105,110,100,101,120]⟩:ah);rw [hq1]at hm1;try simp only [av,bO]at hm1
 go_wp2_with fail;refine hm1.mono ?_;rintro e w1 ⟨rfl,hd1⟩;have hD1:=hD0.trans hd1;have hm2:=gu hD1.1;rw [hq2]at hm2;try simp only at hm2
 go_wp2_with fail;refine hm2.mono ?_;rintro e w2 ⟨rfl,hd2⟩;have hD2:=hD1.trans hd2;have hB3:=Ca 3 x;have dW:K.L≤w2.heap.size:=Nat.le_trans hle hD2.size;have hbx:w.heap.size≤w2.heap.size:=hD2.size;have hblk3:(w2.alloc (.cells (aG {Sx.zero with kind:=3,name:=x} ak ak ak ak ak) 31)).heap[w2.heap.size]? =some (.cells (aG {Sx.zero with kind:=3,name:=x} ak ak ak ak ak) 31 (0,0)):=aA w2 _;have hD3:=hD2.alloc (.cells (aG {Sx.zero with kind:=3,name:=x} ak ak ak ak ak) 31);have om:=bC hD3.1 (⟨#[111,110]⟩:ah);rw [hq3]at om;try simp only [av]at om
 go_wp2_with (refine lT rfl _ _ rfl rfl rfl rfl rfl ?_);refine om.mono ?_;rintro e w4 ⟨rfl,hd4⟩;have hD4:=hD3.trans hd4;have fK:=hd4.blk hblk3 dW;have rF:=gu hD4.1;rw [hq4]at rF;try simp only at rF
 go_wp2_with fail;refine rF.mono ?_;rintro e w5 ⟨rfl,hd5⟩;have hD5:=hD4.trans hd5;have hblk5:=hd5.blk fK dW;have tt5:=(aK hblk5).2.2.1;have uu5:=aj hblk5 2;have hD6:=hD5.own hbx 2 (.string o);have hblk6:=DJ hblk5 o;have AZ:=bC hD6.1 (⟨#[40]⟩:ah);rw [MC]at AZ;try simp only [bO]at AZ
 go_wp2_with fail;refine AZ.mono ?_;rintro e w7 ⟨rfl,hd7⟩;have hD7:=hD6.trans hd7;have hblk7:=hd7.blk hblk6 dW;have zI:=gu hD7.1;rw [UC]at zI;try simp only at zI
 go_wp2_with fail;refine zI.mono ?_;rintro e w8 ⟨rfl,EF⟩;have Cb:=hD7.trans EF;have mR:=EF.blk hblk7 dW;have tt8:=(aK mR).2.2.2.1;have uu8:=aj mR 3;have zJ:=Cb.own hbx 3 (.string n);have rH:=Ya mR n;have Qs:=bC zJ.1 (⟨#[41]⟩:ah);rw [hq7]at Qs;try simp only [bO]at Qs
 go_wp2_with fail;refine Qs.mono ?_;rintro e w10 ⟨rfl,UM⟩;have oW:=zJ.trans UM;have Ar:=UM.blk rH dW;have hBx:=rG;have Qt:=yj;go_wp2_with (refine aT rfl _ rfl rfl rfl Ar ?_);go_ret;rw [HE.out];exact ⟨ak,ak,ak,ak,rfl,oW,ko _ _ _ rfl rfl rfl rfl⟩
theorem aa7 {K:PK}{w:World}{σ:Ps}(h:PQ K w σ):
 Calls prog 65 #[.pointer (some ⟨K.b,0,none⟩)] w (iH K w 100 (K.X.ask σ).1 (K.X.ask σ).2):=by
 have hle:=h.le;have hD0:=Did.refl h;obtain ⟨⟨c,σ1⟩,hq1⟩:∃r,K.X.some_ σ=r:=⟨_,rfl⟩;obtain ⟨σ2,hq2⟩:∃r,K.X.must σ1 [(⟨#[102,114,111,109]⟩:ah)]=r:=⟨_,rfl⟩;obtain ⟨⟨o,σ3⟩,hq3⟩:∃r,K.X.name σ2=r:=⟨_,rfl⟩;obtain ⟨⟨q,jS⟩,hq4⟩:∃r,K.X.aH σ3 false=r:=⟨_,rfl⟩;cases zy:K.X.sees jS (⟨#[108,105,109,105,116]⟩:ah)with
 |true=>
  obtain ⟨⟨k,lX⟩,MC⟩:∃r,K.X.count jS.step=r:=⟨_,rfl⟩;have HE:Hid (K.X.ask σ=({Sx.zero with kind:=8,aI:=c,bT:=o,aH:=q,limit:=k},lX)):=by show _=_;unfold Tx.ask;simp only [hq1,hq2,hq3,hq4,MC,zy,if_true]
  go_enter func65,ntmps65;have hm1:=GX hD0.1;rw [hq1]at hm1;try simp only at hm1
  go_wp2_with fail;refine hm1.mono ?_;rintro e w1 ⟨ac,cc,rfl,hd1,hr1⟩;have hD1:=hD0.trans hd1;have hz1:=hD0.size;try simp only [av,bO]at hz1 hr1
  replace hr1:=aR hr1 hz1;have hB2:=NT 8 c.length cc ac;have dW:K.L≤w1.heap.size:=Nat.le_trans hle hD1.size;have hbx:w.heap.size≤w1.heap.size:=hD1.size;have hblk2:(w1.alloc (.cells (aG {Sx.zero with kind:=8,aI:=c} ak (.slice ac c.length cc) ak ak ak) 31)).heap[w1.heap.size]? =some (.cells (aG {Sx.zero with kind:=8,aI:=c} ak (.slice ac c.length cc) ak ak ak) 31 (0,0)):=aA w1 _;have hD2:=hD1.alloc (.cells (aG {Sx.zero with kind:=8,aI:=c} ak (.slice ac c.length cc) ak ak ak) 31);have Ye:=hr1.alloc (.cells (aG {Sx.zero with kind:=8,aI:=c} ak (.slice ac c.length cc) ak ak ak) 31);have oL:=bC hD2.1 (⟨#[102,114,111,109]⟩:ah);rw [hq2]at oL;try simp only [av]at oL
  go_wp2_with (refine lT rfl _ _ rfl rfl rfl rfl rfl ?_);refine oL.mono ?_;rintro e w3 ⟨rfl,hd3⟩;have hD3:=hD2.trans hd3;have hblk3:=hd3.blk hblk2 dW;have Yf:=hd3.row Ye hle;have om:=gu hD3.1;rw [hq3]at om;try simp only at om
  go_wp2_with fail;refine om.mono ?_;rintro e w4 ⟨rfl,hd4⟩;have hD4:=hD3.trans hd4;have fK:=hd4.blk hblk3 dW;have NU:=hd4.row Yf hle;have tt4:=(aK fK).2.2.1;have uu4:=aj fK 2;have hD5:=hD4.own hbx 2 (.string o);have hblk5:=DJ fK o;have NV:=aL NU fK (by decide) 2 (.string o);have sO:=uL hD5.1 false;rw [hq4]at sO;try simp only [bO]at sO
  go_wp2_with fail;refine sO.mono ?_;rintro e w6 ⟨aq,cq,rfl,hd6,NW⟩;have hD6:=hD5.trans hd6;have hblk6:=hd6.blk hblk5 dW;have Cc:=hd6.row NV hle;have hz6:=hD5.size;try simp only [bO]at hz6 NW
  replace NW:=aR NW hz6;have tt6:=(aK hblk6).2.2.2.2.2.2.2.2.2.2.2.2.2.1;have uu6:=aj hblk6 13;have hD7:=hD6.own hbx 13 (.slice aq q.length cq);have hblk7:=uN hblk6 (.slice aq q.length cq);have Ce:=aL Cc hblk6 (by decide) 13 (.slice aq q.length cq);have Yg:=aL NW hblk6 (by decide) 13 (.slice aq q.length cq);have zI:=aV hD7.1 (⟨#[108,105,109,105,116]⟩:ah);unfold Tx.may at zI;rw [zy,if_pos rfl]at zI;try simp only [av,bO]at zI
  go_wp2_with fail;refine zI.mono ?_;rintro e w8 ⟨rfl,EF⟩;have Cb:=hD7.trans EF;have mR:=EF.blk hblk7 dW;have GY:=EF.row Ce hle;have NY:=EF.row Yg hle;have Qu:=oh Cb.1;rw [MC]at Qu;try simp only at Qu
  go_wp2_with fail;refine Qu.mono ?_;rintro e w9 ⟨rfl,Pk⟩;have zJ:=Cb.trans Pk;have rH:=Pk.blk mR dW;have NZ:=Pk.row GY hle;have afA:=Pk.row NY hle;have tt9:=(aK rH).2.2.2.2.2.2.2.2.2.2.2.2.2.2.2.2.1;have uu9:=aj rH 16;have oW:=zJ.own hbx 16 (.int .i64 k);have Ar:=UK rH k;have GZ:=aL NZ rH (by decide) 16 (.int .i64 k);have Qv:=aL afA rH (by decide) 16 (.int .i64 k);have hBx:=rG;have Qt:=yj;go_wp2_with (refine aT rfl _ rfl rfl rfl Ar ?_);go_ret;rw [HE.out];exact ⟨ak,_,ak,_,rfl,oW,⟨World.ownsRow_nil _ _ _ _,GZ,World.ownsRow_nil _ _ _ _,Qv⟩⟩
 |false=>
  have HE:Hid (K.X.ask σ=({Sx.zero with kind:=8,aI:=c,bT:=o,aH:=q},jS)):=by show _=_;unfold Tx.ask;simp only [hq1,hq2,hq3,hq4,zy,if_neg (show¬(false=true)by decide)]
  go_enter func65,ntmps65;have hm1:=GX hD0.1;rw [hq1]at hm1;try simp only at hm1
  go_wp2_with fail;refine hm1.mono ?_;rintro e w1 ⟨ac,cc,rfl,hd1,hr1⟩;have hD1:=hD0.trans hd1;have hz1:=hD0.size;try simp only [av,bO]at hz1 hr1
  replace hr1:=aR hr1 hz1;have hB2:=NT 8 c.length cc ac;have dW:K.L≤w1.heap.size:=Nat.le_trans hle hD1.size;have hbx:w.heap.size≤w1.heap.size:=hD1.size;have hblk2:(w1.alloc (.cells (aG {Sx.zero with kind:=8,aI:=c} ak (.slice ac c.length cc) ak ak ak) 31)).heap[w1.heap.size]? =some (.cells (aG {Sx.zero with kind:=8,aI:=c} ak (.slice ac c.length cc) ak ak ak) 31 (0,0)):=aA w1 _;have hD2:=hD1.alloc (.cells (aG {Sx.zero with kind:=8,aI:=c} ak (.slice ac c.length cc) ak ak ak) 31);have Ye:=hr1.alloc (.cells (aG {Sx.zero with kind:=8,aI:=c} ak (.slice ac c.length cc) ak ak ak) 31);have oL:=bC hD2.1 (⟨#[102,114,111,109]⟩:ah);rw [hq2]at oL;try simp only [av]at oL
  go_wp2_with (refine lT rfl _ _ rfl rfl rfl rfl rfl ?_);refine oL.mono ?_;rintro e w3 ⟨rfl,hd3⟩;have hD3:=hD2.trans hd3;have hblk3:=hd3.blk hblk2 dW;have Yf:=hd3.row Ye hle;have om:=gu hD3.1;rw [hq3]at om;try simp only at om
  go_wp2_with fail;refine om.mono ?_;rintro e w4 ⟨rfl,hd4⟩;have hD4:=hD3.trans hd4;have fK:=hd4.blk hblk3 dW;have NU:=hd4.row Yf hle;have tt4:=(aK fK).2.2.1;have uu4:=aj fK 2;have hD5:=hD4.own hbx 2 (.string o);have hblk5:=DJ fK o;have NV:=aL NU fK (by decide) 2 (.string o);have sO:=uL hD5.1 false;rw [hq4]at sO;try simp only [bO]at sO
  go_wp2_with fail;refine sO.mono ?_;rintro e w6 ⟨aq,cq,rfl,hd6,NW⟩;have hD6:=hD5.trans hd6;have hblk6:=hd6.blk hblk5 dW;have Cc:=hd6.row NV hle;have hz6:=hD5.size;try simp only [bO]at hz6 NW
  replace NW:=aR NW hz6;have tt6:=(aK hblk6).2.2.2.2.2.2.2.2.2.2.2.2.2.1;have uu6:=aj hblk6 13;have hD7:=hD6.own hbx 13 (.slice aq q.length cq);have hblk7:=uN hblk6 (.slice aq q.length cq);have Ce:=aL Cc hblk6 (by decide) 13 (.slice aq q.length cq);have Yg:=aL NW hblk6 (by decide) 13 (.slice aq q.length cq);have zI:=aV hD7.1 (⟨#[108,105,109,105,116]⟩:ah);unfold Tx.may at zI;rw [zy,if_neg (by decide)]at zI;try simp only [av,bO]at zI
  go_wp2_with fail;refine zI.mono ?_;rintro e w8 ⟨rfl,EF⟩;have Cb:=hD7.trans EF;have mR:=EF.blk hblk7 dW;have GY:=EF.row Ce hle;have NY:=EF.row Yg hle;have hBx:=rG;have Qt:=yj;go_wp2_with (refine aT rfl _ rfl rfl rfl mR ?_);go_ret;rw [HE.out];exact ⟨ak,_,ak,_,rfl,Cb,⟨World.ownsRow_nil _ _ _ _,GY,World.ownsRow_nil _ _ _ _,NY⟩⟩
theorem Qw {K:PK}{w:World}{σ:Ps}(h:PQ K w σ):
 Calls prog 64 #[.pointer (some ⟨K.b,0,none⟩)] w (iH K w 133 (K.X.remove σ).1 (K.X.remove σ).2):=by
 have hle:=h.le;have hD0:=Did.refl h;cases zy:K.X.sees σ (⟨#[102,114,111,109]⟩:ah)with
 |true=>
  obtain ⟨σ1,hq1⟩:∃r,K.X.must σ [(⟨#[102,114,111,109]⟩:ah)]=r:=⟨_,rfl⟩;obtain ⟨⟨o,σ2⟩,hq2⟩:∃r,K.X.name σ1=r:=⟨_,rfl⟩;obtain ⟨⟨xu,σ3⟩,hq3⟩:∃r,K.X.using_ σ2 false {Sx.zero with kind:=7,aI:=([]:List ByteArray),bT:=o}=r:=⟨_,rfl⟩;obtain ⟨⟨q,jS⟩,hq4⟩:∃r,K.X.aH σ3 false=r:=⟨_,rfl⟩;have HU:=Lib.hid (lD K.X _ _ _ _ _ hq3);have HE:Hid (K.X.remove σ=({xu with aH:=q},jS)):=by show _=_;unfold Tx.remove;simp only [hq1,hq2,hq3,hq4,zy,if_true]
  go_enter func64,ntmps64;have hB1:=Lv 7;have dW:K.L≤w.heap.size:=Nat.le_trans hle hD0.size;have hbx:w.heap.size≤w.heap.size:=hD0.size;have hblk1:(w.alloc (.cells (aG {Sx.zero with kind:=7} ak ak ak ak ak) 31)).heap[w.heap.size]? =some (.cells (aG {Sx.zero with kind:=7} ak ak ak ak ak) 31 (0,0)):=aA w _;have hD1:=hD0.alloc (.cells (aG {Sx.zero with kind:=7} ak ak ak ak ak) 31);have hm2:=BS hD1.1 (⟨#[102,114,111,109]⟩:ah);rw [zy]at hm2;go_wp2_with (refine lT rfl _ _ rfl rfl rfl rfl rfl ?_);refine hm2.mono ?_;rintro e w2 ⟨rfl,hb2⟩;have hd2:=(Did.refl hD1.1).below hb2;have hD2:=hD1.trans hd2;have hblk2:=hd2.blk hblk1 dW;have oL:=bC hD2.1 (⟨#[102,114,111,109]⟩:ah);rw [hq1]at oL;try simp only [av,bO]at oL
  go_wp2_with fail;refine oL.mono ?_;rintro e w3 ⟨rfl,hd3⟩;have hD3:=hD2.trans hd3;have hblk3:=hd3.blk hblk2 dW;have om:=gu hD3.1;rw [hq2]at om;try simp only at om
  go_wp2_with fail;refine om.mono ?_;rintro e w4 ⟨rfl,hd4⟩;have hD4:=hD3.trans hd4;have fK:=hd4.blk hblk3 dW;have tt4:=(aK fK).2.2.1;have uu4:=aj fK 2;have hD5:=hD4.own hbx 2 (.string o);have hblk5:=DJ fK o;have sO:=mQ hD5 hbx (x:={Sx.zero with kind:=7,aI:=([]:List ByteArray),bT:=o}) hblk5 false;rw [hq3]at sO;go_wp2_with fail;refine sO.mono ?_;rintro e w6 ⟨rfl,hD6,hblk6,hk6⟩;have AZ:=uL hD6.1 false;rw [hq4]at AZ;try simp only at AZ
  go_wp2_with fail;refine AZ.mono ?_;rintro e w7 ⟨aq,cq,rfl,hd7,hr7⟩;have hD7:=hD6.trans hd7;have hblk7:=hd7.blk hblk6 dW;have hz7:=hD6.size;try simp only [av,bO]at hz7 hr7
  replace hr7:=aR hr7 hz7;have tt7:=(aK hblk7).2.2.2.2.2.2.2.2.2.2.2.2.2.1;have uu7:=aj hblk7 13;have Cb:=hD7.own hbx 13 (.slice aq q.length cq);have mR:=uN hblk7 (.slice aq q.length cq);have NY:=aL hr7 hblk7 (by decide) 13 (.slice aq q.length cq);have hBx:=oV;have Qt:=yt;go_wp2_with (refine aT rfl _ rfl rfl rfl mR ?_);go_ret;rw [HE.out];exact ⟨_,_,_,_,rfl,Cb,Yd (x:={Sx.zero with kind:=7,aI:=([]:List ByteArray),bT:=o}) HU (World.ownsRow_nil _ _ _ _) (World.ownsRow_nil _ _ _ _) (World.ownsRow_nil _ _ _ _) NY⟩
 |false=>
  obtain ⟨⟨c,σ1⟩,hq1⟩:∃r,K.X.columns σ 8=r:=⟨_,rfl⟩;obtain ⟨σ2,hq2⟩:∃r,K.X.must σ1 [(⟨#[102,114,111,109]⟩:ah)]=r:=⟨_,rfl⟩;obtain ⟨⟨o,σ3⟩,hq3⟩:∃r,K.X.name σ2=r:=⟨_,rfl⟩;obtain ⟨⟨xu,jS⟩,hq4⟩:∃r,K.X.using_ σ3 false {Sx.zero with kind:=7,aI:=c,bT:=o}=r:=⟨_,rfl⟩;obtain ⟨⟨q,lX⟩,MC⟩:∃r,K.X.aH jS false=r:=⟨_,rfl⟩;have HU:=Lib.hid (lD K.X _ _ _ _ _ hq4);have HE:Hid (K.X.remove σ=({xu with aH:=q},lX)):=by show _=_;unfold Tx.remove;simp only [hq1,hq2,hq3,hq4,MC,zy,if_neg (show¬(false=true)by decide)]
  go_enter func64,ntmps64;have hB1:=Lv 7;have dW:K.L≤w.heap.size:=Nat.le_trans hle hD0.size;have hbx:w.heap.size≤w.heap.size:=hD0.size;have hblk1:(w.alloc (.cells (aG {Sx.zero with kind:=7} ak ak ak ak ak) 31)).heap[w.heap.size]? =some (.cells (aG {Sx.zero with kind:=7} ak ak ak ak ak) 31 (0,0)):=aA w _;have hD1:=hD0.alloc (.cells (aG {Sx.zero with kind:=7} ak ak ak ak ak) 31);have hm2:=BS hD1.1 (⟨#[102,114,111,109]⟩:ah);rw [zy]at hm2;go_wp2_with (refine lT rfl _ _ rfl rfl rfl rfl rfl ?_);refine hm2.mono ?_;rintro e w2 ⟨rfl,hb2⟩;have hd2:=(Did.refl hD1.1).below hb2;have hD2:=hD1.trans hd2;have hblk2:=hd2.blk hblk1 dW;have oL:=yh hD2.1 8 (by omega);rw [hq1]at oL;try simp only at oL
  go_wp2_with fail;refine oL.mono ?_;rintro e w3 ⟨ac,cc,rfl,hd3,hr3⟩;have hD3:=hD2.trans hd3;have hblk3:=hd3.blk hblk2 dW;have hz3:=hD2.size;try simp only [av,bO]at hz3 hr3
  replace hr3:=aR hr3 hz3;have tt3:=(aK hblk3).2.2.2.2.2.2.2.2.2.2.2.1;have uu3:=aj hblk3 11;have hD4:=hD3.own hbx 11 (.slice ac c.length cc);have fK:=NR hblk3 (.slice ac c.length cc);have NU:=aL hr3 hblk3 (by decide) 11 (.slice ac c.length cc);have rF:=bC hD4.1 (⟨#[102,114,111,109]⟩:ah);rw [hq2]at rF;try simp only [bO]at rF
  go_wp2_with fail;refine rF.mono ?_;rintro e w5 ⟨rfl,hd5⟩;have hD5:=hD4.trans hd5;have hblk5:=hd5.blk fK dW;have NV:=hd5.row NU hle;have sO:=gu hD5.1;rw [hq3]at sO;try simp only at sO
  go_wp2_with fail;refine sO.mono ?_;rintro e w6 ⟨rfl,hd6⟩;have hD6:=hD5.trans hd6;have hblk6:=hd6.blk hblk5 dW;have Cc:=hd6.row NV hle;have tt6:=(aK hblk6).2.2.1;have uu6:=aj hblk6 2;have hD7:=hD6.own hbx 2 (.string o);have hblk7:=DJ hblk6 o;have Ce:=aL Cc hblk6 (by decide) 2 (.string o);have zI:=mQ hD7 hbx (x:={Sx.zero with kind:=7,aI:=c,bT:=o}) hblk7 false;rw [hq4]at zI;go_wp2_with fail;refine zI.mono ?_;rintro e w8 ⟨rfl,Cb,mR,hk8⟩;have GY:=hk8.row Ce hle hblk7 (by decide);have Qu:=uL Cb.1 false;rw [MC]at Qu;try simp only at Qu
  go_wp2_with fail;refine Qu.mono ?_;rintro e w9 ⟨aq,cq,rfl,Pk,lF⟩;have zJ:=Cb.trans Pk;have rH:=Pk.blk mR dW;have NZ:=Pk.row GY hle;have hz9:=Cb.size;try simp only [av,bO]at hz9 lF
  replace lF:=aR lF hz9;have tt9:=(aK rH).2.2.2.2.2.2.2.2.2.2.2.2.2.1;have uu9:=aj rH 13;have oW:=zJ.own hbx 13 (.slice aq q.length cq);have Ar:=uN rH (.slice aq q.length cq);have GZ:=aL NZ rH (by decide) 13 (.slice aq q.length cq);have Qv:=aL lF rH (by decide) 13 (.slice aq q.length cq);have hBx:=oV;have Qt:=yt;go_wp2_with (refine aT rfl _ rfl rfl rfl Ar ?_);go_ret;rw [HE.out];exact ⟨_,_,_,_,rfl,oW,Yd (x:={Sx.zero with kind:=7,aI:=c,bT:=o}) HU (World.ownsRow_nil _ _ _ _) GZ (World.ownsRow_nil _ _ _ _) Qv⟩
end Go.Proofs.YtcgadodckoalnaaGreatDoor
