/- Parts of a proof. -/
import Derived.Deep.WholeRow
import Derived.Deep.MidRow
import Derived.Test.YtnngbhpeeakfaaaGreatDoorB13
set_option maxHeartbeats 4000000
set_option maxRecDepth 100000
namespace Go.Proofs.YtnngbhpeeakfaaaGreatDoor
open Go.Proofs.Tryz
open Go.RowKit
open aK
def lM (p:Pr):List Value:= [.string p.name, .int .i64 p.t.ty, .string p.t.s, .int .i64 p.t.n]
def fG (l:List Pr):List Value:=l.flatMap lM
theorem Tryz.Fe:QH prog 36 43 (.agg #[.string ⟨#[]⟩, .int .i64 0, .string ⟨#[]⟩, .int .i64 0]) 4 48:=uN underlying36 (by kernel_rfl) rfl (by decide)
theorem acO {K:PK}{w w1:World}{σ:Ps}{k:Nat}{x0 x1 x2 x3:Value}{T:TypeId}(h1:w1.heap[k]? =some (.cells #[x0,x1,x2,x3] T (0,0))) (hD:Did K w σ w1) (hk:w.heap.size≤k) (v0 v1 v2 v3:Value) (W:World)
 (hW:W=(((w1.setCell ⟨k,0,none⟩ v0).setCell ⟨k,1,none⟩ v1).setCell ⟨k,2,none⟩ v2).setCell ⟨k,3,none⟩ v3):
 W.cell? ⟨k,0,none⟩=some v0∧W.cell? ⟨k,1,none⟩=some v1∧W.cell? ⟨k,2,none⟩=some v2∧W.cell? ⟨k,3,none⟩=some v3∧Did K w σ W:=by
 subst hW;have hp:=MO h1 v0 v1 v2 v3;exact ⟨by rw [aj hp];rfl,by rw [aj hp];rfl,by rw [aj hp];rfl,by rw [aj hp];rfl,(((hD.own hk _ _).own hk _ _).own hk _ _).own hk _ _⟩
theorem Zp {w:World}{g:Nat}{x0 x1 x2 x3:Value}{T:TypeId}(h:w.heap[g]? =some (.cells #[x0,x1,x2,x3] T (0,0))):
 w.cell? ⟨g,0,none⟩=some x0∧w.cell? ⟨g,1,none⟩=some x1∧w.cell? ⟨g,2,none⟩=some x2∧w.cell? ⟨g,3,none⟩=some x3∧w.frozen? ⟨g,0,none⟩=false∧w.frozen? ⟨g,1,none⟩=false∧w.frozen? ⟨g,2,none⟩=false∧w.frozen? ⟨g,3,none⟩=false:=
 ⟨by rw [aj h];rfl,by rw [aj h];rfl,by rw [aj h];rfl,by rw [aj h];rfl,ak h 0,ak h 1,ak h 2,ak h 3⟩
theorem QU {W:World}{tm:Array Value}{k:Nat}{v0 v1 v2 v3:Value}(ht:tm[2]? =some (.pointer (some ⟨k,0,none⟩))) (r0:W.cell? ⟨k,0,none⟩=some v0) (r1:W.cell? ⟨k,1,none⟩=some v1) (r2:W.cell? ⟨k,2,none⟩=some v2) (r3:W.cell? ⟨k,3,none⟩=some v3):
 (results Tryz.f312 tm).run prog W= .ok (.agg #[v0,v1,v2,v3]) W:=by
 simp [results,results312,go_sem,ht,r0,r1,r2,r3]
theorem QV {K:PK}{w:World}{σ:Ps}(h:PQ K w σ):
 Calls prog 312 #[.pointer (some ⟨K.b,0,none⟩)] w (uS K w (.agg (lM (K.X.equal σ).1).toArray) (K.X.equal σ).2):=by
 obtain ⟨⟨x,σ1⟩,hx⟩:∃r,K.X.name σ=r:=⟨_,rfl⟩;obtain ⟨⟨t,σ3⟩,hv⟩:∃r,K.X.value (K.X.must σ1 [(⟨#[61]⟩:ah)])=r:=⟨_,rfl⟩;have HE:Hid (K.X.equal σ=(⟨x,t⟩,σ3)):=by show _=_;unfold Tx.equal;simp only [hx,hv]
 have hD0:=(Did.refl h).alloc (.cells #[.string ⟨#[]⟩, .int .i64 0, .string ⟨#[]⟩, .int .i64 0] 43);have hbl:=aB w (.cells #[.string ⟨#[]⟩, .int .i64 0, .string ⟨#[]⟩, .int .i64 0] 43);have hle:=h.le;have hnm:=dS hD0.1;rw [hx]at hnm;go_enter func312,ntmps312;go_wp2_with fail;refine hnm.mono ?_;rintro e w1 ⟨rfl,hd1⟩;have DU:=hd1.blk hbl hle;have hs1:=hd1.size;simp only [av]at hs1;have hD1:=(hD0.trans hd1).alloc (.cells #[.string x, .int .i64 0, .string ⟨#[]⟩, .int .i64 0] 43);have ae5:=aB w1 (.cells #[.string x, .int .i64 0, .string ⟨#[]⟩, .int .i64 0] 43);have ae6:=ay DU (.cells #[.string x, .int .i64 0, .string ⟨#[]⟩, .int .i64 0] 43);have hm:=bS hD1.1 (⟨#[61]⟩:ah);simp only [av]at hm;go_wp2_with fail;refine hm.mono ?_;rintro e w2 ⟨rfl,hd2⟩;have ae7:=hd2.blk ae5 (by omega);have ae8:=hd2.blk ae6 hle;have hs2:=hd2.size;simp only [av]at hs2;have hD2:=hD1.trans hd2;have hval:=za hD2.1 hv;go_wp2_with fail;refine hval.mono ?_;rintro e w3 ⟨rfl,hd3⟩;have aaA:=hd3.blk ae7 (by omega);have acP:=hd3.blk ae8 hle;have hD3:=hD2.trans hd3;have hne:w.heap.size≠w1.heap.size:=by omega
 obtain ⟨t0,t1,t2,t3,u0,u1,u2,u3⟩:=Zp aaA;obtain ⟨y0,y1,y2,y3,z0,z1,z2,z3⟩:=Zp acP;go_wp2_with fail;have hD4:=((hD3.own (k:=w1.heap.size) (by omega) 1 (.int .i64 t.ty)).own (k:=w1.heap.size) (by omega) 2 (.string t.s)).own (k:=w1.heap.size) (by omega) 3 (.int .i64 t.n);have ae9:=bg (bg (bg acP ⟨w1.heap.size,1,none⟩ (.int .i64 t.ty) hne) ⟨w1.heap.size,2,none⟩ (.string t.s) hne) ⟨w1.heap.size,3,none⟩ (.int .i64 t.n) hne;obtain ⟨r0,r1,r2,r3,hD5⟩:=acO ae9 hD4 (Nat.le_refl _) (.string x) (.int .i64 t.ty) (.string t.s) (.int .i64 t.n) _ rfl;refine bodyPost_ret (QU rfl r0 r1 r2 r3) rfl ?_;rw [HE.out];exact ⟨rfl,hD5⟩
theorem ze {K:PK}{w:World}{σ:Ps}(h:PQ K w σ) {p:Pr}{σ' :Ps}(hv:K.X.equal σ=(p,σ')):
 Calls prog 312 #[.pointer (some ⟨K.b,0,none⟩)] w (uS K w (.agg #[.string p.name, .int .i64 p.t.ty, .string p.t.s, .int .i64 p.t.n]) σ'):=by
 have:=QV h;rw [hv]at this;exact this
theorem qX {K:PK}{w:World}{σ:Ps}(h:PQ K w σ) (both:Bool):
 Calls prog 271 #[.pointer (some ⟨K.b,0,none⟩), .bool both] w fun e w' =>
  ∃a' c',e= .returned (.slice a' (K.X.aO σ both).1.length c')∧Did K w (K.X.aO σ both).2 w' ∧w'.ownsRow w.heap.size 43 4 (.slice a' (K.X.aO σ both).1.length c') (K.X.aO σ both).1.length (fG (K.X.aO σ both).1):=by
 have hm0:=bS h (⟨#[119,104,101,114,101]⟩:ah);obtain ⟨σ1,hs1⟩:∃x,K.X.must σ [(⟨#[119,104,101,114,101]⟩:ah)]=x:=⟨_,rfl⟩;obtain ⟨⟨p,σ2⟩,hp⟩:∃r,K.X.equal σ1=r:=⟨_,rfl⟩;have hle:=h.le;rw [hs1]at hm0;cases both with
 |true=>
  obtain ⟨⟨q,σ3⟩,hq⟩:∃r,K.X.equal (K.X.must σ2 [(⟨#[97,110,100]⟩:ah)])=r:=⟨_,rfl⟩;have HE:Hid (K.X.aO σ true=([p,q],σ3)):=by show _=_;unfold Tx.aO;simp only [hs1,hp,hq,if_true]
  go_enter func271,ntmps271;go_wp2_with fail;refine hm0.mono ?_;rintro e w1 ⟨rfl,hd1⟩;have he:=ze hd1.1 hp;go_wp2_with fail;refine he.mono ?_;rintro e w2 ⟨rfl,hd2⟩;have hD2:=(hd1.trans hd2).alloc (.cells #[.string p.name, .int .i64 p.t.ty, .string p.t.s, .int .i64 p.t.n] 43);have hr2:=kR w2 [.string p.name, .int .i64 p.t.ty, .string p.t.s, .int .i64 p.t.n] 43 1 4 w.heap.size rfl (by decide) (hd1.trans hd2).size;have hm:=bS hD2.1 (⟨#[97,110,100]⟩:ah);simp only [av]at hm;go_wp2_with fail;refine hm.mono ?_;rintro e w3 ⟨rfl,hd3⟩;have hr3:=hd3.row hr2 hle;have hD3:=hD2.trans hd3;have he2:=ze hD3.1 hq;go_wp2_with fail;refine he2.mono ?_;rintro e w4 ⟨rfl,hd4⟩;have hr4:=hd4.row hr3 hle;have hD4:=hD3.trans hd4;have hs4:=hD4.size;go_wp2_with (at_builtin;refine app1 Tryz.Fe rfl _ _ rfl w.heap.size _ _ _ rfl (hr4.alloc _) _ _ [.string q.name, .int .i64 q.t.ty, .string q.t.s, .int .i64 q.t.n] rfl rfl (bA _ _ _) (by intro u hu;simp at hu;rcases hu with rfl|rfl|rfl|rfl<;>rfl) (by omega) (by simp;omega) ?_;intro a' c' w5 h5 hg hn);go_ret;rw [HE.out];exact ⟨a',c',rfl,(hD4.alloc _).grown hg (fun g hg2=>(hr4.lt g hg2).1),h5⟩
 |false=>
  cases hs:K.X.sees σ2 (⟨#[97,110,100]⟩:ah)with
  |true=>
   obtain ⟨⟨q,σ3⟩,hq⟩:∃r,K.X.equal σ2.step=r:=⟨_,rfl⟩;have HE:Hid (K.X.aO σ false=([p,q],σ3)):=by show _=_;unfold Tx.aO;simp only [hs1,hp,hs,hq,if_true,if_neg (show¬(false=true)by decide)]
   go_enter func271,ntmps271;go_wp2_with fail;refine hm0.mono ?_;rintro e w1 ⟨rfl,hd1⟩;have he:=ze hd1.1 hp;go_wp2_with fail;refine he.mono ?_;rintro e w2 ⟨rfl,hd2⟩;have hD2:=(hd1.trans hd2).alloc (.cells #[.string p.name, .int .i64 p.t.ty, .string p.t.s, .int .i64 p.t.n] 43);have hr2:=kR w2 [.string p.name, .int .i64 p.t.ty, .string p.t.s, .int .i64 p.t.n] 43 1 4 w.heap.size rfl (by decide) (hd1.trans hd2).size;have hm:=aS hD2.1 (⟨#[97,110,100]⟩:ah);unfold Tx.may at hm;rw [hs]at hm;go_wp2_with fail;refine hm.mono ?_;rintro e w3 ⟨rfl,hd3⟩;have hr3:=hd3.row hr2 hle;have hD3:Did K w σ2.step w3:=hD2.trans hd3;have he2:=ze hD3.1 hq;go_wp2_with fail;refine he2.mono ?_;rintro e w4 ⟨rfl,hd4⟩;have hr4:=hd4.row hr3 hle;have hD4:=hD3.trans hd4;have hs4:=hD4.size;go_wp2_with (at_builtin;refine app1 Tryz.Fe rfl _ _ rfl w.heap.size _ _ _ rfl (hr4.alloc _) _ _ [.string q.name, .int .i64 q.t.ty, .string q.t.s, .int .i64 q.t.n] rfl rfl (bA _ _ _) (by intro u hu;simp at hu;rcases hu with rfl|rfl|rfl|rfl<;>rfl) (by omega) (by simp;omega) ?_;intro a' c' w5 h5 hg hn);go_ret;rw [HE.out];exact ⟨a',c',rfl,(hD4.alloc _).grown hg (fun g hg2=>(hr4.lt g hg2).1),h5⟩
  |false=>
   have HE:Hid (K.X.aO σ false=([p],σ2)):=by show _=_;unfold Tx.aO;simp only [hs1,hp,hs,if_neg (show¬(false=true)by decide)]
   go_enter func271,ntmps271;go_wp2_with fail;refine hm0.mono ?_;rintro e w1 ⟨rfl,hd1⟩;have he:=ze hd1.1 hp;go_wp2_with fail;refine he.mono ?_;rintro e w2 ⟨rfl,hd2⟩;have hD2:=(hd1.trans hd2).alloc (.cells #[.string p.name, .int .i64 p.t.ty, .string p.t.s, .int .i64 p.t.n] 43);have hr2:=kR w2 [.string p.name, .int .i64 p.t.ty, .string p.t.s, .int .i64 p.t.n] 43 1 4 w.heap.size rfl (by decide) (hd1.trans hd2).size;have hm:=aS hD2.1 (⟨#[97,110,100]⟩:ah);unfold Tx.may at hm;rw [hs]at hm;go_wp2_with fail;refine hm.mono ?_;rintro e w3 ⟨rfl,hd3⟩;have hr3:=hd3.row hr2 hle;have hD3:Did K w σ2 w3:=hD2.trans hd3;go_wp2_with fail;go_ret;rw [HE.out];exact ⟨_,_,rfl,hD3,hr3⟩
abbrev aP (x:Sx) (tc c s wv pv:Value):Array Value:= #[.int .i64 x.kind, .string x.name, .string x.dA, .string x.on, .string x.bW, .int .i64 x.tid, .string x.part.name, .int .i64 x.part.ty, .string x.aY.name, .int .i64 x.aY.ty,tc,c,s,wv, .int .i64 x.stamp, .int .i64 x.ttl, .int .i64 x.limit,pv]
abbrev au:Value:= .slice none 0 0
def gB (w:World) (base:Nat) (x:Sx) (tc c s wv:Value):Prop:=
 w.ownsRow base 24 2 tc x.aF.length (gH x.aF)∧w.ownsRow base 9 1 c x.aD.length (x.aD.map Value.string)∧w.ownsRow base 43 4 s x.sets.length (fG x.sets)∧w.ownsRow base 43 4 wv x.aO.length (fG x.aO)
def gD (K:PK) (w:World) (T:TypeId) (x:Sx) (σ:Ps):Ending→World→Prop:=fun e w' =>
 ∃tc c s wv,e= .returned (.iface T (.agg (aP x tc c s wv au)))∧Did K w σ w' ∧gB w' w.heap.size x tc c s wv
theorem mJ (w:World) (base:Nat) (x:Sx) (h1:x.aF= []) (h2:x.aD= []) (h3:x.sets= []) (h4:x.aO= []):gB w base x au au au au:=by
 unfold gB;rw [h1,h2,h3,h4];exact ⟨World.ownsRow_nil _ _ _ _,World.ownsRow_nil _ _ _ _,World.ownsRow_nil _ _ _ _,World.ownsRow_nil _ _ _ _⟩
section
variable {w:World}{b:Nat}{x:Sx}{tc c s wv pv:Value}{T:TypeId}
theorem bn (h:w.heap[b]? =some (.cells (aP x tc c s wv pv) T (0,0))):
 w.cell? ⟨b,0,none⟩=some (.int .i64 x.kind)∧w.cell? ⟨b,1,none⟩=some (.string x.name)∧w.cell? ⟨b,2,none⟩=some (.string x.dA)∧w.cell? ⟨b,3,none⟩=some (.string x.on)∧w.cell? ⟨b,4,none⟩=some (.string x.bW)∧w.cell? ⟨b,5,none⟩=some (.int .i64 x.tid)∧w.cell? ⟨b,6,none⟩=some (.string x.part.name)∧w.cell? ⟨b,7,none⟩=some (.int .i64 x.part.ty)∧w.cell? ⟨b,8,none⟩=some (.string x.aY.name)∧w.cell? ⟨b,9,none⟩=some (.int .i64 x.aY.ty)∧w.cell? ⟨b,10,none⟩=some (tc)∧w.cell? ⟨b,11,none⟩=some (c)∧w.cell? ⟨b,12,none⟩=some (s)∧w.cell? ⟨b,13,none⟩=some (wv)∧w.cell? ⟨b,14,none⟩=some (.int .i64 x.stamp)∧w.cell? ⟨b,15,none⟩=some (.int .i64 x.ttl)∧w.cell? ⟨b,16,none⟩=some (.int .i64 x.limit)∧w.cell? ⟨b,17,none⟩=some (pv):=
 ⟨by rw [aj h];rfl,by rw [aj h];rfl,by rw [aj h];rfl,by rw [aj h];rfl,by rw [aj h];rfl,by rw [aj h];rfl,by rw [aj h];rfl,by rw [aj h];rfl,by rw [aj h];rfl,by rw [aj h];rfl,by rw [aj h];rfl,by rw [aj h];rfl,by rw [aj h];rfl,by rw [aj h];rfl,by rw [aj h];rfl,by rw [aj h];rfl,by rw [aj h];rfl,by rw [aj h];rfl⟩
theorem AU (h:w.heap[b]? =some (.cells (aP x tc c s wv pv) T (0,0))) (v:ByteArray):(w.setCell ⟨b,2,none⟩ (.string v)).heap[b]? =some (.cells (aP {x with dA:=v} tc c s wv pv) T (0,0)):=by
 rw [bG h 2 _];rfl
theorem UY (h:w.heap[b]? =some (.cells (aP x tc c s wv pv) T (0,0))) (v:ByteArray):(w.setCell ⟨b,3,none⟩ (.string v)).heap[b]? =some (.cells (aP {x with on:=v} tc c s wv pv) T (0,0)):=by
 rw [bG h 3 _];rfl
theorem UZ (h:w.heap[b]? =some (.cells (aP x tc c s wv pv) T (0,0))) (v:Value):(w.setCell ⟨b,10,none⟩ v).heap[b]? =some (.cells (aP x v c s wv pv) T (0,0)):=by
 rw [bG h 10 _];rfl
theorem KG (h:w.heap[b]? =some (.cells (aP x tc c s wv pv) T (0,0))) (v:Value):(w.setCell ⟨b,11,none⟩ v).heap[b]? =some (.cells (aP x tc v s wv pv) T (0,0)):=by
 rw [bG h 11 _];rfl
theorem qY (h:w.heap[b]? =some (.cells (aP x tc c s wv pv) T (0,0))) (v:Value):(w.setCell ⟨b,12,none⟩ v).heap[b]? =some (.cells (aP x tc c v wv pv) T (0,0)):=by
 rw [bG h 12 _];rfl
theorem qZ (h:w.heap[b]? =some (.cells (aP x tc c s wv pv) T (0,0))) (v:Value):(w.setCell ⟨b,13,none⟩ v).heap[b]? =some (.cells (aP x tc c s v pv) T (0,0)):=by
 rw [bG h 13 _];rfl
theorem AV (h:w.heap[b]? =some (.cells (aP x tc c s wv pv) T (0,0))) (v:Int):(w.setCell ⟨b,14,none⟩ (.int .i64 v)).heap[b]? =some (.cells (aP {x with stamp:=v} tc c s wv pv) T (0,0)):=by
 rw [bG h 14 _];rfl
theorem OX (h:w.heap[b]? =some (.cells (aP x tc c s wv pv) T (0,0))) (v:Int):(w.setCell ⟨b,15,none⟩ (.int .i64 v)).heap[b]? =some (.cells (aP {x with ttl:=v} tc c s wv pv) T (0,0)):=by
 rw [bG h 15 _];rfl
theorem QW (h:w.heap[b]? =some (.cells (aP x tc c s wv pv) T (0,0))) (v:Int):(w.setCell ⟨b,16,none⟩ (.int .i64 v)).heap[b]? =some (.cells (aP {x with limit:=v} tc c s wv pv) T (0,0)):=by
 rw [bG h 16 _];rfl
end
def Kept (K:PK) (w w' :World) (bx:Nat):Prop:=∀k o,K.L≤k→k≠bx→w.heap[k]? =some o→w'.heap[k]? =some o
section
variable {K:PK}{w0 w w1 w' :World}{σ σ' :Ps}{bx:Nat}
theorem Kept.refl:Kept K w w bx:=fun _ _ _ _ h=>h
theorem Kept.did (h:Kept K w w1 bx) (hd:Did K w1 σ w'):Kept K w w' bx:=fun k o hk hn hb=>hd.blk (h k o hk hn hb) hk
theorem Kept.set (h:Kept K w w1 bx) (o:Nat) (v:Value):Kept K w (w1.setCell ⟨bx,o,none⟩ v) bx:=fun k o' hk hn hb=>bg (h k o' hk hn hb) _ _ hn
theorem Kept.trans (h:Kept K w w1 bx) (h' :Kept K w1 w' bx):Kept K w w' bx:=fun k o hk hn hb=>h' k o hk hn (h k o hk hn hb)
theorem Kept.row (h:Kept K w w' bx) {base:Nat}{e T:TypeId}{size n:Nat}{u:Value}{xs:List Value}{C:Array Value}{fr:Nat×Nat}(hu:w.ownsRow base e size u n xs) (hb:K.L≤base) (hx:w.heap[bx]? =some (.cells C T fr)) (hne:e≠T):w'.ownsRow base e size u n xs:=by
 obtain ⟨h1,h2⟩:=hu;refine ⟨h1, ?_⟩;rcases h2 with h2|⟨g,cap,cur,a,b,c,d⟩
 · exact .inl h2
 · refine .inr ⟨g,cap,cur,a,b,h g _ (by omega) (fun e2=> ?_) c,d⟩;rw [e2,hx]at c;injection c with c
   injection c with _ c _
   exact hne c.symm
theorem aZ {base:Nat}{e T:TypeId}{size n:Nat}{u:Value}{xs:List Value}{C:Array Value}{fr:Nat×Nat}(hu:w.ownsRow base e size u n xs) (hx:w.heap[bx]? =some (.cells C T fr)) (hne:e≠T) (o:Nat) (v:Value):(w.setCell ⟨bx,o,none⟩ v).ownsRow base e size u n xs:=by
 obtain ⟨h1,h2⟩:=hu;refine ⟨h1, ?_⟩;rcases h2 with h2|⟨g,cap,cur,a,b,c,d⟩
 · exact .inl h2
 · refine .inr ⟨g,cap,cur,a,b,bg c _ _ (fun e2=> ?_),d⟩;rw [e2,hx]at c;injection c with c
   injection c with _ c _
   exact hne c.symm
end
theorem kX {K:PK}{w0 w:World}{σ:Ps}(hD:Did K w0 σ w) {bx:Nat}(hbx:w0.heap.size≤bx) {x:Sx}{tc c s wv pv:Value}(hblk:w.heap[bx]? =some (.cells (aP x tc c s wv pv) 39 (0,0))) (ttl:Bool):
 Calls prog 269 #[.pointer (some ⟨K.b,0,none⟩), .pointer (some ⟨bx,0,none⟩), .bool ttl] w fun e w' =>
  e= .returned (.tuple #[])∧Did K w0 (K.X.using_ σ ttl x).2 w' ∧w'.heap[bx]? =some (.cells (aP (K.X.using_ σ ttl x).1 tc c s wv pv) 39 (0,0))∧Kept K w w' bx:=by
 have dK:K.L≤bx:=Nat.le_trans hD.2.2 hbx;have hm0:=aS hD.1 (⟨#[117,115,105,110,103]⟩:ah);have hK0:Kept K w w bx:=Kept.refl;unfold Tx.may at hm0;unfold Tx.using_;cases hs:K.X.sees σ (⟨#[117,115,105,110,103]⟩:ah)with
 |false=>
  rw [hs]at hm0;go_enter func269,ntmps269;go_wp2_with fail;refine hm0.mono ?_;rintro e w1 ⟨rfl,hd1⟩;go_wp2_with fail
  (first|go_end0|refine bodyPost_ret (v:= .tuple #[]) (by simp [results,results269,go_sem]) rfl ?_)
  exact ⟨rfl,hD.trans hd1,hd1.blk hblk dK,hK0.did hd1⟩
 |true=>
  rw [hs]at hm0;cases ttl with
  |true=>
   cases ht:K.X.sees σ.step (⟨#[116,116,108]⟩:ah)with
   |true=>
    obtain ⟨⟨n,σ2⟩,hc⟩:∃r,K.X.count σ.step.step=r:=⟨_,rfl⟩;go_enter func269,ntmps269;go_wp2_with fail;refine hm0.mono ?_;rintro e w1 ⟨rfl,hd1⟩;have hD1:Did K w0 σ.step w1:=hD.trans hd1;have hm1:=aS hD1.1 (⟨#[116,116,108]⟩:ah);unfold Tx.may at hm1;rw [ht]at hm1;go_wp2_with fail;refine hm1.mono ?_;rintro e w2 ⟨rfl,hd2⟩;have hD2:Did K w0 σ.step.step w2:=hD1.trans hd2;have hct:=mI hD2.1;rw [hc]at hct;go_wp2_with fail;refine hct.mono ?_;rintro e w3 ⟨rfl,hd3⟩;have hblk3:=hd3.blk (hd2.blk (hd1.blk hblk dK) dK) dK;have t15:=(bn hblk3).2.2.2.2.2.2.2.2.2.2.2.2.2.2.2.1;have u15:=ak hblk3 15;go_wp2_with fail
    (first|go_end0|refine bodyPost_ret (v:= .tuple #[]) (by simp [results,results269,go_sem]) rfl ?_)
    simp only;exact ⟨trivial,(hD2.trans hd3).own hbx 15 _,OX hblk3 n,(((hK0.did hd1).did hd2).did hd3).set 15 _⟩
   |false=>
    obtain ⟨⟨n,σ2⟩,hc⟩:∃r,K.X.count (K.X.must σ.step [(⟨#[116,105,109,101,115,116,97,109,112]⟩:ah)])=r:=⟨_,rfl⟩;cases ha:K.X.sees σ2 (⟨#[97,110,100]⟩:ah)with
    |true=>
     obtain ⟨⟨n3,σ3⟩,hc3⟩:∃r,K.X.count (K.X.must σ2.step [(⟨#[116,116,108]⟩:ah)])=r:=⟨_,rfl⟩;go_enter func269,ntmps269;go_wp2_with fail;refine hm0.mono ?_;rintro e w1 ⟨rfl,hd1⟩;have hD1:Did K w0 σ.step w1:=hD.trans hd1;have hm1:=aS hD1.1 (⟨#[116,116,108]⟩:ah);unfold Tx.may at hm1;rw [ht]at hm1;go_wp2_with fail;refine hm1.mono ?_;rintro e w2 ⟨rfl,hd2⟩;have hD2:Did K w0 σ.step w2:=hD1.trans hd2;go_wp2_with fail;refine (bS hD2.1 _).mono ?_;rintro e w3 ⟨rfl,hd3⟩;have hD3:=hD2.trans hd3;have hct:=mI hD3.1;rw [hc]at hct;go_wp2_with fail;refine hct.mono ?_;rintro e w4 ⟨rfl,hd4⟩;have eZ:=hd4.blk (hd3.blk (hd2.blk (hd1.blk hblk dK) dK) dK) dK;have t14:=(bn eZ).2.2.2.2.2.2.2.2.2.2.2.2.2.2.1;have u14:=ak eZ 14;have hD5:=(hD3.trans hd4).own hbx 14 (.int .i64 n);have hblk5:=AV eZ n;have hK5:=((((hK0.did hd1).did hd2).did hd3).did hd4).set 14 (.int .i64 n);have oV:=aS hD5.1 (⟨#[97,110,100]⟩:ah);unfold Tx.may at oV;rw [ha]at oV;go_wp2_with fail;refine oV.mono ?_;rintro e w6 ⟨rfl,hd6⟩;have hD6:Did K w0 σ2.step w6:=hD5.trans hd6;go_wp2_with fail;refine (bS hD6.1 _).mono ?_;rintro e w7 ⟨rfl,hd7⟩;have hD7:=hD6.trans hd7;have acS:=mI hD7.1;rw [hc3]at acS;go_wp2_with fail;refine acS.mono ?_;rintro e w8 ⟨rfl,BH⟩;have kY:=BH.blk (hd7.blk (hd6.blk hblk5 dK) dK) dK;have t15:=(bn kY).2.2.2.2.2.2.2.2.2.2.2.2.2.2.2.1;have u15:=ak kY 15;go_wp2_with fail
     (first|go_end0|refine bodyPost_ret (v:= .tuple #[]) (by simp [results,results269,go_sem]) rfl ?_)
     simp only;exact ⟨trivial,(hD7.trans BH).own hbx 15 _,OX kY n3,(((hK5.did hd6).did hd7).did BH).set 15 _⟩
    |false=>
     go_enter func269,ntmps269;go_wp2_with fail;refine hm0.mono ?_;rintro e w1 ⟨rfl,hd1⟩;have hD1:Did K w0 σ.step w1:=hD.trans hd1;have hm1:=aS hD1.1 (⟨#[116,116,108]⟩:ah);unfold Tx.may at hm1;rw [ht]at hm1;go_wp2_with fail;refine hm1.mono ?_;rintro e w2 ⟨rfl,hd2⟩;have hD2:Did K w0 σ.step w2:=hD1.trans hd2;go_wp2_with fail;refine (bS hD2.1 _).mono ?_;rintro e w3 ⟨rfl,hd3⟩;have hD3:=hD2.trans hd3;have hct:=mI hD3.1;rw [hc]at hct;go_wp2_with fail;refine hct.mono ?_;rintro e w4 ⟨rfl,hd4⟩;have eZ:=hd4.blk (hd3.blk (hd2.blk (hd1.blk hblk dK) dK) dK) dK;have t14:=(bn eZ).2.2.2.2.2.2.2.2.2.2.2.2.2.2.1;have u14:=ak eZ 14;have hD5:=(hD3.trans hd4).own hbx 14 (.int .i64 n);have hblk5:=AV eZ n;have hK5:=((((hK0.did hd1).did hd2).did hd3).did hd4).set 14 (.int .i64 n);have oV:=aS hD5.1 (⟨#[97,110,100]⟩:ah);unfold Tx.may at oV;rw [ha]at oV;go_wp2_with fail;refine oV.mono ?_;rintro e w6 ⟨rfl,hd6⟩;go_wp2_with fail
     (first|go_end0|refine bodyPost_ret (v:= .tuple #[]) (by simp [results,results269,go_sem]) rfl ?_)
     simp only;exact ⟨trivial,hD5.trans hd6,hd6.blk hblk5 dK,hK5.did hd6⟩
  |false=>
   obtain ⟨⟨n,σ2⟩,hc⟩:∃r,K.X.count (K.X.must σ.step [(⟨#[116,105,109,101,115,116,97,109,112]⟩:ah)])=r:=⟨_,rfl⟩;go_enter func269,ntmps269;go_wp2_with fail;refine hm0.mono ?_;rintro e w1 ⟨rfl,hd1⟩;have hD2:Did K w0 σ.step w1:=hD.trans hd1;go_wp2_with fail;refine (bS hD2.1 _).mono ?_;rintro e w3 ⟨rfl,hd3⟩;have hD3:=hD2.trans hd3;have hct:=mI hD3.1;rw [hc]at hct;go_wp2_with fail;refine hct.mono ?_;rintro e w4 ⟨rfl,hd4⟩;have eZ:=hd4.blk (hd3.blk (hd1.blk hblk dK) dK) dK;have t14:=(bn eZ).2.2.2.2.2.2.2.2.2.2.2.2.2.2.1;have u14:=ak eZ 14;go_wp2_with fail
   (first|go_end0|refine bodyPost_ret (v:= .tuple #[]) (by simp [results,results269,go_sem]) rfl ?_)
   simp only;exact ⟨trivial,(hD3.trans hd4).own hbx 14 _,AV eZ n,(((hK0.did hd1).did hd3).did hd4).set 14 _⟩
theorem Tryz.xH:(prog.info? 39).map (·.size)=some 18:=by kernel_rfl
theorem Tryz.OY:∃d,prog.underlying 39=some d∧d.isRow=true:=⟨_,underlying39,rfl⟩
theorem Iq (k:Int)  (w:World):(Instr.build 39 #[(0, .int .i64 k)]).run prog w= .ok (.agg #[.int .i64 k, .string ⟨#[]⟩, .string ⟨#[]⟩, .string ⟨#[]⟩, .string ⟨#[]⟩, .int .i64 0, .string ⟨#[]⟩, .int .i64 0, .string ⟨#[]⟩, .int .i64 0, .slice none 0 0, .slice none 0 0, .slice none 0 0, .slice none 0 0, .int .i64 0, .int .i64 0, .int .i64 0, .slice none 0 0]) w:=by kernel_rfl
theorem zf (k:Int) (x:ByteArray) (w:World):(Instr.build 39 #[(0, .int .i64 k),(1, .string x)]).run prog w= .ok (.agg #[.int .i64 k, .string x, .string ⟨#[]⟩, .string ⟨#[]⟩, .string ⟨#[]⟩, .int .i64 0, .string ⟨#[]⟩, .int .i64 0, .string ⟨#[]⟩, .int .i64 0, .slice none 0 0, .slice none 0 0, .slice none 0 0, .slice none 0 0, .int .i64 0, .int .i64 0, .int .i64 0, .slice none 0 0]) w:=by kernel_rfl
theorem KH (k:Int) (x:ByteArray) (w:World):(Instr.build 39 #[(0, .int .i64 k),(2, .string x)]).run prog w= .ok (.agg #[.int .i64 k, .string ⟨#[]⟩, .string x, .string ⟨#[]⟩, .string ⟨#[]⟩, .int .i64 0, .string ⟨#[]⟩, .int .i64 0, .string ⟨#[]⟩, .int .i64 0, .slice none 0 0, .slice none 0 0, .slice none 0 0, .slice none 0 0, .int .i64 0, .int .i64 0, .int .i64 0, .slice none 0 0]) w:=by kernel_rfl
theorem KJ (k:Int) (n c:Nat) (a:Option Addr) (w:World):(Instr.build 39 #[(0, .int .i64 k),(5, .slice a n c)]).run prog w= .ok (.agg #[.int .i64 k, .string ⟨#[]⟩, .string ⟨#[]⟩, .string ⟨#[]⟩, .string ⟨#[]⟩, .int .i64 0, .string ⟨#[]⟩, .int .i64 0, .string ⟨#[]⟩, .int .i64 0, .slice none 0 0, .slice a n c, .slice none 0 0, .slice none 0 0, .int .i64 0, .int .i64 0, .int .i64 0, .slice none 0 0]) w:=by kernel_rfl
theorem U0 (w:World) (V:Array Value) (hV:V.size=18) (h1' :V.toList.all (·.oneCell')=true):
 (Instr.storeAt 39 (.pointer (some ⟨w.heap.size,0,none⟩)) (.agg V)).run prog (w.alloc (.cells bC 39))= .ok () (w.alloc (.cells V 39))∧
 (storeCells ⟨w.heap.size,0,none⟩ V.toList 0).run prog (w.alloc (.cells bC 39))= .ok () (w.alloc (.cells V 39)):=
 have h1:V.all (·.oneCell')=true:=by rw [←Array.all_toList];exact h1'
 ⟨run_storeAt_new w _ _ V (by rw [hV];exact Tryz.xH) (by rw [hV];rfl) h1,run_storeCells_new w _ _ V (by rw [hV];exact Tryz.xH) (by rw [hV];rfl) h1⟩
theorem bK {ops:Array Oper}{rest:List Oper}{op:Oper}{a:Act}{w:World}{Q:Exit→Act→World→Prop}{b:Nat}{V:Array Value}{T:TypeId}(hgd:op.guard=none) (x:Operand) (ho:op.op= .load 39 x)
 (hx:a.eval x= .pointer (some ⟨b,0,none⟩)) (hV:V.size=18) (hb:w.heap[b]? =some (.cells V T (0,0))) (h:wpList prog ops Q rest (a.put op.dst (.agg V)) w):wpList prog ops Q (op::rest) a w:=by
 obtain ⟨d,hu,hd⟩:=Tryz.OY;refine wpList_load_mid hgd 39 x ho b 0 hx V.toList d (fun j v hv=> ?_) hu hd (by rw [show V.toList.length=18 by simpa using hV];exact Tryz.xH) (by simpa using h);rw [Nat.zero_add,aj hb];simpa using hv
theorem lN {ops:Array Oper}{rest:List Oper}{op:Oper}{a:Act}{w:World}{Q:Exit→Act→World→Prop}{V:Array Value}(hgd:op.guard=none) (x y:Operand) (ho:op.op= .store 39 x y)
 (hx:a.eval x= .pointer (some ⟨w.heap.size,0,none⟩)) (hy:a.eval y= .agg V) (hV:V.size=18) (h1' :V.toList.all (·.oneCell')=true) (h:wpList prog ops Q rest (a.put op.dst undef) (w.alloc (.cells V 39))):
 wpList prog ops Q (op::rest) a (w.alloc (.cells bC 39)):=by
 refine wpList_plain hgd fun K hK=> ?_
 unfold Oper.wp execOp;have:=(U0 w V hV h1').1;simp only [ho,hx,hy,Sem.run_bind,this,Result.andThen_ok,Sem.run_pure];exact hK _ _ h
theorem oW (v0 v1 v2 v3 v4 v5 v6 v7 v8 v9 v10 v11 v12 v13 v14 v15 v16 v17:Value) (w:World):(Instr.build 280 #[(0, .agg #[v0,v1,v2,v3,v4,v5,v6,v7,v8,v9,v10,v11,v12,v13,v14,v15,v16,v17])]).run prog w= .ok (.agg #[v0,v1,v2,v3,v4,v5,v6,v7,v8,v9,v10,v11,v12,v13,v14,v15,v16,v17]) w:=by kernel_rfl
theorem ny (v0 v1 v2 v3 v4 v5 v6 v7 v8 v9 v10 v11 v12 v13 v14 v15 v16 v17:Value) (w:World):(Instr.build 330 #[(0, .agg #[v0,v1,v2,v3,v4,v5,v6,v7,v8,v9,v10,v11,v12,v13,v14,v15,v16,v17])]).run prog w= .ok (.agg #[v0,v1,v2,v3,v4,v5,v6,v7,v8,v9,v10,v11,v12,v13,v14,v15,v16,v17]) w:=by kernel_rfl
theorem uU (v0 v1 v2 v3 v4 v5 v6 v7 v8 v9 v10 v11 v12 v13 v14 v15 v16 v17:Value) (w:World):(Instr.makeInterface 280 (.agg #[v0,v1,v2,v3,v4,v5,v6,v7,v8,v9,v10,v11,v12,v13,v14,v15,v16,v17])).run prog w= .ok (.iface 280 (.agg #[v0,v1,v2,v3,v4,v5,v6,v7,v8,v9,v10,v11,v12,v13,v14,v15,v16,v17])) w:=by kernel_rfl
theorem uV (v0 v1 v2 v3 v4 v5 v6 v7 v8 v9 v10 v11 v12 v13 v14 v15 v16 v17:Value) (w:World):(Instr.makeInterface 330 (.agg #[v0,v1,v2,v3,v4,v5,v6,v7,v8,v9,v10,v11,v12,v13,v14,v15,v16,v17])).run prog w= .ok (.iface 330 (.agg #[v0,v1,v2,v3,v4,v5,v6,v7,v8,v9,v10,v11,v12,v13,v14,v15,v16,v17])) w:=by kernel_rfl
theorem nA (X:Tx) (σ:Ps) (ttl:Bool) (x y:Sx) (σ' :Ps) (h:X.using_ σ ttl x=(y,σ')):∃a b,y={x with stamp:=a,ttl:=b}:=by
 unfold Tx.using_ at h;simp only at h;split at h
 · split at h
   · cases h;exact ⟨x.stamp,_,rfl⟩
   · split at h
     · cases h;exact ⟨_,_,rfl⟩
     · cases h;exact ⟨_,x.ttl,rfl⟩
 · cases h;exact ⟨x.stamp,x.ttl,rfl⟩
theorem U1 {w:World}{base:Nat}{x y:Sx}{tc c s wv:Value}{q:List Pr}(hu:Hid (∃a b,y={x with stamp:=a,ttl:=b})) (h1:w.ownsRow base 24 2 tc x.aF.length (gH x.aF)) (h2:w.ownsRow base 9 1 c x.aD.length (x.aD.map Value.string)) (h3:w.ownsRow base 43 4 s x.sets.length (fG x.sets)) (h4:w.ownsRow base 43 4 wv q.length (fG q)):gB w base {y with aO:=q} tc c s wv:=by
 obtain ⟨a,b,rfl⟩:=hu.out;exact ⟨h1,h2,h3,h4⟩
theorem QX {K:PK}{w:World}{σ:Ps}(h:PQ K w σ):
 Calls prog 198 #[.pointer (some ⟨K.b,0,none⟩)] w (gD K w 280 (K.X.index σ).1 (K.X.index σ).2):=by
 have hle:=h.le;have hD0:=Did.refl h;obtain ⟨σ1,hq1⟩:∃r,K.X.must σ [(⟨#[105,110,100,101,120]⟩:ah)]=r:=⟨_,rfl⟩;obtain ⟨⟨x,σ2⟩,hq2⟩:∃r,K.X.name σ1=r:=⟨_,rfl⟩;obtain ⟨σ3,hq3⟩:∃r,K.X.must σ2 [(⟨#[111,110]⟩:ah)]=r:=⟨_,rfl⟩;obtain ⟨⟨o,jH⟩,hq4⟩:∃r,K.X.name σ3=r:=⟨_,rfl⟩;obtain ⟨oF,Jo⟩:∃r,K.X.must jH [(⟨#[40]⟩:ah)]=r:=⟨_,rfl⟩;obtain ⟨⟨n,L8⟩,QO⟩:∃r,K.X.name oF=r:=⟨_,rfl⟩;obtain ⟨σ7,hq7⟩:∃r,K.X.must L8 [(⟨#[41]⟩:ah)]=r:=⟨_,rfl⟩;have HE:Hid (K.X.index σ=({Sx.zero with kind:=3,name:=x,dA:=o,on:=n},σ7)):=by show _=_;unfold Tx.index;simp only [hq1,hq2,hq3,hq4,Jo,QO,hq7]
 go_enter func198,ntmps198;have hm1:=bS hD0.1 (⟨#[105,110,100,101,120]⟩:ah);rw [hq1]at hm1;try simp only [av,bB]at hm1
 go_wp2_with fail;refine hm1.mono ?_;rintro e w1 ⟨rfl,hd1⟩;have hD1:=hD0.trans hd1;have hm2:=dS hD1.1;rw [hq2]at hm2;try simp only at hm2
 go_wp2_with fail;refine hm2.mono ?_;rintro e w2 ⟨rfl,hd2⟩;have hD2:=hD1.trans hd2;have hB3:=zf 3 x;have dK:K.L≤w2.heap.size:=Nat.le_trans hle hD2.size;have hbx:w.heap.size≤w2.heap.size:=hD2.size;have hblk3:(w2.alloc (.cells (aP {Sx.zero with kind:=3,name:=x} au au au au au) 39)).heap[w2.heap.size]? =some (.cells (aP {Sx.zero with kind:=3,name:=x} au au au au au) 39 (0,0)):=aB w2 _;have hD3:=hD2.alloc (.cells (aP {Sx.zero with kind:=3,name:=x} au au au au au) 39);have mK:=bS hD3.1 (⟨#[111,110]⟩:ah);rw [hq3]at mK;try simp only [av]at mK
 go_wp2_with (refine lN rfl _ _ rfl rfl rfl rfl rfl ?_);refine mK.mono ?_;rintro e w4 ⟨rfl,hd4⟩;have hD4:=hD3.trans hd4;have eZ:=hd4.blk hblk3 dK;have oV:=dS hD4.1;rw [hq4]at oV;try simp only at oV
 go_wp2_with fail;refine oV.mono ?_;rintro e w5 ⟨rfl,hd5⟩;have hD5:=hD4.trans hd5;have hblk5:=hd5.blk eZ dK;have tt5:=(bn hblk5).2.2.1;have uu5:=ak hblk5 2;have hD6:=hD5.own hbx 2 (.string o);have hblk6:=AU hblk5 o;have yc:=bS hD6.1 (⟨#[40]⟩:ah);rw [Jo]at yc;try simp only [bB]at yc
 go_wp2_with fail;refine yc.mono ?_;rintro e w7 ⟨rfl,hd7⟩;have hD7:=hD6.trans hd7;have hblk7:=hd7.blk hblk6 dK;have wH:=dS hD7.1;rw [QO]at wH;try simp only at wH
 go_wp2_with fail;refine wH.mono ?_;rintro e w8 ⟨rfl,BH⟩;have BI:=hD7.trans BH;have kY:=BH.blk hblk7 dK;have tt8:=(bn kY).2.2.2.1;have uu8:=ak kY 3;have wI:=BI.own hbx 3 (.string n);have oZ:=UY kY n;have MS:=bS wI.1 (⟨#[41]⟩:ah);rw [hq7]at MS;try simp only [bB]at MS
 go_wp2_with fail;refine MS.mono ?_;rintro e w10 ⟨rfl,QY⟩;have nC:=wI.trans QY;have xI:=QY.blk oZ dK;have hBx:=oW;have MU:=uU;go_wp2_with (refine bK rfl _ rfl rfl rfl xI ?_);go_ret;rw [HE.out];exact ⟨au,au,au,au,rfl,nC,mJ _ _ _ rfl rfl rfl rfl⟩
theorem Yc {K:PK}{w:World}{σ:Ps}(h:PQ K w σ):
 Calls prog 193 #[.pointer (some ⟨K.b,0,none⟩)] w (gD K w 280 (K.X.ask σ).1 (K.X.ask σ).2):=by
 have hle:=h.le;have hD0:=Did.refl h;obtain ⟨⟨c,σ1⟩,hq1⟩:∃r,K.X.some_ σ=r:=⟨_,rfl⟩;obtain ⟨σ2,hq2⟩:∃r,K.X.must σ1 [(⟨#[102,114,111,109]⟩:ah)]=r:=⟨_,rfl⟩;obtain ⟨⟨o,σ3⟩,hq3⟩:∃r,K.X.name σ2=r:=⟨_,rfl⟩;obtain ⟨⟨q,jH⟩,hq4⟩:∃r,K.X.aO σ3 false=r:=⟨_,rfl⟩;cases wo:K.X.sees jH (⟨#[108,105,109,105,116]⟩:ah)with
 |true=>
  obtain ⟨⟨k,oF⟩,Jo⟩:∃r,K.X.count jH.step=r:=⟨_,rfl⟩;have HE:Hid (K.X.ask σ=({Sx.zero with kind:=8,aD:=c,dA:=o,aO:=q,limit:=k},oF)):=by show _=_;unfold Tx.ask;simp only [hq1,hq2,hq3,hq4,Jo,wo,if_true]
  go_enter func193,ntmps193;have hm1:=DW hD0.1;rw [hq1]at hm1;try simp only at hm1
  go_wp2_with fail;refine hm1.mono ?_;rintro e w1 ⟨ac,cc,rfl,hd1,hr1⟩;have hD1:=hD0.trans hd1;have hz1:=hD0.size;try simp only [av,bB]at hz1 hr1
  replace hr1:=bH hr1 hz1;have hB2:=KJ 8 c.length cc ac;have dK:K.L≤w1.heap.size:=Nat.le_trans hle hD1.size;have hbx:w.heap.size≤w1.heap.size:=hD1.size;have hblk2:(w1.alloc (.cells (aP {Sx.zero with kind:=8,aD:=c} au (.slice ac c.length cc) au au au) 39)).heap[w1.heap.size]? =some (.cells (aP {Sx.zero with kind:=8,aD:=c} au (.slice ac c.length cc) au au au) 39 (0,0)):=aB w1 _;have hD2:=hD1.alloc (.cells (aP {Sx.zero with kind:=8,aD:=c} au (.slice ac c.length cc) au au au) 39);have U2:=hr1.alloc (.cells (aP {Sx.zero with kind:=8,aD:=c} au (.slice ac c.length cc) au au au) 39);have mY:=bS hD2.1 (⟨#[102,114,111,109]⟩:ah);rw [hq2]at mY;try simp only [av]at mY
  go_wp2_with (refine lN rfl _ _ rfl rfl rfl rfl rfl ?_);refine mY.mono ?_;rintro e w3 ⟨rfl,hd3⟩;have hD3:=hD2.trans hd3;have hblk3:=hd3.blk hblk2 dK;have U3:=hd3.row U2 hle;have mK:=dS hD3.1;rw [hq3]at mK;try simp only at mK
  go_wp2_with fail;refine mK.mono ?_;rintro e w4 ⟨rfl,hd4⟩;have hD4:=hD3.trans hd4;have eZ:=hd4.blk hblk3 dK;have KL:=hd4.row U3 hle;have tt4:=(bn eZ).2.2.1;have uu4:=ak eZ 2;have hD5:=hD4.own hbx 2 (.string o);have hblk5:=AU eZ o;have KM:=aZ KL eZ (by decide) 2 (.string o);have qm:=qX hD5.1 false;rw [hq4]at qm;try simp only [bB]at qm
  go_wp2_with fail;refine qm.mono ?_;rintro e w6 ⟨aq,cq,rfl,hd6,MV⟩;have hD6:=hD5.trans hd6;have hblk6:=hd6.blk hblk5 dK;have zh:=hd6.row KM hle;have OZ:=hD5.size;try simp only [bB]at OZ MV
  replace MV:=bH MV OZ;have tt6:=(bn hblk6).2.2.2.2.2.2.2.2.2.2.2.2.2.1;have uu6:=ak hblk6 13;have hD7:=hD6.own hbx 13 (.slice aq q.length cq);have hblk7:=qZ hblk6 (.slice aq q.length cq);have zi:=aZ zh hblk6 (by decide) 13 (.slice aq q.length cq);have U4:=aZ MV hblk6 (by decide) 13 (.slice aq q.length cq);have wH:=aS hD7.1 (⟨#[108,105,109,105,116]⟩:ah);unfold Tx.may at wH;rw [wo,if_pos rfl]at wH;try simp only [av,bB]at wH
  go_wp2_with fail;refine wH.mono ?_;rintro e w8 ⟨rfl,BH⟩;have BI:=hD7.trans BH;have kY:=BH.blk hblk7 dK;have DX:=BH.row zi hle;have KN:=BH.row U4 hle;have MW:=mI BI.1;rw [Jo]at MW;try simp only at MW
  go_wp2_with fail;refine MW.mono ?_;rintro e w9 ⟨rfl,O1⟩;have wI:=BI.trans O1;have oZ:=O1.blk kY dK;have KO:=O1.row DX hle;have acU:=O1.row KN hle;have tt9:=(bn oZ).2.2.2.2.2.2.2.2.2.2.2.2.2.2.2.2.1;have uu9:=ak oZ 16;have nC:=wI.own hbx 16 (.int .i64 k);have xI:=QW oZ k;have DY:=aZ KO oZ (by decide) 16 (.int .i64 k);have MX:=aZ acU oZ (by decide) 16 (.int .i64 k);have hBx:=oW;have MU:=uU;go_wp2_with (refine bK rfl _ rfl rfl rfl xI ?_);go_ret;rw [HE.out];exact ⟨au,_,au,_,rfl,nC,⟨World.ownsRow_nil _ _ _ _,DY,World.ownsRow_nil _ _ _ _,MX⟩⟩
 |false=>
  have HE:Hid (K.X.ask σ=({Sx.zero with kind:=8,aD:=c,dA:=o,aO:=q},jH)):=by show _=_;unfold Tx.ask;simp only [hq1,hq2,hq3,hq4,wo,if_neg (show¬(false=true)by decide)]
  go_enter func193,ntmps193;have hm1:=DW hD0.1;rw [hq1]at hm1;try simp only at hm1
  go_wp2_with fail;refine hm1.mono ?_;rintro e w1 ⟨ac,cc,rfl,hd1,hr1⟩;have hD1:=hD0.trans hd1;have hz1:=hD0.size;try simp only [av,bB]at hz1 hr1
  replace hr1:=bH hr1 hz1;have hB2:=KJ 8 c.length cc ac;have dK:K.L≤w1.heap.size:=Nat.le_trans hle hD1.size;have hbx:w.heap.size≤w1.heap.size:=hD1.size;have hblk2:(w1.alloc (.cells (aP {Sx.zero with kind:=8,aD:=c} au (.slice ac c.length cc) au au au) 39)).heap[w1.heap.size]? =some (.cells (aP {Sx.zero with kind:=8,aD:=c} au (.slice ac c.length cc) au au au) 39 (0,0)):=aB w1 _;have hD2:=hD1.alloc (.cells (aP {Sx.zero with kind:=8,aD:=c} au (.slice ac c.length cc) au au au) 39);have U2:=hr1.alloc (.cells (aP {Sx.zero with kind:=8,aD:=c} au (.slice ac c.length cc) au au au) 39);have mY:=bS hD2.1 (⟨#[102,114,111,109]⟩:ah);rw [hq2]at mY;try simp only [av]at mY
  go_wp2_with (refine lN rfl _ _ rfl rfl rfl rfl rfl ?_);refine mY.mono ?_;rintro e w3 ⟨rfl,hd3⟩;have hD3:=hD2.trans hd3;have hblk3:=hd3.blk hblk2 dK;have U3:=hd3.row U2 hle;have mK:=dS hD3.1;rw [hq3]at mK;try simp only at mK
  go_wp2_with fail;refine mK.mono ?_;rintro e w4 ⟨rfl,hd4⟩;have hD4:=hD3.trans hd4;have eZ:=hd4.blk hblk3 dK;have KL:=hd4.row U3 hle;have tt4:=(bn eZ).2.2.1;have uu4:=ak eZ 2;have hD5:=hD4.own hbx 2 (.string o);have hblk5:=AU eZ o;have KM:=aZ KL eZ (by decide) 2 (.string o);have qm:=qX hD5.1 false;rw [hq4]at qm;try simp only [bB]at qm
  go_wp2_with fail;refine qm.mono ?_;rintro e w6 ⟨aq,cq,rfl,hd6,MV⟩;have hD6:=hD5.trans hd6;have hblk6:=hd6.blk hblk5 dK;have zh:=hd6.row KM hle;have OZ:=hD5.size;try simp only [bB]at OZ MV
  replace MV:=bH MV OZ;have tt6:=(bn hblk6).2.2.2.2.2.2.2.2.2.2.2.2.2.1;have uu6:=ak hblk6 13;have hD7:=hD6.own hbx 13 (.slice aq q.length cq);have hblk7:=qZ hblk6 (.slice aq q.length cq);have zi:=aZ zh hblk6 (by decide) 13 (.slice aq q.length cq);have U4:=aZ MV hblk6 (by decide) 13 (.slice aq q.length cq);have wH:=aS hD7.1 (⟨#[108,105,109,105,116]⟩:ah);unfold Tx.may at wH;rw [wo,if_neg (by decide)]at wH;try simp only [av,bB]at wH
  go_wp2_with fail;refine wH.mono ?_;rintro e w8 ⟨rfl,BH⟩;have BI:=hD7.trans BH;have kY:=BH.blk hblk7 dK;have DX:=BH.row zi hle;have KN:=BH.row U4 hle;have hBx:=oW;have MU:=uU;go_wp2_with (refine bK rfl _ rfl rfl rfl kY ?_);go_ret;rw [HE.out];exact ⟨au,_,au,_,rfl,BI,⟨World.ownsRow_nil _ _ _ _,DX,World.ownsRow_nil _ _ _ _,KN⟩⟩
theorem MZ {K:PK}{w:World}{σ:Ps}(h:PQ K w σ):
 Calls prog 192 #[.pointer (some ⟨K.b,0,none⟩)] w (gD K w 330 (K.X.remove σ).1 (K.X.remove σ).2):=by
 have hle:=h.le;have hD0:=Did.refl h;cases wo:K.X.sees σ (⟨#[102,114,111,109]⟩:ah)with
 |true=>
  obtain ⟨σ1,hq1⟩:∃r,K.X.must σ [(⟨#[102,114,111,109]⟩:ah)]=r:=⟨_,rfl⟩;obtain ⟨⟨o,σ2⟩,hq2⟩:∃r,K.X.name σ1=r:=⟨_,rfl⟩;obtain ⟨⟨xu,σ3⟩,hq3⟩:∃r,K.X.using_ σ2 false {Sx.zero with kind:=7,aD:=([]:List ByteArray),dA:=o}=r:=⟨_,rfl⟩;obtain ⟨⟨q,jH⟩,hq4⟩:∃r,K.X.aO σ3 false=r:=⟨_,rfl⟩;have HU:=Lib.hid (nA K.X _ _ _ _ _ hq3);have HE:Hid (K.X.remove σ=({xu with aO:=q},jH)):=by show _=_;unfold Tx.remove;simp only [hq1,hq2,hq3,hq4,wo,if_true]
  go_enter func192,ntmps192;have hB1:=Iq 7;have dK:K.L≤w.heap.size:=Nat.le_trans hle hD0.size;have hbx:w.heap.size≤w.heap.size:=hD0.size;have hblk1:(w.alloc (.cells (aP {Sx.zero with kind:=7} au au au au au) 39)).heap[w.heap.size]? =some (.cells (aP {Sx.zero with kind:=7} au au au au au) 39 (0,0)):=aB w _;have hD1:=hD0.alloc (.cells (aP {Sx.zero with kind:=7} au au au au au) 39);have hm2:=yX hD1.1 (⟨#[102,114,111,109]⟩:ah);rw [wo]at hm2;go_wp2_with (refine lN rfl _ _ rfl rfl rfl rfl rfl ?_);refine hm2.mono ?_;rintro e w2 ⟨rfl,hb2⟩;have hd2:=(Did.refl hD1.1).below hb2;have hD2:=hD1.trans hd2;have hblk2:=hd2.blk hblk1 dK;have mY:=bS hD2.1 (⟨#[102,114,111,109]⟩:ah);rw [hq1]at mY;try simp only [av,bB]at mY
  go_wp2_with fail;refine mY.mono ?_;rintro e w3 ⟨rfl,hd3⟩;have hD3:=hD2.trans hd3;have hblk3:=hd3.blk hblk2 dK;have mK:=dS hD3.1;rw [hq2]at mK;try simp only at mK
  go_wp2_with fail;refine mK.mono ?_;rintro e w4 ⟨rfl,hd4⟩;have hD4:=hD3.trans hd4;have eZ:=hd4.blk hblk3 dK;have tt4:=(bn eZ).2.2.1;have uu4:=ak eZ 2;have hD5:=hD4.own hbx 2 (.string o);have hblk5:=AU eZ o;have qm:=kX hD5 hbx (x:={Sx.zero with kind:=7,aD:=([]:List ByteArray),dA:=o}) hblk5 false;rw [hq3]at qm;go_wp2_with fail;refine qm.mono ?_;rintro e w6 ⟨rfl,hD6,hblk6,hk6⟩;have yc:=qX hD6.1 false;rw [hq4]at yc;try simp only at yc
  go_wp2_with fail;refine yc.mono ?_;rintro e w7 ⟨aq,cq,rfl,hd7,hr7⟩;have hD7:=hD6.trans hd7;have hblk7:=hd7.blk hblk6 dK;have hz7:=hD6.size;try simp only [av,bB]at hz7 hr7
  replace hr7:=bH hr7 hz7;have tt7:=(bn hblk7).2.2.2.2.2.2.2.2.2.2.2.2.2.1;have uu7:=ak hblk7 13;have BI:=hD7.own hbx 13 (.slice aq q.length cq);have kY:=qZ hblk7 (.slice aq q.length cq);have KN:=aZ hr7 hblk7 (by decide) 13 (.slice aq q.length cq);have hBx:=ny;have MU:=uV;go_wp2_with (refine bK rfl _ rfl rfl rfl kY ?_);go_ret;rw [HE.out];exact ⟨_,_,_,_,rfl,BI,U1 (x:={Sx.zero with kind:=7,aD:=([]:List ByteArray),dA:=o}) HU (World.ownsRow_nil _ _ _ _) (World.ownsRow_nil _ _ _ _) (World.ownsRow_nil _ _ _ _) KN⟩
 |false=>
  obtain ⟨⟨c,σ1⟩,hq1⟩:∃r,K.X.columns σ 8=r:=⟨_,rfl⟩;obtain ⟨σ2,hq2⟩:∃r,K.X.must σ1 [(⟨#[102,114,111,109]⟩:ah)]=r:=⟨_,rfl⟩;obtain ⟨⟨o,σ3⟩,hq3⟩:∃r,K.X.name σ2=r:=⟨_,rfl⟩;obtain ⟨⟨xu,jH⟩,hq4⟩:∃r,K.X.using_ σ3 false {Sx.zero with kind:=7,aD:=c,dA:=o}=r:=⟨_,rfl⟩;obtain ⟨⟨q,oF⟩,Jo⟩:∃r,K.X.aO jH false=r:=⟨_,rfl⟩;have HU:=Lib.hid (nA K.X _ _ _ _ _ hq4);have HE:Hid (K.X.remove σ=({xu with aO:=q},oF)):=by show _=_;unfold Tx.remove;simp only [hq1,hq2,hq3,hq4,Jo,wo,if_neg (show¬(false=true)by decide)]
  go_enter func192,ntmps192;have hB1:=Iq 7;have dK:K.L≤w.heap.size:=Nat.le_trans hle hD0.size;have hbx:w.heap.size≤w.heap.size:=hD0.size;have hblk1:(w.alloc (.cells (aP {Sx.zero with kind:=7} au au au au au) 39)).heap[w.heap.size]? =some (.cells (aP {Sx.zero with kind:=7} au au au au au) 39 (0,0)):=aB w _;have hD1:=hD0.alloc (.cells (aP {Sx.zero with kind:=7} au au au au au) 39);have hm2:=yX hD1.1 (⟨#[102,114,111,109]⟩:ah);rw [wo]at hm2;go_wp2_with (refine lN rfl _ _ rfl rfl rfl rfl rfl ?_);refine hm2.mono ?_;rintro e w2 ⟨rfl,hb2⟩;have hd2:=(Did.refl hD1.1).below hb2;have hD2:=hD1.trans hd2;have hblk2:=hd2.blk hblk1 dK;have mY:=uT hD2.1 8 (by omega);rw [hq1]at mY;try simp only at mY
  go_wp2_with fail;refine mY.mono ?_;rintro e w3 ⟨ac,cc,rfl,hd3,hr3⟩;have hD3:=hD2.trans hd3;have hblk3:=hd3.blk hblk2 dK;have hz3:=hD2.size;try simp only [av,bB]at hz3 hr3
  replace hr3:=bH hr3 hz3;have tt3:=(bn hblk3).2.2.2.2.2.2.2.2.2.2.2.1;have uu3:=ak hblk3 11;have hD4:=hD3.own hbx 11 (.slice ac c.length cc);have eZ:=KG hblk3 (.slice ac c.length cc);have KL:=aZ hr3 hblk3 (by decide) 11 (.slice ac c.length cc);have oV:=bS hD4.1 (⟨#[102,114,111,109]⟩:ah);rw [hq2]at oV;try simp only [bB]at oV
  go_wp2_with fail;refine oV.mono ?_;rintro e w5 ⟨rfl,hd5⟩;have hD5:=hD4.trans hd5;have hblk5:=hd5.blk eZ dK;have KM:=hd5.row KL hle;have qm:=dS hD5.1;rw [hq3]at qm;try simp only at qm
  go_wp2_with fail;refine qm.mono ?_;rintro e w6 ⟨rfl,hd6⟩;have hD6:=hD5.trans hd6;have hblk6:=hd6.blk hblk5 dK;have zh:=hd6.row KM hle;have tt6:=(bn hblk6).2.2.1;have uu6:=ak hblk6 2;have hD7:=hD6.own hbx 2 (.string o);have hblk7:=AU hblk6 o;have zi:=aZ zh hblk6 (by decide) 2 (.string o);have wH:=kX hD7 hbx (x:={Sx.zero with kind:=7,aD:=c,dA:=o}) hblk7 false;rw [hq4]at wH;go_wp2_with fail;refine wH.mono ?_;rintro e w8 ⟨rfl,BI,kY,hk8⟩;have DX:=hk8.row zi hle hblk7 (by decide);have MW:=qX BI.1 false;rw [Jo]at MW;try simp only at MW
  go_wp2_with fail;refine MW.mono ?_;rintro e w9 ⟨aq,cq,rfl,O1,KP⟩;have wI:=BI.trans O1;have oZ:=O1.blk kY dK;have KO:=O1.row DX hle;have hz9:=BI.size;try simp only [av,bB]at hz9 KP
  replace KP:=bH KP hz9;have tt9:=(bn oZ).2.2.2.2.2.2.2.2.2.2.2.2.2.1;have uu9:=ak oZ 13;have nC:=wI.own hbx 13 (.slice aq q.length cq);have xI:=qZ oZ (.slice aq q.length cq);have DY:=aZ KO oZ (by decide) 13 (.slice aq q.length cq);have MX:=aZ KP oZ (by decide) 13 (.slice aq q.length cq);have hBx:=ny;have MU:=uV;go_wp2_with (refine bK rfl _ rfl rfl rfl xI ?_);go_ret;rw [HE.out];exact ⟨_,_,_,_,rfl,nC,U1 (x:={Sx.zero with kind:=7,aD:=c,dA:=o}) HU (World.ownsRow_nil _ _ _ _) DY (World.ownsRow_nil _ _ _ _) MX⟩
end Go.Proofs.YtnngbhpeeakfaaaGreatDoor
