/- Parts of a proof. -/
import Derived.Deep.CutRange
import Derived.Deep.CutBlock
import Derived.Test.YtcgadodckoalnaaGreatDoorB15
import Derived.Test.YtcgadodckoalnaaGreatDoorB19
import Derived.Test.YtcgadodckoalnaaGreatDoorB34
set_option maxHeartbeats 8000000
set_option maxRecDepth 100000
namespace Go.Proofs.YtcgadodckoalnaaGreatDoor
open Go.Proofs.Tryz
open Go.RowKit
open aN
structure RE (K:PK) (w W:World) (σ:Ps) (bx br:Nat) (x:Sx) (tc c s wv pv:Value):Prop where
 did:dQ K w σ W
 hx:W.heap[bx]? =some (.cells (aG x tc c s wv pv) 31 (0,0))
 hr:W.heap[br]? =some (.cells bf 31 (0,0))
 lx:w.heap.size≤bx
 lr:w.heap.size≤br
 ne:br≠bx
section
variable {K:PK}{w W W' :World}{σ σ' :Ps}{bx br:Nat}{x:Sx}{tc c s wv pv:Value}
theorem RE.base (h:RE K w W σ bx br x tc c s wv pv):w.heap.size≤W.heap.size:=h.did.size
theorem RE.call (h:RE K w W σ bx br x tc c s wv pv) (hd:dQ K W σ' W'):RE K w W' σ' bx br x tc c s wv pv:=
 have hL:=h.did.2.2;have hx:=h.lx;have hr:=h.lr
 ⟨h.did.trans hd,hd.blk h.hx (by omega),hd.blk h.hr (by omega),h.lx,h.lr,h.ne⟩
theorem RE.below (h:RE K w W σ bx br x tc c s wv pv) (hb:Below W.heap.size W W'):RE K w W' σ bx br x tc c s wv pv:=
 have k:∀{b:Nat} {o:Obj},W.heap[b]? =some o→W'.heap[b]? =some o:=fun hh=>by rw [hb.block _ (aD hh)];exact hh
 ⟨h.did.below hb,k h.hx,k h.hr,h.lx,h.lr,h.ne⟩
theorem RE.alloc (h:RE K w W σ bx br x tc c s wv pv) (o:Obj):RE K w (W.alloc o) σ bx br x tc c s wv pv:=h.below ((Below.refl _ _).alloc (Nat.le_refl _) o)
theorem RE.drewN (h:RE K w W σ bx br x tc c s wv pv) (n:Nat):RE K w (W.drewN n) σ bx br x tc c s wv pv:=h.below (aN.below_drewN (Below.refl _ _) n)
theorem RE.own (h:RE K w W σ bx br x tc c s wv pv) (o:Nat) (v:Value) {x' :Sx}{Vz c' s' wv' pv' :Value}(e:(aG x tc c s wv pv).setIfInBounds o v=aG x' Vz c' s' wv' pv'):RE K w (W.setCell ⟨bx,o,none⟩ v) σ bx br x' Vz c' s' wv' pv' :=
 ⟨h.did.own h.lx o v,by rw [dB h.hx o v,e],bN h.hr _ _ h.ne,h.lx,h.lr,h.ne⟩
theorem RE.grown (h:RE K w W σ bx br x tc c s wv pv) {e:TypeId}{size n:Nat}{v:Value}{xs:List Value}(hu:W.ownsRow w.heap.size e size v n xs) (hne:e≠31) (hg:W.grownBy W' v.ownBlock):RE K w W' σ bx br x tc c s wv pv:=
 have k:∀{b:Nat} {C:Array Value} {fr:Nat×Nat},W.heap[b]? =some (.cells C 31 fr)→W'.heap[b]? =some (.cells C 31 fr):=fun hh=>by rw [hg.block _ (aD hh) (fun e' =>gy hu hh hne e'.symm)];exact hh
 ⟨h.did.grown hg (fun g hg2=>(hu.lt g hg2).1),k h.hx,k h.hr,h.lx,h.lr,h.ne⟩
theorem RE.new (h:RQ K w σ) (x:Sx) (tc c s wv pv:Value):RE K w ((w.alloc (.cells (aG x tc c s wv pv) 31)).alloc (.cells bf 31)) σ w.heap.size (w.heap.size+1) x tc c s wv pv:=by
 have hz:=aA (w.alloc (.cells (aG x tc c s wv pv) 31)) (.cells bf 31);rw [av]at hz;exact ⟨((dQ.refl h).alloc _).alloc _,aC (aA w _) _,hz,Nat.le_refl _,by omega,by omega⟩
theorem dQ.wrote {r:Nat}{V:Array Value}{T:TypeId}(h:dQ K w σ W) (hw:Wrote W r V T W') (hr:w.heap.size≤r):dQ K w σ W' :=by
 have hs:=h.2.1.size;have h2:=h.2.2;have hL:=K.hL;have hB:=K.hb;refine ⟨h.1.keep (Nat.le_of_eq hw.size.symm) (fun k hk=>hw.rest k (by omega)) (hw.below _ _ h.1.2.1 (by omega)),⟨?_, ?_, ?_,by rw [hw.size];exact hs,fun i hi hne=>by rw [hw.rest i (by omega)];exact h.2.1.block i hi hne⟩,h2⟩
 · have:=hw.below _ _ (Below.refl W.heap.size W|>.mono (show 0≤W.heap.size by omega)) (by omega);exact this.os.trans h.2.1.os
 · have:=hw.below _ _ (Below.refl W.heap.size W|>.mono (show 0≤W.heap.size by omega)) (by omega);exact this.tape.trans h.2.1.tape
 · have:=hw.below _ _ (Below.refl W.heap.size W|>.mono (show 0≤W.heap.size by omega)) (by omega);exact this.output.trans h.2.1.output
theorem RE.fin (h:RE K w W σ bx br x tc c s wv pv) {V:Array Value}{T:TypeId}(hw:Wrote W br V T W'):dQ K w σ W' :=h.did.wrote hw h.lr
end
theorem AL {K:PK}{w:World}{σ:Ps}(h:RQ K w σ) (x:Sx) (tc c s wv pv:Value) (hone:∀x:Sx,(aG x tc c s wv pv).toList.all (·.oneCell')=true) (ttl:Bool):
 Calls prog 132 #[.pointer (some ⟨K.b,0,none⟩), .agg (aG x tc c s wv pv), .bool ttl] w (pR K w (.agg (aG (K.X.using_ σ ttl x).1 tc c s wv pv)) (K.X.using_ σ ttl x).2):=by
 cases hs:K.X.sees σ (⟨#[117,115,105,110,103]⟩:ah)with
 |false=>
  go_enter func132,ntmps132;go_wp2_with fail;have hE:=RE.new h x tc c s wv pv;generalize ((w.alloc (.cells (aG x tc c s wv pv) 31)).alloc (.cells bf 31))=w0 at hE⊢;have hm:=bB hE.did.1 (⟨#[117,115,105,110,103]⟩:ah);unfold Tx.may at hm;rw [hs]at hm;go_wp2_with fail;refine hm.mono ?_;rintro e w1 ⟨rfl,hd⟩;replace hE:RE K w w1 σ _ _ _ _ _ _ _ _:=hE.call hd;clear hm hd;have qQ:=hE.hx;have lF:=hE.hr;go_wp2_with (first|refine aT rfl _ rfl rfl rfl qQ ?_|(refine bH rfl _ _ rfl rfl rfl lF rfl rfl (hone _) ?_;intro W6 iD));refine bodyPost_ret (bQ rfl rfl (jO iD.blk rfl)) rfl ?_;unfold Tx.using_;simp only [hs,if_neg (show¬(false=true)by decide)];exact ⟨rfl,hE.fin iD⟩
 |true=>
  cases ttl with
  |true=>
   cases ht:K.X.sees σ.step (⟨#[116,116,108]⟩:ah)with
   |true=>
    obtain ⟨⟨n,σ2⟩,hc⟩:∃r,K.X.count σ.step.step=r:=⟨_,rfl⟩;have HC:=Lib.hid hc;clear hc;go_enter func132,ntmps132;go_wp2_with fail;have hE:=RE.new h x tc c s wv pv;generalize ((w.alloc (.cells (aG x tc c s wv pv) 31)).alloc (.cells bf 31))=w0 at hE⊢;have hm:=bB hE.did.1 (⟨#[117,115,105,110,103]⟩:ah);unfold Tx.may at hm;rw [hs]at hm;go_wp2_with fail;refine hm.mono ?_;rintro e w1 ⟨rfl,hd⟩;replace hE:RE K w w1 σ.step _ _ _ _ _ _ _ _:=hE.call hd;clear hm hd;have hm:=bB hE.did.1 (⟨#[116,116,108]⟩:ah);unfold Tx.may at hm;rw [ht]at hm;go_wp2_with fail;refine hm.mono ?_;rintro e w2 ⟨rfl,hd⟩;replace hE:RE K w w2 σ.step.step _ _ _ _ _ _ _ _:=hE.call hd;clear hm hd;have hm:=mW hE.did.1;rw [HC.out]at hm;go_wp2_with fail;refine hm.mono ?_;rintro e w3 ⟨rfl,hd⟩;replace hE:=hE.call hd;clear hm hd;obtain ⟨_,_,_,_,_,_,_,_,_,_,_,_,_,_,_,k15,_,_⟩:=aK hE.hx;have aii:=aj hE.hx 15;replace hE:=hE.own 15 (.int .i64 n) (x' :={x with ttl:=n}) rfl;have qQ:=hE.hx;have lF:=hE.hr;go_wp2_with (first|refine aT rfl _ rfl rfl rfl qQ ?_|(refine bH rfl _ _ rfl rfl rfl lF rfl rfl (hone _) ?_;intro W6 iD));refine bodyPost_ret (bQ rfl rfl (jO iD.blk rfl)) rfl ?_;unfold Tx.using_;simp only [hs,ht,HC.out,if_true,Bool.and_self];exact ⟨rfl,hE.fin iD⟩
   |false=>
    obtain ⟨⟨n,σ2⟩,hc⟩:∃r,K.X.count (K.X.must σ.step [(⟨#[116,105,109,101,115,116,97,109,112]⟩:ah)])=r:=⟨_,rfl⟩;have HC:=Lib.hid hc;clear hc;cases ha:K.X.sees σ2 (⟨#[97,110,100]⟩:ah)with
    |true=>
     obtain ⟨⟨n3,σ3⟩,hc3⟩:∃r,K.X.count (K.X.must σ2.step [(⟨#[116,116,108]⟩:ah)])=r:=⟨_,rfl⟩;have HC3:=Lib.hid hc3;clear hc3;go_enter func132,ntmps132;go_wp2_with fail;have hE:=RE.new h x tc c s wv pv;generalize ((w.alloc (.cells (aG x tc c s wv pv) 31)).alloc (.cells bf 31))=w0 at hE⊢;have hm:=bB hE.did.1 (⟨#[117,115,105,110,103]⟩:ah);unfold Tx.may at hm;rw [hs]at hm;go_wp2_with fail;refine hm.mono ?_;rintro e w1 ⟨rfl,hd⟩;replace hE:RE K w w1 σ.step _ _ _ _ _ _ _ _:=hE.call hd;clear hm hd;have hm:=bB hE.did.1 (⟨#[116,116,108]⟩:ah);unfold Tx.may at hm;rw [ht]at hm;go_wp2_with fail;refine hm.mono ?_;rintro e w2 ⟨rfl,hd⟩;replace hE:RE K w w2 σ.step _ _ _ _ _ _ _ _:=hE.call hd;clear hm hd;have hm:=bI hE.did.1 (⟨#[116,105,109,101,115,116,97,109,112]⟩:ah);go_wp2_with fail;refine hm.mono ?_;rintro e w3 ⟨rfl,hd⟩;replace hE:=hE.call hd;clear hm hd;have HC2:Hid (K.X.count (K.X.bC σ.step (⟨#[116,105,109,101,115,116,97,109,112]⟩:ah))=(n,σ2)):=HC.out;have hm:=mW hE.did.1;rw [HC2.out]at hm;go_wp2_with fail;refine hm.mono ?_;rintro e w4 ⟨rfl,hd⟩;replace hE:=hE.call hd;clear hm hd;obtain ⟨_,_,_,_,_,_,_,_,_,_,_,_,_,_,k14,_,_,_⟩:=aK hE.hx;have abE:=aj hE.hx 14;replace hE:=hE.own 14 (.int .i64 n) (x' :={x with stamp:=n}) rfl;have hm:=bB hE.did.1 (⟨#[97,110,100]⟩:ah);unfold Tx.may at hm;rw [ha]at hm;go_wp2_with fail;refine hm.mono ?_;rintro e w6 ⟨rfl,hd⟩;replace hE:RE K w w6 σ2.step _ _ _ _ _ _ _ _:=hE.call hd;clear hm hd;have hm:=bI hE.did.1 (⟨#[116,116,108]⟩:ah);go_wp2_with fail;refine hm.mono ?_;rintro e w7 ⟨rfl,hd⟩;replace hE:=hE.call hd;clear hm hd;have HC4:Hid (K.X.count (K.X.bC σ2.step (⟨#[116,116,108]⟩:ah))=(n3,σ3)):=HC3.out;have hm:=mW hE.did.1;rw [HC4.out]at hm;go_wp2_with fail;refine hm.mono ?_;rintro e w8 ⟨rfl,hd⟩;replace hE:=hE.call hd;clear hm hd;clear k14 abE;obtain ⟨_,_,_,_,_,_,_,_,_,_,_,_,_,_,_,k15,_,_⟩:=aK hE.hx;have aii:=aj hE.hx 15;replace hE:=hE.own 15 (.int .i64 n3) (x' :={x with stamp:=n,ttl:=n3}) rfl;have qQ:=hE.hx;have lF:=hE.hr;go_wp2_with (first|refine aT rfl _ rfl rfl rfl qQ ?_|(refine bH rfl _ _ rfl rfl rfl lF rfl rfl (hone _) ?_;intro W6 iD));refine bodyPost_ret (bQ rfl rfl (jO iD.blk rfl)) rfl ?_;unfold Tx.using_;simp only [hs,ht,ha,HC.out,HC3.out,if_true,Bool.and_false,Bool.and_self,if_neg (show¬(false=true)by decide)];exact ⟨rfl,hE.fin iD⟩
    |false=>
     go_enter func132,ntmps132;go_wp2_with fail;have hE:=RE.new h x tc c s wv pv;generalize ((w.alloc (.cells (aG x tc c s wv pv) 31)).alloc (.cells bf 31))=w0 at hE⊢;have hm:=bB hE.did.1 (⟨#[117,115,105,110,103]⟩:ah);unfold Tx.may at hm;rw [hs]at hm;go_wp2_with fail;refine hm.mono ?_;rintro e w1 ⟨rfl,hd⟩;replace hE:RE K w w1 σ.step _ _ _ _ _ _ _ _:=hE.call hd;clear hm hd;have hm:=bB hE.did.1 (⟨#[116,116,108]⟩:ah);unfold Tx.may at hm;rw [ht]at hm;go_wp2_with fail;refine hm.mono ?_;rintro e w2 ⟨rfl,hd⟩;replace hE:RE K w w2 σ.step _ _ _ _ _ _ _ _:=hE.call hd;clear hm hd;have hm:=bI hE.did.1 (⟨#[116,105,109,101,115,116,97,109,112]⟩:ah);go_wp2_with fail;refine hm.mono ?_;rintro e w3 ⟨rfl,hd⟩;replace hE:=hE.call hd;clear hm hd;have HC2:Hid (K.X.count (K.X.bC σ.step (⟨#[116,105,109,101,115,116,97,109,112]⟩:ah))=(n,σ2)):=HC.out;have hm:=mW hE.did.1;rw [HC2.out]at hm;go_wp2_with fail;refine hm.mono ?_;rintro e w4 ⟨rfl,hd⟩;replace hE:=hE.call hd;clear hm hd;obtain ⟨_,_,_,_,_,_,_,_,_,_,_,_,_,_,k14,_,_,_⟩:=aK hE.hx;have abE:=aj hE.hx 14;replace hE:=hE.own 14 (.int .i64 n) (x' :={x with stamp:=n}) rfl;have hm:=bB hE.did.1 (⟨#[97,110,100]⟩:ah);unfold Tx.may at hm;rw [ha]at hm;go_wp2_with fail;refine hm.mono ?_;rintro e w6 ⟨rfl,hd⟩;replace hE:RE K w w6 σ2 _ _ _ _ _ _ _ _:=hE.call hd;clear hm hd;clear k14 abE;have qQ:=hE.hx;have lF:=hE.hr;go_wp2_with (first|refine aT rfl _ rfl rfl rfl qQ ?_|(refine bH rfl _ _ rfl rfl rfl lF rfl rfl (hone _) ?_;intro W6 iD));refine bodyPost_ret (bQ rfl rfl (jO iD.blk rfl)) rfl ?_;unfold Tx.using_;simp only [hs,ht,ha,HC.out,if_true,Bool.and_false,if_neg (show¬(false=true)by decide)];exact ⟨rfl,hE.fin iD⟩
  |false=>
   obtain ⟨⟨n,σ2⟩,hc⟩:∃r,K.X.count (K.X.must σ.step [(⟨#[116,105,109,101,115,116,97,109,112]⟩:ah)])=r:=⟨_,rfl⟩;have HC:=Lib.hid hc;clear hc;go_enter func132,ntmps132;go_wp2_with fail;have hE:=RE.new h x tc c s wv pv;generalize ((w.alloc (.cells (aG x tc c s wv pv) 31)).alloc (.cells bf 31))=w0 at hE⊢;have hm:=bB hE.did.1 (⟨#[117,115,105,110,103]⟩:ah);unfold Tx.may at hm;rw [hs]at hm;go_wp2_with fail;refine hm.mono ?_;rintro e w1 ⟨rfl,hd⟩;replace hE:RE K w w1 σ.step _ _ _ _ _ _ _ _:=hE.call hd;clear hm hd;have hm:=bI hE.did.1 (⟨#[116,105,109,101,115,116,97,109,112]⟩:ah);go_wp2_with fail;refine hm.mono ?_;rintro e w3 ⟨rfl,hd⟩;replace hE:=hE.call hd;clear hm hd;have HC2:Hid (K.X.count (K.X.bC σ.step (⟨#[116,105,109,101,115,116,97,109,112]⟩:ah))=(n,σ2)):=HC.out;have hm:=mW hE.did.1;rw [HC2.out]at hm;go_wp2_with fail;refine hm.mono ?_;rintro e w4 ⟨rfl,hd⟩;replace hE:=hE.call hd;clear hm hd;obtain ⟨_,_,_,_,_,_,_,_,_,_,_,_,_,_,k14,_,_,_⟩:=aK hE.hx;have abE:=aj hE.hx 14;replace hE:=hE.own 14 (.int .i64 n) (x' :={x with stamp:=n}) rfl;have qQ:=hE.hx;have lF:=hE.hr;go_wp2_with (first|refine aT rfl _ rfl rfl rfl qQ ?_|(refine bH rfl _ _ rfl rfl rfl lF rfl rfl (hone _) ?_;intro W6 iD));refine bodyPost_ret (bQ rfl rfl (jO iD.blk rfl)) rfl ?_;unfold Tx.using_;simp only [hs,HC.out,if_true,Bool.false_and,if_neg (show¬(false=true)by decide)];exact ⟨rfl,hE.fin iD⟩
theorem dL {w:World}{base:Nat}{e:TypeId}{size n:Nat}{u:Value}{xs:List Value}(h:w.ownsRow base e size u n xs) (m:Nat):(w.drewN m).ownsRow base e size u n xs:=h
theorem bV {W W' :World}{r:Nat}{C V:Array Value}{T e:TypeId}{base size n:Nat}{v:Value}{xs:List Value}(h:W.ownsRow base e size v n xs) (hr:W.heap[r]? =some (.cells C T (0,0))) (hw:Wrote W r V T W') (hne:e≠T):W'.ownsRow base e size v n xs:=by
 have hnb:=gy h hr hne;obtain ⟨h1,h2⟩:=h;refine ⟨h1, ?_⟩;rcases h2 with h2|⟨g,c,cur,e1,e2,e3,e4⟩
 · exact .inl h2
 · subst e1;exact .inr ⟨g,c,cur,rfl,e2,by rw [hw.rest g (fun e=>hnb (by rw [e];rfl))];exact e3,e4⟩
theorem Iq {K:PK}{w:World}{σ:Ps}(h:RQ K w σ) (x:Sx) (tc c s pv:Value) (hone:∀{a n k},(aG x tc c s (.slice a n k) pv).toList.all (·.oneCell')=true):
 Calls prog 92 #[.pointer (some ⟨K.b,0,none⟩), .agg (aG x tc c s ak pv)] w fun e w' =>
  ∃wv,e= .returned (.agg (aG x tc c s wv pv))∧dQ K w (K.X.aH σ false).2 w' ∧w'.ownsRow w.heap.size 62 4 wv (K.X.aH σ false).1.length (dI (K.X.aH σ false).1):=by
 have hle:=h.le;have hn0:w.ownsRow w.heap.size 62 4 ak 0 (dI []):=World.ownsRow_nil _ _ _ _;obtain ⟨σ1,hs1⟩:∃r,K.X.must σ [(⟨#[119,104,101,114,101]⟩:ah)]=r:=⟨_,rfl⟩;obtain ⟨⟨p,σ2⟩,hp⟩:∃r,K.X.equal σ1=r:=⟨_,rfl⟩;have HS:=Lib.hid hs1;have HP:=Lib.hid hp;clear hs1 hp;have hn1:∀W:World,W.ownsRow w.heap.size 62 4 ak 0 (dI []):=fun W=>World.ownsRow_nil _ _ _ _
 cases hs:K.X.sees σ2 (⟨#[97,110,100]⟩:ah)with
 |true=>
  obtain ⟨⟨q,σ3⟩,hq⟩:∃r,K.X.equal σ2.step=r:=⟨_,rfl⟩;have HQ:=Lib.hid hq;have HE:Hid (K.X.aH σ false=([p,q],σ3)):=by show _=_;unfold Tx.aH;simp only [HS.out,HP.out,hs,hq,if_true,if_neg (show¬(false=true)by decide)]
  clear hq;go_enter func92,ntmps92;go_wp2_with fail;have hE:=RE.new h x tc c s ak pv;generalize ((w.alloc (.cells (aG x tc c s ak pv) 31)).alloc (.cells bf 31))=w0 at hE⊢;have HS1:Hid (K.X.bC σ (⟨#[119,104,101,114,101]⟩:ah)=σ1):=HS.out;have hm:=bI hE.did.1 (⟨#[119,104,101,114,101]⟩:ah);rw [HS1.out]at hm;go_wp2_with fail;refine hm.mono ?_;rintro e w1 ⟨rfl,hd⟩;replace hE:=hE.call hd;clear hm hd;have hr0:=hn1 w1;have k13:=(aK hE.hx).2.2.2.2.2.2.2.2.2.2.2.2.2.1;have D5:=aj hE.hx 13;have VF:=aD hE.hx;go_upto_region 2 with fail
  go_cut []from 5 to 22 (fun wx=>∃a' c',RE K w wx σ2 w.heap.size (w.heap.size+1) x tc c s (.slice a' 1 c') pv∧wx.ownsRow w.heap.size 62 4 (.slice a' 1 c') 1 (dI [p]))
  case first=>
   go_region_law (first|(refine fM Tryz.vV rfl _ _ rfl w.heap.size _ _ _ rfl (sw.alloc _) _ _ [.string p.name, .int .i64 p.t.ty, .string p.t.s, .int .i64 p.t.n] rfl rfl (fun j u hj=>by rw [iG,Nat.zero_add];exact bg _ _ _ j u hj) (by intro u hu;simp at hu;rcases hu with rfl|rfl|rfl|rfl<;>rfl) (by omega) (by simp;omega) ?_;intro g3 jm w3 h3 hg3 wU hl3;have mE:=(kR.alloc (.cells #[.string p.name, .int .i64 p.t.ty, .string p.t.s, .int .i64 p.t.n] 62)).grown (sw.alloc _) (by decide) hg3;have hx3:=mE.hx;have y3:=(aK hx3).2.2.2.2.2.2.2.2.2.2.2.2.2.1;have u3:=aj hx3 13)|(go_simp;go_at_call 136;refine (CP (K:=K) (hE.drewN 1).did.1 HP.out).mono ?_;rintro e EU ⟨rfl,jq⟩;have kR:=(hE.drewN 1).call jq;have sw:=jq.row (dL hr0 1) hle;have ow:=kR.hx;have y30:=(aK ow).2.2.2.2.2.2.2.2.2.2.2.2.2.1;have u30:=aj ow 13;have z30:=aD ow;have LG:=kR.base))
   all_goals
    (try go_wp2_with fail)
    go_meet
    case rel=>exact ⟨_,_,mE.own 13 _ rfl,aL h3 mE.hx (by decide) 13 _⟩
  clear k13 D5 VF hE
  rename World=>wq
  obtain ⟨a1,c1,hE,hrw1⟩:=hcut;have hm:=bB hE.did.1 (⟨#[97,110,100]⟩:ah);unfold Tx.may at hm;rw [hs]at hm;go_wp2_with fail;refine hm.mono ?_;rintro e w2 ⟨rfl,hd⟩;replace hE:RE K w w2 σ2.step _ _ _ _ _ _ _ _:=hE.call hd;have SN:=hd.row hrw1 hle;clear hm hd hrw1;have k13:=(aK hE.hx).2.2.2.2.2.2.2.2.2.2.2.2.2.1;have D5:=aj hE.hx 13;have VF:=aD hE.hx;go_upto_region 4 with fail
  go_cut []from 5 to 22 (fun wx=>∃a' c',RE K w wx σ3 w.heap.size (w.heap.size+1) x tc c s (.slice a' 2 c') pv∧wx.ownsRow w.heap.size 62 4 (.slice a' 2 c') 2 (dI [p,q]))
  case first=>
   go_region_law (first|(refine fM Tryz.vV rfl _ _ rfl w.heap.size _ _ _ rfl (sw.alloc _) _ _ [.string q.name, .int .i64 q.t.ty, .string q.t.s, .int .i64 q.t.n] rfl rfl (fun j u hj=>by rw [iG,Nat.zero_add];exact bg _ _ _ j u hj) (by intro u hu;simp at hu;rcases hu with rfl|rfl|rfl|rfl<;>rfl) (by omega) (by simp;omega) ?_;intro g3 jm w3 h3 hg3 wU hl3;have mE:=(kR.alloc (.cells #[.string q.name, .int .i64 q.t.ty, .string q.t.s, .int .i64 q.t.n] 62)).grown (sw.alloc _) (by decide) hg3;have hx3:=mE.hx;have y3:=(aK hx3).2.2.2.2.2.2.2.2.2.2.2.2.2.1;have u3:=aj hx3 13)|(go_simp;go_at_call 136;refine (CP (K:=K) (hE.drewN 1).did.1 HQ.out).mono ?_;rintro e EU ⟨rfl,jq⟩;have kR:=(hE.drewN 1).call jq;have sw:=jq.row (dL SN 1) hle;have ow:=kR.hx;have y30:=(aK ow).2.2.2.2.2.2.2.2.2.2.2.2.2.1;have u30:=aj ow 13;have z30:=aD ow;have LG:=kR.base))
   all_goals
    (try go_wp2_with fail)
    go_meet
    case rel=>exact ⟨_,_,mE.own 13 _ rfl,aL h3 mE.hx (by decide) 13 _⟩
  clear k13 D5 VF hE SN
  rename World=>wq
  obtain ⟨a2,c2,hE,hrw2⟩:=hcut;have ho:(aG x tc c s (.slice a2 2 c2) pv).toList.all (·.oneCell')=true:=hone;have qQ:=hE.hx;have lF:=hE.hr;go_wp2_with (first|refine aT rfl _ rfl rfl rfl qQ ?_|(refine bH rfl _ _ rfl rfl rfl lF rfl rfl ho ?_;intro W6 iD));refine bodyPost_ret (bQ rfl rfl (jO iD.blk rfl)) rfl ?_;rw [HE.out];exact ⟨_,rfl,hE.fin iD,bV hrw2 hE.hr iD (by decide)⟩
 |false=>
  have HE:Hid (K.X.aH σ false=([p],σ2)):=by show _=_;unfold Tx.aH;simp only [HS.out,HP.out,hs,if_neg (show¬(false=true)by decide)]
  go_enter func92,ntmps92;go_wp2_with fail;have hE:=RE.new h x tc c s ak pv;generalize ((w.alloc (.cells (aG x tc c s ak pv) 31)).alloc (.cells bf 31))=w0 at hE⊢;have HS1:Hid (K.X.bC σ (⟨#[119,104,101,114,101]⟩:ah)=σ1):=HS.out;have hm:=bI hE.did.1 (⟨#[119,104,101,114,101]⟩:ah);rw [HS1.out]at hm;go_wp2_with fail;refine hm.mono ?_;rintro e w1 ⟨rfl,hd⟩;replace hE:=hE.call hd;clear hm hd;have hr0:=hn1 w1;have k13:=(aK hE.hx).2.2.2.2.2.2.2.2.2.2.2.2.2.1;have D5:=aj hE.hx 13;have VF:=aD hE.hx;go_upto_region 2 with fail
  go_cut []from 5 to 22 (fun wx=>∃a' c',RE K w wx σ2 w.heap.size (w.heap.size+1) x tc c s (.slice a' 1 c') pv∧wx.ownsRow w.heap.size 62 4 (.slice a' 1 c') 1 (dI [p]))
  case first=>
   go_region_law (first|(refine fM Tryz.vV rfl _ _ rfl w.heap.size _ _ _ rfl (sw.alloc _) _ _ [.string p.name, .int .i64 p.t.ty, .string p.t.s, .int .i64 p.t.n] rfl rfl (fun j u hj=>by rw [iG,Nat.zero_add];exact bg _ _ _ j u hj) (by intro u hu;simp at hu;rcases hu with rfl|rfl|rfl|rfl<;>rfl) (by omega) (by simp;omega) ?_;intro g3 jm w3 h3 hg3 wU hl3;have mE:=(kR.alloc (.cells #[.string p.name, .int .i64 p.t.ty, .string p.t.s, .int .i64 p.t.n] 62)).grown (sw.alloc _) (by decide) hg3;have hx3:=mE.hx;have y3:=(aK hx3).2.2.2.2.2.2.2.2.2.2.2.2.2.1;have u3:=aj hx3 13)|(go_simp;go_at_call 136;refine (CP (K:=K) (hE.drewN 1).did.1 HP.out).mono ?_;rintro e EU ⟨rfl,jq⟩;have kR:=(hE.drewN 1).call jq;have sw:=jq.row (dL hr0 1) hle;have ow:=kR.hx;have y30:=(aK ow).2.2.2.2.2.2.2.2.2.2.2.2.2.1;have u30:=aj ow 13;have z30:=aD ow;have LG:=kR.base))
   all_goals
    (try go_wp2_with fail)
    go_meet
    case rel=>exact ⟨_,_,mE.own 13 _ rfl,aL h3 mE.hx (by decide) 13 _⟩
  clear k13 D5 VF hE
  rename World=>wq
  obtain ⟨a1,c1,hE,hrw1⟩:=hcut;have hm:=bB hE.did.1 (⟨#[97,110,100]⟩:ah);unfold Tx.may at hm;rw [hs]at hm;go_wp2_with fail;refine hm.mono ?_;rintro e w2 ⟨rfl,hd⟩;replace hE:RE K w w2 σ2 _ _ _ _ _ _ _ _:=hE.call hd;have SN:=hd.row hrw1 hle;clear hm hd hrw1;have ho:(aG x tc c s (.slice a1 1 c1) pv).toList.all (·.oneCell')=true:=hone;have qQ:=hE.hx;have lF:=hE.hr;go_wp2_with (first|refine aT rfl _ rfl rfl rfl qQ ?_|(refine bH rfl _ _ rfl rfl rfl lF rfl rfl ho ?_;intro W6 iD));refine bodyPost_ret (bQ rfl rfl (jO iD.blk rfl)) rfl ?_;rw [HE.out];exact ⟨_,rfl,hE.fin iD,bV SN hE.hr iD (by decide)⟩
theorem AO {K:PK}{w:World}{σ:Ps}(h:RQ K w σ) (l:List ByteArray) (hl:l.length≤1000):
 Calls prog 159 #[.pointer (some ⟨K.b,0,none⟩), .slice (some ⟨w.heap.size,0,none⟩) l.length l.length] (w.alloc (.cells (l.map Value.string).toArray 9)) (pR K w (.tuple #[]) (K.X.must σ l)):=by
 have hD:=(dQ.refl h).alloc (.cells (l.map Value.string).toArray 9);have hb:=K.hL;have hle:=h.le;refine (Q9 hD.1 l w.heap.size l.length (by simp) (by omega) hl (fun j hj=> ?_)).mono fun e w' he=>⟨he.1,hD.trans he.2⟩
 rw [au (aA w _)];simp [hj]
theorem Mf {K:PK}{w:World}{σ:Ps}(h:RQ K w σ) (s t:ByteArray):
 Calls prog 159 #[.pointer (some ⟨K.b,0,none⟩), .slice (some ⟨w.heap.size,0,none⟩) 2 2] (w.alloc (.cells #[.string s, .string t] 9)) (pR K w (.tuple #[]) (K.X.must σ [s,t])):=AO h [s,t] (by simp)
theorem abF {K:PK}{w:World}{σ:Ps}(h:RQ K w σ) (s t u:ByteArray):
 Calls prog 159 #[.pointer (some ⟨K.b,0,none⟩), .slice (some ⟨w.heap.size,0,none⟩) 3 3] (w.alloc (.cells #[.string s, .string t, .string u] 9)) (pR K w (.tuple #[]) (K.X.must σ [s,t,u])):=AO h [s,t,u] (by simp)
theorem abG {K:PK}{w:World}{σ:Ps}(h:RQ K w σ) (s t u x y z:ByteArray):
 Calls prog 159 #[.pointer (some ⟨K.b,0,none⟩), .slice (some ⟨w.heap.size,0,none⟩) 6 6] (w.alloc (.cells #[.string s, .string t, .string u, .string x, .string y, .string z] 9)) (pR K w (.tuple #[]) (K.X.must σ [s,t,u,x,y,z])):=AO h [s,t,u,x,y,z] (by simp)
def Ir (K:PK) (w:World) (x:Sx) (σ:Ps):Ending→World→Prop:=fun e w' =>
 ∃tc c s wv,e= .returned (.agg (aG x tc c s wv ak))∧dQ K w σ w' ∧eX w' w.heap.size x tc c s wv
theorem zT (X:Tx) (most:Nat):∀n σ l,l.length≤(X.gV most n σ l).1.length∧(X.gV most n σ l).1.length≤l.length+n
 |0,σ,l=>⟨Nat.le_refl _,Nat.le_refl _⟩
 |n+1,σ,l=>by
  rw [Tx.gV];split
  · have h:=zT X most n (X.dU σ.step l most).2 (X.dU σ.step l most).1;have:=sZ X σ.step l most;simp only;omega
  · simp only;omega
theorem Mg (X:Tx) (σ:Ps) (most:Nat):1≤(X.gq σ most).1.length∧(X.gq σ most).1.length≤X.T.length+1:=by
 have h:=zT X most X.T.length (X.dU σ [] most).2 (X.dU σ [] most).1;have:=sZ X σ [] most;unfold Tx.gq;simp only [List.length_nil]at *;omega
theorem abH (a b:Nat):((a:Int) !=(b:Int))=(a !=b):=by
 by_cases h:a=b
 · subst h;simp
 · rw [bne_iff_ne.2 h];exact bne_iff_ne.2 (by omega)
theorem OE {K:PK}{w:World}{σ:Ps}(h:RQ K w σ):
 Calls prog 129 #[.pointer (some ⟨K.b,0,none⟩), .agg (aG Sx.zero ak ak ak ak ak)] w (Ir K w (K.X.oH σ).1 (K.X.oH σ).2):=by
 have hle:=h.le;have hT:=K.hT;obtain ⟨σ1,h1⟩:∃r,K.X.bC σ (⟨#[105,110,116,111]⟩:ah)=r:=⟨_,rfl⟩;obtain ⟨⟨o,σ2⟩,h2⟩:∃r,K.X.name σ1=r:=⟨_,rfl⟩;obtain ⟨σ3,h3⟩:∃r,K.X.bC σ2 (⟨#[40]⟩:ah)=r:=⟨_,rfl⟩;have hcl:=Mg K.X σ3 10;obtain ⟨⟨c,jS⟩,h4⟩:∃r,K.X.gq σ3 10=r:=⟨_,rfl⟩;obtain ⟨lX,h5⟩:∃r,K.X.must jS [(⟨#[41]⟩:ah),(⟨#[118,97,108,117,101,115]⟩:ah),(⟨#[40]⟩:ah)]=r:=⟨_,rfl⟩;obtain ⟨⟨v0,yT⟩,h6⟩:∃r,K.X.value lX=r:=⟨_,rfl⟩;obtain ⟨⟨vs,LA⟩,h7⟩:∃r,K.X.dY K.X.T.length yT [v0]=r:=⟨_,rfl⟩;rw [h4]at hcl;replace hcl:1≤c.length∧c.length≤K.X.T.length+1:=hcl;have hvl:=yu K.X K.X.T.length yT [v0];rw [h7]at hvl;replace hvl:1≤vs.length:=hvl;obtain ⟨b39,h8⟩:∃b,(K.X.isK LA 4 (⟨#[41]⟩:ah)&&vs.length !=c.length)=b:=⟨_,rfl⟩;obtain ⟨UR,h9⟩:∃r,(if b39=true then K.X.fail LA else LA)=r:=⟨_,rfl⟩;obtain ⟨ZX,h10⟩:∃r,K.X.bC UR (⟨#[41]⟩:ah)=r:=⟨_,rfl⟩;obtain ⟨Z,hZ⟩:∃Z,List.zipWith Pr.mk c vs=Z:=⟨_,rfl⟩
 have HE:Hid (K.X.oH σ=K.X.using_ ZX true {Sx.zero with kind:=5,bT:=o,sets:=Z}):=by
  show _=_;have e1:K.X.must σ [(⟨#[105,110,116,111]⟩:ah)]=σ1:=h1;have e3:K.X.must σ2 [(⟨#[40]⟩:ah)]=σ3:=h3;have e10:K.X.must UR [(⟨#[41]⟩:ah)]=ZX:=h10;unfold Tx.oH Tx.xP;simp only [e1,h2,e3,h4,h5,h6,h7,h8,h9,e10,hZ]
 have H1:=Lib.hid h1;have H2:=Lib.hid h2;have H3:=Lib.hid h3;have H4:=Lib.hid h4;have H5:=Lib.hid h5;have H6:=Lib.hid h6;have H7:=Lib.hid h7;have H8:=Lib.hid h8;have H9:=Lib.hid h9;have XM:=Lib.hid h10;have HZ:=Lib.hid hZ;clear h1 h2 h3 h4 h5 h6 h7 h8 h9 h10 hZ;go_enter func129,ntmps129;go_wp2_with fail;have hE:=RE.new h Sx.zero ak ak ak ak ak;generalize ((w.alloc (.cells (aG Sx.zero ak ak ak ak ak) 31)).alloc (.cells bf 31))=w0 at hE⊢;have hm:=bI hE.did.1 (⟨#[105,110,116,111]⟩:ah);rw [H1.out]at hm;go_wp2_with fail;refine hm.mono ?_;rintro e w1 ⟨rfl,hd⟩;replace hE:=hE.call hd;clear hm hd;have hm:=fB hE.did.1;rw [H2.out]at hm;go_wp2_with fail;refine hm.mono ?_;rintro e w2 ⟨rfl,hd⟩;replace hE:=hE.call hd;clear hm hd;have Po:=aj hE.hx 0;have Zi:=aj hE.hx 2;have k0:=(aK hE.hx).1;have k2:=(aK hE.hx).2.2.1;have zb:=aD hE.hx;have hE2:RE K w ((w2.setCell ⟨w.heap.size,0,none⟩ (.int .i64 5)).setCell ⟨w.heap.size,2,none⟩ (.string o)) σ2 w.heap.size (w.heap.size+1) {Sx.zero with kind:=5,bT:=o} ak ak ak ak ak:=(hE.own 0 (.int .i64 5) (x' :={Sx.zero with kind:=5}) rfl).own 2 (.string o) rfl;clear hE;have hm:=bI hE2.did.1 (⟨#[40]⟩:ah);rw [H3.out]at hm;go_wp2_with fail;refine hm.mono ?_;rintro e w3 ⟨rfl,hd⟩;have hE:=hE2.call hd;clear hm hd hE2 Po Zi k0 k2 zb;have hm:=wE hE.did.1 10 (by omega);rw [H4.out]at hm;go_wp2_with fail;refine hm.mono ?_;rintro e w4 ⟨ca,cc,rfl,hd,hrc⟩;have hrc:=aR hrc hE.base;replace hE:=hE.call hd;clear hm hd;have hm:=abF hE.did.1 (⟨#[41]⟩:ah) (⟨#[118,97,108,117,101,115]⟩:ah) (⟨#[40]⟩:ah);rw [H5.out]at hm;go_wp2_with fail;refine hm.mono ?_;rintro e w5 ⟨rfl,hd⟩;replace hE:=hE.call hd;replace hrc:=hd.row hrc hle;clear hm hd;have hm:=yL hE.did.1 H6.out;go_wp2_with fail;refine hm.mono ?_;rintro e w6 ⟨rfl,hd⟩;replace hE:=hE.call hd;replace hrc:=hd.row hrc hle;clear hm hd;have EM:=sN w6 [.int .i64 v0.ty, .string v0.s, .int .i64 v0.n] 60 1 3 w.heap.size rfl (by decide) hE.base;replace hrc:=hrc.alloc (.cells #[.int .i64 v0.ty, .string v0.s, .int .i64 v0.n] 60);replace hE:=hE.alloc (.cells #[.int .i64 v0.ty, .string v0.s, .int .i64 v0.n] 60);go_wp2_with fail
 go_loopw [6] (fun v wr=>∃(l:List Tm) (a:Option Addr) (c2:Nat) (τ:Ps) (n:Nat),v= .slice a l.length c2∧RE K w wr τ w.heap.size (w.heap.size+1) {Sx.zero with kind:=5,bT:=o} ak ak ak ak ak∧wr.ownsRow w.heap.size 60 3 (.slice a l.length c2) l.length (mU l)∧wr.ownsRow w.heap.size 9 1 (.slice ca c.length cc) c.length (c.map Value.string)∧Hid (K.X.dY n τ l=(vs,LA))∧K.X.T.length - τ.i≤n∧l.length+n≤K.X.T.length+1) (fun _ wr=>K.X.T.length - UG K wr)
 case atStart=>exact ⟨[v0],_,_,yT,K.X.T.length,rfl,hE,EM,hrc,H7.out,by omega,by show 1+_≤_;omega⟩
 case round=>
  clear hE EM hrc;obtain ⟨l,a,c2,τ,n,rfl,hE,EM,hrc,HR,hn,hln⟩:=hrel;have hmay:=bB hE.did.1 (⟨#[44]⟩:ah);have Wp:=wD hE.did.1;unfold Tx.may at hmay;cases hs:K.X.sees τ (⟨#[44]⟩:ah)with
  |true=>
   obtain ⟨hlt,_⟩:=oJ hs;rw [hs,if_pos rfl]at hmay;obtain ⟨n,rfl⟩:∃m,n=m+1:=⟨n - 1,by omega⟩;have hst:τ.step.i=τ.i+1:=rfl;have hi:=Fz K.X τ.step;obtain ⟨⟨t,AP⟩,hx⟩:∃r,K.X.value τ.step=r:=⟨_,rfl⟩
   have HR2:Hid (K.X.dY n AP (l++ [t])=(vs,LA)):=by
    have h:=HR.out;rw [Tx.dY,hs,if_pos rfl]at h;simp only [hx]at h;exact Lib.hid h
   rw [hx]at hi;replace hi:τ.step.i≤AP.i:=hi;go_wp2_with fail;refine hmay.mono ?_;rintro e I6 ⟨rfl,hd⟩;replace hE:=hE.call hd;replace EM:=hd.row EM hle;replace hrc:=hd.row hrc hle;clear hd hmay;have hm:=yL hE.did.1 hx;go_wp2_with fail;refine hm.mono ?_;rintro e DL ⟨rfl,hd⟩;replace hE:=hE.call hd;replace EM:=hd.row EM hle;replace hrc:=hd.row hrc hle;clear hd hm;have Yi:=hE.base;go_wp2_with (at_builtin;refine app1 Tryz.afB rfl _ _ rfl w.heap.size _ _ _ rfl (EM.alloc _) _ _ [.int .i64 t.ty, .string t.s, .int .i64 t.n] rfl rfl (bg _ _ _) (by intro u hu;simp at hu;rcases hu with rfl|rfl|rfl<;>rfl) (by omega) (by simp;omega) ?_;intro a' c' UN h22 hg Qy);have agf:=(hE.alloc (.cells #[.int .i64 t.ty, .string t.s, .int .i64 t.n] 60)).grown (EM.alloc _) (by decide) hg;have Yj:=wD agf.did.1;go_roundw
   case rel=>
    refine ⟨l++ [t],a',c',AP,n,by rw [List.length_append];rfl,agf, ?_, ?_,HR2.out,by omega,by rw [List.length_append];show l.length+1+n≤_;omega⟩
    · rw [List.length_append];show UN.ownsRow _ _ _ (.slice a' (l.length+1) c') (l.length+1) (mU (l++ [t]));rw [show mU (l++ [t])=mU l++sP t by simp [mU]];exact h22
    · exact (dH (EM.alloc (.cells #[.int .i64 t.ty, .string t.s, .int .i64 t.n] 60)) (hrc.alloc _) (by decide)).keep (hrc.alloc _) hg
   case measure=>rw [Wp,Yj];omega
  |false=>
   rw [hs,if_neg (by decide)]at hmay
   have HR2:l=vs∧τ=LA:=by
    have h:=HR.out;cases n with
    |zero=>cases h;exact ⟨rfl,rfl⟩
    |succ n=>rw [Tx.dY,hs,if_neg (by decide)]at h;cases h;exact ⟨rfl,rfl⟩
   obtain ⟨rfl,rfl⟩:=HR2;clear HR hn H7;go_wp2_with fail;refine hmay.mono ?_;rintro e I6 ⟨rfl,hd⟩;replace hE:=hE.call hd;replace EM:=hd.row EM hle;replace hrc:=hd.row hrc hle;clear hd hmay;have his:=FH hE.did.1 4 (⟨#[41]⟩:ah);have q9:=abH l.length c.length;go_upto_region 9 with fail
   go_cut [39]from 31 to 39 (fun s39 wx=>s39= .bool b39∧∃m,wx=I6.drewN m)
   case first=>
    cases hk:K.X.isK τ 4 (⟨#[41]⟩:ah)with
    |false=>
     rw [hk]at his;have hb:b39=false:=by rw [←H8.out,hk];rfl
     go_wp2_with fail;refine his.mono ?_;rintro e DL ⟨rfl,m,rfl⟩;go_wp2_with fail;go_meet
     case rel=>exact ⟨by rw [hb],m,rfl⟩
    |true=>
     rw [hk]at his;have hb:b39=(l.length !=c.length):=by rw [←H8.out,hk];rfl
     go_wp2_with fail;refine his.mono ?_;rintro e DL ⟨rfl,m,rfl⟩;go_wp2_with fail;go_meet
     case rel=>exact ⟨by rw [hb],m,rfl⟩
   obtain ⟨rfl,m,rfl⟩:=hcut;replace hE:=hE.drewN m;replace EM:=dL EM m;replace hrc:=dL hrc m;clear his q9;generalize I6.drewN m=DL at *;go_upto_if 39 with fail
   go_cut []from 31 to 45 (fun wx=>RE K w wx UR w.heap.size (w.heap.size+1) {Sx.zero with kind:=5,bT:=o} ak ak ak ak ak∧wx.ownsRow w.heap.size 60 3 (.slice a l.length c2) l.length (mU l)∧wx.ownsRow w.heap.size 9 1 (.slice ca c.length cc) c.length (c.map Value.string))
   case first=>
    cases b39 with
    |false=>
     have e8:τ=UR:=H9.out;subst e8;go_wp2_with fail;go_meet
     case rel=>exact ⟨hE,EM,hrc⟩
    |true=>
     have Wt:Hid (K.X.fail τ=UR):=H9.out;have ha:=iR hE.did.1;go_wp2_with fail;refine ha.mono ?_;rintro e UN ⟨rfl,m2,rfl⟩;have hE2:=hE.drewN m2;have hw:=fU hE2.did.1 (K.X.here τ);go_wp2_with fail;refine hw.mono ?_;rintro e Ws ⟨rfl,hd⟩;have mE:=hE2.call hd;have hE4:RE K w Ws UR w.heap.size (w.heap.size+1) {Sx.zero with kind:=5,bT:=o} ak ak ak ak ak:=Wt.out▸mE;go_wp2_with fail;go_meet
     case rel=>exact ⟨hE4,hd.row (dL EM m2) hle,hd.row (dL hrc m2) hle⟩
   clear hE EM hrc;obtain ⟨hE,EM,hrc⟩:=hcut;have hm:=bI hE.did.1 (⟨#[41]⟩:ah);rw [XM.out]at hm;go_wp2_with fail;refine hm.mono ?_;rintro e w24 ⟨rfl,hd⟩;replace hE:=hE.call hd;replace EM:=hd.row EM hle;replace hrc:=hd.row hrc hle;clear hm hd;have hcap:=FB hrc;obtain ⟨_,_,hsl,hgc⟩:=aY hrc;cases hsl;obtain ⟨gc,rfl,_,_,_⟩:=hgc (by omega);obtain ⟨_,_,hsl,hgv⟩:=aY EM;cases hsl;obtain ⟨gv,rfl,_,_,_⟩:=hgv (by omega);clear hgc hgv;go_wp2_with fail
   go_loopw [7] (fun i wr=>∃(j:Nat) (a3:Option Addr) (c3:Nat),i= .int .i64 j∧j≤c.length∧j≤l.length∧RE K w wr ZX w.heap.size (w.heap.size+1) {Sx.zero with kind:=5,bT:=o} ak ak (.slice a3 j c3) ak ak∧wr.ownsRow w.heap.size 62 4 (.slice a3 j c3) j (dI (List.zipWith Pr.mk (c.take j) (l.take j)))∧wr.ownsRow w.heap.size 9 1 (.slice (some ⟨gc,0,none⟩) c.length cc) c.length (c.map Value.string)∧wr.ownsRow w.heap.size 60 3 (.slice (some ⟨gv,0,none⟩) l.length c2) l.length (mU l)) (fun i _=>c.length - (intOf i).toNat)
   case atStart=>exact ⟨0,none,0,rfl,by omega,by omega,hE,World.ownsRow_nil _ _ _ _,hrc,EM⟩
   case round=>
    clear hE EM hrc;obtain ⟨j,a3,c3,rfl,hjc,hjl,hE,hsr,hnr,Ch⟩:=hrel;by_cases hjj:j<c.length∧j<l.length
    · obtain ⟨hj1,hj2⟩:=hjj;have p1:(0:Int)≤(j:Int):=by omega
      have p2:(j:Int)<(l.length:Int):=by omega
      have p3:(j:Int)<(c.length:Int):=by omega
      have k0:wr.cell? ⟨gc,j,none⟩=some (.string c[j]):=aS hnr j _ (by rw [List.getElem?_map,List.getElem?_eq_getElem hj1];rfl);have k1:wr.cell? ⟨gv,j*3,none⟩=some (.int .i64 l[j].ty):=aS Ch (j*3) _ (by have:=gK l j 0 hj2 (by omega);rw [Nat.add_zero]at this;rw [this];rfl);have k2:wr.cell? ⟨gv,j*3+1,none⟩=some (.string l[j].s):=aS Ch (j*3+1) _ (by rw [gK l j 1 hj2 (by omega)];rfl);have k3:wr.cell? ⟨gv,j*3+2,none⟩=some (.int .i64 l[j].n):=aS Ch (j*3+2) _ (by rw [gK l j 2 hj2 (by omega)];rfl);have Yl:=(aK hE.hx).2.2.2.2.2.2.2.2.2.2.2.2.1;have aln:=aj hE.hx 12;have Ym:=hE.base;have z0:=aD hE.hx;have z1:gc<wr.heap.size:=dZ k0;have z2:gv<wr.heap.size:=dZ k1;have HX:=Lib.hid (uO c l j hj1 hj2);generalize c[j]=nm at *;generalize l[j]=tm at *;go_wp2_with fail
      go_region_law (refine fM Tryz.vV rfl _ _ rfl w.heap.size _ _ _ rfl (hsr.alloc _) _ _ [.string nm, .int .i64 tm.ty, .string tm.s, .int .i64 tm.n] rfl rfl (fun j u hj=>by rw [iG,Nat.zero_add];exact bg _ _ _ j u hj) (by intro u hu;simp at hu;rcases hu with rfl|rfl|rfl|rfl<;>rfl) (by omega) (by simp;omega) ?_;intro g3 jm w3 h3 hg3 wU hl3;have hg4:(wr.alloc (.cells #[.string nm, .int .i64 tm.ty, .string tm.s, .int .i64 tm.n] 62)).grownBy w3 (Value.slice a3 j c3).ownBlock:=⟨hg3.os,hg3.tape,hg3.output,hg3.size,hg3.block⟩;have mE:=(hE.alloc (.cells #[.string nm, .int .i64 tm.ty, .string tm.s, .int .i64 tm.n] 62)).grown (hsr.alloc _) (by decide) hg4;have y3:=(aK mE.hx).2.2.2.2.2.2.2.2.2.2.2.2.1;have fz3:=aj mE.hx 12)
      all_goals
       have hap:∀{e:TypeId} {sz nn:Nat} {u:Value} {ys:List Value},wr.ownsRow w.heap.size e sz u nn ys→62≠e→w3.ownsRow w.heap.size e sz u nn ys:=fun hu hne=>(dH (hsr.alloc (.cells #[.string nm, .int .i64 tm.ty, .string tm.s, .int .i64 tm.n] 62)) (hu.alloc _) hne).keep (hu.alloc _) hg4
       rw [←HX.out]at h3;go_wp2_with fail;go_roundw
       case rel=>exact ⟨j+1,some ⟨g3,0,none⟩,jm,by go_num,by omega,by omega,mE.own 12 _ rfl,aL h3 mE.hx (by decide) 12 _,aL (hap hnr (by decide)) mE.hx (by decide) 12 _,aL (hap Ch (by decide)) mE.hx (by decide) 12 _⟩
       case measure=>simp [intOf];omega
    · have HZ2:=za c l j (by omega);have UO:=ze c l;rw [HZ2,HZ.out]at hsr;rw [HZ.out]at UO;have HZ3:=Lib.hid UO;clear HZ2 UO;obtain ⟨⟨xu,Yn⟩,hu⟩:∃r,K.X.using_ ZX true {Sx.zero with kind:=5,bT:=o,sets:=Z}=r:=⟨_,rfl⟩;have HU:=Lib.hid (lD K.X _ _ _ _ _ hu);have sI:=AL hE.did.1 {Sx.zero with kind:=5,bT:=o,sets:=Z} ak ak (.slice a3 j c3) ak ak (fun _=>rfl) true;rw [hu]at sI;have HE2:Hid (K.X.oH σ=(xu,Yn)):=by show _=_;rw [HE.out,hu]
      have hZj:Z.length=j:=by rw [HZ3.out];omega
      have HZj:=Lib.hid hZj;clear hZj hu;have hq:¬(j:Int)<(c.length:Int)∨(((j:Int)<(c.length:Int))∧¬(j:Int)<(l.length:Int)):=by omega
      have hbx:=hE.hx;rcases hq with q0|⟨q0,q1⟩
      all_goals
       go_wp2_with (refine aT rfl _ rfl rfl rfl hbx ?_);refine sI.mono ?_;rintro e Cj ⟨rfl,hd⟩;have hE4:=hE.call hd;have G7:=hd.row hsr hle;have lF:=hE4.hr;go_wp2_with (refine bH rfl _ _ rfl rfl rfl lF rfl rfl rfl ?_;intro W6 iD);refine bodyPost_ret (bQ rfl rfl (jO iD.blk rfl)) rfl ?_;rw [HE2.out];obtain ⟨u1,u2,rfl⟩:=HU.out;refine ⟨ak,ak,_,ak,rfl,hE4.fin iD,World.ownsRow_nil _ _ _ _,World.ownsRow_nil _ _ _ _, ?_,World.ownsRow_nil _ _ _ _⟩;show W6.ownsRow w.heap.size _ 4 _ Z.length (dI Z);rw [HZj.out];exact bV G7 hE4.hr iD (by decide)
section
variable {K:PK}{w W W' :World}{σ σ' :Ps}{bx br:Nat}{x x' :Sx}{tc c s wv pv Vz c' s' wv' pv' :Value}
theorem RE.put (h:RE K w W σ bx br x tc c s wv pv) (hw:Wrote W bx (aG x' Vz c' s' wv' pv') 31 W'):RE K w W' σ bx br x' Vz c' s' wv' pv' :=
 ⟨h.did.wrote hw h.lx,hw.blk,by rw [hw.rest _ h.ne];exact h.hr,h.lx,h.lr,h.ne⟩
theorem RE.col (h:RE K w W σ bx br x tc c s wv pv) (hd:dQ K w σ' W') {v v' :Value}(he:Else K W W' v v') {base size n:Nat}{e:TypeId}{xs:List Value}(hu:W.ownsRow base e size v n xs) (hne:e≠31):RE K w W' σ' bx br x tc c s wv pv:=
 have hL:=hd.2.2;have hx:=h.lx;have hr:=h.lr
 ⟨hd,he.1 _ _ (by omega) (gy hu h.hx hne) h.hx,he.1 _ _ (by omega) (gy hu h.hr hne) h.hr,h.lx,h.lr,h.ne⟩
end
theorem CQ (X:Tx) (σ:Ps) (l:List ByteArray) (most:Nat):∃x,(X.dU σ l most).1=l++ [x]:=⟨_,rfl⟩
theorem OG {K:PK}{w:World}{σ:Ps}(h:RQ K w σ):
 Calls prog 130 #[.pointer (some ⟨K.b,0,none⟩), .agg (aG Sx.zero ak ak ak ak ak)] w (Ir K w (K.X.qG σ).1 (K.X.qG σ).2):=by
 have hle:=h.le;have HT:=Lib.hid K.hT;obtain ⟨⟨o,σ1⟩,h1⟩:∃r,K.X.name σ=r:=⟨_,rfl⟩;obtain ⟨⟨xu,σ2⟩,h2⟩:∃r,K.X.using_ σ1 true {Sx.zero with kind:=6,bT:=o}=r:=⟨_,rfl⟩;obtain ⟨σ3,h3⟩:∃r,K.X.bC σ2 (⟨#[115,101,116]⟩:ah)=r:=⟨_,rfl⟩;obtain ⟨⟨Zf,nN⟩,h4⟩:∃r,K.X.rD (K.X.T.length+1) σ3 [] []=r:=⟨_,rfl⟩;obtain ⟨lX,h5⟩:∃r,K.X.bC nN (⟨#[119,104,101,114,101]⟩:ah)=r:=⟨_,rfl⟩;obtain ⟨⟨p,yT⟩,h6⟩:∃r,K.X.equal lX=r:=⟨_,rfl⟩;obtain ⟨LA,h7⟩:∃r,K.X.bC yT (⟨#[97,110,100]⟩:ah)=r:=⟨_,rfl⟩;obtain ⟨⟨q,UR⟩,h8⟩:∃r,K.X.equal LA=r:=⟨_,rfl⟩;have HU:=Lib.hid (lD K.X _ _ _ _ _ h2)
 have HE:Hid (K.X.qG σ=({xu with sets:=Zf,aH:= [p,q]},UR)):=by
  show _=_;have e3:K.X.must σ2 [(⟨#[115,101,116]⟩:ah)]=σ3:=h3;have e5:K.X.must nN [(⟨#[119,104,101,114,101]⟩:ah)]=lX:=h5;have e7:K.X.must yT [(⟨#[97,110,100]⟩:ah)]=LA:=h7;unfold Tx.qG Tx.xQ Tx.aH;simp only [h1,h2,e3,h4,e5,h6,e7,h8,if_true]
 have H1:=Lib.hid h1;have H2:=Lib.hid h2;have H3:=Lib.hid h3;have H4:=Lib.hid h4;have H5:=Lib.hid h5;have H6:=Lib.hid h6;have H7:=Lib.hid h7;have H8:=Lib.hid h8;clear h1 h2 h3 h4 h5 h6 h7 h8;go_enter func130,ntmps130;go_wp2_with fail;have hE:=RE.new h Sx.zero ak ak ak ak ak;generalize ((w.alloc (.cells (aG Sx.zero ak ak ak ak ak) 31)).alloc (.cells bf 31))=w0 at hE⊢;have hm:=fB hE.did.1;rw [H1.out]at hm;go_wp2_with fail;refine hm.mono ?_;rintro e w1 ⟨rfl,hd⟩;replace hE:=hE.call hd;clear hm hd;have Po:=aj hE.hx 0;have Zi:=aj hE.hx 2;have k0:=(aK hE.hx).1;have k2:=(aK hE.hx).2.2.1;have zb:=aD hE.hx;have hE2:RE K w ((w1.setCell ⟨w.heap.size,0,none⟩ (.int .i64 6)).setCell ⟨w.heap.size,2,none⟩ (.string o)) σ1 w.heap.size (w.heap.size+1) {Sx.zero with kind:=6,bT:=o} ak ak ak ak ak:=(hE.own 0 (.int .i64 6) (x' :={Sx.zero with kind:=6}) rfl).own 2 (.string o) rfl;clear hE;have hx2:=hE2.hx;have sI:=AL hE2.did.1 {Sx.zero with kind:=6,bT:=o} ak ak ak ak ak (fun _=>rfl) true;rw [H2.out]at sI;go_wp2_with (refine aT rfl _ rfl rfl rfl hx2 ?_);refine sI.mono ?_;rintro e w2 ⟨rfl,hd⟩;have mE:=hE2.call hd;have hx3:=mE.hx;clear hd sI hE2 Po Zi k0 k2 zb;go_upto_region 3 with (refine bH rfl _ _ rfl rfl rfl hx3 rfl rfl rfl ?_;intro W3 hW3)
 have hE:=mE.put hW3;clear mE hx3 hW3;have hm:=bI hE.did.1 (⟨#[115,101,116]⟩:ah);rw [H3.out]at hm;go_wp2_with fail;refine hm.mono ?_;rintro e w4 ⟨rfl,hd⟩;replace hE:=hE.call hd;clear hm hd;go_wp2_with fail
 go_loopw [5,6] (fun names more wr=>∃(mb:Bool) (l:List ByteArray) (a:Option Addr) (c:Nat) (Z:List Pr) (a3:Option Addr) (c3:Nat) (τ:Ps) (n:Nat),more= .bool mb∧names= .slice a l.length c∧RE K w wr τ w.heap.size (w.heap.size+1) xu ak ak (.slice a3 Z.length c3) ak ak∧wr.ownsRow w.heap.size 62 4 (.slice a3 Z.length c3) Z.length (dI Z)∧wr.ownsRow w.heap.size 9 1 (.slice a l.length c) l.length (l.map Value.string)∧Hid ((if mb then K.X.rD n τ l Z else (Z,τ))=(Zf,nN))∧(mb=true→K.X.T.length - τ.i<n)∧l.length+n≤K.X.T.length+1∧Hid (Z.length=l.length)) (fun _ more wr=>SC K more wr)
 case atStart=>exact ⟨true, [],none,0, [],none,0,σ3,K.X.T.length+1,rfl,rfl,hE,World.ownsRow_nil _ _ _ _,World.ownsRow_nil _ _ _ _,H4.out,fun _=>by omega,by simp,rfl⟩
 case round=>
  clear hE;obtain ⟨mb,l,a,c,Z,a3,c3,τ,n,rfl,rfl,hE,hrs,hrn,HR,hn,hln,ME⟩:=hrel;have hT:=HT.out;have Wp:=wD hE.did.1;have hsz:=hE.base;cases mb with
  |false=>
   have HR2:(Z,τ)=(Zf,nN):=HR.out;cases HR2;clear HR hn Wp hrn H4;have hm:=bI hE.did.1 (⟨#[119,104,101,114,101]⟩:ah);rw [H5.out]at hm;go_wp2_with fail;refine hm.mono ?_;rintro e I6 ⟨rfl,hd⟩;replace hE:=hE.call hd;replace hrs:=hd.row hrs hle;clear hm hd;have hr0:I6.ownsRow w.heap.size 62 4 ak 0 (dI []):=World.ownsRow_nil _ _ _ _;have k13:=(aK hE.hx).2.2.2.2.2.2.2.2.2.2.2.2.2.1;have D5:=aj hE.hx 13;have VF:=aD hE.hx;go_upto_region 12 with fail
   go_cut []from 38 to 55 (fun wx=>∃a' c',RE K w wx yT w.heap.size (w.heap.size+1) xu ak ak (.slice a3 Zf.length c3) (.slice a' 1 c') ak∧wx.ownsRow w.heap.size 62 4 (.slice a' 1 c') 1 (dI [p])∧wx.ownsRow w.heap.size 62 4 (.slice a3 Zf.length c3) Zf.length (dI Zf)∧Apart (.slice a' 1 c') (.slice a3 Zf.length c3))
   case first=>
    go_region_law (first|(refine fM Tryz.vV rfl _ _ rfl w.heap.size _ _ _ rfl (sw.alloc _) _ _ [.string p.name, .int .i64 p.t.ty, .string p.t.s, .int .i64 p.t.n] rfl rfl (fun j u hj=>by rw [iG,Nat.zero_add];exact bg _ _ _ j u hj) (by intro u hu;simp at hu;rcases hu with rfl|rfl|rfl|rfl<;>rfl) (by omega) (by simp;omega) ?_;intro g3 jm w3 h3 hg3 wU hl3;have mE:=(kR.alloc (.cells #[.string p.name, .int .i64 p.t.ty, .string p.t.s, .int .i64 p.t.n] 62)).grown (sw.alloc _) (by decide) hg3;have hs3:=(show Apart ak (.slice a3 Zf.length c3)from fun _ h=>by cases h).keep (rJ.alloc _) hg3;have ha3:Apart (.slice (some ⟨g3,0,none⟩) 1 jm) (.slice a3 Zf.length c3):=(fun g h1 h2=>by cases h1;have hlt:g3<EU.heap.size:=(rJ.lt _ h2).2;rcases wU with h|h;(· cases h);(· rw [av]at h;exact absurd hlt (by omega)));have hx3:=mE.hx;have y3:=(aK hx3).2.2.2.2.2.2.2.2.2.2.2.2.2.1;have u3:=aj hx3 13)|(go_simp;go_at_call 136;refine (CP (K:=K) (hE.drewN 1).did.1 H6.out).mono ?_;rintro e EU ⟨rfl,jq⟩;have kR:=(hE.drewN 1).call jq;have sw:=jq.row (dL hr0 1) hle;have rJ:=jq.row (dL hrs 1) hle;have ow:=kR.hx;have y30:=(aK ow).2.2.2.2.2.2.2.2.2.2.2.2.2.1;have u30:=aj ow 13;have z30:=aD ow;have LG:=kR.base))
    all_goals
     (try go_wp2_with fail)
     go_meet
     case rel=>exact ⟨_,_,mE.own 13 _ rfl,aL h3 mE.hx (by decide) 13 _,aL hs3 mE.hx (by decide) 13 _,ha3⟩
   clear k13 D5 VF hE
   rename World=>wq
   obtain ⟨a1,c1,hE,hrw1,hrs,hap⟩:=hcut;have hm:=bI hE.did.1 (⟨#[97,110,100]⟩:ah);rw [H7.out]at hm;go_wp2_with fail;refine hm.mono ?_;rintro e DL ⟨rfl,hd⟩;replace hE:=hE.call hd;replace hrs:=hd.row hrs hle;replace hrw1:=hd.row hrw1 hle;clear hm hd;have k13:=(aK hE.hx).2.2.2.2.2.2.2.2.2.2.2.2.2.1;have D5:=aj hE.hx 13;have VF:=aD hE.hx;go_upto_region 14 with fail
   go_cut []from 38 to 55 (fun wx=>∃a' c',RE K w wx UR w.heap.size (w.heap.size+1) xu ak ak (.slice a3 Zf.length c3) (.slice a' 2 c') ak∧wx.ownsRow w.heap.size 62 4 (.slice a' 2 c') 2 (dI [p,q])∧wx.ownsRow w.heap.size 62 4 (.slice a3 Zf.length c3) Zf.length (dI Zf))
   case first=>
    go_region_law (first|(refine fM Tryz.vV rfl _ _ rfl w.heap.size _ _ _ rfl (sw.alloc _) _ _ [.string q.name, .int .i64 q.t.ty, .string q.t.s, .int .i64 q.t.n] rfl rfl (fun j u hj=>by rw [iG,Nat.zero_add];exact bg _ _ _ j u hj) (by intro u hu;simp at hu;rcases hu with rfl|rfl|rfl|rfl<;>rfl) (by omega) (by simp;omega) ?_;intro g3 jm w3 h3 hg3 wU hl3;have mE:=(kR.alloc (.cells #[.string q.name, .int .i64 q.t.ty, .string q.t.s, .int .i64 q.t.n] 62)).grown (sw.alloc _) (by decide) hg3;have hs3:=hap.keep (rJ.alloc _) hg3;have hx3:=mE.hx;have y3:=(aK hx3).2.2.2.2.2.2.2.2.2.2.2.2.2.1;have u3:=aj hx3 13)|(go_simp;go_at_call 136;refine (CP (K:=K) (hE.drewN 1).did.1 H8.out).mono ?_;rintro e EU ⟨rfl,jq⟩;have kR:=(hE.drewN 1).call jq;have sw:=jq.row (dL hrw1 1) hle;have rJ:=jq.row (dL hrs 1) hle;have ow:=kR.hx;have y30:=(aK ow).2.2.2.2.2.2.2.2.2.2.2.2.2.1;have u30:=aj ow 13;have z30:=aD ow;have LG:=kR.base))
    all_goals
     (try go_wp2_with fail)
     go_meet
     case rel=>exact ⟨_,_,mE.own 13 _ rfl,aL h3 mE.hx (by decide) 13 _,aL hs3 mE.hx (by decide) 13 _⟩
   clear k13 D5 VF hE hrw1
   rename World=>wq
   obtain ⟨a2,c2,hE,hrw2,hrs⟩:=hcut;have qQ:=hE.hx;have lF:=hE.hr;go_wp2_with (first|refine aT rfl _ rfl rfl rfl qQ ?_|(refine bH rfl _ _ rfl rfl rfl lF rfl rfl rfl ?_;intro W6 iD));refine bodyPost_ret (bQ rfl rfl (jO iD.blk rfl)) rfl ?_;rw [HE.out];obtain ⟨u1,u2,rfl⟩:=HU.out;exact ⟨ak,ak,_,_,rfl,hE.fin iD,World.ownsRow_nil _ _ _ _,World.ownsRow_nil _ _ _ _,bV hrs hE.hr iD (by decide),bV hrw2 hE.hr iD (by decide)⟩
  |true=>
   have hnn:=hn rfl;clear hn;obtain ⟨n,rfl⟩:∃m,n=m+1:=⟨n - 1,by omega⟩;have Cn:=tq hE.did w.heap.size (Nat.le_refl _) hsz _ l 8 hrn (by omega) (by omega);have hi1:=DZ K.X τ l 8;obtain ⟨nm,hnm⟩:=CQ K.X τ l 8;obtain ⟨⟨l3,AP⟩,hc3⟩:∃r,K.X.dU τ l 8=r:=⟨_,rfl⟩;rw [hc3]at Cn hi1 hnm;replace hnm:l3=l++ [nm]:=hnm;replace hi1:τ.i≤AP.i:=hi1;subst hnm;have hi2:AP.i≤(K.X.bC AP (⟨#[61]⟩:ah)).i:=Ck K.X AP (⟨#[61]⟩:ah);obtain ⟨FI,h4⟩:∃r,K.X.bC AP (⟨#[61]⟩:ah)=r:=⟨_,rfl⟩;rw [h4]at hi2;have hi3:=Fz K.X FI;obtain ⟨⟨t,OH⟩,hv4⟩:∃r,K.X.value FI=r:=⟨_,rfl⟩;rw [hv4]at hi3;replace hi3:FI.i≤OH.i:=hi3
   have HR2:Hid ((if K.X.sees OH (⟨#[44]⟩:ah)then K.X.rD n OH.step (l++ [nm]) (Z++ [⟨nm,t⟩])else (Z++ [⟨nm,t⟩],OH))=(Zf,nN)):=by
    have h:=HR.out;have h4' :K.X.must AP [(⟨#[61]⟩:ah)]=FI:=h4;rw [if_pos rfl,Tx.rD]at h;simp only [hc3,h4',hv4,Cm]at h;exact Lib.hid h
   have HV:=Lib.hid hv4;have HQ4:=Lib.hid h4;clear hv4 h4 hc3 HR;go_upto_block 1 with fail
   go_cut [5]from 16 to 37 (fun s5 wx=>∃a2 c2 a3 c3,s5= .slice a2 (l.length+1) c2∧RE K w wx OH w.heap.size (w.heap.size+1) xu ak ak (.slice a3 (Z.length+1) c3) ak ak∧wx.ownsRow w.heap.size 62 4 (.slice a3 (Z.length+1) c3) (Z.length+1) (dI (Z++ [⟨nm,t⟩]))∧wx.ownsRow w.heap.size 9 1 (.slice a2 (l.length+1) c2) (l.length+1) ((l++ [nm]).map Value.string))
   case first=>
    go_wp2_with fail;refine Cn.mono ?_;rintro e DL ⟨a2,c2,rfl,mX,G9,hel⟩;have OI:=hel.row (dH hrn hrs (by decide)) hrs hle;replace hE:=hE.col mX hel hrn (by decide);clear hrs hrn Cn hel mX;have hrs:=OI;have hrn:=G9;clear OI G9;have hm:=bI hE.did.1 (⟨#[61]⟩:ah);rw [HQ4.out]at hm;go_wp2_with fail;refine hm.mono ?_;rintro e UN ⟨rfl,hd⟩;replace hE:=hE.call hd;replace hrs:=hd.row hrs hle;replace hrn:=hd.row hrn hle;clear hm hd;obtain ⟨_,_,hsl,hgn⟩:=aY hrn;cases hsl;obtain ⟨gn,rfl,_,adn,_⟩:=hgn (by omega);clear hgn;have k22:=aS hrn l.length (.string nm) (by simp);have y22:=(aK hE.hx).2.2.2.2.2.2.2.2.2.2.2.2.1;have z22:=aD hE.hx;have p0:IntKind.i64.wrap (((l.length+1:Nat):Int) - 1)=(l.length:Int):=by rw [IntWalk.i64_in _ (by omega)];omega
    have p0' :IntKind.i64.wrap (((l.length:Int)+1) - 1)=(l.length:Int):=by rw [IntWalk.i64_in _ (by omega)];omega
    have p3:IntKind.i64.wrap (l.length:Int)=(l.length:Int):=IntWalk.i64_in _ (by omega);have p1:(0:Int)≤(l.length:Int):=by omega
    have p2:(l.length:Int)<((l.length+1:Nat):Int):=by omega
    have p2' :(l.length:Int)<(l.length:Int)+1:=by omega
    have hZb:Z.length≤100001:=by have:=ME.out;omega
    go_wp2_with fail
    go_region_law (first|(refine fM Tryz.vV rfl _ _ rfl w.heap.size _ _ _ rfl (rJ.alloc _) _ _ [.string nm, .int .i64 t.ty, .string t.s, .int .i64 t.n] rfl rfl (fun j u hj=>by rw [iG,Nat.zero_add];exact bg _ _ _ j u hj) (by intro u hu;simp at hu;rcases hu with rfl|rfl|rfl|rfl<;>rfl) (by omega) (by simp;omega) ?_;intro g3 jm w3 h3 hg3 wU hl3;have mE:=(kR.alloc (.cells #[.string nm, .int .i64 t.ty, .string t.s, .int .i64 t.n] 62)).grown (rJ.alloc _) (by decide) hg3;have y3:=(aK mE.hx).2.2.2.2.2.2.2.2.2.2.2.2.1;have fz3:=aj mE.hx 12)|(go_simp;go_at_call 137;refine (yL (K:=K) (hE.drewN 1).did.1 HV.out).mono ?_;rintro e EU ⟨rfl,jq⟩;have kR:=(hE.drewN 1).call jq;have rJ:=jq.row (dL hrs 1) hle;have Av:=jq.row (dL hrn 1) hle;have y30:=(aK kR.hx).2.2.2.2.2.2.2.2.2.2.2.2.1;have alq:=aj kR.hx 12;have k30:=aS Av l.length (.string nm) (by simp);have z30:=aD kR.hx;have LG:=dZ k30;have Yq:=kR.base))
    all_goals
     (try go_wp2_with fail)
     go_meet
     case rel=>exact ⟨_,_,_,_,rfl,mE.own 12 _ rfl,by rw [vX];exact aL h3 mE.hx (by decide) 12 _,aL ((dH rJ Av (by decide)).keep (Av.alloc _) hg3) mE.hx (by decide) 12 _⟩
   clear hE hrs hrn Cn;obtain ⟨a2,c2,a4,c4,rfl,hE,hrs,hrn⟩:=hcut;have hmay:=bB hE.did.1 (⟨#[44]⟩:ah);unfold Tx.may at hmay;cases hse:K.X.sees OH (⟨#[44]⟩:ah)with
   |true=>
    rw [hse,if_pos rfl]at hmay;obtain ⟨hlt,_⟩:=oJ hse;go_wp2_with fail;refine hmay.mono ?_;rintro e w6 ⟨rfl,hd⟩;replace hE:=hE.call hd;replace hrs:=hd.row hrs hle;replace hrn:=hd.row hrn hle;have hst:OH.step.i=OH.i+1:=rfl;have aik:=wD hE.did.1;go_wp2_with fail;go_roundw
    case rel=>exact ⟨true,l++ [nm],_,_,Z++ [⟨nm,t⟩],_,_,OH.step,n,rfl,by rw [List.length_append];rfl,by rw [List.length_append];exact hE,by rw [List.length_append];exact hrs,by rw [List.length_append];exact hrn,by have h:=HR2.out;rw [hse,if_pos rfl]at h;exact h,fun _=>by omega,by rw [List.length_append];show l.length+1+n≤_;omega,by show _=_;rw [List.length_append,List.length_append,ME.out];rfl⟩
    case measure=>unfold SC;simp only;rw [Wp,aik];omega
   |false=>
    rw [hse,if_neg (by decide)]at hmay;go_wp2_with fail;refine hmay.mono ?_;rintro e w6 ⟨rfl,hd⟩;replace hE:=hE.call hd;replace hrs:=hd.row hrs hle;replace hrn:=hd.row hrn hle;go_wp2_with fail;go_roundw
    case rel=>exact ⟨false,l++ [nm],_,_,Z++ [⟨nm,t⟩],_,_,OH,n,rfl,by rw [List.length_append];rfl,by rw [List.length_append];exact hE,by rw [List.length_append];exact hrs,by rw [List.length_append];exact hrn,by have h:=HR2.out;rw [hse,if_neg (by decide)]at h;exact h,fun h=>absurd h (by decide),by rw [List.length_append];show l.length+1+n≤_;omega,by show _=_;rw [List.length_append,List.length_append,ME.out];rfl⟩
    case measure=>unfold SC;simp
end Go.Proofs.YtcgadodckoalnaaGreatDoor
