/- Parts of a proof. -/
import Derived.StillTailTactics
import Derived.Test.YtcgadodckoalnaaGreatDoorB37
import Derived.Test.YtcgadodckoalnaaGreatDoorB38
import Derived.Test.YtcgadodckoalnaaGreatDoorB47
set_option maxHeartbeats 16000000
set_option maxRecDepth 100000
namespace Go.Proofs.YtcgadodckoalnaaGreatDoor
open Go.Proofs.Tryz
open Go.RowKit
open aN
theorem Tj {n:Int}(h: -1099511627776≤n∧n≤1099511627776):lV n=n:=by unfold lV;omega
theorem Ed {n:Int}(h:n=0∨jR n):lV n=n:=Tj (by rcases h with rfl|⟨h1,h2⟩<;>omega)
theorem ZO {t:Tm}(h:nT t):oz t=t:=by
 obtain ⟨ty,s,n⟩:=t;unfold oz;rw [Tj (n:=n) (by rcases h with ⟨_,_,_,h⟩|⟨_,_,h⟩<;>simp only at h<;>omega)]
theorem Ms:∀{L:List Pr},(∀p∈L,nT p.t)→L.map jy=L
 | [],_=>rfl
 |p::l,h=>by
  rw [List.map_cons,Ms fun q hq=>h q (List.mem_cons_of_mem _ hq)];have:=ZO (h p (List.mem_cons_self ..));obtain ⟨nm,t⟩:=p;unfold jy;rw [this]
theorem FM {x:Sx}(h1:∀p∈x.sets,nT p.t) (h2:∀p∈x.aH,nT p.t) (h3:x.stamp=0∨jR x.stamp) (h4:x.ttl=0∨jR x.ttl) (h5:x.limit=0∨jR x.limit):iK x=x:=by
 unfold iK;rw [Ms h1,Ms h2,Ed h3,Ed h4,Ed h5]
theorem aN.GC.cut {x:Sx}{L:List To}(h:GC x L):iK x=x∧5≤x.kind∧x.kind≤7:=by
 cases h with
 |insert o c v a b h=>
  obtain ⟨_,_,_,_,h5,h6,h7⟩:=h;exact ⟨FM (fun p hp=>h5 _ (FE hp).2) (fun _ h=>nomatch h) h6 (h7.imp_right fun h=>h.2) (.inl rfl),(show (5:Int)≤5 by decide),(show (5:Int)≤7 by decide)⟩
 |update o a b c v h=>
  obtain ⟨_,⟨h6,h7⟩,⟨_,h4,_⟩,h8,_⟩:=h;exact ⟨FM (fun p hp=>(h4 p hp).2) (fun p hp=>(h8 p hp).2) h6 (h7.imp_right fun h=>h.2) (.inl rfl),(show (5:Int)≤6 by decide),(show (6:Int)≤7 by decide)⟩
 |remove o a b c h=>
  obtain ⟨_,_,⟨h6,_⟩,h8,_⟩:=h;exact ⟨FM (fun _ h=>nomatch h) (fun p hp=>(h8 p hp).2) h6 (.inl rfl) (.inl rfl),(show (5:Int)≤7 by decide),(show (7:Int)≤7 by decide)⟩
theorem aN.GC.ch {x:Sx}{L:List To}(h:GC x L):Ja (iK x)=stP x:=by
 rw [h.cut.1];unfold Ja;rw [if_neg (by have:=h.cut.2;omega)]
theorem aN.GP.dt {x:Sx}{L:List To}(h:GP x L):Ti ⟨x, []⟩=stP x:=by
 cases h with
 |ask aI p w n h=>
  obtain ⟨_,_,⟨h8,_⟩,h9⟩:=h;have e:iK (F9 aI p w n)=F9 aI p w n:=FM (fun _ h=>nomatch h) (fun q hq=>(h8 q hq).2) (.inl rfl) (.inl rfl) h9;show dxP ⟨F9 aI p w n, []⟩=_;show Ja (iK (F9 aI p w n))=_;rw [e];rfl
 |view=>rfl
 |index=>rfl
 |drop=>rfl
 |table _ _ _ _ h=>
  obtain ⟨_,_,_,_,_,e0,_,_⟩:=kX h;rw [e0];rfl
theorem aN.GP.ajg {x:Sx}{L:List To}(h:GP x L):¬x.kind=9:=by
 cases h with
 |ask=>exact (show¬(8:Int)=9 by decide)
 |view=>exact (show¬(2:Int)=9 by decide)
 |index=>exact (show¬(3:Int)=9 by decide)
 |drop=>exact (show¬(4:Int)=9 by decide)
 |table _ _ _ _ h=>
  obtain ⟨_,_,_,_,_,e0,_,_⟩:=kX h;rw [e0];exact (show¬(1:Int)=9 by decide)
theorem aN.GB.ch {l:List Sx}{L:List To}(h:GB l L):l.map (fun q=>Ja (iK q))=l.map stP:=by
 induction h with
 |nil=>rfl
 |cons h _ ih=>rw [List.map_cons,List.map_cons,h.ch,ih]
theorem aN.GN.dt {nd:Tx.Nd}{L:List To}(h:GN nd L):aF (Ti (je nd))=eO (je nd):=by
 unfold eO;congr 1;cases h with
 |plain h=>
  refine h.dt.trans ?_;have h9:=h.ajg;show stP _=K8 ⟨_, []⟩;unfold K8;rw [if_neg h9]
 | @change x M h=>
  have hk:=h.cut.2;show (if 1≤x.kind∧x.kind≤4 then stP x else if x.kind=9 then _ else Ja (iK x))=(if x.kind=9 then _ else stP x);rw [if_neg (by omega),if_neg (by omega),if_neg (by omega)];exact h.ch
 |batch h _ _=>
  show nk _=nk _;congr 1;exact h.ch
theorem Mt {w1 w2 w:World}{s:ByteArray}{ta:Option Addr}{kC:Nat}(hG:Gp w) (hX:Tx.Ok ⟨(aP s).1,(pts s).length⟩) (hs:s.size≤1000) (hrow:w1.ownsRow w2.heap.size 112 4 (.slice ta (aP s).1.length kC) (aP s).1.length (nE (aP s).1)) (hb:Below w1.heap.size w1 w):
 ∃K:PK,K.b=w.heap.size∧K.L=w.heap.size+1∧K.X=⟨(aP s).1,(pts s).length⟩∧K.ws=w∧RQ K (w.alloc (.cells #[.slice ta (aP s).1.length kC, .int .i64 0, .int .i64 (pts s).length, .int .i64 (-1)] 87)) ⟨0,none⟩:=by
 have hl:=ML s;have hr:=fC hrow hb;refine ⟨⟨w,w.heap.size+1,w.heap.size,⟨(aP s).1,(pts s).length⟩,hG,Nat.le_refl _,Nat.lt_succ_self _,by show (aP s).1.length≤100000;omega⟩,rfl,rfl,rfl,rfl, ?_⟩;refine ⟨by rw [av];exact Nat.le_refl _,(Below.refl _ w).alloc (Nat.le_refl _) _,ta,kC,aA w _,fun hp=> ?_,hX⟩;obtain ⟨_,_,hsl,hgx⟩:=aY hr;cases hsl;obtain ⟨g,rfl,_,hgl,_⟩:=hgx hp
 have hlt:g<w.heap.size:=by
  have:=aS hr 0 (.int .i64 ((aP s).1[0]'hp).kind) (by have:=iy (aP s).1 0 0 hp (by omega);rw [show 0*4+0=0 from rfl]at this;rw [this];rfl);exact dZ this
 exact ⟨g,rfl,by show g≠w.heap.size;omega,by show g<w.heap.size+1;omega,fun j u hj=>aS (hr.alloc _) j u hj⟩
theorem pV {K:PK}{W w' :World}{σ:Ps}{k:Nat}{C:Array Value}{T:TypeId}{fr:Nat×Nat}(hD:dQ K W σ w') (h:W.heap[k]? =some (.cells C T fr)) (hne:K.b≠k):w'.heap[k]? =some (.cells C T fr):=
 (hD.2.1.block k (aD h) (fun e=>hne (Option.some.inj e).symm)).trans h
theorem Rz {s:ByteArray}{w:World}(hs:s.size≤1000) (he:(aP s).2.2≠0):Calls prog 17 #[.string s] w (pU w s):=by
 have hB1:=(Below.refl w.heap.size w).alloc (Nat.le_refl _) (.cells bf 31);have hb0:(w.alloc (.cells bf 31)).heap[w.heap.size]? =some (.cells bf 31 (0,0)):=aA w _;have hlex:=tu s (w.alloc (.cells bf 31)) (by omega);have q1:((aP s).2.2 !=0)=true:=bne_iff_ne.2 he;have HE:Hid (bE s=(kD.zero,((aP s).2.1:Int),(aP s).2.2)):=by show _=_;unfold bE;simp only;rw [if_pos he]
 have hbz:=oO;clear he;go_enter func17,ntmps17;go_wp2_with fail;refine hlex.mono ?_;rintro e w2 ⟨⟨v,rfl,hrow⟩,hb2⟩;have hB2:=hB1.trans (hb2.mono hB1.size);have mY:=aZ hb0 hb2 (aD hb0);go_wp2_with (refine bH rfl _ _ rfl rfl rfl mY rfl rfl rfl ?_;intro w9 Oi);refine bodyPost_ret (dV rfl rfl (jO Oi.blk rfl)) rfl ?_;exact ⟨pz, [],by rw [HE.out];rfl,Oi.below _ _ hB2 (Nat.le_refl _),by rw [HE.out];exact tY _ _⟩
theorem oq.IG {K:PK}{σ:Ps}{w w' :World}{base:Nat}{p:Pw}{L:List Pw}{z:kD}(h:oq w base p L z) (hd:dQ K w σ w') (hb:K.L≤base):oq w' base p L z:=
 ⟨h.x,h.parts,h.rows.map fun _ _ _ _ _ _ hr=>hd.row hr hb,hd.row h.row hb,fun q hq=>⟨(h.each q hq).1.map fun _ _ _ _ _ _ hr=>hd.row hr hb,(h.each q hq).2⟩⟩
theorem ZP {X:Tx}{σ:Ps}{a:Nat}(h:σ.bad=some a):(X.fail σ).bad=some a:=by unfold Tx.fail Ps.wrong;rw [h];exact h
theorem Wi {X:Tx}{σ:Ps}(h:σ.bad=none):X.fail σ=σ.wrong (X.here σ)∧(X.fail σ).bad=some (X.here σ):=by refine ⟨rfl, ?_⟩;unfold Tx.fail Ps.wrong;rw [h]
theorem O8 {s:ByteArray}{w:World}(hG:Gp w) (hs:s.size≤1000) (he:(aP s).2.2=0) {F8:Ps}(hσ:Tx.may ⟨(aP s).1,(pts s).length⟩ (Tx.Eo ⟨(aP s).1,(pts s).length⟩ ⟨0,none⟩).2 (⟨#[59]⟩:ah)=F8) (hbad:F8.bad=none) (hlt:F8.i<(aP s).1.length):Calls prog 17 #[.string s] w (pU w s):=by
 have hB1:=(Below.refl w.heap.size w).alloc (Nat.le_refl _) (.cells bf 31);have hb0:(w.alloc (.cells bf 31)).heap[w.heap.size]? =some (.cells bf 31 (0,0)):=aA w _;have hlex:=tu s (w.alloc (.cells bf 31)) (by omega);obtain ⟨dW,hsz⟩:=oG he;have q1:((aP s).2.2 !=0)=false:=by rw [he];rfl
 have hX:=Lx.ok dW (pts s).length;obtain ⟨⟨nd,τ⟩,hpt⟩:∃r,sK ⟨(aP s).1,(pts s).length⟩=r:=⟨_,rfl⟩
 have HE:Hid (bE s=match τ.bad with|some a=>(kD.zero,(a:Int),3)|none=>if 1000<(eO (je nd)).size then (kD.zero,0,2)else (je nd,0,0)):=by
  show _=_;rw [←Ak];unfold BN;simp only;rw [if_neg (by rw [he];simp),hpt];rfl
 have HST:Hid (τ.bad=none→(gB (je nd).x∧(∀y∈(je nd).parts,gB y)∧(je nd).parts.length≤8)∧aF (Ti (je nd))=eO (je nd)):=fun hb=>by
  have he2:jv ⟨(aP s).1,(pts s).length⟩=(nd,τ):=by
   rcases vO hX with e|⟨a,g1,g2⟩
   · rw [←e,hpt]
   · rw [hpt]at g1;rw [show τ.bad=some a from g1]at hb;cases hb
  obtain ⟨L,R,EO,_,_⟩:=kH hX (by rw [he2];exact hb);rw [he2]at EO;exact ⟨EO.st,EO.dt⟩
 unfold sK at hpt;simp only at hpt;obtain ⟨⟨nd',σ1⟩,h1⟩:∃r,Tx.Eo ⟨(aP s).1,(pts s).length⟩ ⟨0,none⟩=r:=⟨_,rfl⟩;rw [h1]at hpt;obtain ⟨σ2,h2⟩:∃r,Tx.may ⟨(aP s).1,(pts s).length⟩ σ1 (⟨#[59]⟩:ah)=r:=⟨_,rfl⟩;rw [h2]at hpt;have ZQ:σ2=F8:=by rw [←hσ,h1,←h2]
 subst ZQ;clear hσ;injection hpt with hnd Em
 subst hnd;have hbz:=oO;have HG:=Lib.hid hG;have HXO:=Lib.hid hX;clear he hG hsz dW hX;go_enter func17,ntmps17;go_wp2_with fail;refine hlex.mono ?_;rintro e w2 ⟨⟨v,rfl,hrow⟩,hb2⟩;have hB2:=hB1.trans (hb2.mono hB1.size);have mY:=aZ hb0 hb2 (aD hb0);obtain ⟨ta,kC,rfl,_⟩:=aY hrow;have hct:=Al s w2 (by omega);go_wp2_with fail;refine hct.mono ?_;rintro e w3 ⟨rfl,hb3⟩;have hB3:=hB2.trans (hb3.mono hB2.size);have jr:=aZ mY hb3 (aD mY);obtain ⟨K,hKb,zC,pX,Z4,hPQ⟩:=Mt (HG.out.below hB3) HXO.out hs hrow hb3;have hD4:=dQ.refl hPQ;have hb4:=aC jr (.cells #[.slice ta (aP s).1.length kC, .int .i64 0, .int .i64 (pts s).length, .int .i64 (-1)] 87);have hst:=Mi hPQ;rw [pX,h1,hKb]at hst;go_wp2_with fail;refine hst.mono ?_;rintro e w5 ⟨⟨qx,wW,qc,qs,wX,wT⟩,M,rfl,hd5,hH5⟩;have hD5:=hD4.trans hd5;have hone:=hH5.wd.one;have hb5:=pV hD5 hb4 (by rw [hKb];have:=aD jr;omega);have hmay:=bB (hD5.alloc (.cells (aG qx wW qc qs wX wT) 31)).1 (⟨#[59]⟩:ah);rw [pX,h2,hKb]at hmay;have h9:(w5.alloc (.cells (aG qx wW qc qs wX wT) 31)).heap[w5.heap.size]? =some (.cells (aG qx wW qc qs wX wT) 31 (0,0)):=aA w5 _;go_wp2_with (refine lT rfl _ _ rfl rfl rfl rfl hone ?_);refine hmay.mono ?_;rintro e w6 ⟨rfl,hd6⟩;have O9:=hD5.alloc (.cells (aG qx wW qc qs wX wT) 31);have hD6:=O9.trans hd6;have hL4:K.L=(w3.alloc (.cells #[.slice ta (aP s).1.length kC, .int .i64 0, .int .i64 (pts s).length, .int .i64 (-1)] 87)).heap.size:=by rw [zC,av]
 have hL5:K.L≤w5.heap.size:=by rw [hL4];exact hD5.size
 have hne0:K.b≠w.heap.size:=by rw [hKb];have:=aD jr;omega
 have QG:=hd6.blk h9 hL5;have hb6:=pV hD6 hb4 hne0;have hH6:=(hH5.below ((Below.refl w5.heap.size w5).alloc (Nat.le_refl _) (.cells (aG qx wW qc qs wX wT) 31))).IG hd6 (by rw [hL4];exact Nat.le_refl _);replace hH6:=hH6.mono (show w.heap.size+1≤_ by rw [av];have:=hB3.size;omega);obtain ⟨ta2,Iy,c0,c1,c2,c3,_,f3,_⟩:=hD6.1.cells;rw [hKb]at c0 c1 c2 c3 f3;rw [pX]at c0 c2;have HX:=Lib.hid pX;have wV:=Lib.hid hKb;have AU:=Lib.hid Em;have I9:=Lib.hid hne0;have JC:=Lib.hid (hB3.alloc hB3.size (.cells #[.slice ta (aP s).1.length kC, .int .i64 0, .int .i64 (pts s).length, .int .i64 (-1)] 87));have HB3:=Lib.hid hB3;have abS:=Lib.hid hb4;clear pX hKb zC Em h1 h2 hst hmay hct hlex O9 hD5 hL4 hL5 hne0 h9 hb5 hb4 hH5 hb0 mY hB1 hB2 hB3 hrow hPQ hD4 Z4;have p0:(σ2.i:Int)<((aP s).1.length:Int):=by omega
 obtain ⟨hf1,hf2⟩:=Wi (X:=⟨(aP s).1,(pts s).length⟩) hbad;have HT3:Hid (τ=Tx.fail ⟨(aP s).1,(pts s).length⟩ σ2):=by show _=_;rw [←AU.out,if_pos hlt]
 have MF:σ2.fT= -1:=by unfold Ps.fT;rw [hbad]
 rw [MF]at c3;have HP:Hid (bE s=(kD.zero,(Tx.here ⟨(aP s).1,(pts s).length⟩ σ2:Int),3)):=by show _=_;rw [HE.out,HT3.out,hf2]
 have HF1:=Lib.hid hf1;have HF2:=Lib.hid hf2;clear hf1 hf2 MF hbad QG hH6;go_wp2_with fail;go_quiet (fail);go_wp2_with fail;have hD7:=hD6.drewN nq;generalize w6.drewN nq=w7 at *;have hat:=iR hD7.1;rw [HX.out,wV.out]at hat;refine hat.mono ?_;rintro e w8 ⟨rfl,m8,rfl⟩;have Cb:=hD7.drewN m8;generalize w7.drewN m8=w8 at *;have hwr:=fU Cb.1 (Tx.here ⟨(aP s).1,(pts s).length⟩ σ2);rw [wV.out]at hwr;go_wp2_with fail;refine hwr.mono ?_;rintro e wx ⟨rfl,Pk⟩;have hDx:=Cb.trans Pk;obtain ⟨_,_,_,_,_,e3,_,g3,_⟩:=hDx.1.cells;rw [wV.out]at e3 g3;have MF:(σ2.wrong (Tx.here ⟨(aP s).1,(pts s).length⟩ σ2)).fT=(Tx.here ⟨(aP s).1,(pts s).length⟩ σ2:Int):=by rw [←HF1.out];unfold Ps.fT;rw [HF2.out]
 rw [MF]at e3;generalize Tx.here ⟨(aP s).1,(pts s).length⟩ σ2=bd at *;clear MF;have hbx:=pV hDx abS.out I9.out;have HBx:=Lib.hid (JC.out.grown hDx.2.1 JC.out.size (fun k hk=>by cases hk;rw [wV.out];exact HB3.out.size));obtain ⟨zc0,zc1,zc2,zc3,zc4,zc5,zc6,zc7,zc8,zc9,aee,aef,aeg,aeh,aei,aej,aek,ael⟩:=zn hbx;obtain ⟨zf0,zf1,zf2,zf3,zf4,zf5,zf6,zf7,zf8,zf9,aem,aen,aeo,aep,aer,aes,aeu,aev⟩:=CS hbx;have hwz:=tF (w:=wx) (V:=bf) hbx rfl rfl;obtain ⟨wz,wF⟩:∃wz,wz=wx.setCells w.heap.size 0 [.int .i64 0, .string ⟨#[]⟩, .string ⟨#[]⟩, .string ⟨#[]⟩, .string ⟨#[]⟩, .int .i64 0, .string ⟨#[]⟩, .int .i64 0, .string ⟨#[]⟩, .int .i64 0, .slice none 0 0, .slice none 0 0, .slice none 0 0, .slice none 0 0, .int .i64 0, .int .i64 0, .int .i64 0, .slice none 0 0]:=⟨_,rfl⟩;replace hwz:Wrote wx w.heap.size bf 31 (wx.setCells w.heap.size 0 [.int .i64 0, .string ⟨#[]⟩, .string ⟨#[]⟩, .string ⟨#[]⟩, .string ⟨#[]⟩, .int .i64 0, .string ⟨#[]⟩, .int .i64 0, .string ⟨#[]⟩, .int .i64 0, .slice none 0 0, .slice none 0 0, .slice none 0 0, .slice none 0 0, .int .i64 0, .int .i64 0, .int .i64 0, .slice none 0 0]):=hwz;rw [←wF]at hwz;simp only [World.setCells,Nat.zero_add,Nat.reduceAdd]at wF;have HWZ:=Lib.hid wF;clear wF;have hne1:¬w3.heap.size=w.heap.size:=by rw [←wV.out];exact I9.out
 have hne2:¬w.heap.size=w3.heap.size:=fun h=>hne1 h.symm
 go_wp2_with fail;go_region
 all_goals
  go_wp2_with fail;rw [←HWZ.out];refine bodyPost_ret (dV rfl rfl (jO (w:=wz.drew) hwz.blk rfl)) rfl ?_;exact kM (p:=pz) HP.out (hwz.below _ _ HBx.out (Nat.le_refl _)).drew (tY _ _)
theorem Mv {s:ByteArray}{w:World}(hG:Gp w) (hs:s.size≤1000) (he:(aP s).2.2=0) {F8:Ps}(hσ:Tx.may ⟨(aP s).1,(pts s).length⟩ (Tx.Eo ⟨(aP s).1,(pts s).length⟩ ⟨0,none⟩).2 (⟨#[59]⟩:ah)=F8) {bd:Nat}(hbad:F8.bad=some bd):Calls prog 17 #[.string s] w (pU w s):=by
 have hB1:=(Below.refl w.heap.size w).alloc (Nat.le_refl _) (.cells bf 31);have hb0:(w.alloc (.cells bf 31)).heap[w.heap.size]? =some (.cells bf 31 (0,0)):=aA w _;have hlex:=tu s (w.alloc (.cells bf 31)) (by omega);obtain ⟨dW,hsz⟩:=oG he;have q1:((aP s).2.2 !=0)=false:=by rw [he];rfl
 have hX:=Lx.ok dW (pts s).length;obtain ⟨⟨nd,τ⟩,hpt⟩:∃r,sK ⟨(aP s).1,(pts s).length⟩=r:=⟨_,rfl⟩
 have HE:Hid (bE s=match τ.bad with|some a=>(kD.zero,(a:Int),3)|none=>if 1000<(eO (je nd)).size then (kD.zero,0,2)else (je nd,0,0)):=by
  show _=_;rw [←Ak];unfold BN;simp only;rw [if_neg (by rw [he];simp),hpt];rfl
 have HST:Hid (τ.bad=none→(gB (je nd).x∧(∀y∈(je nd).parts,gB y)∧(je nd).parts.length≤8)∧aF (Ti (je nd))=eO (je nd)):=fun hb=>by
  have he2:jv ⟨(aP s).1,(pts s).length⟩=(nd,τ):=by
   rcases vO hX with e|⟨a,g1,g2⟩
   · rw [←e,hpt]
   · rw [hpt]at g1;rw [show τ.bad=some a from g1]at hb;cases hb
  obtain ⟨L,R,EO,_,_⟩:=kH hX (by rw [he2];exact hb);rw [he2]at EO;exact ⟨EO.st,EO.dt⟩
 unfold sK at hpt;simp only at hpt;obtain ⟨⟨nd',σ1⟩,h1⟩:∃r,Tx.Eo ⟨(aP s).1,(pts s).length⟩ ⟨0,none⟩=r:=⟨_,rfl⟩;rw [h1]at hpt;obtain ⟨σ2,h2⟩:∃r,Tx.may ⟨(aP s).1,(pts s).length⟩ σ1 (⟨#[59]⟩:ah)=r:=⟨_,rfl⟩;rw [h2]at hpt;have ZQ:σ2=F8:=by rw [←hσ,h1,←h2]
 subst ZQ;clear hσ;injection hpt with hnd Em
 subst hnd;have hbz:=oO;have HG:=Lib.hid hG;have HXO:=Lib.hid hX;clear he hG hsz dW hX;go_enter func17,ntmps17;go_wp2_with fail;refine hlex.mono ?_;rintro e w2 ⟨⟨v,rfl,hrow⟩,hb2⟩;have hB2:=hB1.trans (hb2.mono hB1.size);have mY:=aZ hb0 hb2 (aD hb0);obtain ⟨ta,kC,rfl,_⟩:=aY hrow;have hct:=Al s w2 (by omega);go_wp2_with fail;refine hct.mono ?_;rintro e w3 ⟨rfl,hb3⟩;have hB3:=hB2.trans (hb3.mono hB2.size);have jr:=aZ mY hb3 (aD mY);obtain ⟨K,hKb,zC,pX,Z4,hPQ⟩:=Mt (HG.out.below hB3) HXO.out hs hrow hb3;have hD4:=dQ.refl hPQ;have hb4:=aC jr (.cells #[.slice ta (aP s).1.length kC, .int .i64 0, .int .i64 (pts s).length, .int .i64 (-1)] 87);have hst:=Mi hPQ;rw [pX,h1,hKb]at hst;go_wp2_with fail;refine hst.mono ?_;rintro e w5 ⟨⟨qx,wW,qc,qs,wX,wT⟩,M,rfl,hd5,hH5⟩;have hD5:=hD4.trans hd5;have hone:=hH5.wd.one;have hb5:=pV hD5 hb4 (by rw [hKb];have:=aD jr;omega);have hmay:=bB (hD5.alloc (.cells (aG qx wW qc qs wX wT) 31)).1 (⟨#[59]⟩:ah);rw [pX,h2,hKb]at hmay;have h9:(w5.alloc (.cells (aG qx wW qc qs wX wT) 31)).heap[w5.heap.size]? =some (.cells (aG qx wW qc qs wX wT) 31 (0,0)):=aA w5 _;go_wp2_with (refine lT rfl _ _ rfl rfl rfl rfl hone ?_);refine hmay.mono ?_;rintro e w6 ⟨rfl,hd6⟩;have O9:=hD5.alloc (.cells (aG qx wW qc qs wX wT) 31);have hD6:=O9.trans hd6;have hL4:K.L=(w3.alloc (.cells #[.slice ta (aP s).1.length kC, .int .i64 0, .int .i64 (pts s).length, .int .i64 (-1)] 87)).heap.size:=by rw [zC,av]
 have hL5:K.L≤w5.heap.size:=by rw [hL4];exact hD5.size
 have hne0:K.b≠w.heap.size:=by rw [hKb];have:=aD jr;omega
 have QG:=hd6.blk h9 hL5;have hb6:=pV hD6 hb4 hne0;have hH6:=(hH5.below ((Below.refl w5.heap.size w5).alloc (Nat.le_refl _) (.cells (aG qx wW qc qs wX wT) 31))).IG hd6 (by rw [hL4];exact Nat.le_refl _);replace hH6:=hH6.mono (show w.heap.size+1≤_ by rw [av];have:=hB3.size;omega);obtain ⟨ta2,Iy,c0,c1,c2,c3,_,f3,_⟩:=hD6.1.cells;rw [hKb]at c0 c1 c2 c3 f3;rw [pX]at c0 c2;have HX:=Lib.hid pX;have wV:=Lib.hid hKb;have AU:=Lib.hid Em;have I9:=Lib.hid hne0;have JC:=Lib.hid (hB3.alloc hB3.size (.cells #[.slice ta (aP s).1.length kC, .int .i64 0, .int .i64 (pts s).length, .int .i64 (-1)] 87));have HB3:=Lib.hid hB3;have abS:=Lib.hid hb4;clear pX hKb zC Em h1 h2 hst hmay hct hlex O9 hD5 hL4 hL5 hne0 h9 hb5 hb4 hH5 hb0 mY hB1 hB2 hB3 hrow hPQ hD4 Z4
 have HT3:Hid (τ.bad=some bd):=by
  show _=_;rw [←AU.out];split
  · exact ZP hbad
  · exact hbad
 have MF:σ2.fT=(bd:Int):=by unfold Ps.fT;rw [hbad]
 rw [MF]at c3;have p0:¬(bd:Int)<0:=by omega
 have p1:decide ((bd:Int)<0)=false:=decide_eq_false p0;have HP:Hid (bE s=(kD.zero,(bd:Int),3)):=by show _=_;rw [HE.out,HT3.out]
 clear hbad QG hH6;go_wp2_with fail;go_quiet (fail);go_wp2_with fail;have hDx:=hD6.drewN nq;generalize w6.drewN nq=wx at *;obtain ⟨_,_,_,_,_,e3,_,g3,_⟩:=hDx.1.cells;rw [wV.out,MF]at e3;rw [wV.out]at g3;clear MF;have hbx:=pV hDx abS.out I9.out;have HBx:=Lib.hid (JC.out.grown hDx.2.1 JC.out.size (fun k hk=>by cases hk;rw [wV.out];exact HB3.out.size));obtain ⟨zc0,zc1,zc2,zc3,zc4,zc5,zc6,zc7,zc8,zc9,aee,aef,aeg,aeh,aei,aej,aek,ael⟩:=zn hbx;obtain ⟨zf0,zf1,zf2,zf3,zf4,zf5,zf6,zf7,zf8,zf9,aem,aen,aeo,aep,aer,aes,aeu,aev⟩:=CS hbx;have hwz:=tF (w:=wx) (V:=bf) hbx rfl rfl;obtain ⟨wz,wF⟩:∃wz,wz=wx.setCells w.heap.size 0 [.int .i64 0, .string ⟨#[]⟩, .string ⟨#[]⟩, .string ⟨#[]⟩, .string ⟨#[]⟩, .int .i64 0, .string ⟨#[]⟩, .int .i64 0, .string ⟨#[]⟩, .int .i64 0, .slice none 0 0, .slice none 0 0, .slice none 0 0, .slice none 0 0, .int .i64 0, .int .i64 0, .int .i64 0, .slice none 0 0]:=⟨_,rfl⟩;replace hwz:Wrote wx w.heap.size bf 31 (wx.setCells w.heap.size 0 [.int .i64 0, .string ⟨#[]⟩, .string ⟨#[]⟩, .string ⟨#[]⟩, .string ⟨#[]⟩, .int .i64 0, .string ⟨#[]⟩, .int .i64 0, .string ⟨#[]⟩, .int .i64 0, .slice none 0 0, .slice none 0 0, .slice none 0 0, .slice none 0 0, .int .i64 0, .int .i64 0, .int .i64 0, .slice none 0 0]):=hwz;rw [←wF]at hwz;simp only [World.setCells,Nat.zero_add,Nat.reduceAdd]at wF;have HWZ:=Lib.hid wF;clear wF;have hne1:¬w3.heap.size=w.heap.size:=by rw [←wV.out];exact I9.out
 have hne2:¬w.heap.size=w3.heap.size:=fun h=>hne1 h.symm
 go_wp2_with fail;go_region
 all_goals
  go_wp2_with fail;rw [←HWZ.out];refine bodyPost_ret (dV rfl rfl (jO (w:=wz.drew) hwz.blk rfl)) rfl ?_;exact kM (p:=pz) HP.out (hwz.below _ _ HBx.out (Nat.le_refl _)).drew (tY _ _)
theorem Pb {s:ByteArray}{w:World}(hG:Gp w) (hs:s.size≤1000) (he:(aP s).2.2=0) {F8:Ps}(hσ:Tx.may ⟨(aP s).1,(pts s).length⟩ (Tx.Eo ⟨(aP s).1,(pts s).length⟩ ⟨0,none⟩).2 (⟨#[59]⟩:ah)=F8) (hbad:F8.bad=none) (hlt:¬F8.i<(aP s).1.length):Calls prog 17 #[.string s] w (pU w s):=by
 have hB1:=(Below.refl w.heap.size w).alloc (Nat.le_refl _) (.cells bf 31);have hb0:(w.alloc (.cells bf 31)).heap[w.heap.size]? =some (.cells bf 31 (0,0)):=aA w _;have hlex:=tu s (w.alloc (.cells bf 31)) (by omega);obtain ⟨dW,hsz⟩:=oG he;have q1:((aP s).2.2 !=0)=false:=by rw [he];rfl
 have hX:=Lx.ok dW (pts s).length;obtain ⟨⟨nd,τ⟩,hpt⟩:∃r,sK ⟨(aP s).1,(pts s).length⟩=r:=⟨_,rfl⟩
 have HE:Hid (bE s=match τ.bad with|some a=>(kD.zero,(a:Int),3)|none=>if 1000<(eO (je nd)).size then (kD.zero,0,2)else (je nd,0,0)):=by
  show _=_;rw [←Ak];unfold BN;simp only;rw [if_neg (by rw [he];simp),hpt];rfl
 have HST:Hid (τ.bad=none→(gB (je nd).x∧(∀y∈(je nd).parts,gB y)∧(je nd).parts.length≤8)∧aF (Ti (je nd))=eO (je nd)):=fun hb=>by
  have he2:jv ⟨(aP s).1,(pts s).length⟩=(nd,τ):=by
   rcases vO hX with e|⟨a,g1,g2⟩
   · rw [←e,hpt]
   · rw [hpt]at g1;rw [show τ.bad=some a from g1]at hb;cases hb
  obtain ⟨L,R,EO,_,_⟩:=kH hX (by rw [he2];exact hb);rw [he2]at EO;exact ⟨EO.st,EO.dt⟩
 unfold sK at hpt;simp only at hpt;obtain ⟨⟨nd',σ1⟩,h1⟩:∃r,Tx.Eo ⟨(aP s).1,(pts s).length⟩ ⟨0,none⟩=r:=⟨_,rfl⟩;rw [h1]at hpt;obtain ⟨σ2,h2⟩:∃r,Tx.may ⟨(aP s).1,(pts s).length⟩ σ1 (⟨#[59]⟩:ah)=r:=⟨_,rfl⟩;rw [h2]at hpt;have ZQ:σ2=F8:=by rw [←hσ,h1,←h2]
 subst ZQ;clear hσ;injection hpt with hnd Em
 subst hnd;have hbz:=oO;have HG:=Lib.hid hG;have HXO:=Lib.hid hX;clear he hG hsz dW hX;go_enter func17,ntmps17;go_wp2_with fail;refine hlex.mono ?_;rintro e w2 ⟨⟨v,rfl,hrow⟩,hb2⟩;have hB2:=hB1.trans (hb2.mono hB1.size);have mY:=aZ hb0 hb2 (aD hb0);obtain ⟨ta,kC,rfl,_⟩:=aY hrow;have hct:=Al s w2 (by omega);go_wp2_with fail;refine hct.mono ?_;rintro e w3 ⟨rfl,hb3⟩;have hB3:=hB2.trans (hb3.mono hB2.size);have jr:=aZ mY hb3 (aD mY);obtain ⟨K,hKb,zC,pX,Z4,hPQ⟩:=Mt (HG.out.below hB3) HXO.out hs hrow hb3;have hD4:=dQ.refl hPQ;have hb4:=aC jr (.cells #[.slice ta (aP s).1.length kC, .int .i64 0, .int .i64 (pts s).length, .int .i64 (-1)] 87);have hst:=Mi hPQ;rw [pX,h1,hKb]at hst;go_wp2_with fail;refine hst.mono ?_;rintro e w5 ⟨⟨qx,wW,qc,qs,wX,wT⟩,M,rfl,hd5,hH5⟩;have hD5:=hD4.trans hd5;have hone:=hH5.wd.one;have hb5:=pV hD5 hb4 (by rw [hKb];have:=aD jr;omega);have hmay:=bB (hD5.alloc (.cells (aG qx wW qc qs wX wT) 31)).1 (⟨#[59]⟩:ah);rw [pX,h2,hKb]at hmay;have h9:(w5.alloc (.cells (aG qx wW qc qs wX wT) 31)).heap[w5.heap.size]? =some (.cells (aG qx wW qc qs wX wT) 31 (0,0)):=aA w5 _;go_wp2_with (refine lT rfl _ _ rfl rfl rfl rfl hone ?_);refine hmay.mono ?_;rintro e w6 ⟨rfl,hd6⟩;have O9:=hD5.alloc (.cells (aG qx wW qc qs wX wT) 31);have hD6:=O9.trans hd6;have hL4:K.L=(w3.alloc (.cells #[.slice ta (aP s).1.length kC, .int .i64 0, .int .i64 (pts s).length, .int .i64 (-1)] 87)).heap.size:=by rw [zC,av]
 have hL5:K.L≤w5.heap.size:=by rw [hL4];exact hD5.size
 have hne0:K.b≠w.heap.size:=by rw [hKb];have:=aD jr;omega
 have QG:=hd6.blk h9 hL5;have hb6:=pV hD6 hb4 hne0;have hH6:=(hH5.below ((Below.refl w5.heap.size w5).alloc (Nat.le_refl _) (.cells (aG qx wW qc qs wX wT) 31))).IG hd6 (by rw [hL4];exact Nat.le_refl _);replace hH6:=hH6.mono (show w.heap.size+1≤_ by rw [av];have:=hB3.size;omega);obtain ⟨ta2,Iy,c0,c1,c2,c3,_,f3,_⟩:=hD6.1.cells;rw [hKb]at c0 c1 c2 c3 f3;rw [pX]at c0 c2;have HX:=Lib.hid pX;have wV:=Lib.hid hKb;have AU:=Lib.hid Em;have I9:=Lib.hid hne0;have JC:=Lib.hid (hB3.alloc hB3.size (.cells #[.slice ta (aP s).1.length kC, .int .i64 0, .int .i64 (pts s).length, .int .i64 (-1)] 87));have HB3:=Lib.hid hB3;have abS:=Lib.hid hb4;clear pX hKb zC Em h1 h2 hst hmay hct hlex O9 hD5 hL4 hL5 hne0 h9 hb5 hb4 hH5 hb0 mY hB1 hB2 hB3 hrow hPQ hD4 Z4;have p0:¬(σ2.i:Int)<((aP s).1.length:Int):=by omega
 have p1:decide ((σ2.i:Int)<((aP s).1.length:Int))=false:=decide_eq_false p0;have HT3:Hid (τ=σ2):=by show _=_;rw [←AU.out,if_neg hlt]
 have MF:σ2.fT= -1:=by unfold Ps.fT;rw [hbad]
 rw [MF]at c3;obtain ⟨⟨st1,st2,st3⟩,hdt⟩:=HST.out (by rw [HT3.out];exact hbad);have HP:Hid (bE s=if 1000<(eO (je nd')).size then (kD.zero,0,2)else (je nd',0,0)):=by show _=_;rw [HE.out,HT3.out,hbad]
 have hzz:=hH6.z;have hT:=fun wA (hb:Below w6.heap.size w6 wA)=>Ec (w:=wA) (p:=⟨qx,wW,qc,qs,wX,wT⟩) (L:=M) ⟨by have:=st1;rw [←hzz]at this;exact this,(hH6.wd.below hb).st,hH6.wd.pv.one⟩ fun _=>⟨by have:=st3;rw [←hzz,List.length_map]at this;omega,(hH6.wd.below hb).pv,fun q hq=>⟨⟨st2 q.x (by rw [←hzz];exact List.mem_map_of_mem hq),((hH6.wd.below hb).each q hq).1,(hH6.wd.each q hq).2.one⟩,((hH6.wd.below hb).each q hq).2⟩⟩
 have ezz:(⟨(⟨qx,wW,qc,qs,wX,wT⟩:Pw).x,M.map Pw.x⟩:kD)=je nd' :=hzz;rw [ezz,hdt]at hT;have HT:=Lib.hid hT;clear hT hdt st1 st2 st3 MF hbad hzz ezz;go_wp2_with fail;go_quiet (fail);have hDx:=hD6.drewN nq;have hbd:=aN.below_drewN (Below.refl w6.heap.size w6) nq;have Oj:=aZ QG hbd (aD QG);have hbx:=aZ hb6 hbd (aD hb6);have hHx:=hH6.below hbd;have hT:=HT.out _ hbd;have e3:(w6.drewN nq).cell? ⟨w3.heap.size,3,none⟩=some (.int .i64 (-1)):=c3;have HBx:=Lib.hid (JC.out.grown hDx.2.1 JC.out.size (fun k hk=>by cases hk;rw [wV.out];exact HB3.out.size));have hone' :=hHx.wd.one;generalize w6.drewN nq=wx at *;obtain ⟨tx,htx⟩:∃r,eO (je nd')=r:=⟨_,rfl⟩;rw [htx]at hT HP;replace hT:Calls prog 16 #[.agg (aG qx wW qc qs wX wT)] wx fun e w' =>e= .returned (.string tx)∧Below wx.heap.size wx w' :=hT
 clear htx HT c0 c1 c2 c3;go_wp2_with (refine aT rfl _ rfl rfl rfl Oj ?_);refine hT.mono ?_;rintro e wB ⟨rfl,Jh⟩;have ajh:=aZ Oj Jh (aD Oj);have agO:=aZ hbx Jh (aD hbx);have hHB:=hHx.below Jh;have Zo:=HBx.out.trans (Jh.mono HBx.out.size);by_cases hbig:1000<tx.size
 · have p9:(1000:Int)<(tx.size:Int):=by omega
   have HQ:Hid (bE s=(kD.zero,0,2)):=by show _=_;rw [HP.out,if_pos hbig]
   clear hbig;go_wp2_with (refine bH rfl _ _ rfl rfl rfl agO rfl rfl rfl ?_;intro wz hwz);refine bodyPost_ret (dV rfl rfl (jO hwz.blk rfl)) rfl ?_;exact kM (p:=pz) HQ.out (hwz.below _ _ Zo (Nat.le_refl _)) (tY _ _)
 · have p9:¬(1000:Int)<(tx.size:Int):=by omega
   have HQ:Hid (bE s=(je nd',0,0)):=by show _=_;rw [HP.out,if_neg hbig]
   clear hbig;go_wp2_with (first|refine aT rfl _ rfl rfl rfl ajh ?_|(refine bH rfl _ _ rfl rfl rfl agO rfl rfl hone' ?_;intro wz hwz));refine bodyPost_ret (dV rfl rfl (jO hwz.blk rfl)) rfl ?_;exact kM (p:=⟨qx,wW,qc,qs,wX,wT⟩) HQ.out (hwz.below _ _ Zo (Nat.le_refl _)) ((hwz.has hHB (Nat.lt_succ_self _)).mono (Nat.le_succ _))
theorem RA {s:ByteArray}{w:World}(hG:Gp w) (hs:s.size≤1000):Calls prog 17 #[.string s] w (pU w s):=by
 by_cases he:(aP s).2.2=0
 · cases hb:(Tx.may ⟨(aP s).1,(pts s).length⟩ (Tx.Eo ⟨(aP s).1,(pts s).length⟩ ⟨0,none⟩).2 (⟨#[59]⟩:ah)).bad with
   |some bd=>exact Mv hG hs he rfl hb
   |none=>
    by_cases hlt:(Tx.may ⟨(aP s).1,(pts s).length⟩ (Tx.Eo ⟨(aP s).1,(pts s).length⟩ ⟨0,none⟩).2 (⟨#[59]⟩:ah)).i<(aP s).1.length
    · exact O8 hG hs he rfl hb hlt
    · exact Pb hG hs he rfl hb hlt
 · exact Rz hs he
end Go.Proofs.YtcgadodckoalnaaGreatDoor
