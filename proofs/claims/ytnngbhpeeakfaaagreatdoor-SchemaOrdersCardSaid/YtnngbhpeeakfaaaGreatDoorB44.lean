/- Parts of a proof. -/
import Derived.Test.YtnngbhpeeakfaaaGreatDoorB20
import Derived.Test.YtnngbhpeeakfaaaGreatDoorB29
import Derived.Test.YtnngbhpeeakfaaaGreatDoorB34
import Derived.Test.YtnngbhpeeakfaaaGreatDoorB37
set_option maxHeartbeats 8000000
set_option maxRecDepth 100000
namespace Go.Proofs.YtnngbhpeeakfaaaGreatDoor
open Go.Proofs.Tryz
open Go.RowKit
open aK
theorem FI {P:Program}{fn:Func}{a u:Tmp}{t:TypeId}(h:fn.results= #[.cell a t, .tmp u]) {tm:Array Value}{ad:Addr}{x:Value}{W:World}(ht:tm.getD a undef= .pointer (some ad)) (hl:(loadVar t ad).run P W= .ok x W):
 (results fn tm).run P W= .ok (.tuple #[x,tm.getD u undef]) W:=by
 unfold results;rw [h];rw [Array.getD_eq_getD_getElem?]at ht;simp [ht,asAddr,hl,Result.andThen_ok]
theorem RE.new2 {K:PK}{w:World}{σ:Ps}(h:RQ K w σ):RE K w ((w.alloc (.cells bC 39)).alloc (.cells bC 39)) σ (w.heap.size+1) w.heap.size Sx.zero au au au au au:=by
 have hz:=aB (w.alloc (.cells bC 39)) (.cells bC 39);rw [av]at hz;exact ⟨((eO.refl h).alloc _).alloc _,hz,ay (aB w _) _,by omega,Nat.le_refl _,by omega⟩
def abQ (K:PK) (w:World) (x:Sx) (b:Bool) (σ:Ps):Ending→World→Prop:=fun e w' =>
 ∃tc c s wv,e= .returned (.tuple #[.agg (aP x tc c s wv au), .bool b])∧eO K w σ w' ∧gB w' w.heap.size x tc c s wv
theorem NY {X:Tx}{σ:Ps}{l:List ByteArray}{most:Nat}(h:(X.j3 σ l most).2.bad=none):σ.i<X.T.length∧σ.i+1≤(X.j3 σ l most).2.i:=by
 unfold Tx.j3 at h⊢
 have e:∀(b:Bool) (τ:Ps) (a:Nat),(if b=true then τ.wrong a else τ).bad=none→τ.bad=none:=by
  intro b τ a hh;cases b
  · exact hh
  · exact D8 hh
 have ei:∀(b:Bool) (τ:Ps) (a:Nat),(if b=true then τ.wrong a else τ).i=τ.i:=by intro b τ a;cases b<;>simp [oq]
 simp only [ei];obtain ⟨_,h3,h4⟩:=O7 (e _ _ _ h);exact ⟨h3,by omega⟩
theorem GL {K:PK}{w:World}{σ:Ps}(h:RQ K w σ) (hb:σ.bad=none):O8 K w=K.X.T.length - σ.i+1:=by
 obtain ⟨_,_,_,_,_,c3,_⟩:=h.cells;have hi:=YO h;unfold O8;rw [c3];have:σ.iB= -1:=by unfold Ps.iB;rw [hb]
 rw [this,hi];rfl
theorem SH {K:PK}{w:World}{σ:Ps}(h:RQ K w σ) (hb:σ.bad≠none):O8 K w=0:=by
 obtain ⟨_,_,_,_,_,c3,_⟩:=h.cells;unfold O8;rw [c3];cases hx:σ.bad with
 |none=>exact absurd hx hb
 |some a=>
  have:σ.iB=(a:Int):=by unfold Ps.iB;rw [hx]
  rw [this];simp
theorem ZK {w:World}{g:Nat}{x0 x1:Value}{T:TypeId}(h:w.heap[g]? =some (.cells #[x0,x1] T (0,0))):w.cell? ⟨g,0,none⟩=some x0∧w.cell? ⟨g,1,none⟩=some x1∧w.frozen? ⟨g,0,none⟩=false∧w.frozen? ⟨g,1,none⟩=false:=
 ⟨by rw [aj h];rfl,by rw [aj h];rfl,ak h 0,ak h 1⟩
theorem Wy {w:World}{base:Nat}{e:TypeId}{size n:Nat}{v:Value}{xs:List Value}(h:w.ownsRow base e size v n xs) {k:Nat}(hv:v.ownBlock≠some k) (o:Nat) (u:Value):(w.setCell ⟨k,o,none⟩ u).ownsRow base e size v n xs:=by
 obtain ⟨h1,h2⟩:=h;refine ⟨h1, ?_⟩;rcases h2 with h2|⟨g,c,cur,e1,e2,e3,e4⟩
 · exact .inl h2
 · subst e1;exact .inr ⟨g,c,cur,rfl,e2,bg e3 _ _ (fun e=>hv (congrArg some (show g=k from e))),e4⟩
theorem RE.agq {K:PK}{w W:World}{σ:Ps}{bx br:Nat}{x:Sx}{tc c s wv pv:Value}(h:RE K w W σ bx br x tc c s wv pv) {k:Nat}(hk:w.heap.size≤k) (h1:bx≠k) (h2:br≠k) (o:Nat) (u:Value):RE K w (W.setCell ⟨k,o,none⟩ u) σ bx br x tc c s wv pv:=
 ⟨h.did.own hk o u,bg h.hx _ _ h1,bg h.hr _ _ h2,h.lx,h.lr,h.ne⟩
theorem RE.bad {K:PK}{w W:World}{σ:Ps}{bx br:Nat}{x:Sx}{tc c s wv pv:Value}(h:RE K w W σ bx br x tc c s wv pv):W.cell? ⟨K.b,3,none⟩=some (.int .i64 σ.iB):=by
 obtain ⟨_,_,_,_,_,c3,_⟩:=h.did.1.cells;exact c3
theorem NZ {K:PK}{w:World}{σ:Ps}(h:RQ K w σ):
 Calls prog 234 #[.pointer (some ⟨K.b,0,none⟩), .agg (aP Sx.zero au au au au au)] w (V4 K w (K.X.AA σ).1 (K.X.AA σ).2):=by
 have hle:=h.le;have HT:=Lib.hid K.hT;obtain ⟨⟨x,σ1⟩,h1⟩:∃r,K.X.name σ=r:=⟨_,rfl⟩;obtain ⟨σ2,h2⟩:∃r,K.X.bS σ1 (⟨#[40]⟩:ah)=r:=⟨_,rfl⟩;obtain ⟨⟨lf,Cf,sP⟩,h3⟩:∃r,K.X.qg (K.X.T.length+1) σ2 [] []=r:=⟨_,rfl⟩;obtain ⟨σa,h4⟩:∃r,K.X.must sP [(⟨#[107,101,121]⟩:ah),(⟨#[40]⟩:ah)]=r:=⟨_,rfl⟩;obtain ⟨⟨pk,σb⟩,h5⟩:∃r,K.X.name σa=r:=⟨_,rfl⟩;obtain ⟨σc,h6⟩:∃r,(if !lu pk lf then σb.wrong (K.X.here σa)else σb)=r:=⟨_,rfl⟩;obtain ⟨σd,h7⟩:∃r,K.X.bS σc (⟨#[44]⟩:ah)=r:=⟨_,rfl⟩;obtain ⟨⟨ck,S9⟩,h8⟩:∃r,K.X.name σd=r:=⟨_,rfl⟩;obtain ⟨σg,h9⟩:∃r,(if !lu ck lf||fB ck pk then S9.wrong (K.X.here σd)else S9)=r:=⟨_,rfl⟩;obtain ⟨σh,h10⟩:∃r,K.X.must σg [(⟨#[41]⟩:ah),(⟨#[41]⟩:ah)]=r:=⟨_,rfl⟩
 have HE:Hid (K.X.AA σ=(Cf.foldl (fun x c=>Tx.place x pk ck c) {Sx.zero with kind:=1,name:=x,bW:=x},σh)):=by
  show _=_;have e2:K.X.must σ1 [(⟨#[40]⟩:ah)]=σ2:=h2;have e7:K.X.must σc [(⟨#[44]⟩:ah)]=σd:=h7;unfold Tx.AA Tx.OC Tx.aai Tx.one;simp only [h1,e2,h3,h4,h5,h6,e7,h8,h9,h10]
 have H1:=Lib.hid h1;have H2:=Lib.hid h2;have H3:=Lib.hid h3;have H4:=Lib.hid h4;have H5:=Lib.hid h5;have H6:=Lib.hid h6;have H7:=Lib.hid h7;have H8:=Lib.hid h8;have H9:=Lib.hid h9;have H10:=Lib.hid h10;clear h1 h2 h3 h4 h5 h6 h7 h8 h9 h10;go_enter func234,ntmps234;go_wp2_with fail;have hE:=RE.new h Sx.zero au au au au au;generalize ((w.alloc (.cells (aP Sx.zero au au au au au) 39)).alloc (.cells bC 39))=w0 at hE⊢;have hm:=tq hE.did.1;rw [H1.out]at hm;go_wp2_with fail;refine hm.mono ?_;rintro e w1 ⟨rfl,hd⟩;replace hE:=hE.call hd;clear hm hd;have fz0:=ak hE.hx 0;have fz1:=ak hE.hx 1;have fz4:=ak hE.hx 4;have k0:=(bn hE.hx).1;have k1:=(bn hE.hx).2.1;have k4:=(bn hE.hx).2.2.2.2.1;have zb:=aG hE.hx;have hE2:=((hE.own 0 (.int .i64 1) (x' :={Sx.zero with kind:=1}) rfl).own 1 (.string x) (x' :={Sx.zero with kind:=1,name:=x}) rfl).own 4 (.string x) (x' :={Sx.zero with kind:=1,name:=x,bW:=x}) rfl;go_upto_region 3 with fail
 clear fz0 fz1 fz4 k0 k1 k4 zb hE;generalize ((w1.setCell ⟨w.heap.size,0,none⟩ (.int .i64 1)).setCell ⟨w.heap.size,1,none⟩ (.string x)).setCell ⟨w.heap.size,4,none⟩ (.string x)=w1s at *;have hE:=hE2;clear hE2;have hm:=pG hE.did.1 (⟨#[40]⟩:ah);rw [H2.out]at hm;go_wp2_with fail;refine hm.mono ?_;rintro e w2 ⟨rfl,hd⟩;replace hE:=hE.call hd;clear hm hd;go_upto_block 0 with fail
 go_cut [5,6]from 22 to 52 (fun names aD wx=>∃(a:Option Addr) (c:Nat) (a3:Option Addr) (c3:Nat),names= .slice a lf.length c∧aD= .slice a3 Cf.length c3∧RE K w wx sP w.heap.size (w.heap.size+1) {Sx.zero with kind:=1,name:=x,bW:=x} au au au au au∧wx.ownsRow w.heap.size 24 2 (.slice a3 Cf.length c3) Cf.length (gH Cf)∧wx.ownsRow w.heap.size 9 1 (.slice a lf.length c) lf.length (lf.map Value.string)∧lf.length≤100001∧Cf.length≤100001)
 case first=>
  go_wp2_with fail
  go_loopw [5,6] (fun names aD wr=>∃(l:List ByteArray) (a:Option Addr) (c:Nat) (C:List Cl) (a3:Option Addr) (c3:Nat) (τ:Ps) (n:Nat),names= .slice a l.length c∧aD= .slice a3 C.length c3∧RE K w wr τ w.heap.size (w.heap.size+1) {Sx.zero with kind:=1,name:=x,bW:=x} au au au au au∧wr.ownsRow w.heap.size 24 2 (.slice a3 C.length c3) C.length (gH C)∧wr.ownsRow w.heap.size 9 1 (.slice a l.length c) l.length (l.map Value.string)∧Hid (K.X.qg n τ l C=(lf,Cf,sP))∧(τ.bad=none→K.X.T.length - τ.i<n)∧l.length+n≤K.X.T.length+1∧Hid (C.length=l.length)) (fun _ _ wr=>O8 K wr)
  case atStart=>exact ⟨[],none,0, [],none,0,σ2,K.X.T.length+1,rfl,rfl,hE,World.ownsRow_nil _ _ _ _,World.ownsRow_nil _ _ _ _,H3.out,fun _=>by omega,by simp,rfl⟩
  case round=>
   clear hE;obtain ⟨l,a,c,C,a3,c3,τ,n,rfl,rfl,hE,hrs,hrn,HR,hn,hln,O6⟩:=hrel;have hT:=HT.out;have hsz:=hE.base;have c3b:=hE.bad;cases hbad:τ.bad with
   |some bd=>
    have HR2:(l,C,τ)=(lf,Cf,sP):=by
     have h:=HR.out;cases n with
     |zero=>exact h
     |succ n=>rw [Tx.qg,hbad]at h;exact h
    have hbi:τ.iB=(bd:Int):=by unfold Ps.iB;rw [hbad]
    rw [hbi]at c3b;have q0:¬(bd:Int)<0:=by omega
    have hcl:C.length≤100001:=by rw [O6.out];omega
    have hll:l.length≤100001:=by omega
    clear hbi hbad hn HR;cases HR2;go_wp2_with fail;go_meet
    case rel=>exact ⟨_,_,_,_,rfl,rfl,hE,hrs,hrn,hll,hcl⟩
   |none=>
    have hnn:=hn hbad;clear hn;have hm0:=GL hE.did.1 hbad;have hbi:τ.iB= -1:=by unfold Ps.iB;rw [hbad]
    rw [hbi]at c3b;clear hbi;obtain ⟨n,rfl⟩:∃m,n=m+1:=⟨n - 1,by omega⟩;have hmay:=lU hE.did.1 (⟨#[112,114,105,109,97,114,121]⟩:ah);unfold Tx.may at hmay;cases hsp:K.X.sees τ (⟨#[112,114,105,109,97,114,121]⟩:ah)with
    |true=>
     have HR2:(l,C,τ.step)=(lf,Cf,sP):=by
      have h:=HR.out;rw [Tx.qg,hbad,hsp]at h;exact h
     have hcl:C.length≤100001:=by rw [O6.out];omega
     have hll:l.length≤100001:=by omega
     rw [hsp,if_pos rfl]at hmay;clear HR hbad hm0 hnn;go_wp2_with fail;refine hmay.mono ?_;rintro e O5 ⟨rfl,hd⟩;replace hE:=hE.call hd;replace hrs:=hd.row hrs hle;replace hrn:=hd.row hrn hle;go_wp2_with fail;cases HR2;go_meet
     case rel=>exact ⟨_,_,_,_,rfl,rfl,hE,hrs,hrn,hll,hcl⟩
    |false=>
     obtain ⟨nm,hnm⟩:=Ja K.X τ l 10;have hon:=fun h=>NY (X:=K.X) (σ:=τ) (l:=l) (most:=10) h
     obtain ⟨⟨l3,Ta⟩,hc3⟩:∃r,K.X.j3 τ l 10=r:=⟨_,rfl⟩;rw [hc3]at hnm hon;replace hnm:l3=l++ [nm]:=hnm;replace hon:Ta.bad=none→τ.i<K.X.T.length∧τ.i+1≤Ta.i:=hon;subst hnm;have hi3:=Vb K.X Ta;have hk3:=fun h=>Gi (X:=K.X) (σ:=Ta) h
     obtain ⟨⟨ty,SI⟩,hv4⟩:∃r,K.X.kind Ta=r:=⟨_,rfl⟩;rw [hv4]at hi3 hk3;replace hi3:Ta.i≤SI.i:=hi3;replace hk3:SI.bad=none→Ta.bad=none:=hk3;have hi4:SI.i≤(K.X.bS SI (⟨#[44]⟩:ah)).i:=Cv K.X SI (⟨#[44]⟩:ah);have hk4:(K.X.bS SI (⟨#[44]⟩:ah)).bad=none→SI.bad=none:=fun h=>xL (X:=K.X) (σ:=SI) (s:=(⟨#[44]⟩:ah)) h
     obtain ⟨τ5,h5⟩:∃r,K.X.bS SI (⟨#[44]⟩:ah)=r:=⟨_,rfl⟩;rw [h5]at hi4 hk4;have HG:Hid (τ5.bad=none→τ.i<K.X.T.length∧τ.i+1≤τ5.i):=fun hb5=>⟨(hon (hk3 (hk4 hb5))).1,Nat.le_trans (hon (hk3 (hk4 hb5))).2 (Nat.le_trans hi3 hi4)⟩
     clear hon hk3 hk4 hi3 hi4
     have HR2:Hid (K.X.qg n τ5 (l++ [nm]) (C++ [⟨nm,ty⟩])=(lf,Cf,sP)):=by
      have h:=HR.out;have h5' :K.X.must SI [(⟨#[44]⟩:ah)]=τ5:=h5;rw [Tx.qg,hbad,hsp]at h;simp only [hc3,hv4,h5',D7]at h;exact Lib.hid h
     have HK4:=Lib.hid hv4;have HQ5:=Lib.hid h5;have HC3:=Lib.hid hc3;clear hv4 h5 hc3 HR hbad;rw [hsp,if_neg (by decide)]at hmay;go_wp2_with fail;refine hmay.mono ?_;rintro e O5 ⟨rfl,hd⟩;replace hE:=hE.call hd;replace hrs:=hd.row hrs hle;replace hrn:=hd.row hrn hle;clear hmay hd c3b;have IB:=Lh hE.did w.heap.size (Nat.le_refl _) hE.base (.slice a l.length c) l 10 hrn (by omega) (by omega);rw [HC3.out]at IB;go_wp2_with fail;refine IB.mono ?_;rintro e Jq ⟨a2,c2,rfl,mM,KU,hel⟩;have ZL:=hel.row (eD hrn hrs (by decide)) hrs hle;replace hE:=hE.col mM hel hrn (by decide);clear hrs hrn IB hel mM;have hrs:=ZL;have hrn:=KU;clear ZL KU;obtain ⟨_,_,hsl,hgn⟩:=aN hrn;cases hsl;obtain ⟨gn,rfl,_,ac1,_⟩:=hgn (by omega);clear hgn;have k21:=aM hrn l.length (.string nm) (by simp);have p0' :IntKind.i64.wrap (((l.length:Int)+1) - 1)=(l.length:Int):=by rw [IntWalk.i64_in _ (by omega)];omega
     have p3:IntKind.i64.wrap (l.length:Int)=(l.length:Int):=IntWalk.i64_in _ (by omega);have p1:(0:Int)≤(l.length:Int):=by omega
     have p2' :(l.length:Int)<(l.length:Int)+1:=by omega
     have hZb:C.length≤100001:=by have:=O6.out;omega
     have hcv:=aB Jq (.cells #[.string nm, .int .i64 2] 24);have hE2:=hE.alloc (.cells #[.string nm, .int .i64 2] 24);have ad1:=hrs.alloc (.cells #[.string nm, .int .i64 2] 24);have ad2:=hrn.alloc (.cells #[.string nm, .int .i64 2] 24);have ZM:w.heap.size≤Jq.heap.size:=hE.base;have ad3:w.heap.size≠Jq.heap.size:=Nat.ne_of_lt (aG hE.hx);have ad4:w.heap.size+1≠Jq.heap.size:=Nat.ne_of_lt (aG hE.hr);have ags:(Value.slice a3 C.length c3).ownBlock≠some Jq.heap.size:=fun e=>Nat.lt_irrefl _ (hrs.lt _ e).2
     go_upto_region 9 with fail
     clear hE hrs hrn k21;generalize Jq.alloc (.cells #[.string nm, .int .i64 2] 24)=Zt at *;have hmy:=lU hE2.did.1 (⟨#[116,101,120,116]⟩:ah);have HKb:Hid ((if K.X.sees Ta (⟨#[116,101,120,116]⟩:ah)=true then ((1:Int),Ta.step)else (2,K.X.must Ta [(⟨#[105,110,116]⟩:ah)]))=(ty,SI)):=HK4.out;clear HK4;unfold Tx.may at hmy;go_upto_if 43 with (go_at_call 88;refine hmy.mono ?_;rintro e Yk ⟨rfl,hd⟩)
     go_cut []from 22 to 52 (fun wx=>RE K w wx SI w.heap.size (w.heap.size+1) {Sx.zero with kind:=1,name:=x,bW:=x} au au au au au∧wx.ownsRow w.heap.size 24 2 (.slice a3 C.length c3) C.length (gH C)∧wx.ownsRow w.heap.size 9 1 (.slice (some ⟨gn,0,none⟩) (l.length+1) c2) (l.length+1) ((l++ [nm]).map Value.string)∧wx.heap[Jq.heap.size]? =some (.cells #[.string nm, .int .i64 ty] 24 (0,0)))
     case first=>
      have hLk:K.L≤Jq.heap.size:=Nat.le_trans hle ZM;have Y7:=hd.blk hcv hLk;have ad5:=hd.row ad1 hle;have ad6:=hd.row ad2 hle;cases hst:K.X.sees Ta (⟨#[116,101,120,116]⟩:ah)with
      |true=>
       have HKc:=HKb.out;rw [hst,if_pos rfl]at HKc;rw [hst,if_pos rfl]at hd;cases HKc;have WO:=hE2.call hd;obtain ⟨_,k23,_,aj8⟩:=ZK Y7;go_wp2_with fail;go_meet
       case rel=>exact ⟨WO.agq ZM ad3 ad4 1 _,Wy ad5 ags 1 _,aZ ad6 Y7 (by decide) 1 _,by rw [bG Y7 1 _];rfl⟩
      |false=>
       have HKc:=HKb.out;rw [hst,if_neg (by decide)]at HKc;rw [hst,if_neg (by decide)]at hd;obtain ⟨rfl,h9⟩:=Prod.mk.inj HKc;have WG:Hid (K.X.bS Ta (⟨#[105,110,116]⟩:ah)=SI):=h9;clear HKc h9;have WO:=hE2.call hd;have hmi:=pG WO.did.1 (⟨#[105,110,116]⟩:ah);rw [WG.out]at hmi;go_wp2_with fail;refine hmi.mono ?_;rintro e w24 ⟨rfl,hd4⟩;go_wp2_with fail;go_meet
       case rel=>exact ⟨WO.call hd4,hd4.row ad5 hle,hd4.row ad6 hle,hd4.blk Y7 hLk⟩
     clear hE2 ad1 ad2 hcv hd HKb hmy;obtain ⟨hE,hrs,hrn,hcv⟩:=hcut
     rename World=>w25
     obtain ⟨k25,k26,_,_⟩:=ZK hcv;have aj9:=hE.base;have akb:=aG hcv;go_wp2_with (at_builtin;refine app1 Tryz.KA rfl _ _ rfl w.heap.size _ _ _ rfl (hrs.alloc _) _ _ [.string nm, .int .i64 ty] rfl rfl (bA _ _ _) (by intro u hu;simp at hu;rcases hu with rfl|rfl<;>rfl) (by omega) (by simp;omega) ?_;intro a5 c5 w26 h26 ad7 akd);have WQ:=(hE.alloc (.cells #[.string nm, .int .i64 ty] 24)).grown (hrs.alloc _) (by decide) ad7;have agv:=(eD (hrs.alloc (.cells #[.string nm, .int .i64 ty] 24)) (hrn.alloc _) (by decide)).keep (hrn.alloc _) ad7;have qm:=pG WQ.did.1 (⟨#[44]⟩:ah);rw [HQ5.out]at qm;go_wp2_with fail;refine qm.mono ?_;rintro e w27 ⟨rfl,hd⟩;have hE7:=WQ.call hd;have agw:=hd.row h26 hle;have agx:=hd.row agv hle
     have hmm:O8 K w27<O8 K wr:=by
      rw [hm0];by_cases hb5:τ5.bad=none
      · rw [GL hE7.did.1 hb5];exact Zw (HG.out hb5).1 (HG.out hb5).2
      · rw [SH hE7.did.1 hb5];exact Nat.succ_pos _
     go_wp2_with fail;go_roundw
     case rel=>
      refine ⟨l++ [nm],some ⟨gn,0,none⟩,c2,C++ [⟨nm,ty⟩],a5,c5,τ5,n,by rw [List.length_append];rfl,by rw [List.length_append];rfl,hE7, ?_, ?_,HR2,(fun hb5=>Zx hnn (HG.out hb5).1 (HG.out hb5).2),by rw [List.length_append];show l.length+1+n≤_;omega,by show _=_;rw [List.length_append,List.length_append,O6.out];rfl⟩
      · rw [List.length_append,oU];exact agw
      · rw [List.length_append];exact agx
     case measure=>exact hmm
 clear hE;obtain ⟨an,cn,a3,c3,rfl,rfl,hE,hrs,hrn,hll,hCl⟩:=hcut
 rename World=>w30
 have hm:=Po hE.did.1 (⟨#[107,101,121]⟩:ah) (⟨#[40]⟩:ah);rw [H4.out]at hm;go_wp2_with fail;refine hm.mono ?_;rintro e w31 ⟨rfl,hd⟩;replace hE:=hE.call hd;replace hrs:=hd.row hrs hle;replace hrn:=hd.row hrn hle;clear hm hd;have hat:=rJ hE.did.1;obtain ⟨at1,AQ⟩:∃x,K.X.here σa=x:=⟨_,rfl⟩;rw [AQ]at hat;have HA1:=Lib.hid AQ;clear AQ;go_wp2_with fail;refine hat.mono ?_;rintro e akf ⟨rfl,m,rfl⟩;replace hE:=hE.drewN m;replace hrs:=wh hrs m;replace hrn:=wh hrn m;clear hat;generalize w31.drewN m=w32 at *;have hm:=tq hE.did.1;rw [H5.out]at hm;go_wp2_with fail;refine hm.mono ?_;rintro e w33 ⟨rfl,hd⟩;replace hE:=hE.call hd;replace hrs:=hd.row hrs hle;replace hrn:=hd.row hrn hle;clear hm hd;have hh:=EH pk (Rd.own hrn) (by omega);obtain ⟨b1,hb1⟩:∃b,lu pk lf=b:=⟨_,rfl⟩;rw [hb1]at hh;have HB1:=Lib.hid hb1;clear hb1;go_upto_if 63 with (go_at_call 296;refine hh.mono ?_;rintro e akg ⟨rfl,rfl⟩)
 go_cut []from 53 to 87 (fun wx=>RE K w wx σc w.heap.size (w.heap.size+1) {Sx.zero with kind:=1,name:=x,bW:=x} au au au au au∧wx.ownsRow w.heap.size 24 2 (.slice a3 Cf.length c3) Cf.length (gH Cf)∧wx.ownsRow w.heap.size 9 1 (.slice an lf.length cn) lf.length (lf.map Value.string))
 case first=>
  have H6b:=H6.out;rw [HB1.out]at H6b;cases b1 with
  |true=>
   have e6:σb=σc:=H6b;subst e6;go_wp2_with fail;go_meet
   case rel=>exact ⟨hE,hrs,hrn⟩
  |false=>
   have H6c:Hid (σb.wrong at1=σc):=by rw [←HA1.out];exact H6b
   have hw:=pF hE.did.1 at1;clear H6b;rw [H6c.out]at hw;go_wp2_with fail;refine hw.mono ?_;rintro e w34 ⟨rfl,hd⟩;go_wp2_with fail;go_meet
   case rel=>exact ⟨hE.call hd,hd.row hrs hle,hd.row hrn hle⟩
 clear hE hrs hrn hh;obtain ⟨hE,hrs,hrn⟩:=hcut
 rename World=>w35
 have hm:=pG hE.did.1 (⟨#[44]⟩:ah);rw [H7.out]at hm;go_wp2_with fail;refine hm.mono ?_;rintro e w36 ⟨rfl,hd⟩;replace hE:=hE.call hd;replace hrs:=hd.row hrs hle;replace hrn:=hd.row hrn hle;clear hm hd;have hat:=rJ hE.did.1;obtain ⟨at2,AQ⟩:∃x,K.X.here σd=x:=⟨_,rfl⟩;rw [AQ]at hat;have HA2:=Lib.hid AQ;clear AQ;go_wp2_with fail;refine hat.mono ?_;rintro e aki ⟨rfl,m,rfl⟩;replace hE:=hE.drewN m;replace hrs:=wh hrs m;replace hrn:=wh hrn m;clear hat;generalize w36.drewN m=w37 at *;have hm:=tq hE.did.1;rw [H8.out]at hm;go_wp2_with fail;refine hm.mono ?_;rintro e w38 ⟨rfl,hd⟩;replace hE:=hE.call hd;replace hrs:=hd.row hrs hle;replace hrn:=hd.row hrn hle;clear hm hd;have hh:=EH ck (Rd.own hrn) (by omega);obtain ⟨b2,hb2⟩:∃b,lu ck lf=b:=⟨_,rfl⟩;rw [hb2]at hh;have HB2:=Lib.hid hb2;clear hb2;have e1:=bU pk ck;obtain ⟨b3,hb3⟩:∃b,fB ck pk=b:=⟨_,rfl⟩;rw [Lg pk ck,hb3]at e1;have HB3:=Lib.hid hb3;clear hb3;go_upto_region 22 with fail
 go_cut [81]from 53 to 87 (fun s81 wx=>s81= .bool (!b2||b3)∧wx=w38)
 case first=>
  cases b2<;>cases b3
  all_goals
   go_wp2_with fail;refine hh.mono ?_;rintro e w39 ⟨rfl,rfl⟩;go_wp2_with fail;go_meet
   case rel=>exact ⟨rfl,rfl⟩
 clear hh e1;obtain ⟨rfl,rfl⟩:=hcut;obtain ⟨b4,hb4⟩:∃b,(!b2||b3)=b:=⟨_,rfl⟩;rw [hb4];have WG:Hid ((if b4=true then S9.wrong at2 else S9)=σg):=by have h:=H9.out;rw [HB2.out,HB3.out,hb4,HA2.out]at h;exact h
 clear hb4;go_upto_if 81 with fail
 go_cut []from 53 to 87 (fun wx=>RE K w wx σg w.heap.size (w.heap.size+1) {Sx.zero with kind:=1,name:=x,bW:=x} au au au au au∧wx.ownsRow w.heap.size 24 2 (.slice a3 Cf.length c3) Cf.length (gH Cf)∧wx.ownsRow w.heap.size 9 1 (.slice an lf.length cn) lf.length (lf.map Value.string))
 case first=>
  cases b4 with
  |false=>
   have e6:S9=σg:=WG.out;subst e6;go_wp2_with fail;go_meet
   case rel=>exact ⟨hE,hrs,hrn⟩
  |true=>
   have H6c:Hid (S9.wrong at2=σg):=WG.out;have hw:=pF hE.did.1 at2;rw [H6c.out]at hw;go_wp2_with fail;refine hw.mono ?_;rintro e AX ⟨rfl,hd⟩;go_wp2_with fail;go_meet
   case rel=>exact ⟨hE.call hd,hd.row hrs hle,hd.row hrn hle⟩
 clear hE hrs hrn;obtain ⟨hE,hrs,hrn⟩:=hcut
 rename World=>w41
 have hm:=Po hE.did.1 (⟨#[41]⟩:ah) (⟨#[41]⟩:ah);rw [H10.out]at hm;go_wp2_with fail;refine hm.mono ?_;rintro e w42 ⟨rfl,hd⟩;replace hE:=hE.call hd;replace hrs:=hd.row hrs hle;replace hrn:=hd.row hrn hle;clear hm hd;go_wp2_with fail
 go_loopw [11] (fun i wr=>∃(j:Nat) (Y:Sx) (a4:Option Addr) (c4:Nat),i= .int .i64 j∧j≤Cf.length∧RE K w wr σh w.heap.size (w.heap.size+1) Y (.slice a4 Y.aF.length c4) au au au au∧wr.ownsRow w.heap.size 24 2 (.slice a4 Y.aF.length c4) Y.aF.length (gH Y.aF)∧wr.ownsRow w.heap.size 24 2 (.slice a3 Cf.length c3) Cf.length (gH Cf)∧Apart (.slice a4 Y.aF.length c4) (.slice a3 Cf.length c3)∧Hid (Y=(Cf.take j).foldl (fun x c=>Tx.place x pk ck c) {Sx.zero with kind:=1,name:=x,bW:=x})∧Y.aD= []∧Y.sets= []∧Y.aO= []∧Y.aF.length≤j) (fun i _=>Cf.length - (intOf i).toNat)
 case atStart=>exact ⟨0,{Sx.zero with kind:=1,name:=x,bW:=x},none,0,rfl,by omega,hE,World.ownsRow_nil _ _ _ _,hrs,AB,rfl,rfl,rfl,rfl,Nat.le_refl _⟩
 case round=>
  clear hE hrs hrn;obtain ⟨j,Y,a4,c4,rfl,hj,hE,hS,hrs,hap,HX,hx1,hx2,hx3,hxl⟩:=hrel;have hsz:=hE.base;by_cases hjl:j<Cf.length
  · have p0:(j:Int)<(Cf.length:Int):=by omega
    have HJ:=Lib.hid (show j+1≤Cf.length from hjl);have p1:(0:Int)≤(j:Int):=by omega
    obtain ⟨_,_,hsl,hgx⟩:=aN hrs;cases hsl;obtain ⟨gc,rfl,_,_,_⟩:=hgx (by omega);clear hgx;have k0:=aM hrs (j*2) (.string Cf[j].name) (by have:=nu Cf j 0 hjl (by omega);rw [Nat.add_zero]at this;rw [this];rfl);have k1:=aM hrs (j*2+1) (.int .i64 Cf[j].ty) (by rw [nu Cf j 1 hjl (by omega)];rfl);obtain ⟨q,hq⟩:∃q,Cf[j]=q:=⟨_,rfl⟩;have O9:=Lib.hid (uY pk ck Cf {Sx.zero with kind:=1,name:=x,bW:=x} j hjl hq);rw [hq]at k0 k1;clear hq;obtain ⟨nm,ty⟩:=q;have e1:=bU nm pk;have e2:=bU nm ck;have z0:=aG hE.hx;have z1:=eH k0;cases q1:fB nm pk with
    |true=>
     rw [q1]at e1;have y6:=(bn hE.hx).2.2.2.2.2.2.1;have y7:=(bn hE.hx).2.2.2.2.2.2.2.1;have fz6:=ak hE.hx 6;have fz7:=ak hE.hx 7;have WQ:=hE.own 6 (.string nm) (x' :={Y with part:=⟨nm,Y.part.ty⟩}) rfl;have hE7:=WQ.own 7 (.int .i64 ty) (x' :={Y with part:=⟨nm,ty⟩}) rfl;go_wp2_with fail;go_roundw
     case rel=>exact ⟨j+1,{Y with part:=⟨nm,ty⟩},a4,c4,by go_num,HJ.out,hE7,aZ (aZ hS hE.hx (by decide) 6 _) WQ.hx (by decide) 7 _,aZ (aZ hrs hE.hx (by decide) 6 _) WQ.hx (by decide) 7 _,hap,(by show _=_;rw [O9.out,←HX.out];unfold Tx.place;rw [if_pos q1]),hx1,hx2,hx3,by show Y.aF.length≤_;omega⟩
     case measure=>have hjj:=HJ.out;simp [intOf];omega
    |false=>
     rw [q1]at e1;cases q2:fB nm ck with
     |true=>
      rw [q2]at e2;have y8:=(bn hE.hx).2.2.2.2.2.2.2.2.1;have y9:=(bn hE.hx).2.2.2.2.2.2.2.2.2.1;have fz8:=ak hE.hx 8;have fz9:=ak hE.hx 9;have WQ:=hE.own 8 (.string nm) (x' :={Y with aY:=⟨nm,Y.aY.ty⟩}) rfl;have hE7:=WQ.own 9 (.int .i64 ty) (x' :={Y with aY:=⟨nm,ty⟩}) rfl;go_wp2_with fail;go_roundw
      case rel=>exact ⟨j+1,{Y with aY:=⟨nm,ty⟩},a4,c4,by go_num,HJ.out,hE7,aZ (aZ hS hE.hx (by decide) 8 _) WQ.hx (by decide) 9 _,aZ (aZ hrs hE.hx (by decide) 8 _) WQ.hx (by decide) 9 _,hap,(by show _=_;rw [O9.out,←HX.out];unfold Tx.place;rw [if_neg (by rw [q1];decide),if_pos q2]),hx1,hx2,hx3,by show Y.aF.length≤_;omega⟩
      case measure=>have hjj:=HJ.out;simp [intOf];omega
     |false=>
      rw [q2]at e2;have y10:=(bn hE.hx).2.2.2.2.2.2.2.2.2.2.1;have akl:=ak hE.hx 10;go_wp2_with fail
      go_region_law (refine jT Tryz.KA rfl _ _ rfl w.heap.size _ _ _ rfl (hS.alloc _) _ _ [.string nm, .int .i64 ty] rfl rfl (fun j u hj=>by rw [jO,Nat.zero_add];exact bA _ _ _ j u hj) (by intro u hu;simp at hu;rcases hu with rfl|rfl<;>rfl) (by have:=HJ.out;omega) (by simp;omega) ?_;intro g3 iR w3 h3 hg3 OI hl3;have hg4:(wr.alloc (.cells #[.string nm, .int .i64 ty] 24)).grownBy w3 (Value.slice a4 Y.aF.length c4).ownBlock:=⟨hg3.os,hg3.tape,hg3.output,hg3.size,hg3.block⟩;have WO:=(hE.alloc (.cells #[.string nm, .int .i64 ty] 24)).grown (hS.alloc _) (by decide) hg4;have y3:=(bn WO.hx).2.2.2.2.2.2.2.2.2.2.1;have fz3:=ak WO.hx 10)
      all_goals
       have Vq:Apart (.slice (some ⟨g3,0,none⟩) (Y.aF.length+1) iR) (.slice (some ⟨gc,0,none⟩) Cf.length c3):=by
        intro g h1 h2;cases h1;have hlt:g3<wr.heap.size:=(hrs.lt _ h2).2;rcases OI with h|h
        · exact hap _ h h2
        · change g3=(wr.alloc _).heap.size at h;rw [av]at h;exact absurd hlt (by omega)
       have hC6:=hap.keep (hrs.alloc (.cells #[.string nm, .int .i64 ty] 24)) hg4;go_wp2_with fail;go_roundw
       case rel=>
        refine ⟨j+1,{Y with aF:=Y.aF++ [⟨nm,ty⟩]},some ⟨g3,0,none⟩,iR,by go_num,HJ.out,by rw [List.length_append];exact WO.own 10 _ rfl, ?_,aZ hC6 WO.hx (by decide) 10 _,by rw [List.length_append];exact Vq,(by show _=_;rw [O9.out,←HX.out];unfold Tx.place;rw [if_neg (by rw [q1];decide),if_neg (by rw [q2];decide)]),hx1,hx2,hx3,by rw [List.length_append];show Y.aF.length+1≤_;omega⟩;rw [List.length_append,oU];exact aZ h3 WO.hx (by decide) 10 _
       case measure=>have hjj:=HJ.out;simp [intOf];omega
  · have jV:j=Cf.length:=by omega
    subst jV;rw [List.take_length]at HX;have hx9:=hE.hx;have KP:=hE.hr;go_wp2_with (first|refine bK rfl _ rfl rfl rfl hx9 ?_|(refine iC rfl _ _ rfl rfl rfl KP rfl rfl rfl ?_;intro W6 LM));refine bodyPost_ret (kg rfl rfl (vC LM.blk rfl)) rfl ?_;rw [HE.out,←HX.out];refine ⟨_,au,au,au,rfl,hE.fin LM,oG hS hE.hr LM (by decide), ?_, ?_, ?_⟩
    · rw [hx1];exact World.ownsRow_nil _ _ _ _
    · rw [hx2];exact World.ownsRow_nil _ _ _ _
    · rw [hx3];exact World.ownsRow_nil _ _ _ _
def abT (K:PK) (w:World) (z:ni) (σ:Ps):Ending→World→Prop:=fun e w' =>
 ∃(p:Pw) (L:List Pw),e= .returned (.agg p.arr)∧eO K w σ w' ∧nJ w' w.heap.size p L z
def Wz (b:Nat) (w:World):Nat:=match w.cell? ⟨b,17,none⟩with|some (.slice _ n _)=>n|_=>0
theorem RE.parts {K:PK}{w W:World}{σ:Ps}{bx br:Nat}{x:Sx}{tc c s wv:Value}{a:Option Addr}{n k:Nat}(h:RE K w W σ bx br x tc c s wv (.slice a n k)):Wz bx W=n:=by
 have:=(bn h.hx).2.2.2.2.2.2.2.2.2.2.2.2.2.2.2.2.2;unfold Wz;rw [this]
theorem gI.ad8 {K:PK}{σ:Ps}{w w' :World}{base:Nat}{L:List Pv}(h:gI w base L) (hd:eO K w σ w') (hb:K.L≤base):gI w' base L:=h.map fun _ _ _ _ _ _ hr=>hd.row hr hb
def Pv.w (p:Pv):Pw:=⟨p.x,p.tc,p.c,p.s,p.wv,au⟩
theorem N7 {X:Tx}{σ:Ps}(h:(X.kP σ).2.1=false):(X.kP σ).2.2=σ:=by
 unfold Tx.kP at h⊢;split
 · rename_i h1;rw [if_pos h1]at h;cases h
 · rename_i h1;rw [if_neg h1]at h;split
   · rename_i h2;rw [if_pos h2]at h;cases h
   · rename_i h2;rw [if_neg h2]at h;split
     · rename_i h3;rw [if_pos h3]at h;cases h
     · rfl
theorem RE.agz {K:PK}{w w1:World}{σ:Ps}(hd:eO K w σ w1) {br:Nat}(hr:w1.heap[br]? =some (.cells bC 39 (0,0))) (hb:w.heap.size≤br):RE K w (w1.alloc (.cells bC 39)) σ w1.heap.size br Sx.zero au au au au au:=
 ⟨hd.alloc _,aB w1 _,ay hr _,hd.size,hb,Nat.ne_of_lt (aG hr)⟩
theorem SK {w:World}{base:Nat}{x:Sx}{tc c s wv:Value}(h:gB w base x tc c s wv):nJ w base ⟨x,tc,c,s,wv,au⟩ [] ⟨x, []⟩:=
 ⟨rfl,rfl,h,World.ownsRow_nil _ _ _ _,fun _ h=>nomatch h⟩
theorem nJ.one {w:World}{base:Nat}{p:Pw}{L:List Pw}{z:ni}(h:nJ w base p L z):p.arr.toList.all (·.oneCell')=true:=by
 obtain ⟨x,tc,c,s,wv,pv⟩:=p;obtain ⟨_,_,h1,_⟩:=aN h.rows.1;obtain ⟨_,_,h2,_⟩:=aN h.rows.2.1;obtain ⟨_,_,h3,_⟩:=aN h.rows.2.2.1;obtain ⟨_,_,h4,_⟩:=aN h.rows.2.2.2;obtain ⟨_,_,h5,_⟩:=aN h.row;simp only at h1 h2 h3 h4 h5;show (aP x tc c s wv pv).toList.all (·.oneCell')=true;rw [h1,h2,h3,h4,h5];rfl
theorem gB.wrote {W W' :World}{r base:Nat}{C V:Array Value}{x:Sx}{tc c s wv:Value}(h:gB W base x tc c s wv) (hr:W.heap[r]? =some (.cells C 39 (0,0))) (hw:Wrote W r V 39 W'):gB W' base x tc c s wv:=
 h.map fun _ _ _ _ _ he hq=>oG hq hr hw (fun e2=>uZ (T:=39) (by decide) he e2.symm)
end Go.Proofs.YtnngbhpeeakfaaaGreatDoor
