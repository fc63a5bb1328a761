/- Parts of a proof. -/
import Derived.Deep.AppendLies
import Derived.Deep.RegionLaw
import Derived.Test.YtcgadodckoalnaaGreatDoorB13
set_option maxHeartbeats 4000000
set_option maxRecDepth 100000
namespace Go.Proofs.YtcgadodckoalnaaGreatDoor
open Go.Proofs.Tryz
open Go.RowKit
open aN
theorem Tryz.afB:X0 prog 130 60 (.agg #[.int .i64 0, .string ⟨#[]⟩, .int .i64 0]) 3 32:=DC underlying130 (by kernel_rfl) rfl (by decide)
def sP (t:Tm):List Value:= [.int .i64 t.ty, .string t.s, .int .i64 t.n]
def mU (l:List Tm):List Value:=l.flatMap sP
theorem Fz (X:Tx) (σ:Ps):σ.i≤(X.value σ).2.i:=by
 unfold Tx.value;split
 · show σ.i≤σ.i+1;omega
 · split
   · show σ.i≤σ.i+1;omega
   · show σ.i≤(σ.wrong _).i;rw [oK];exact Nat.le_refl _
theorem dH {w:World}{b1 b2:Nat}{e1 e2:TypeId}{s1 s2 n1 n2:Nat}{v u:Value}{xs ys:List Value}(hv:w.ownsRow b1 e1 s1 v n1 xs) (hu:w.ownsRow b2 e2 s2 u n2 ys) (hne:e1≠e2):Apart v u:=by
 intro g h1 h2;rcases hv.2 with ⟨rfl,_⟩|⟨g1,c1,afC,rfl,_,k1,_⟩
 · cases h1
 · rcases hu.2 with ⟨rfl,_⟩|⟨g2,c2,akR,rfl,_,k2,_⟩
   · cases h2
   · cases h1;cases h2;rw [k1]at k2;injection k2 with k2
     injection k2 with _ k2 _
     exact hne k2
theorem gy {w:World}{b1 bx:Nat}{e1 T:TypeId}{s1 n1:Nat}{v:Value}{xs:List Value}{C:Array Value}{fr:Nat×Nat}(hv:w.ownsRow b1 e1 s1 v n1 xs) (hx:w.heap[bx]? =some (.cells C T fr)) (hne:e1≠T):v.ownBlock≠some bx:=by
 intro h1;rcases hv.2 with ⟨rfl,_⟩|⟨g1,c1,afC,rfl,_,k1,_⟩
 · cases h1
 · cases h1;rw [hx]at k1;injection k1 with k1
   injection k1 with _ k1 _
   exact hne k1.symm
theorem FB {w:World}{b1:Nat}{e1:TypeId}{s1 n:Nat}{a:Option Addr}{c:Nat}{xs:List Value}(hv:w.ownsRow b1 e1 s1 (.slice a n c) n xs):n≤c:=by
 rcases hv.2 with ⟨h,h0⟩|⟨g1,c1,afC,h,_,k1,h2,_⟩
 · omega
 · cases h;exact h2
theorem gK:∀(l:List Tm) (k j:Nat) (h:k<l.length) (_:j<3),(mU l)[k*3+j]? =(sP l[k])[j]?
 |p::l,0,j,_,hj=>by
  simp only [mU,List.flatMap_cons,Nat.zero_mul,Nat.zero_add,List.getElem_cons_zero];rw [List.getElem?_append_left (by simp [sP];omega)]
 |p::l,k+1,j,h,hj=>by
  have:=gK l k j (by simp at h;omega) hj;simp only [mU,List.flatMap_cons,List.getElem_cons_succ]at this⊢;rw [List.getElem?_append_right (by simp [sP];omega)];have e:(k+1)*3+j - (sP p).length=k*3+j:=by simp [sP];omega
  rw [e];exact this
theorem uO (c:List ByteArray) (l:List Tm) (j:Nat) (h1:j<c.length) (h2:j<l.length):
 dI (List.zipWith Pr.mk (c.take (j+1)) (l.take (j+1)))=dI (List.zipWith Pr.mk (c.take j) (l.take j))++ [.string c[j], .int .i64 l[j].ty, .string l[j].s, .int .i64 l[j].n]:=by
 rw [List.take_succ_eq_append_getElem h1,List.take_succ_eq_append_getElem h2,List.zipWith_append (by rw [List.length_take,List.length_take];omega)];simp [dI,kI]
theorem za (c:List ByteArray) (l:List Tm) (m:Nat) (h:min c.length l.length=m):List.zipWith Pr.mk (c.take m) (l.take m)=List.zipWith Pr.mk c l:=by
 rw [←List.take_zipWith];exact List.take_of_length_le (by rw [List.length_zipWith];omega)
theorem ze (c:List ByteArray) (l:List Tm):(List.zipWith Pr.mk c l).length=min c.length l.length:=by rw [List.length_zipWith]
theorem Cg (X:Tx) (most:Nat):∀n σ l,l.length≤(X.dD most n σ l).1.length∧(X.dD most n σ l).1.length≤l.length+n
 |0,σ,l=>⟨Nat.le_refl _,Nat.le_refl _⟩
 |n+1,σ,l=>by
  rw [Tx.dD];split
  · have h:=Cg X most n (X.column σ.step l most).2 (X.column σ.step l most).1;have:=vU X σ.step l most;simp only;omega
  · simp only;omega
theorem N7 (X:Tx) (σ:Ps) (most:Nat):1≤(X.columns σ most).1.length∧(X.columns σ most).1.length≤X.T.length+1:=by
 have h:=Cg X most X.T.length (X.column σ [] most).2 (X.column σ [] most).1;have:=vU X σ [] most;unfold Tx.columns;simp only [List.length_nil]at *;omega
theorem yu (X:Tx):∀n σ l,l.length≤(X.dY n σ l).1.length
 |0,σ,l=>Nat.le_refl _
 |n+1,σ,l=>by
  rw [Tx.dY];split
  · have h:=yu X n (X.value σ.step).2 (l++ [(X.value σ.step).1]);rw [List.length_append]at h;simp only;have:([(X.value σ.step).1]:List Tm).length=1:=rfl;omega
  · simp only;omega
theorem fM {P:Program}{t e:TypeId}{z:Value}{size bytes:Nat}(E:X0 P t e z size bytes) {w:World}{ops:Array Oper}{o:Oper}{a:Act}{K:Act→World→Prop}{Q:Exit→Act→World→Prop}{G:Prop}(hgd:o.guard=none) (s x:Operand)
 (ho:o.op= .call {callee:= .builtin .append,args:= #[s,x],argTypes:= #[t,t]})
 (base:Nat) (v:Value) (n:Nat) (xs:List Value) (hs:a.eval s=v) (hown:w.ownsRow base e size v n xs)
 (ad:Addr) (c:Nat) (news:List Value) (hx:a.eval x= .slice (some ad) 1 c) (hl:news.length=size) (hnews:∀j u,news[j]? =some u→w.cell? (ad.add j)=some u) (h1:∀u∈news,u.oneCell' =true)
 (hn:(n+1)*bytes≤140737488355328∧n<140737488355328) (hbase:base≤w.heap.size)
 (h:∀g cap w',w'.ownsRow base e size (.slice (some ⟨g,0,none⟩) (n+1) cap) (n+1) (xs++news)→w.grownBy w' v.ownBlock→(v.ownBlock=some g∨g=w.heap.size)→g<w'.heap.size→K (a.put o.dst (.slice (some ⟨g,0,none⟩) (n+1) cap)) w'):
 if Region.wanted o (yielded ops a.tmps)=true then Oper.wp P o a w K Q else G:=by
 obtain ⟨i,hi,hz,hsize,hby⟩:=E.info;exact step_append_lies w hgd s x t ho base e i z size bytes E.und hi hz hsize hby E.zs E.pos v n xs hs hown ad 1 c news hx (by rw [Nat.one_mul];exact hl) hnews h1 (by omega) (by have:=hn.2;unfold maxLen;omega) hn.1 hbase _ rfl h
theorem Qx {K:PK}{w:World}{σ:Ps}(h:PQ K w σ):
 Calls prog 62 #[.pointer (some ⟨K.b,0,none⟩)] w (iH K w 133 (K.X.insert σ).1 (K.X.insert σ).2):=by
 have hle:=h.le;have hD0:=Did.refl h;obtain ⟨σ1,hq1⟩:∃r,K.X.must σ [(⟨#[105,110,116,111]⟩:ah)]=r:=⟨_,rfl⟩;obtain ⟨⟨o,σ2⟩,hq2⟩:∃r,K.X.name σ1=r:=⟨_,rfl⟩;obtain ⟨σ3,hq3⟩:∃r,K.X.must σ2 [(⟨#[40]⟩:ah)]=r:=⟨_,rfl⟩;obtain ⟨⟨c,jS⟩,hq4⟩:∃r,K.X.columns σ3 10=r:=⟨_,rfl⟩;obtain ⟨lX,MC⟩:∃r,K.X.must jS [(⟨#[41]⟩:ah),(⟨#[118,97,108,117,101,115]⟩:ah),(⟨#[40]⟩:ah)]=r:=⟨_,rfl⟩;obtain ⟨⟨v0,yT⟩,UC⟩:∃r,K.X.value lX=r:=⟨_,rfl⟩;obtain ⟨⟨vs,σv⟩,hR⟩:∃r,K.X.dY K.X.T.length yT [v0]=r:=⟨_,rfl⟩;have hcl:0<c.length∧c.length≤K.X.T.length+1:=by have h:=N7 K.X σ3 10;rw [hq4]at h;exact h
 have HT:=Lib.hid K.hT;go_enter func62,ntmps62;have hm1:=bC hD0.1 (⟨#[105,110,116,111]⟩:ah);rw [hq1]at hm1;try simp only [av,bO]at hm1
 go_wp2_with fail;refine hm1.mono ?_;rintro e w1 ⟨rfl,hd1⟩;have hD1:=hD0.trans hd1;have hm2:=gu hD1.1;rw [hq2]at hm2;try simp only at hm2
 go_wp2_with fail;refine hm2.mono ?_;rintro e w2 ⟨rfl,hd2⟩;have hD2:=hD1.trans hd2;have hB3:=NS 5 o;have dW:K.L≤w2.heap.size:=Nat.le_trans hle hD2.size;have hbx:w.heap.size≤w2.heap.size:=hD2.size;have hblk3:(w2.alloc (.cells (aG {Sx.zero with kind:=5,bT:=o} ak ak ak ak ak) 31)).heap[w2.heap.size]? =some (.cells (aG {Sx.zero with kind:=5,bT:=o} ak ak ak ak ak) 31 (0,0)):=aA w2 _;have hD3:=hD2.alloc (.cells (aG {Sx.zero with kind:=5,bT:=o} ak ak ak ak ak) 31);have om:=bC hD3.1 (⟨#[40]⟩:ah);rw [hq3]at om;try simp only [av]at om
 go_wp2_with (refine lT rfl _ _ rfl rfl rfl rfl rfl ?_);refine om.mono ?_;rintro e w4 ⟨rfl,hd4⟩;have hD4:=hD3.trans hd4;have fK:=hd4.blk hblk3 dW;have rF:=yh hD4.1 10 (by omega);rw [hq4]at rF;try simp only at rF
 go_wp2_with fail;refine rF.mono ?_;rintro e w5 ⟨ac,cc,rfl,hd5,hr5⟩;have hD5:=hD4.trans hd5;have hblk5:=hd5.blk fK dW;have hz5:=hD4.size;try simp only [av,bO]at hz5 hr5
 replace hr5:=aR hr5 hz5;have sO:=afs hD5.1 (⟨#[41]⟩:ah) (⟨#[118,97,108,117,101,115]⟩:ah) (⟨#[40]⟩:ah);rw [MC]at sO;try simp only [av,bO]at sO
 go_wp2_with fail;refine sO.mono ?_;rintro e w6 ⟨rfl,hd6⟩;have hD6:=hD5.trans hd6;have hblk6:=hd6.blk hblk5 dW;have Cc:=hd6.row hr5 hle;have AZ:=BX hD6.1 UC;try simp only [av,bO]at AZ
 go_wp2_with fail;refine AZ.mono ?_;rintro e w7 ⟨rfl,hd7⟩;have hD7:=hD6.trans hd7;have hblk7:=hd7.blk hblk6 dW;have Ce:=hd7.row Cc hle;have hv:=sN w7 [.int .i64 v0.ty, .string v0.s, .int .i64 v0.n] 60 1 3 w.heap.size rfl (by decide) hD7.size;have hDv:=hD7.alloc (.cells #[.int .i64 v0.ty, .string v0.s, .int .i64 v0.n] 60);have ab4:=aC hblk7 (.cells #[.int .i64 v0.ty, .string v0.s, .int .i64 v0.n] 60);have hcv:=Ce.alloc (.cells #[.int .i64 v0.ty, .string v0.s, .int .i64 v0.n] 60);go_wp2_with fail
 go_loopw [5] (fun v wr=>∃(l:List Tm) (a:Option Addr) (c2:Nat) (σ2:Ps) (n:Nat),v= .slice a l.length c2∧Did K w σ2 wr∧wr.ownsRow w.heap.size 60 3 (.slice a l.length c2) l.length (mU l)∧wr.heap[w2.heap.size]? =some (.cells (aG {Sx.zero with kind:=5,bT:=o} ak ak ak ak ak) 31 (0,0))∧wr.ownsRow w.heap.size 9 1 (.slice ac c.length cc) c.length (c.map Value.string)∧Hid (K.X.dY n σ2 l=(vs,σv))∧K.X.T.length - σ2.i≤n∧l.length+n≤K.X.T.length+1) (fun _ wr=>K.X.T.length - UG K wr)
 case atStart=>exact ⟨[v0],_,_,yT,K.X.T.length,rfl,hDv,hv,ab4,hcv,hR,by omega,by show 1+_≤_;omega⟩
 case round=>
  clear hv hDv ab4 hcv;obtain ⟨l,a,c2,σ2,n,rfl,hD,hown,hblk,hcr,HR,hn,hln⟩:=hrel;have hmay:=aV hD.1 (⟨#[44]⟩:ah);have Wp:=Aq hD.1;have hsz:=hD.size;unfold Tx.may at hmay;cases hs:K.X.sees σ2 (⟨#[44]⟩:ah)with
  |true=>
   obtain ⟨hlt,_⟩:=oJ hs;rw [hs,if_pos rfl]at hmay;obtain ⟨n,rfl⟩:∃m,n=m+1:=⟨n - 1,by omega⟩;have hst:σ2.step.i=σ2.i+1:=rfl;have hi:=Fz K.X σ2.step;obtain ⟨⟨t,σ3⟩,hx⟩:∃r,K.X.value σ2.step=r:=⟨_,rfl⟩
   have HR2:Hid (K.X.dY n σ3 (l++ [t])=(vs,σv)):=by
    have h:=HR.out;rw [Tx.dY,hs,if_pos rfl]at h;simp only [hx]at h;exact Lib.hid h
   rw [hx]at hi;replace hi:σ2.step.i≤σ3.i:=hi;have hT:=HT.out;go_wp2_with fail;refine hmay.mono ?_;rintro e I6 ⟨rfl,eH⟩;have iA:=hD.trans eH;have hval:=BX iA.1 hx;go_wp2_with fail;refine hval.mono ?_;rintro e DL ⟨rfl,lU⟩;have mX:=iA.trans lU;have LB:=lU.row (eH.row hown hle) hle;have Yh:=lU.blk (eH.blk hblk dW) dW;have ab5:=lU.row (eH.row hcr hle) hle;have Yi:=mX.size;go_wp2_with (at_builtin;refine app1 Tryz.afB rfl _ _ rfl w.heap.size _ _ _ rfl (LB.alloc _) _ _ [.int .i64 t.ty, .string t.s, .int .i64 t.n] rfl rfl (bg _ _ _) (by intro u hu;simp at hu;rcases hu with rfl|rfl|rfl<;>rfl) (by omega) (by simp;omega) ?_;intro a' c' UN h22 hg Qy);have lG:=(mX.alloc (.cells #[.int .i64 t.ty, .string t.s, .int .i64 t.n] 60)).grown hg (fun g hg2=>(LB.lt g hg2).1);have Yj:=Aq lG.1;go_roundw
   case rel=>
    refine ⟨l++ [t],a',c',σ3,n,by rw [List.length_append];rfl,lG, ?_, ?_, ?_,HR2.out,by omega,by rw [List.length_append];show l.length+1+n≤_;omega⟩
    · rw [List.length_append];show UN.ownsRow _ _ _ (.slice a' (l.length+1) c') (l.length+1) (mU (l++ [t]));rw [show mU (l++ [t])=mU l++sP t by simp [mU]];exact h22
    · have hb:=aC Yh (.cells #[.int .i64 t.ty, .string t.s, .int .i64 t.n] 60);rw [hg.block _ (aD hb) (fun e=>gy LB Yh (by decide) e.symm)];exact hb
    · exact (dH (LB.alloc (.cells #[.int .i64 t.ty, .string t.s, .int .i64 t.n] 60)) (ab5.alloc _) (by decide)).keep (ab5.alloc _) hg
   case measure=>rw [Wp,Yj];omega
  |false=>
   rw [hs,if_neg (by decide)]at hmay
   have HR2:l=vs∧σ2=σv:=by
    have h:=HR.out;cases n with
    |zero=>cases h;exact ⟨rfl,rfl⟩
    |succ n=>rw [Tx.dY,hs,if_neg (by decide)]at h;cases h;exact ⟨rfl,rfl⟩
   obtain ⟨rfl,rfl⟩:=HR2;have hlv:0<l.length:=by have h:=yu K.X K.X.T.length yT [v0];rw [hR]at h;exact h
   have hlc:0<c.length:=hcl.1;have akS:=hcl.2;have hT:=HT.out;go_wp2_with fail;refine hmay.mono ?_;rintro e I6 ⟨rfl,eH⟩;have iA:=hD.trans eH;have qK:=eH.row hown hle;have kN:=eH.blk hblk dW;have adi:=eH.row hcr hle;have hse:=BS iA.1 (⟨#[41]⟩:ah);cases hs2:K.X.sees σ2 (⟨#[41]⟩:ah)with
   |false=>
    have HIF:Hid ((if (K.X.sees σ2 (⟨#[41]⟩:ah)&&l.length !=c.length)=true then K.X.fail σ2 else σ2)=σ2):=by show _=_;rw [hs2];rfl
    rw [hs2]at hse;go_wp2_with fail;refine hse.mono ?_;rintro e DL ⟨rfl,wS⟩;have lU:=(Did.refl iA.1).below wS;have mX:=iA.trans lU;have G5:=lU.row qK hle;have N8:=lU.blk kN dW;have hc21:=lU.row adi hle;have Yk:=bC mX.1 (⟨#[41]⟩:ah);go_wp2_with fail;refine Yk.mono ?_;rintro e UN ⟨rfl,nG⟩;have lG:=mX.trans nG;have rZ:=nG.row G5 hle;have G6:=nG.blk N8 dW;have hc22:=nG.row hc21 hle;have hcap:=FB hc22;obtain ⟨_,_,hsl,hgc⟩:=aY hc22;cases hsl;obtain ⟨gc,rfl,_,afE,hcc⟩:=hgc hlc;obtain ⟨_,_,hsl,hgv⟩:=aY rZ;cases hsl;obtain ⟨gv,rfl,_,afF,hvv⟩:=hgv hlv;clear hcc hgc hvv hgv;have q0:(0:Int)≤(c.length:Int):=by omega
    have q1:(0:Int)≤(l.length:Int):=by omega
    by_cases hcv:c.length≤l.length
    · have q2:¬(l.length:Int)<(c.length:Int):=by omega
      have q3:(c.length:Int)≤(l.length:Int):=by omega
      have q4:(c.length:Int)≤(cc:Int):=by omega
      go_wp2_with fail
      go_loopw [6,7,56] (fun _ _ i wr=>∃(j:Nat) (a3:Option Addr) (c3:Nat),i= .int .i64 j∧j≤c.length∧Did K w (K.X.must σ2 [(⟨#[41]⟩:ah)]) wr∧wr.heap[w2.heap.size]? =some (.cells (aG {Sx.zero with kind:=5,bT:=o} ak ak (.slice a3 j c3) ak ak) 31 (0,0))∧wr.ownsRow w.heap.size 62 4 (.slice a3 j c3) j (dI (List.zipWith Pr.mk (c.take j) (l.take j)))∧wr.ownsRow w.heap.size 9 1 (.slice (some ⟨gc,0,none⟩) c.length cc) c.length (c.map Value.string)∧wr.ownsRow w.heap.size 60 3 (.slice (some ⟨gv,0,none⟩) l.length c2) l.length (mU l)) (fun _ _ i _=>c.length - (intOf i).toNat)
      case atStart=>exact ⟨0,none,0,rfl,by omega,lG,G6,World.ownsRow_nil _ _ _ _,hc22,rZ⟩
      case round=>
       obtain ⟨j,a3,c3,rfl,hj,Au,hbr,hsr,hnr,Ch⟩:=hrel;by_cases aa9:j<c.length
       · have p0:(j:Int)<(c.length:Int):=by omega
         have hjl:j<c.length:=by omega
         have p1:(0:Int)≤(j:Int):=by omega
         have p2:(j:Int)<(l.length:Int):=by omega
         have p3:(j:Int)<(c.length:Int):=by omega
         have k0:wr.cell? ⟨gc,j,none⟩=some (.string c[j]):=aS hnr j _ (by rw [List.getElem?_map,List.getElem?_eq_getElem hjl];rfl);have Ci:j<l.length:=by omega
         have k1:wr.cell? ⟨gv,j*3,none⟩=some (.int .i64 l[j].ty):=aS Ch (j*3) _ (by have:=gK l j 0 Ci (by omega);rw [Nat.add_zero]at this;rw [this];rfl);have k2:wr.cell? ⟨gv,j*3+1,none⟩=some (.string l[j].s):=aS Ch (j*3+1) _ (by rw [gK l j 1 Ci (by omega)];rfl);have k3:wr.cell? ⟨gv,j*3+2,none⟩=some (.int .i64 l[j].n):=aS Ch (j*3+2) _ (by rw [gK l j 2 Ci (by omega)];rfl);have Yl:=(aK hbr).2.2.2.2.2.2.2.2.2.2.2.2.1;have ZW:=aj hbr 12;have Ym:=Au.size;have z0:=aD hbr;have z1:gc<wr.heap.size:=dZ k0;have z2:gv<wr.heap.size:=dZ k1;have HX:=Lib.hid (uO c l j hjl Ci);generalize c[j]=nm at *;generalize l[j]=tm at *;clear Ci;go_wp2_with fail
         go_region_law (refine fM Tryz.vV rfl _ _ rfl w.heap.size _ _ _ rfl (hsr.alloc _) _ _ [.string nm, .int .i64 tm.ty, .string tm.s, .int .i64 tm.n] rfl rfl (fun j u hj=>by rw [iG,Nat.zero_add];exact bg _ _ _ j u hj) (by intro u hu;simp at hu;rcases hu with rfl|rfl|rfl|rfl<;>rfl) (by omega) (by simp;omega) ?_;intro g3 jm w3 h3 hg3 wU hl3;have hb3:w3.heap[w2.heap.size]? =some (.cells (aG {Sx.zero with kind:=5,bT:=o} ak ak (.slice a3 j c3) ak ak) 31 (0,0)):=(hg3.block _ (aD (aC hbr _)) (fun e=>gy hsr hbr (by decide) e.symm)).trans (aC hbr _);have y3:=(aK hb3).2.2.2.2.2.2.2.2.2.2.2.2.1;have u3:=aj hb3 12)
         all_goals
          have hg4:(wr.alloc (.cells #[.string nm, .int .i64 tm.ty, .string tm.s, .int .i64 tm.n] 62)).grownBy w3 (Value.slice a3 j c3).ownBlock:=⟨hg3.os,hg3.tape,hg3.output,hg3.size,hg3.block⟩;have hap:∀{e:TypeId} {sz nn:Nat} {u:Value} {ys:List Value},wr.ownsRow w.heap.size e sz u nn ys→62≠e→w3.ownsRow w.heap.size e sz u nn ys:=fun hu hne=>(dH hsr hu hne).keep (hu.alloc _) hg4
          have hD3:=(Au.alloc _).grown hg4 (fun g hg2=>(hsr.lt g hg2).1);rw [←HX.out]at h3;go_wp2_with fail;go_roundw
          case rel=>exact ⟨j+1,some ⟨g3,0,none⟩,jm,by go_num,by omega,hD3.own hbx 12 _,uM hb3 _,aL h3 hb3 (by decide) 12 _,aL (hap hnr (by decide)) hb3 (by decide) 12 _,aL (hap Ch (by decide)) hb3 (by decide) 12 _⟩
          case measure=>simp [intOf];omega
       · have mF:j=c.length:=by omega
         subst mF;have HZ:=za c l (c.length) (by omega);have UO:=ze c l;rw [HZ]at hsr;clear HZ;obtain ⟨Z,hZ⟩:∃Z,List.zipWith Pr.mk c l=Z:=⟨_,rfl⟩;rw [hZ]at hsr UO;obtain ⟨⟨xu,Yn⟩,hu⟩:∃r,K.X.using_ (K.X.must σ2 [(⟨#[41]⟩:ah)]) true {Sx.zero with kind:=5,bT:=o,sets:=Z}=r:=⟨_,rfl⟩;have HU:=Lib.hid (lD K.X _ _ _ _ _ hu);have sI:=mQ Au hbx (x:={Sx.zero with kind:=5,bT:=o,sets:=Z}) hbr true;rw [hu]at sI;go_wp2_with fail;refine sI.mono ?_;rintro e Cj ⟨rfl,LC,oo,LD⟩;have G7:=LD.row hsr hle hbr (by decide);have hBx:=oV;have Qt:=yt;go_wp2_with (refine aT rfl _ rfl rfl rfl oo ?_);go_ret
         have HE:Hid (K.X.insert σ=(xu,Yn)):=by
          show _=_;have hi:=HIF.out;unfold Tx.insert;simp only [hq1,hq2,hq3,hq4,MC,UC,hR,hi,hZ,hu]
         rw [HE.out];refine ⟨ak,ak,_,ak,rfl,LC, ?_⟩;obtain ⟨u1,u2,rfl⟩:=HU.out;refine ⟨World.ownsRow_nil _ _ _ _,World.ownsRow_nil _ _ _ _, ?_,World.ownsRow_nil _ _ _ _⟩;show Cj.ownsRow w.heap.size _ 4 _ Z.length (dI Z);rw [show Z.length=c.length by omega];exact G7
    · have q2:(l.length:Int)<(c.length:Int):=by omega
      have q3:¬(c.length:Int)≤(l.length:Int):=by omega
      have q4:(l.length:Int)≤(cc:Int):=by omega
      go_wp2_with fail
      go_loopw [6,7,56] (fun _ _ i wr=>∃(j:Nat) (a3:Option Addr) (c3:Nat),i= .int .i64 j∧j≤l.length∧Did K w (K.X.must σ2 [(⟨#[41]⟩:ah)]) wr∧wr.heap[w2.heap.size]? =some (.cells (aG {Sx.zero with kind:=5,bT:=o} ak ak (.slice a3 j c3) ak ak) 31 (0,0))∧wr.ownsRow w.heap.size 62 4 (.slice a3 j c3) j (dI (List.zipWith Pr.mk (c.take j) (l.take j)))∧wr.ownsRow w.heap.size 9 1 (.slice (some ⟨gc,0,none⟩) c.length cc) c.length (c.map Value.string)∧wr.ownsRow w.heap.size 60 3 (.slice (some ⟨gv,0,none⟩) l.length c2) l.length (mU l)) (fun _ _ i _=>l.length - (intOf i).toNat)
      case atStart=>exact ⟨0,none,0,rfl,by omega,lG,G6,World.ownsRow_nil _ _ _ _,hc22,rZ⟩
      case round=>
       obtain ⟨j,a3,c3,rfl,hj,Au,hbr,hsr,hnr,Ch⟩:=hrel;by_cases aa9:j<l.length
       · have p0:(j:Int)<(l.length:Int):=by omega
         have hjl:j<c.length:=by omega
         have p1:(0:Int)≤(j:Int):=by omega
         have p2:(j:Int)<(l.length:Int):=by omega
         have p3:(j:Int)<(c.length:Int):=by omega
         have k0:wr.cell? ⟨gc,j,none⟩=some (.string c[j]):=aS hnr j _ (by rw [List.getElem?_map,List.getElem?_eq_getElem hjl];rfl);have Ci:j<l.length:=by omega
         have k1:wr.cell? ⟨gv,j*3,none⟩=some (.int .i64 l[j].ty):=aS Ch (j*3) _ (by have:=gK l j 0 Ci (by omega);rw [Nat.add_zero]at this;rw [this];rfl);have k2:wr.cell? ⟨gv,j*3+1,none⟩=some (.string l[j].s):=aS Ch (j*3+1) _ (by rw [gK l j 1 Ci (by omega)];rfl);have k3:wr.cell? ⟨gv,j*3+2,none⟩=some (.int .i64 l[j].n):=aS Ch (j*3+2) _ (by rw [gK l j 2 Ci (by omega)];rfl);have Yl:=(aK hbr).2.2.2.2.2.2.2.2.2.2.2.2.1;have ZW:=aj hbr 12;have Ym:=Au.size;have z0:=aD hbr;have z1:gc<wr.heap.size:=dZ k0;have z2:gv<wr.heap.size:=dZ k1;have HX:=Lib.hid (uO c l j hjl Ci);generalize c[j]=nm at *;generalize l[j]=tm at *;clear Ci;go_wp2_with fail
         go_region_law (refine fM Tryz.vV rfl _ _ rfl w.heap.size _ _ _ rfl (hsr.alloc _) _ _ [.string nm, .int .i64 tm.ty, .string tm.s, .int .i64 tm.n] rfl rfl (fun j u hj=>by rw [iG,Nat.zero_add];exact bg _ _ _ j u hj) (by intro u hu;simp at hu;rcases hu with rfl|rfl|rfl|rfl<;>rfl) (by omega) (by simp;omega) ?_;intro g3 jm w3 h3 hg3 wU hl3;have hb3:w3.heap[w2.heap.size]? =some (.cells (aG {Sx.zero with kind:=5,bT:=o} ak ak (.slice a3 j c3) ak ak) 31 (0,0)):=(hg3.block _ (aD (aC hbr _)) (fun e=>gy hsr hbr (by decide) e.symm)).trans (aC hbr _);have y3:=(aK hb3).2.2.2.2.2.2.2.2.2.2.2.2.1;have u3:=aj hb3 12)
         all_goals
          have hg4:(wr.alloc (.cells #[.string nm, .int .i64 tm.ty, .string tm.s, .int .i64 tm.n] 62)).grownBy w3 (Value.slice a3 j c3).ownBlock:=⟨hg3.os,hg3.tape,hg3.output,hg3.size,hg3.block⟩;have hap:∀{e:TypeId} {sz nn:Nat} {u:Value} {ys:List Value},wr.ownsRow w.heap.size e sz u nn ys→62≠e→w3.ownsRow w.heap.size e sz u nn ys:=fun hu hne=>(dH hsr hu hne).keep (hu.alloc _) hg4
          have hD3:=(Au.alloc _).grown hg4 (fun g hg2=>(hsr.lt g hg2).1);rw [←HX.out]at h3;go_wp2_with fail;go_roundw
          case rel=>exact ⟨j+1,some ⟨g3,0,none⟩,jm,by go_num,by omega,hD3.own hbx 12 _,uM hb3 _,aL h3 hb3 (by decide) 12 _,aL (hap hnr (by decide)) hb3 (by decide) 12 _,aL (hap Ch (by decide)) hb3 (by decide) 12 _⟩
          case measure=>simp [intOf];omega
       · have mF:j=l.length:=by omega
         subst mF;have HZ:=za c l (l.length) (by omega);have UO:=ze c l;rw [HZ]at hsr;clear HZ;obtain ⟨Z,hZ⟩:∃Z,List.zipWith Pr.mk c l=Z:=⟨_,rfl⟩;rw [hZ]at hsr UO;obtain ⟨⟨xu,Yn⟩,hu⟩:∃r,K.X.using_ (K.X.must σ2 [(⟨#[41]⟩:ah)]) true {Sx.zero with kind:=5,bT:=o,sets:=Z}=r:=⟨_,rfl⟩;have HU:=Lib.hid (lD K.X _ _ _ _ _ hu);have sI:=mQ Au hbx (x:={Sx.zero with kind:=5,bT:=o,sets:=Z}) hbr true;rw [hu]at sI;go_wp2_with fail;refine sI.mono ?_;rintro e Cj ⟨rfl,LC,oo,LD⟩;have G7:=LD.row hsr hle hbr (by decide);have hBx:=oV;have Qt:=yt;go_wp2_with (refine aT rfl _ rfl rfl rfl oo ?_);go_ret
         have HE:Hid (K.X.insert σ=(xu,Yn)):=by
          show _=_;have hi:=HIF.out;unfold Tx.insert;simp only [hq1,hq2,hq3,hq4,MC,UC,hR,hi,hZ,hu]
         rw [HE.out];refine ⟨ak,ak,_,ak,rfl,LC, ?_⟩;obtain ⟨u1,u2,rfl⟩:=HU.out;refine ⟨World.ownsRow_nil _ _ _ _,World.ownsRow_nil _ _ _ _, ?_,World.ownsRow_nil _ _ _ _⟩;show Cj.ownsRow w.heap.size _ 4 _ Z.length (dI Z);rw [show Z.length=l.length by omega];exact G7
   |true=>
    rw [hs2]at hse;by_cases hll:l.length=c.length
    · have HIF:Hid ((if (K.X.sees σ2 (⟨#[41]⟩:ah)&&l.length !=c.length)=true then K.X.fail σ2 else σ2)=σ2):=by show _=_;rw [hs2,hll];simp
      have q9:((l.length:Int) !=(c.length:Int))=false:=by rw [hll];simp
      go_wp2_with fail;refine hse.mono ?_;rintro e DL ⟨rfl,wS⟩;have lU:=(Did.refl iA.1).below wS;have mX:=iA.trans lU;have G5:=lU.row qK hle;have N8:=lU.blk kN dW;have hc21:=lU.row adi hle;have Yk:=bC mX.1 (⟨#[41]⟩:ah);go_wp2_with fail;refine Yk.mono ?_;rintro e UN ⟨rfl,nG⟩;have lG:=mX.trans nG;have rZ:=nG.row G5 hle;have G6:=nG.blk N8 dW;have hc22:=nG.row hc21 hle;have hcap:=FB hc22;obtain ⟨_,_,hsl,hgc⟩:=aY hc22;cases hsl;obtain ⟨gc,rfl,_,afE,hcc⟩:=hgc hlc;obtain ⟨_,_,hsl,hgv⟩:=aY rZ;cases hsl;obtain ⟨gv,rfl,_,afF,hvv⟩:=hgv hlv;clear hcc hgc hvv hgv;have q0:(0:Int)≤(c.length:Int):=by omega
      have q1:(0:Int)≤(l.length:Int):=by omega
      by_cases hcv:c.length≤l.length
      · have q2:¬(l.length:Int)<(c.length:Int):=by omega
        have q3:(c.length:Int)≤(l.length:Int):=by omega
        have q4:(c.length:Int)≤(cc:Int):=by omega
        go_wp2_with fail
        go_loopw [6,7,56] (fun _ _ i wr=>∃(j:Nat) (a3:Option Addr) (c3:Nat),i= .int .i64 j∧j≤c.length∧Did K w (K.X.must σ2 [(⟨#[41]⟩:ah)]) wr∧wr.heap[w2.heap.size]? =some (.cells (aG {Sx.zero with kind:=5,bT:=o} ak ak (.slice a3 j c3) ak ak) 31 (0,0))∧wr.ownsRow w.heap.size 62 4 (.slice a3 j c3) j (dI (List.zipWith Pr.mk (c.take j) (l.take j)))∧wr.ownsRow w.heap.size 9 1 (.slice (some ⟨gc,0,none⟩) c.length cc) c.length (c.map Value.string)∧wr.ownsRow w.heap.size 60 3 (.slice (some ⟨gv,0,none⟩) l.length c2) l.length (mU l)) (fun _ _ i _=>c.length - (intOf i).toNat)
        case atStart=>exact ⟨0,none,0,rfl,by omega,lG,G6,World.ownsRow_nil _ _ _ _,hc22,rZ⟩
        case round=>
         obtain ⟨j,a3,c3,rfl,hj,Au,hbr,hsr,hnr,Ch⟩:=hrel;by_cases aa9:j<c.length
         · have p0:(j:Int)<(c.length:Int):=by omega
           have hjl:j<c.length:=by omega
           have p1:(0:Int)≤(j:Int):=by omega
           have p2:(j:Int)<(l.length:Int):=by omega
           have p3:(j:Int)<(c.length:Int):=by omega
           have k0:wr.cell? ⟨gc,j,none⟩=some (.string c[j]):=aS hnr j _ (by rw [List.getElem?_map,List.getElem?_eq_getElem hjl];rfl);have Ci:j<l.length:=by omega
           have k1:wr.cell? ⟨gv,j*3,none⟩=some (.int .i64 l[j].ty):=aS Ch (j*3) _ (by have:=gK l j 0 Ci (by omega);rw [Nat.add_zero]at this;rw [this];rfl);have k2:wr.cell? ⟨gv,j*3+1,none⟩=some (.string l[j].s):=aS Ch (j*3+1) _ (by rw [gK l j 1 Ci (by omega)];rfl);have k3:wr.cell? ⟨gv,j*3+2,none⟩=some (.int .i64 l[j].n):=aS Ch (j*3+2) _ (by rw [gK l j 2 Ci (by omega)];rfl);have Yl:=(aK hbr).2.2.2.2.2.2.2.2.2.2.2.2.1;have ZW:=aj hbr 12;have Ym:=Au.size;have z0:=aD hbr;have z1:gc<wr.heap.size:=dZ k0;have z2:gv<wr.heap.size:=dZ k1;have HX:=Lib.hid (uO c l j hjl Ci);generalize c[j]=nm at *;generalize l[j]=tm at *;clear Ci;go_wp2_with fail
           go_region_law (refine fM Tryz.vV rfl _ _ rfl w.heap.size _ _ _ rfl (hsr.alloc _) _ _ [.string nm, .int .i64 tm.ty, .string tm.s, .int .i64 tm.n] rfl rfl (fun j u hj=>by rw [iG,Nat.zero_add];exact bg _ _ _ j u hj) (by intro u hu;simp at hu;rcases hu with rfl|rfl|rfl|rfl<;>rfl) (by omega) (by simp;omega) ?_;intro g3 jm w3 h3 hg3 wU hl3;have hb3:w3.heap[w2.heap.size]? =some (.cells (aG {Sx.zero with kind:=5,bT:=o} ak ak (.slice a3 j c3) ak ak) 31 (0,0)):=(hg3.block _ (aD (aC hbr _)) (fun e=>gy hsr hbr (by decide) e.symm)).trans (aC hbr _);have y3:=(aK hb3).2.2.2.2.2.2.2.2.2.2.2.2.1;have u3:=aj hb3 12)
           all_goals
            have hg4:(wr.alloc (.cells #[.string nm, .int .i64 tm.ty, .string tm.s, .int .i64 tm.n] 62)).grownBy w3 (Value.slice a3 j c3).ownBlock:=⟨hg3.os,hg3.tape,hg3.output,hg3.size,hg3.block⟩;have hap:∀{e:TypeId} {sz nn:Nat} {u:Value} {ys:List Value},wr.ownsRow w.heap.size e sz u nn ys→62≠e→w3.ownsRow w.heap.size e sz u nn ys:=fun hu hne=>(dH hsr hu hne).keep (hu.alloc _) hg4
            have hD3:=(Au.alloc _).grown hg4 (fun g hg2=>(hsr.lt g hg2).1);rw [←HX.out]at h3;go_wp2_with fail;go_roundw
            case rel=>exact ⟨j+1,some ⟨g3,0,none⟩,jm,by go_num,by omega,hD3.own hbx 12 _,uM hb3 _,aL h3 hb3 (by decide) 12 _,aL (hap hnr (by decide)) hb3 (by decide) 12 _,aL (hap Ch (by decide)) hb3 (by decide) 12 _⟩
            case measure=>simp [intOf];omega
         · have mF:j=c.length:=by omega
           subst mF;have HZ:=za c l (c.length) (by omega);have UO:=ze c l;rw [HZ]at hsr;clear HZ;obtain ⟨Z,hZ⟩:∃Z,List.zipWith Pr.mk c l=Z:=⟨_,rfl⟩;rw [hZ]at hsr UO;obtain ⟨⟨xu,Yn⟩,hu⟩:∃r,K.X.using_ (K.X.must σ2 [(⟨#[41]⟩:ah)]) true {Sx.zero with kind:=5,bT:=o,sets:=Z}=r:=⟨_,rfl⟩;have HU:=Lib.hid (lD K.X _ _ _ _ _ hu);have sI:=mQ Au hbx (x:={Sx.zero with kind:=5,bT:=o,sets:=Z}) hbr true;rw [hu]at sI;go_wp2_with fail;refine sI.mono ?_;rintro e Cj ⟨rfl,LC,oo,LD⟩;have G7:=LD.row hsr hle hbr (by decide);have hBx:=oV;have Qt:=yt;go_wp2_with (refine aT rfl _ rfl rfl rfl oo ?_);go_ret
           have HE:Hid (K.X.insert σ=(xu,Yn)):=by
            show _=_;have hi:=HIF.out;unfold Tx.insert;simp only [hq1,hq2,hq3,hq4,MC,UC,hR,hi,hZ,hu]
           rw [HE.out];refine ⟨ak,ak,_,ak,rfl,LC, ?_⟩;obtain ⟨u1,u2,rfl⟩:=HU.out;refine ⟨World.ownsRow_nil _ _ _ _,World.ownsRow_nil _ _ _ _, ?_,World.ownsRow_nil _ _ _ _⟩;show Cj.ownsRow w.heap.size _ 4 _ Z.length (dI Z);rw [show Z.length=c.length by omega];exact G7
      · exact absurd hll (by omega)
    · have HIF:Hid ((if (K.X.sees σ2 (⟨#[41]⟩:ah)&&l.length !=c.length)=true then K.X.fail σ2 else σ2)=K.X.fail σ2):=by show _=_;rw [hs2,if_pos (by simp [hll])]
      have q9:((l.length:Int) !=(c.length:Int))=true:=bne_iff_ne.2 (by omega);go_wp2_with fail;refine hse.mono ?_;rintro e w31 ⟨rfl,Yo⟩;have hd31:=(Did.refl iA.1).below Yo;have N9:=iA.trans hd31;have ahG:=jH N9.1;go_wp2_with fail;refine ahG.mono ?_;rintro e w32 ⟨rfl,m32,rfl⟩;have hd32:=(Did.refl N9.1).drewN m32;have hw32:=iN hd32.1 (K.X.here σ2);go_wp2_with fail;refine hw32.mono ?_;rintro e DL ⟨rfl,G8⟩;have lU:=(hd31.trans hd32).trans G8;have mX:Did K w (K.X.fail σ2) DL:=iA.trans lU;have G5:=lU.row qK hle;have N8:=lU.blk kN dW;have hc21:=lU.row adi hle;have Yk:=bC mX.1 (⟨#[41]⟩:ah);go_wp2_with fail;refine Yk.mono ?_;rintro e UN ⟨rfl,nG⟩;have lG:=mX.trans nG;have rZ:=nG.row G5 hle;have G6:=nG.blk N8 dW;have hc22:=nG.row hc21 hle;have hcap:=FB hc22;obtain ⟨_,_,hsl,hgc⟩:=aY hc22;cases hsl;obtain ⟨gc,rfl,_,afE,hcc⟩:=hgc hlc;obtain ⟨_,_,hsl,hgv⟩:=aY rZ;cases hsl;obtain ⟨gv,rfl,_,afF,hvv⟩:=hgv hlv;clear hcc hgc hvv hgv;have q0:(0:Int)≤(c.length:Int):=by omega
      have q1:(0:Int)≤(l.length:Int):=by omega
      by_cases hcv:c.length≤l.length
      · have q2:¬(l.length:Int)<(c.length:Int):=by omega
        have q3:(c.length:Int)≤(l.length:Int):=by omega
        have q4:(c.length:Int)≤(cc:Int):=by omega
        go_wp2_with fail
        go_loopw [6,7,56] (fun _ _ i wr=>∃(j:Nat) (a3:Option Addr) (c3:Nat),i= .int .i64 j∧j≤c.length∧Did K w (K.X.must (K.X.fail σ2) [(⟨#[41]⟩:ah)]) wr∧wr.heap[w2.heap.size]? =some (.cells (aG {Sx.zero with kind:=5,bT:=o} ak ak (.slice a3 j c3) ak ak) 31 (0,0))∧wr.ownsRow w.heap.size 62 4 (.slice a3 j c3) j (dI (List.zipWith Pr.mk (c.take j) (l.take j)))∧wr.ownsRow w.heap.size 9 1 (.slice (some ⟨gc,0,none⟩) c.length cc) c.length (c.map Value.string)∧wr.ownsRow w.heap.size 60 3 (.slice (some ⟨gv,0,none⟩) l.length c2) l.length (mU l)) (fun _ _ i _=>c.length - (intOf i).toNat)
        case atStart=>exact ⟨0,none,0,rfl,by omega,lG,G6,World.ownsRow_nil _ _ _ _,hc22,rZ⟩
        case round=>
         obtain ⟨j,a3,c3,rfl,hj,Au,hbr,hsr,hnr,Ch⟩:=hrel;by_cases aa9:j<c.length
         · have p0:(j:Int)<(c.length:Int):=by omega
           have hjl:j<c.length:=by omega
           have p1:(0:Int)≤(j:Int):=by omega
           have p2:(j:Int)<(l.length:Int):=by omega
           have p3:(j:Int)<(c.length:Int):=by omega
           have k0:wr.cell? ⟨gc,j,none⟩=some (.string c[j]):=aS hnr j _ (by rw [List.getElem?_map,List.getElem?_eq_getElem hjl];rfl);have Ci:j<l.length:=by omega
           have k1:wr.cell? ⟨gv,j*3,none⟩=some (.int .i64 l[j].ty):=aS Ch (j*3) _ (by have:=gK l j 0 Ci (by omega);rw [Nat.add_zero]at this;rw [this];rfl);have k2:wr.cell? ⟨gv,j*3+1,none⟩=some (.string l[j].s):=aS Ch (j*3+1) _ (by rw [gK l j 1 Ci (by omega)];rfl);have k3:wr.cell? ⟨gv,j*3+2,none⟩=some (.int .i64 l[j].n):=aS Ch (j*3+2) _ (by rw [gK l j 2 Ci (by omega)];rfl);have Yl:=(aK hbr).2.2.2.2.2.2.2.2.2.2.2.2.1;have ZW:=aj hbr 12;have Ym:=Au.size;have z0:=aD hbr;have z1:gc<wr.heap.size:=dZ k0;have z2:gv<wr.heap.size:=dZ k1;have HX:=Lib.hid (uO c l j hjl Ci);generalize c[j]=nm at *;generalize l[j]=tm at *;clear Ci;go_wp2_with fail
           go_region_law (refine fM Tryz.vV rfl _ _ rfl w.heap.size _ _ _ rfl (hsr.alloc _) _ _ [.string nm, .int .i64 tm.ty, .string tm.s, .int .i64 tm.n] rfl rfl (fun j u hj=>by rw [iG,Nat.zero_add];exact bg _ _ _ j u hj) (by intro u hu;simp at hu;rcases hu with rfl|rfl|rfl|rfl<;>rfl) (by omega) (by simp;omega) ?_;intro g3 jm w3 h3 hg3 wU hl3;have hb3:w3.heap[w2.heap.size]? =some (.cells (aG {Sx.zero with kind:=5,bT:=o} ak ak (.slice a3 j c3) ak ak) 31 (0,0)):=(hg3.block _ (aD (aC hbr _)) (fun e=>gy hsr hbr (by decide) e.symm)).trans (aC hbr _);have y3:=(aK hb3).2.2.2.2.2.2.2.2.2.2.2.2.1;have u3:=aj hb3 12)
           all_goals
            have hg4:(wr.alloc (.cells #[.string nm, .int .i64 tm.ty, .string tm.s, .int .i64 tm.n] 62)).grownBy w3 (Value.slice a3 j c3).ownBlock:=⟨hg3.os,hg3.tape,hg3.output,hg3.size,hg3.block⟩;have hap:∀{e:TypeId} {sz nn:Nat} {u:Value} {ys:List Value},wr.ownsRow w.heap.size e sz u nn ys→62≠e→w3.ownsRow w.heap.size e sz u nn ys:=fun hu hne=>(dH hsr hu hne).keep (hu.alloc _) hg4
            have hD3:=(Au.alloc _).grown hg4 (fun g hg2=>(hsr.lt g hg2).1);rw [←HX.out]at h3;go_wp2_with fail;go_roundw
            case rel=>exact ⟨j+1,some ⟨g3,0,none⟩,jm,by go_num,by omega,hD3.own hbx 12 _,uM hb3 _,aL h3 hb3 (by decide) 12 _,aL (hap hnr (by decide)) hb3 (by decide) 12 _,aL (hap Ch (by decide)) hb3 (by decide) 12 _⟩
            case measure=>simp [intOf];omega
         · have mF:j=c.length:=by omega
           subst mF;have HZ:=za c l (c.length) (by omega);have UO:=ze c l;rw [HZ]at hsr;clear HZ;obtain ⟨Z,hZ⟩:∃Z,List.zipWith Pr.mk c l=Z:=⟨_,rfl⟩;rw [hZ]at hsr UO;obtain ⟨⟨xu,Yn⟩,hu⟩:∃r,K.X.using_ (K.X.must (K.X.fail σ2) [(⟨#[41]⟩:ah)]) true {Sx.zero with kind:=5,bT:=o,sets:=Z}=r:=⟨_,rfl⟩;have HU:=Lib.hid (lD K.X _ _ _ _ _ hu);have sI:=mQ Au hbx (x:={Sx.zero with kind:=5,bT:=o,sets:=Z}) hbr true;rw [hu]at sI;go_wp2_with fail;refine sI.mono ?_;rintro e Cj ⟨rfl,LC,oo,LD⟩;have G7:=LD.row hsr hle hbr (by decide);have hBx:=oV;have Qt:=yt;go_wp2_with (refine aT rfl _ rfl rfl rfl oo ?_);go_ret
           have HE:Hid (K.X.insert σ=(xu,Yn)):=by
            show _=_;have hi:=HIF.out;unfold Tx.insert;simp only [hq1,hq2,hq3,hq4,MC,UC,hR,hi,hZ,hu]
           rw [HE.out];refine ⟨ak,ak,_,ak,rfl,LC, ?_⟩;obtain ⟨u1,u2,rfl⟩:=HU.out;refine ⟨World.ownsRow_nil _ _ _ _,World.ownsRow_nil _ _ _ _, ?_,World.ownsRow_nil _ _ _ _⟩;show Cj.ownsRow w.heap.size _ 4 _ Z.length (dI Z);rw [show Z.length=c.length by omega];exact G7
      · have q2:(l.length:Int)<(c.length:Int):=by omega
        have q3:¬(c.length:Int)≤(l.length:Int):=by omega
        have q4:(l.length:Int)≤(cc:Int):=by omega
        go_wp2_with fail
        go_loopw [6,7,56] (fun _ _ i wr=>∃(j:Nat) (a3:Option Addr) (c3:Nat),i= .int .i64 j∧j≤l.length∧Did K w (K.X.must (K.X.fail σ2) [(⟨#[41]⟩:ah)]) wr∧wr.heap[w2.heap.size]? =some (.cells (aG {Sx.zero with kind:=5,bT:=o} ak ak (.slice a3 j c3) ak ak) 31 (0,0))∧wr.ownsRow w.heap.size 62 4 (.slice a3 j c3) j (dI (List.zipWith Pr.mk (c.take j) (l.take j)))∧wr.ownsRow w.heap.size 9 1 (.slice (some ⟨gc,0,none⟩) c.length cc) c.length (c.map Value.string)∧wr.ownsRow w.heap.size 60 3 (.slice (some ⟨gv,0,none⟩) l.length c2) l.length (mU l)) (fun _ _ i _=>l.length - (intOf i).toNat)
        case atStart=>exact ⟨0,none,0,rfl,by omega,lG,G6,World.ownsRow_nil _ _ _ _,hc22,rZ⟩
        case round=>
         obtain ⟨j,a3,c3,rfl,hj,Au,hbr,hsr,hnr,Ch⟩:=hrel;by_cases aa9:j<l.length
         · have p0:(j:Int)<(l.length:Int):=by omega
           have hjl:j<c.length:=by omega
           have p1:(0:Int)≤(j:Int):=by omega
           have p2:(j:Int)<(l.length:Int):=by omega
           have p3:(j:Int)<(c.length:Int):=by omega
           have k0:wr.cell? ⟨gc,j,none⟩=some (.string c[j]):=aS hnr j _ (by rw [List.getElem?_map,List.getElem?_eq_getElem hjl];rfl);have Ci:j<l.length:=by omega
           have k1:wr.cell? ⟨gv,j*3,none⟩=some (.int .i64 l[j].ty):=aS Ch (j*3) _ (by have:=gK l j 0 Ci (by omega);rw [Nat.add_zero]at this;rw [this];rfl);have k2:wr.cell? ⟨gv,j*3+1,none⟩=some (.string l[j].s):=aS Ch (j*3+1) _ (by rw [gK l j 1 Ci (by omega)];rfl);have k3:wr.cell? ⟨gv,j*3+2,none⟩=some (.int .i64 l[j].n):=aS Ch (j*3+2) _ (by rw [gK l j 2 Ci (by omega)];rfl);have Yl:=(aK hbr).2.2.2.2.2.2.2.2.2.2.2.2.1;have ZW:=aj hbr 12;have Ym:=Au.size;have z0:=aD hbr;have z1:gc<wr.heap.size:=dZ k0;have z2:gv<wr.heap.size:=dZ k1;have HX:=Lib.hid (uO c l j hjl Ci);generalize c[j]=nm at *;generalize l[j]=tm at *;clear Ci;go_wp2_with fail
           go_region_law (refine fM Tryz.vV rfl _ _ rfl w.heap.size _ _ _ rfl (hsr.alloc _) _ _ [.string nm, .int .i64 tm.ty, .string tm.s, .int .i64 tm.n] rfl rfl (fun j u hj=>by rw [iG,Nat.zero_add];exact bg _ _ _ j u hj) (by intro u hu;simp at hu;rcases hu with rfl|rfl|rfl|rfl<;>rfl) (by omega) (by simp;omega) ?_;intro g3 jm w3 h3 hg3 wU hl3;have hb3:w3.heap[w2.heap.size]? =some (.cells (aG {Sx.zero with kind:=5,bT:=o} ak ak (.slice a3 j c3) ak ak) 31 (0,0)):=(hg3.block _ (aD (aC hbr _)) (fun e=>gy hsr hbr (by decide) e.symm)).trans (aC hbr _);have y3:=(aK hb3).2.2.2.2.2.2.2.2.2.2.2.2.1;have u3:=aj hb3 12)
           all_goals
            have hg4:(wr.alloc (.cells #[.string nm, .int .i64 tm.ty, .string tm.s, .int .i64 tm.n] 62)).grownBy w3 (Value.slice a3 j c3).ownBlock:=⟨hg3.os,hg3.tape,hg3.output,hg3.size,hg3.block⟩;have hap:∀{e:TypeId} {sz nn:Nat} {u:Value} {ys:List Value},wr.ownsRow w.heap.size e sz u nn ys→62≠e→w3.ownsRow w.heap.size e sz u nn ys:=fun hu hne=>(dH hsr hu hne).keep (hu.alloc _) hg4
            have hD3:=(Au.alloc _).grown hg4 (fun g hg2=>(hsr.lt g hg2).1);rw [←HX.out]at h3;go_wp2_with fail;go_roundw
            case rel=>exact ⟨j+1,some ⟨g3,0,none⟩,jm,by go_num,by omega,hD3.own hbx 12 _,uM hb3 _,aL h3 hb3 (by decide) 12 _,aL (hap hnr (by decide)) hb3 (by decide) 12 _,aL (hap Ch (by decide)) hb3 (by decide) 12 _⟩
            case measure=>simp [intOf];omega
         · have mF:j=l.length:=by omega
           subst mF;have HZ:=za c l (l.length) (by omega);have UO:=ze c l;rw [HZ]at hsr;clear HZ;obtain ⟨Z,hZ⟩:∃Z,List.zipWith Pr.mk c l=Z:=⟨_,rfl⟩;rw [hZ]at hsr UO;obtain ⟨⟨xu,Yn⟩,hu⟩:∃r,K.X.using_ (K.X.must (K.X.fail σ2) [(⟨#[41]⟩:ah)]) true {Sx.zero with kind:=5,bT:=o,sets:=Z}=r:=⟨_,rfl⟩;have HU:=Lib.hid (lD K.X _ _ _ _ _ hu);have sI:=mQ Au hbx (x:={Sx.zero with kind:=5,bT:=o,sets:=Z}) hbr true;rw [hu]at sI;go_wp2_with fail;refine sI.mono ?_;rintro e Cj ⟨rfl,LC,oo,LD⟩;have G7:=LD.row hsr hle hbr (by decide);have hBx:=oV;have Qt:=yt;go_wp2_with (refine aT rfl _ rfl rfl rfl oo ?_);go_ret
           have HE:Hid (K.X.insert σ=(xu,Yn)):=by
            show _=_;have hi:=HIF.out;unfold Tx.insert;simp only [hq1,hq2,hq3,hq4,MC,UC,hR,hi,hZ,hu]
           rw [HE.out];refine ⟨ak,ak,_,ak,rfl,LC, ?_⟩;obtain ⟨u1,u2,rfl⟩:=HU.out;refine ⟨World.ownsRow_nil _ _ _ _,World.ownsRow_nil _ _ _ _, ?_,World.ownsRow_nil _ _ _ _⟩;show Cj.ownsRow w.heap.size _ 4 _ Z.length (dI Z);rw [show Z.length=l.length by omega];exact G7
end Go.Proofs.YtcgadodckoalnaaGreatDoor
