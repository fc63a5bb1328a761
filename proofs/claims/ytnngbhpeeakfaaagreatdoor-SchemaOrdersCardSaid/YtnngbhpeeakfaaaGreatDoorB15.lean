/- Parts of a proof. -/
import Derived.Deep.AppendLies
import Derived.Deep.RegionLaw
import Derived.Test.YtnngbhpeeakfaaaGreatDoorB14
set_option maxHeartbeats 4000000
set_option maxRecDepth 100000
namespace Go.Proofs.YtnngbhpeeakfaaaGreatDoor
open Go.Proofs.Tryz
open Go.RowKit
open aK
theorem Tryz.afb:QH prog 327 41 (.agg #[.int .i64 0, .string ⟨#[]⟩, .int .i64 0]) 3 32:=uN underlying327 (by kernel_rfl) rfl (by decide)
def sO (t:Tm):List Value:= [.int .i64 t.ty, .string t.s, .int .i64 t.n]
def ru (l:List Tm):List Value:=l.flatMap sO
theorem O4 (X:Tx) (σ:Ps):σ.i≤(X.value σ).2.i:=by
 unfold Tx.value;split
 · show σ.i≤σ.i+1;omega
 · split
   · show σ.i≤σ.i+1;omega
   · show σ.i≤(σ.wrong _).i;rw [oq];exact Nat.le_refl _
theorem eD {w:World}{b1 b2:Nat}{e1 e2:TypeId}{s1 s2 n1 n2:Nat}{v u:Value}{xs ys:List Value}(hv:w.ownsRow b1 e1 s1 v n1 xs) (hu:w.ownsRow b2 e2 s2 u n2 ys) (hne:e1≠e2):Apart v u:=by
 intro g h1 h2;rcases hv.2 with ⟨rfl,_⟩|⟨g1,c1,acV,rfl,_,k1,_⟩
 · cases h1
 · rcases hu.2 with ⟨rfl,_⟩|⟨g2,c2,aiL,rfl,_,k2,_⟩
   · cases h2
   · cases h1;cases h2;rw [k1]at k2;injection k2 with k2
     injection k2 with _ k2 _
     exact hne k2
theorem fA {w:World}{b1 bx:Nat}{e1 T:TypeId}{s1 n1:Nat}{v:Value}{xs:List Value}{C:Array Value}{fr:Nat×Nat}(hv:w.ownsRow b1 e1 s1 v n1 xs) (hx:w.heap[bx]? =some (.cells C T fr)) (hne:e1≠T):v.ownBlock≠some bx:=by
 intro h1;rcases hv.2 with ⟨rfl,_⟩|⟨g1,c1,acV,rfl,_,k1,_⟩
 · cases h1
 · cases h1;rw [hx]at k1;injection k1 with k1
   injection k1 with _ k1 _
   exact hne k1.symm
theorem Ir {w:World}{b1:Nat}{e1:TypeId}{s1 n:Nat}{a:Option Addr}{c:Nat}{xs:List Value}(hv:w.ownsRow b1 e1 s1 (.slice a n c) n xs):n≤c:=by
 rcases hv.2 with ⟨h,h0⟩|⟨g1,c1,acV,h,_,k1,h2,_⟩
 · omega
 · cases h;exact h2
theorem iq:∀(l:List Tm) (k j:Nat) (h:k<l.length) (_:j<3),(ru l)[k*3+j]? =(sO l[k])[j]?
 |p::l,0,j,_,hj=>by
  simp only [ru,List.flatMap_cons,Nat.zero_mul,Nat.zero_add,List.getElem_cons_zero];rw [List.getElem?_append_left (by simp [sO];omega)]
 |p::l,k+1,j,h,hj=>by
  have:=iq l k j (by simp at h;omega) hj;simp only [ru,List.flatMap_cons,List.getElem_cons_succ]at this⊢;rw [List.getElem?_append_right (by simp [sO];omega)];have e:(k+1)*3+j - (sO p).length=k*3+j:=by simp [sO];omega
  rw [e];exact this
theorem uW (c:List ByteArray) (l:List Tm) (j:Nat) (h1:j<c.length) (h2:j<l.length):
 fG (List.zipWith Pr.mk (c.take (j+1)) (l.take (j+1)))=fG (List.zipWith Pr.mk (c.take j) (l.take j))++ [.string c[j], .int .i64 l[j].ty, .string l[j].s, .int .i64 l[j].n]:=by
 rw [List.take_succ_eq_append_getElem h1,List.take_succ_eq_append_getElem h2,List.zipWith_append (by rw [List.length_take,List.length_take];omega)];simp [fG,lM]
theorem zl (c:List ByteArray) (l:List Tm) (m:Nat) (h:min c.length l.length=m):List.zipWith Pr.mk (c.take m) (l.take m)=List.zipWith Pr.mk c l:=by
 rw [←List.take_zipWith];exact List.take_of_length_le (by rw [List.length_zipWith];omega)
theorem zm (c:List ByteArray) (l:List Tm):(List.zipWith Pr.mk c l).length=min c.length l.length:=by rw [List.length_zipWith]
theorem zn (X:Tx) (most:Nat):∀n σ l,l.length≤(X.dH most n σ l).1.length∧(X.dH most n σ l).1.length≤l.length+n
 |0,σ,l=>⟨Nat.le_refl _,Nat.le_refl _⟩
 |n+1,σ,l=>by
  rw [Tx.dH];split
  · have h:=zn X most n (X.column σ.step l most).2 (X.column σ.step l most).1;have:=sN X σ.step l most;simp only;omega
  · simp only;omega
theorem KQ (X:Tx) (σ:Ps) (most:Nat):1≤(X.columns σ most).1.length∧(X.columns σ most).1.length≤X.T.length+1:=by
 have h:=zn X most X.T.length (X.column σ [] most).2 (X.column σ [] most).1;have:=sN X σ [] most;unfold Tx.columns;simp only [List.length_nil]at *;omega
theorem BJ (X:Tx):∀n σ l,l.length≤(X.fC n σ l).1.length
 |0,σ,l=>Nat.le_refl _
 |n+1,σ,l=>by
  rw [Tx.fC];split
  · have h:=BJ X n (X.value σ.step).2 (l++ [(X.value σ.step).1]);rw [List.length_append]at h;simp only;have:([(X.value σ.step).1]:List Tm).length=1:=rfl;omega
  · simp only;omega
theorem jT {P:Program}{t e:TypeId}{z:Value}{size bytes:Nat}(E:QH P t e z size bytes) {w:World}{ops:Array Oper}{o:Oper}{a:Act}{K:Act→World→Prop}{Q:Exit→Act→World→Prop}{G:Prop}(hgd:o.guard=none) (s x:Operand)
 (ho:o.op= .call {callee:= .builtin .append,args:= #[s,x],argTypes:= #[t,t]})
 (base:Nat) (v:Value) (n:Nat) (xs:List Value) (hs:a.eval s=v) (hown:w.ownsRow base e size v n xs)
 (ad:Addr) (c:Nat) (news:List Value) (hx:a.eval x= .slice (some ad) 1 c) (hl:news.length=size) (hnews:∀j u,news[j]? =some u→w.cell? (ad.add j)=some u) (h1:∀u∈news,u.oneCell' =true)
 (hn:(n+1)*bytes≤140737488355328∧n<140737488355328) (hbase:base≤w.heap.size)
 (h:∀g cap w',w'.ownsRow base e size (.slice (some ⟨g,0,none⟩) (n+1) cap) (n+1) (xs++news)→w.grownBy w' v.ownBlock→(v.ownBlock=some g∨g=w.heap.size)→g<w'.heap.size→K (a.put o.dst (.slice (some ⟨g,0,none⟩) (n+1) cap)) w'):
 if Region.wanted o (yielded ops a.tmps)=true then Oper.wp P o a w K Q else G:=by
 obtain ⟨i,hi,hz,hsize,hby⟩:=E.info;exact step_append_lies w hgd s x t ho base e i z size bytes E.und hi hz hsize hby E.zs E.pos v n xs hs hown ad 1 c news hx (by rw [Nat.one_mul];exact hl) hnews h1 (by omega) (by have:=hn.2;unfold maxLen;omega) hn.1 hbase _ rfl h
theorem M0 {K:PK}{w:World}{σ:Ps}(h:PQ K w σ):
 Calls prog 190 #[.pointer (some ⟨K.b,0,none⟩)] w (gD K w 330 (K.X.insert σ).1 (K.X.insert σ).2):=by
 have hle:=h.le;have hD0:=Did.refl h;obtain ⟨σ1,hq1⟩:∃r,K.X.must σ [(⟨#[105,110,116,111]⟩:ah)]=r:=⟨_,rfl⟩;obtain ⟨⟨o,σ2⟩,hq2⟩:∃r,K.X.name σ1=r:=⟨_,rfl⟩;obtain ⟨σ3,hq3⟩:∃r,K.X.must σ2 [(⟨#[40]⟩:ah)]=r:=⟨_,rfl⟩;obtain ⟨⟨c,jH⟩,hq4⟩:∃r,K.X.columns σ3 10=r:=⟨_,rfl⟩;obtain ⟨oF,Jo⟩:∃r,K.X.must jH [(⟨#[41]⟩:ah),(⟨#[118,97,108,117,101,115]⟩:ah),(⟨#[40]⟩:ah)]=r:=⟨_,rfl⟩;obtain ⟨⟨v0,L8⟩,QO⟩:∃r,K.X.value oF=r:=⟨_,rfl⟩;obtain ⟨⟨vs,σv⟩,hR⟩:∃r,K.X.fC K.X.T.length L8 [v0]=r:=⟨_,rfl⟩;have hcl:0<c.length∧c.length≤K.X.T.length+1:=by have h:=KQ K.X σ3 10;rw [hq4]at h;exact h
 have HT:=Lib.hid K.hT;go_enter func190,ntmps190;have hm1:=bS hD0.1 (⟨#[105,110,116,111]⟩:ah);rw [hq1]at hm1;try simp only [av,bB]at hm1
 go_wp2_with fail;refine hm1.mono ?_;rintro e w1 ⟨rfl,hd1⟩;have hD1:=hD0.trans hd1;have hm2:=dS hD1.1;rw [hq2]at hm2;try simp only at hm2
 go_wp2_with fail;refine hm2.mono ?_;rintro e w2 ⟨rfl,hd2⟩;have hD2:=hD1.trans hd2;have hB3:=KH 5 o;have dK:K.L≤w2.heap.size:=Nat.le_trans hle hD2.size;have hbx:w.heap.size≤w2.heap.size:=hD2.size;have hblk3:(w2.alloc (.cells (aP {Sx.zero with kind:=5,dA:=o} au au au au au) 39)).heap[w2.heap.size]? =some (.cells (aP {Sx.zero with kind:=5,dA:=o} au au au au au) 39 (0,0)):=aB w2 _;have hD3:=hD2.alloc (.cells (aP {Sx.zero with kind:=5,dA:=o} au au au au au) 39);have mK:=bS hD3.1 (⟨#[40]⟩:ah);rw [hq3]at mK;try simp only [av]at mK
 go_wp2_with (refine lN rfl _ _ rfl rfl rfl rfl rfl ?_);refine mK.mono ?_;rintro e w4 ⟨rfl,hd4⟩;have hD4:=hD3.trans hd4;have eZ:=hd4.blk hblk3 dK;have oV:=uT hD4.1 10 (by omega);rw [hq4]at oV;try simp only at oV
 go_wp2_with fail;refine oV.mono ?_;rintro e w5 ⟨ac,cc,rfl,hd5,Yd⟩;have hD5:=hD4.trans hd5;have hblk5:=hd5.blk eZ dK;have hz5:=hD4.size;try simp only [av,bB]at hz5 Yd
 replace Yd:=bH Yd hz5;have qm:=acM hD5.1 (⟨#[41]⟩:ah) (⟨#[118,97,108,117,101,115]⟩:ah) (⟨#[40]⟩:ah);rw [Jo]at qm;try simp only [av,bB]at qm
 go_wp2_with fail;refine qm.mono ?_;rintro e w6 ⟨rfl,hd6⟩;have hD6:=hD5.trans hd6;have hblk6:=hd6.blk hblk5 dK;have zh:=hd6.row Yd hle;have yc:=za hD6.1 QO;try simp only [av,bB]at yc
 go_wp2_with fail;refine yc.mono ?_;rintro e w7 ⟨rfl,hd7⟩;have hD7:=hD6.trans hd7;have hblk7:=hd7.blk hblk6 dK;have zi:=hd7.row zh hle;have hv:=kR w7 [.int .i64 v0.ty, .string v0.s, .int .i64 v0.n] 41 1 3 w.heap.size rfl (by decide) hD7.size;have hDv:=hD7.alloc (.cells #[.int .i64 v0.ty, .string v0.s, .int .i64 v0.n] 41);have Zq:=ay hblk7 (.cells #[.int .i64 v0.ty, .string v0.s, .int .i64 v0.n] 41);have hcv:=zi.alloc (.cells #[.int .i64 v0.ty, .string v0.s, .int .i64 v0.n] 41);go_wp2_with fail
 go_loopw [5] (fun v wr=>∃(l:List Tm) (a:Option Addr) (c2:Nat) (σ2:Ps) (n:Nat),v= .slice a l.length c2∧Did K w σ2 wr∧wr.ownsRow w.heap.size 41 3 (.slice a l.length c2) l.length (ru l)∧wr.heap[w2.heap.size]? =some (.cells (aP {Sx.zero with kind:=5,dA:=o} au au au au au) 39 (0,0))∧wr.ownsRow w.heap.size 9 1 (.slice ac c.length cc) c.length (c.map Value.string)∧Hid (K.X.fC n σ2 l=(vs,σv))∧K.X.T.length - σ2.i≤n∧l.length+n≤K.X.T.length+1) (fun _ wr=>K.X.T.length - UU K wr)
 case atStart=>exact ⟨[v0],_,_,L8,K.X.T.length,rfl,hDv,hv,Zq,hcv,hR,by omega,by show 1+_≤_;omega⟩
 case round=>
  clear hv hDv Zq hcv;obtain ⟨l,a,c2,σ2,n,rfl,hD,hown,hblk,hcr,HR,hn,hln⟩:=hrel;have hmay:=aS hD.1 (⟨#[44]⟩:ah);have hpI:=xG hD.1;have hsz:=hD.size;unfold Tx.may at hmay;cases hs:K.X.sees σ2 (⟨#[44]⟩:ah)with
  |true=>
   obtain ⟨hlt,_⟩:=sJ hs;rw [hs,if_pos rfl]at hmay;obtain ⟨n,rfl⟩:∃m,n=m+1:=⟨n - 1,by omega⟩;have hst:σ2.step.i=σ2.i+1:=rfl;have hi:=O4 K.X σ2.step;obtain ⟨⟨t,σ3⟩,hx⟩:∃r,K.X.value σ2.step=r:=⟨_,rfl⟩
   have HR2:Hid (K.X.fC n σ3 (l++ [t])=(vs,σv)):=by
    have h:=HR.out;rw [Tx.fC,hs,if_pos rfl]at h;simp only [hx]at h;exact Lib.hid h
   rw [hx]at hi;replace hi:σ2.step.i≤σ3.i:=hi;have hT:=HT.out;go_wp2_with fail;refine hmay.mono ?_;rintro e O5 ⟨rfl,dN⟩;have fZ:=hD.trans dN;have hval:=za fZ.1 hx;go_wp2_with fail;refine hval.mono ?_;rintro e Jq ⟨rfl,j6⟩;have mM:=fZ.trans j6;have Iu:=j6.row (dN.row hown hle) hle;have U5:=j6.blk (dN.blk hblk dK) dK;have Zr:=j6.row (dN.row hcr hle) hle;have Ye:=mM.size;go_wp2_with (at_builtin;refine app1 Tryz.afb rfl _ _ rfl w.heap.size _ _ _ rfl (Iu.alloc _) _ _ [.int .i64 t.ty, .string t.s, .int .i64 t.n] rfl rfl (bA _ _ _) (by intro u hu;simp at hu;rcases hu with rfl|rfl|rfl<;>rfl) (by omega) (by simp;omega) ?_;intro a' c' Zt h22 hg QZ);have jU:=(mM.alloc (.cells #[.int .i64 t.ty, .string t.s, .int .i64 t.n] 41)).grown hg (fun g hg2=>(Iu.lt g hg2).1);have acW:=xG jU.1;go_roundw
   case rel=>
    refine ⟨l++ [t],a',c',σ3,n,by rw [List.length_append];rfl,jU, ?_, ?_, ?_,HR2.out,by omega,by rw [List.length_append];show l.length+1+n≤_;omega⟩
    · rw [List.length_append];show Zt.ownsRow _ _ _ (.slice a' (l.length+1) c') (l.length+1) (ru (l++ [t]));rw [show ru (l++ [t])=ru l++sO t by simp [ru]];exact h22
    · have hb:=ay U5 (.cells #[.int .i64 t.ty, .string t.s, .int .i64 t.n] 41);rw [hg.block _ (aG hb) (fun e=>fA Iu U5 (by decide) e.symm)];exact hb
    · exact (eD (Iu.alloc (.cells #[.int .i64 t.ty, .string t.s, .int .i64 t.n] 41)) (Zr.alloc _) (by decide)).keep (Zr.alloc _) hg
   case measure=>rw [hpI,acW];omega
  |false=>
   rw [hs,if_neg (by decide)]at hmay
   have HR2:l=vs∧σ2=σv:=by
    have h:=HR.out;cases n with
    |zero=>cases h;exact ⟨rfl,rfl⟩
    |succ n=>rw [Tx.fC,hs,if_neg (by decide)]at h;cases h;exact ⟨rfl,rfl⟩
   obtain ⟨rfl,rfl⟩:=HR2;have hlv:0<l.length:=by have h:=BJ K.X K.X.T.length L8 [v0];rw [hR]at h;exact h
   have hlc:0<c.length:=hcl.1;have aiM:=hcl.2;have hT:=HT.out;go_wp2_with fail;refine hmay.mono ?_;rintro e O5 ⟨rfl,dN⟩;have fZ:=hD.trans dN;have ou:=dN.row hown hle;have jF:=dN.blk hblk dK;have aaD:=dN.row hcr hle;have hse:=yX fZ.1 (⟨#[41]⟩:ah);cases hs2:K.X.sees σ2 (⟨#[41]⟩:ah)with
   |false=>
    have HIF:Hid ((if (K.X.sees σ2 (⟨#[41]⟩:ah)&&l.length !=c.length)=true then K.X.fail σ2 else σ2)=σ2):=by show _=_;rw [hs2];rfl
    rw [hs2]at hse;go_wp2_with fail;refine hse.mono ?_;rintro e Jq ⟨rfl,tZ⟩;have j6:=(Did.refl fZ.1).below tZ;have mM:=fZ.trans j6;have DZ:=j6.row ou hle;have KR:=j6.blk jF dK;have hc21:=j6.row aaD hle;have U6:=bS mM.1 (⟨#[41]⟩:ah);go_wp2_with fail;refine U6.mono ?_;rintro e Zt ⟨rfl,lQ⟩;have jU:=mM.trans lQ;have pR:=lQ.row DZ hle;have D5:=lQ.blk KR dK;have hc22:=lQ.row hc21 hle;have hcap:=Ir hc22;obtain ⟨_,_,hsl,hgc⟩:=aN hc22;cases hsl;obtain ⟨gc,rfl,_,acX,hcc⟩:=hgc hlc;obtain ⟨_,_,hsl,hgv⟩:=aN pR;cases hsl;obtain ⟨gv,rfl,_,acY,hvv⟩:=hgv hlv;clear hcc hgc hvv hgv;have q0:(0:Int)≤(c.length:Int):=by omega
    have q1:(0:Int)≤(l.length:Int):=by omega
    by_cases hcv:c.length≤l.length
    · have q2:¬(l.length:Int)<(c.length:Int):=by omega
      have q3:(c.length:Int)≤(l.length:Int):=by omega
      have q4:(c.length:Int)≤(cc:Int):=by omega
      go_wp2_with fail
      go_loopw [6,7,56] (fun _ _ i wr=>∃(j:Nat) (a3:Option Addr) (c3:Nat),i= .int .i64 j∧j≤c.length∧Did K w (K.X.must σ2 [(⟨#[41]⟩:ah)]) wr∧wr.heap[w2.heap.size]? =some (.cells (aP {Sx.zero with kind:=5,dA:=o} au au (.slice a3 j c3) au au) 39 (0,0))∧wr.ownsRow w.heap.size 43 4 (.slice a3 j c3) j (fG (List.zipWith Pr.mk (c.take j) (l.take j)))∧wr.ownsRow w.heap.size 9 1 (.slice (some ⟨gc,0,none⟩) c.length cc) c.length (c.map Value.string)∧wr.ownsRow w.heap.size 41 3 (.slice (some ⟨gv,0,none⟩) l.length c2) l.length (ru l)) (fun _ _ i _=>c.length - (intOf i).toNat)
      case atStart=>exact ⟨0,none,0,rfl,by omega,jU,D5,World.ownsRow_nil _ _ _ _,hc22,pR⟩
      case round=>
       obtain ⟨j,a3,c3,rfl,hj,xJ,hbr,hsr,hnr,Cu⟩:=hrel;by_cases Yf:j<c.length
       · have p0:(j:Int)<(c.length:Int):=by omega
         have hjl:j<c.length:=by omega
         have p1:(0:Int)≤(j:Int):=by omega
         have p2:(j:Int)<(l.length:Int):=by omega
         have p3:(j:Int)<(c.length:Int):=by omega
         have k0:wr.cell? ⟨gc,j,none⟩=some (.string c[j]):=aM hnr j _ (by rw [List.getElem?_map,List.getElem?_eq_getElem hjl];rfl);have zo:j<l.length:=by omega
         have k1:wr.cell? ⟨gv,j*3,none⟩=some (.int .i64 l[j].ty):=aM Cu (j*3) _ (by have:=iq l j 0 zo (by omega);rw [Nat.add_zero]at this;rw [this];rfl);have k2:wr.cell? ⟨gv,j*3+1,none⟩=some (.string l[j].s):=aM Cu (j*3+1) _ (by rw [iq l j 1 zo (by omega)];rfl);have k3:wr.cell? ⟨gv,j*3+2,none⟩=some (.int .i64 l[j].n):=aM Cu (j*3+2) _ (by rw [iq l j 2 zo (by omega)];rfl);have y12:=(bn hbr).2.2.2.2.2.2.2.2.2.2.2.2.1;have WE:=ak hbr 12;have Yg:=xJ.size;have z0:=aG hbr;have z1:gc<wr.heap.size:=eH k0;have z2:gv<wr.heap.size:=eH k1;have HX:=Lib.hid (uW c l j hjl zo);generalize c[j]=nm at *;generalize l[j]=tm at *;clear zo;go_wp2_with fail
         go_region_law (refine jT Tryz.Fe rfl _ _ rfl w.heap.size _ _ _ rfl (hsr.alloc _) _ _ [.string nm, .int .i64 tm.ty, .string tm.s, .int .i64 tm.n] rfl rfl (fun j u hj=>by rw [jO,Nat.zero_add];exact bA _ _ _ j u hj) (by intro u hu;simp at hu;rcases hu with rfl|rfl|rfl|rfl<;>rfl) (by omega) (by simp;omega) ?_;intro g3 iR w3 h3 hg3 OI hl3;have hb3:w3.heap[w2.heap.size]? =some (.cells (aP {Sx.zero with kind:=5,dA:=o} au au (.slice a3 j c3) au au) 39 (0,0)):=(hg3.block _ (aG (ay hbr _)) (fun e=>fA hsr hbr (by decide) e.symm)).trans (ay hbr _);have y3:=(bn hb3).2.2.2.2.2.2.2.2.2.2.2.2.1;have u3:=ak hb3 12)
         all_goals
          have hg4:(wr.alloc (.cells #[.string nm, .int .i64 tm.ty, .string tm.s, .int .i64 tm.n] 43)).grownBy w3 (Value.slice a3 j c3).ownBlock:=⟨hg3.os,hg3.tape,hg3.output,hg3.size,hg3.block⟩;have hap:∀{e:TypeId} {sz nn:Nat} {u:Value} {ys:List Value},wr.ownsRow w.heap.size e sz u nn ys→43≠e→w3.ownsRow w.heap.size e sz u nn ys:=fun hu hne=>(eD hsr hu hne).keep (hu.alloc _) hg4
          have hD3:=(xJ.alloc _).grown hg4 (fun g hg2=>(hsr.lt g hg2).1);rw [←HX.out]at h3;go_wp2_with fail;go_roundw
          case rel=>exact ⟨j+1,some ⟨g3,0,none⟩,iR,by go_num,by omega,hD3.own hbx 12 _,qY hb3 _,aZ h3 hb3 (by decide) 12 _,aZ (hap hnr (by decide)) hb3 (by decide) 12 _,aZ (hap Cu (by decide)) hb3 (by decide) 12 _⟩
          case measure=>simp [intOf];omega
       · have jV:j=c.length:=by omega
         subst jV;have HZ:=zl c l (c.length) (by omega);have Yh:=zm c l;rw [HZ]at hsr;clear HZ;obtain ⟨Z,hZ⟩:∃Z,List.zipWith Pr.mk c l=Z:=⟨_,rfl⟩;rw [hZ]at hsr Yh;obtain ⟨⟨xu,Yi⟩,hu⟩:∃r,K.X.using_ (K.X.must σ2 [(⟨#[41]⟩:ah)]) true {Sx.zero with kind:=5,dA:=o,sets:=Z}=r:=⟨_,rfl⟩;have HU:=Lib.hid (nA K.X _ _ _ _ _ hu);have E8:=kX xJ hbx (x:={Sx.zero with kind:=5,dA:=o,sets:=Z}) hbr true;rw [hu]at E8;go_wp2_with fail;refine E8.mono ?_;rintro e AX ⟨rfl,Iw,mO,Iy⟩;have Iz:=Iy.row hsr hle hbr (by decide);have hBx:=ny;have MU:=uV;go_wp2_with (refine bK rfl _ rfl rfl rfl mO ?_);go_ret
         have HE:Hid (K.X.insert σ=(xu,Yi)):=by
          show _=_;have hi:=HIF.out;unfold Tx.insert;simp only [hq1,hq2,hq3,hq4,Jo,QO,hR,hi,hZ,hu]
         rw [HE.out];refine ⟨au,au,_,au,rfl,Iw, ?_⟩;obtain ⟨u1,u2,rfl⟩:=HU.out;refine ⟨World.ownsRow_nil _ _ _ _,World.ownsRow_nil _ _ _ _, ?_,World.ownsRow_nil _ _ _ _⟩;show AX.ownsRow w.heap.size _ 4 _ Z.length (fG Z);rw [show Z.length=c.length by omega];exact Iz
    · have q2:(l.length:Int)<(c.length:Int):=by omega
      have q3:¬(c.length:Int)≤(l.length:Int):=by omega
      have q4:(l.length:Int)≤(cc:Int):=by omega
      go_wp2_with fail
      go_loopw [6,7,56] (fun _ _ i wr=>∃(j:Nat) (a3:Option Addr) (c3:Nat),i= .int .i64 j∧j≤l.length∧Did K w (K.X.must σ2 [(⟨#[41]⟩:ah)]) wr∧wr.heap[w2.heap.size]? =some (.cells (aP {Sx.zero with kind:=5,dA:=o} au au (.slice a3 j c3) au au) 39 (0,0))∧wr.ownsRow w.heap.size 43 4 (.slice a3 j c3) j (fG (List.zipWith Pr.mk (c.take j) (l.take j)))∧wr.ownsRow w.heap.size 9 1 (.slice (some ⟨gc,0,none⟩) c.length cc) c.length (c.map Value.string)∧wr.ownsRow w.heap.size 41 3 (.slice (some ⟨gv,0,none⟩) l.length c2) l.length (ru l)) (fun _ _ i _=>l.length - (intOf i).toNat)
      case atStart=>exact ⟨0,none,0,rfl,by omega,jU,D5,World.ownsRow_nil _ _ _ _,hc22,pR⟩
      case round=>
       obtain ⟨j,a3,c3,rfl,hj,xJ,hbr,hsr,hnr,Cu⟩:=hrel;by_cases Yf:j<l.length
       · have p0:(j:Int)<(l.length:Int):=by omega
         have hjl:j<c.length:=by omega
         have p1:(0:Int)≤(j:Int):=by omega
         have p2:(j:Int)<(l.length:Int):=by omega
         have p3:(j:Int)<(c.length:Int):=by omega
         have k0:wr.cell? ⟨gc,j,none⟩=some (.string c[j]):=aM hnr j _ (by rw [List.getElem?_map,List.getElem?_eq_getElem hjl];rfl);have zo:j<l.length:=by omega
         have k1:wr.cell? ⟨gv,j*3,none⟩=some (.int .i64 l[j].ty):=aM Cu (j*3) _ (by have:=iq l j 0 zo (by omega);rw [Nat.add_zero]at this;rw [this];rfl);have k2:wr.cell? ⟨gv,j*3+1,none⟩=some (.string l[j].s):=aM Cu (j*3+1) _ (by rw [iq l j 1 zo (by omega)];rfl);have k3:wr.cell? ⟨gv,j*3+2,none⟩=some (.int .i64 l[j].n):=aM Cu (j*3+2) _ (by rw [iq l j 2 zo (by omega)];rfl);have y12:=(bn hbr).2.2.2.2.2.2.2.2.2.2.2.2.1;have WE:=ak hbr 12;have Yg:=xJ.size;have z0:=aG hbr;have z1:gc<wr.heap.size:=eH k0;have z2:gv<wr.heap.size:=eH k1;have HX:=Lib.hid (uW c l j hjl zo);generalize c[j]=nm at *;generalize l[j]=tm at *;clear zo;go_wp2_with fail
         go_region_law (refine jT Tryz.Fe rfl _ _ rfl w.heap.size _ _ _ rfl (hsr.alloc _) _ _ [.string nm, .int .i64 tm.ty, .string tm.s, .int .i64 tm.n] rfl rfl (fun j u hj=>by rw [jO,Nat.zero_add];exact bA _ _ _ j u hj) (by intro u hu;simp at hu;rcases hu with rfl|rfl|rfl|rfl<;>rfl) (by omega) (by simp;omega) ?_;intro g3 iR w3 h3 hg3 OI hl3;have hb3:w3.heap[w2.heap.size]? =some (.cells (aP {Sx.zero with kind:=5,dA:=o} au au (.slice a3 j c3) au au) 39 (0,0)):=(hg3.block _ (aG (ay hbr _)) (fun e=>fA hsr hbr (by decide) e.symm)).trans (ay hbr _);have y3:=(bn hb3).2.2.2.2.2.2.2.2.2.2.2.2.1;have u3:=ak hb3 12)
         all_goals
          have hg4:(wr.alloc (.cells #[.string nm, .int .i64 tm.ty, .string tm.s, .int .i64 tm.n] 43)).grownBy w3 (Value.slice a3 j c3).ownBlock:=⟨hg3.os,hg3.tape,hg3.output,hg3.size,hg3.block⟩;have hap:∀{e:TypeId} {sz nn:Nat} {u:Value} {ys:List Value},wr.ownsRow w.heap.size e sz u nn ys→43≠e→w3.ownsRow w.heap.size e sz u nn ys:=fun hu hne=>(eD hsr hu hne).keep (hu.alloc _) hg4
          have hD3:=(xJ.alloc _).grown hg4 (fun g hg2=>(hsr.lt g hg2).1);rw [←HX.out]at h3;go_wp2_with fail;go_roundw
          case rel=>exact ⟨j+1,some ⟨g3,0,none⟩,iR,by go_num,by omega,hD3.own hbx 12 _,qY hb3 _,aZ h3 hb3 (by decide) 12 _,aZ (hap hnr (by decide)) hb3 (by decide) 12 _,aZ (hap Cu (by decide)) hb3 (by decide) 12 _⟩
          case measure=>simp [intOf];omega
       · have jV:j=l.length:=by omega
         subst jV;have HZ:=zl c l (l.length) (by omega);have Yh:=zm c l;rw [HZ]at hsr;clear HZ;obtain ⟨Z,hZ⟩:∃Z,List.zipWith Pr.mk c l=Z:=⟨_,rfl⟩;rw [hZ]at hsr Yh;obtain ⟨⟨xu,Yi⟩,hu⟩:∃r,K.X.using_ (K.X.must σ2 [(⟨#[41]⟩:ah)]) true {Sx.zero with kind:=5,dA:=o,sets:=Z}=r:=⟨_,rfl⟩;have HU:=Lib.hid (nA K.X _ _ _ _ _ hu);have E8:=kX xJ hbx (x:={Sx.zero with kind:=5,dA:=o,sets:=Z}) hbr true;rw [hu]at E8;go_wp2_with fail;refine E8.mono ?_;rintro e AX ⟨rfl,Iw,mO,Iy⟩;have Iz:=Iy.row hsr hle hbr (by decide);have hBx:=ny;have MU:=uV;go_wp2_with (refine bK rfl _ rfl rfl rfl mO ?_);go_ret
         have HE:Hid (K.X.insert σ=(xu,Yi)):=by
          show _=_;have hi:=HIF.out;unfold Tx.insert;simp only [hq1,hq2,hq3,hq4,Jo,QO,hR,hi,hZ,hu]
         rw [HE.out];refine ⟨au,au,_,au,rfl,Iw, ?_⟩;obtain ⟨u1,u2,rfl⟩:=HU.out;refine ⟨World.ownsRow_nil _ _ _ _,World.ownsRow_nil _ _ _ _, ?_,World.ownsRow_nil _ _ _ _⟩;show AX.ownsRow w.heap.size _ 4 _ Z.length (fG Z);rw [show Z.length=l.length by omega];exact Iz
   |true=>
    rw [hs2]at hse;by_cases hll:l.length=c.length
    · have HIF:Hid ((if (K.X.sees σ2 (⟨#[41]⟩:ah)&&l.length !=c.length)=true then K.X.fail σ2 else σ2)=σ2):=by show _=_;rw [hs2,hll];simp
      have q9:((l.length:Int) !=(c.length:Int))=false:=by rw [hll];simp
      go_wp2_with fail;refine hse.mono ?_;rintro e Jq ⟨rfl,tZ⟩;have j6:=(Did.refl fZ.1).below tZ;have mM:=fZ.trans j6;have DZ:=j6.row ou hle;have KR:=j6.blk jF dK;have hc21:=j6.row aaD hle;have U6:=bS mM.1 (⟨#[41]⟩:ah);go_wp2_with fail;refine U6.mono ?_;rintro e Zt ⟨rfl,lQ⟩;have jU:=mM.trans lQ;have pR:=lQ.row DZ hle;have D5:=lQ.blk KR dK;have hc22:=lQ.row hc21 hle;have hcap:=Ir hc22;obtain ⟨_,_,hsl,hgc⟩:=aN hc22;cases hsl;obtain ⟨gc,rfl,_,acX,hcc⟩:=hgc hlc;obtain ⟨_,_,hsl,hgv⟩:=aN pR;cases hsl;obtain ⟨gv,rfl,_,acY,hvv⟩:=hgv hlv;clear hcc hgc hvv hgv;have q0:(0:Int)≤(c.length:Int):=by omega
      have q1:(0:Int)≤(l.length:Int):=by omega
      by_cases hcv:c.length≤l.length
      · have q2:¬(l.length:Int)<(c.length:Int):=by omega
        have q3:(c.length:Int)≤(l.length:Int):=by omega
        have q4:(c.length:Int)≤(cc:Int):=by omega
        go_wp2_with fail
        go_loopw [6,7,56] (fun _ _ i wr=>∃(j:Nat) (a3:Option Addr) (c3:Nat),i= .int .i64 j∧j≤c.length∧Did K w (K.X.must σ2 [(⟨#[41]⟩:ah)]) wr∧wr.heap[w2.heap.size]? =some (.cells (aP {Sx.zero with kind:=5,dA:=o} au au (.slice a3 j c3) au au) 39 (0,0))∧wr.ownsRow w.heap.size 43 4 (.slice a3 j c3) j (fG (List.zipWith Pr.mk (c.take j) (l.take j)))∧wr.ownsRow w.heap.size 9 1 (.slice (some ⟨gc,0,none⟩) c.length cc) c.length (c.map Value.string)∧wr.ownsRow w.heap.size 41 3 (.slice (some ⟨gv,0,none⟩) l.length c2) l.length (ru l)) (fun _ _ i _=>c.length - (intOf i).toNat)
        case atStart=>exact ⟨0,none,0,rfl,by omega,jU,D5,World.ownsRow_nil _ _ _ _,hc22,pR⟩
        case round=>
         obtain ⟨j,a3,c3,rfl,hj,xJ,hbr,hsr,hnr,Cu⟩:=hrel;by_cases Yf:j<c.length
         · have p0:(j:Int)<(c.length:Int):=by omega
           have hjl:j<c.length:=by omega
           have p1:(0:Int)≤(j:Int):=by omega
           have p2:(j:Int)<(l.length:Int):=by omega
           have p3:(j:Int)<(c.length:Int):=by omega
           have k0:wr.cell? ⟨gc,j,none⟩=some (.string c[j]):=aM hnr j _ (by rw [List.getElem?_map,List.getElem?_eq_getElem hjl];rfl);have zo:j<l.length:=by omega
           have k1:wr.cell? ⟨gv,j*3,none⟩=some (.int .i64 l[j].ty):=aM Cu (j*3) _ (by have:=iq l j 0 zo (by omega);rw [Nat.add_zero]at this;rw [this];rfl);have k2:wr.cell? ⟨gv,j*3+1,none⟩=some (.string l[j].s):=aM Cu (j*3+1) _ (by rw [iq l j 1 zo (by omega)];rfl);have k3:wr.cell? ⟨gv,j*3+2,none⟩=some (.int .i64 l[j].n):=aM Cu (j*3+2) _ (by rw [iq l j 2 zo (by omega)];rfl);have y12:=(bn hbr).2.2.2.2.2.2.2.2.2.2.2.2.1;have WE:=ak hbr 12;have Yg:=xJ.size;have z0:=aG hbr;have z1:gc<wr.heap.size:=eH k0;have z2:gv<wr.heap.size:=eH k1;have HX:=Lib.hid (uW c l j hjl zo);generalize c[j]=nm at *;generalize l[j]=tm at *;clear zo;go_wp2_with fail
           go_region_law (refine jT Tryz.Fe rfl _ _ rfl w.heap.size _ _ _ rfl (hsr.alloc _) _ _ [.string nm, .int .i64 tm.ty, .string tm.s, .int .i64 tm.n] rfl rfl (fun j u hj=>by rw [jO,Nat.zero_add];exact bA _ _ _ j u hj) (by intro u hu;simp at hu;rcases hu with rfl|rfl|rfl|rfl<;>rfl) (by omega) (by simp;omega) ?_;intro g3 iR w3 h3 hg3 OI hl3;have hb3:w3.heap[w2.heap.size]? =some (.cells (aP {Sx.zero with kind:=5,dA:=o} au au (.slice a3 j c3) au au) 39 (0,0)):=(hg3.block _ (aG (ay hbr _)) (fun e=>fA hsr hbr (by decide) e.symm)).trans (ay hbr _);have y3:=(bn hb3).2.2.2.2.2.2.2.2.2.2.2.2.1;have u3:=ak hb3 12)
           all_goals
            have hg4:(wr.alloc (.cells #[.string nm, .int .i64 tm.ty, .string tm.s, .int .i64 tm.n] 43)).grownBy w3 (Value.slice a3 j c3).ownBlock:=⟨hg3.os,hg3.tape,hg3.output,hg3.size,hg3.block⟩;have hap:∀{e:TypeId} {sz nn:Nat} {u:Value} {ys:List Value},wr.ownsRow w.heap.size e sz u nn ys→43≠e→w3.ownsRow w.heap.size e sz u nn ys:=fun hu hne=>(eD hsr hu hne).keep (hu.alloc _) hg4
            have hD3:=(xJ.alloc _).grown hg4 (fun g hg2=>(hsr.lt g hg2).1);rw [←HX.out]at h3;go_wp2_with fail;go_roundw
            case rel=>exact ⟨j+1,some ⟨g3,0,none⟩,iR,by go_num,by omega,hD3.own hbx 12 _,qY hb3 _,aZ h3 hb3 (by decide) 12 _,aZ (hap hnr (by decide)) hb3 (by decide) 12 _,aZ (hap Cu (by decide)) hb3 (by decide) 12 _⟩
            case measure=>simp [intOf];omega
         · have jV:j=c.length:=by omega
           subst jV;have HZ:=zl c l (c.length) (by omega);have Yh:=zm c l;rw [HZ]at hsr;clear HZ;obtain ⟨Z,hZ⟩:∃Z,List.zipWith Pr.mk c l=Z:=⟨_,rfl⟩;rw [hZ]at hsr Yh;obtain ⟨⟨xu,Yi⟩,hu⟩:∃r,K.X.using_ (K.X.must σ2 [(⟨#[41]⟩:ah)]) true {Sx.zero with kind:=5,dA:=o,sets:=Z}=r:=⟨_,rfl⟩;have HU:=Lib.hid (nA K.X _ _ _ _ _ hu);have E8:=kX xJ hbx (x:={Sx.zero with kind:=5,dA:=o,sets:=Z}) hbr true;rw [hu]at E8;go_wp2_with fail;refine E8.mono ?_;rintro e AX ⟨rfl,Iw,mO,Iy⟩;have Iz:=Iy.row hsr hle hbr (by decide);have hBx:=ny;have MU:=uV;go_wp2_with (refine bK rfl _ rfl rfl rfl mO ?_);go_ret
           have HE:Hid (K.X.insert σ=(xu,Yi)):=by
            show _=_;have hi:=HIF.out;unfold Tx.insert;simp only [hq1,hq2,hq3,hq4,Jo,QO,hR,hi,hZ,hu]
           rw [HE.out];refine ⟨au,au,_,au,rfl,Iw, ?_⟩;obtain ⟨u1,u2,rfl⟩:=HU.out;refine ⟨World.ownsRow_nil _ _ _ _,World.ownsRow_nil _ _ _ _, ?_,World.ownsRow_nil _ _ _ _⟩;show AX.ownsRow w.heap.size _ 4 _ Z.length (fG Z);rw [show Z.length=c.length by omega];exact Iz
      · exact absurd hll (by omega)
    · have HIF:Hid ((if (K.X.sees σ2 (⟨#[41]⟩:ah)&&l.length !=c.length)=true then K.X.fail σ2 else σ2)=K.X.fail σ2):=by show _=_;rw [hs2,if_pos (by simp [hll])]
      have q9:((l.length:Int) !=(c.length:Int))=true:=bne_iff_ne.2 (by omega);go_wp2_with fail;refine hse.mono ?_;rintro e w31 ⟨rfl,U7⟩;have hd31:=(Did.refl fZ.1).below U7;have KS:=fZ.trans hd31;have afd:=iQ KS.1;go_wp2_with fail;refine afd.mono ?_;rintro e w32 ⟨rfl,m32,rfl⟩;have hd32:=(Did.refl KS.1).drewN m32;have hw32:=gM hd32.1 (K.X.here σ2);go_wp2_with fail;refine hw32.mono ?_;rintro e Jq ⟨rfl,D6⟩;have j6:=(hd31.trans hd32).trans D6;have mM:Did K w (K.X.fail σ2) Jq:=fZ.trans j6;have DZ:=j6.row ou hle;have KR:=j6.blk jF dK;have hc21:=j6.row aaD hle;have U6:=bS mM.1 (⟨#[41]⟩:ah);go_wp2_with fail;refine U6.mono ?_;rintro e Zt ⟨rfl,lQ⟩;have jU:=mM.trans lQ;have pR:=lQ.row DZ hle;have D5:=lQ.blk KR dK;have hc22:=lQ.row hc21 hle;have hcap:=Ir hc22;obtain ⟨_,_,hsl,hgc⟩:=aN hc22;cases hsl;obtain ⟨gc,rfl,_,acX,hcc⟩:=hgc hlc;obtain ⟨_,_,hsl,hgv⟩:=aN pR;cases hsl;obtain ⟨gv,rfl,_,acY,hvv⟩:=hgv hlv;clear hcc hgc hvv hgv;have q0:(0:Int)≤(c.length:Int):=by omega
      have q1:(0:Int)≤(l.length:Int):=by omega
      by_cases hcv:c.length≤l.length
      · have q2:¬(l.length:Int)<(c.length:Int):=by omega
        have q3:(c.length:Int)≤(l.length:Int):=by omega
        have q4:(c.length:Int)≤(cc:Int):=by omega
        go_wp2_with fail
        go_loopw [6,7,56] (fun _ _ i wr=>∃(j:Nat) (a3:Option Addr) (c3:Nat),i= .int .i64 j∧j≤c.length∧Did K w (K.X.must (K.X.fail σ2) [(⟨#[41]⟩:ah)]) wr∧wr.heap[w2.heap.size]? =some (.cells (aP {Sx.zero with kind:=5,dA:=o} au au (.slice a3 j c3) au au) 39 (0,0))∧wr.ownsRow w.heap.size 43 4 (.slice a3 j c3) j (fG (List.zipWith Pr.mk (c.take j) (l.take j)))∧wr.ownsRow w.heap.size 9 1 (.slice (some ⟨gc,0,none⟩) c.length cc) c.length (c.map Value.string)∧wr.ownsRow w.heap.size 41 3 (.slice (some ⟨gv,0,none⟩) l.length c2) l.length (ru l)) (fun _ _ i _=>c.length - (intOf i).toNat)
        case atStart=>exact ⟨0,none,0,rfl,by omega,jU,D5,World.ownsRow_nil _ _ _ _,hc22,pR⟩
        case round=>
         obtain ⟨j,a3,c3,rfl,hj,xJ,hbr,hsr,hnr,Cu⟩:=hrel;by_cases Yf:j<c.length
         · have p0:(j:Int)<(c.length:Int):=by omega
           have hjl:j<c.length:=by omega
           have p1:(0:Int)≤(j:Int):=by omega
           have p2:(j:Int)<(l.length:Int):=by omega
           have p3:(j:Int)<(c.length:Int):=by omega
           have k0:wr.cell? ⟨gc,j,none⟩=some (.string c[j]):=aM hnr j _ (by rw [List.getElem?_map,List.getElem?_eq_getElem hjl];rfl);have zo:j<l.length:=by omega
           have k1:wr.cell? ⟨gv,j*3,none⟩=some (.int .i64 l[j].ty):=aM Cu (j*3) _ (by have:=iq l j 0 zo (by omega);rw [Nat.add_zero]at this;rw [this];rfl);have k2:wr.cell? ⟨gv,j*3+1,none⟩=some (.string l[j].s):=aM Cu (j*3+1) _ (by rw [iq l j 1 zo (by omega)];rfl);have k3:wr.cell? ⟨gv,j*3+2,none⟩=some (.int .i64 l[j].n):=aM Cu (j*3+2) _ (by rw [iq l j 2 zo (by omega)];rfl);have y12:=(bn hbr).2.2.2.2.2.2.2.2.2.2.2.2.1;have WE:=ak hbr 12;have Yg:=xJ.size;have z0:=aG hbr;have z1:gc<wr.heap.size:=eH k0;have z2:gv<wr.heap.size:=eH k1;have HX:=Lib.hid (uW c l j hjl zo);generalize c[j]=nm at *;generalize l[j]=tm at *;clear zo;go_wp2_with fail
           go_region_law (refine jT Tryz.Fe rfl _ _ rfl w.heap.size _ _ _ rfl (hsr.alloc _) _ _ [.string nm, .int .i64 tm.ty, .string tm.s, .int .i64 tm.n] rfl rfl (fun j u hj=>by rw [jO,Nat.zero_add];exact bA _ _ _ j u hj) (by intro u hu;simp at hu;rcases hu with rfl|rfl|rfl|rfl<;>rfl) (by omega) (by simp;omega) ?_;intro g3 iR w3 h3 hg3 OI hl3;have hb3:w3.heap[w2.heap.size]? =some (.cells (aP {Sx.zero with kind:=5,dA:=o} au au (.slice a3 j c3) au au) 39 (0,0)):=(hg3.block _ (aG (ay hbr _)) (fun e=>fA hsr hbr (by decide) e.symm)).trans (ay hbr _);have y3:=(bn hb3).2.2.2.2.2.2.2.2.2.2.2.2.1;have u3:=ak hb3 12)
           all_goals
            have hg4:(wr.alloc (.cells #[.string nm, .int .i64 tm.ty, .string tm.s, .int .i64 tm.n] 43)).grownBy w3 (Value.slice a3 j c3).ownBlock:=⟨hg3.os,hg3.tape,hg3.output,hg3.size,hg3.block⟩;have hap:∀{e:TypeId} {sz nn:Nat} {u:Value} {ys:List Value},wr.ownsRow w.heap.size e sz u nn ys→43≠e→w3.ownsRow w.heap.size e sz u nn ys:=fun hu hne=>(eD hsr hu hne).keep (hu.alloc _) hg4
            have hD3:=(xJ.alloc _).grown hg4 (fun g hg2=>(hsr.lt g hg2).1);rw [←HX.out]at h3;go_wp2_with fail;go_roundw
            case rel=>exact ⟨j+1,some ⟨g3,0,none⟩,iR,by go_num,by omega,hD3.own hbx 12 _,qY hb3 _,aZ h3 hb3 (by decide) 12 _,aZ (hap hnr (by decide)) hb3 (by decide) 12 _,aZ (hap Cu (by decide)) hb3 (by decide) 12 _⟩
            case measure=>simp [intOf];omega
         · have jV:j=c.length:=by omega
           subst jV;have HZ:=zl c l (c.length) (by omega);have Yh:=zm c l;rw [HZ]at hsr;clear HZ;obtain ⟨Z,hZ⟩:∃Z,List.zipWith Pr.mk c l=Z:=⟨_,rfl⟩;rw [hZ]at hsr Yh;obtain ⟨⟨xu,Yi⟩,hu⟩:∃r,K.X.using_ (K.X.must (K.X.fail σ2) [(⟨#[41]⟩:ah)]) true {Sx.zero with kind:=5,dA:=o,sets:=Z}=r:=⟨_,rfl⟩;have HU:=Lib.hid (nA K.X _ _ _ _ _ hu);have E8:=kX xJ hbx (x:={Sx.zero with kind:=5,dA:=o,sets:=Z}) hbr true;rw [hu]at E8;go_wp2_with fail;refine E8.mono ?_;rintro e AX ⟨rfl,Iw,mO,Iy⟩;have Iz:=Iy.row hsr hle hbr (by decide);have hBx:=ny;have MU:=uV;go_wp2_with (refine bK rfl _ rfl rfl rfl mO ?_);go_ret
           have HE:Hid (K.X.insert σ=(xu,Yi)):=by
            show _=_;have hi:=HIF.out;unfold Tx.insert;simp only [hq1,hq2,hq3,hq4,Jo,QO,hR,hi,hZ,hu]
           rw [HE.out];refine ⟨au,au,_,au,rfl,Iw, ?_⟩;obtain ⟨u1,u2,rfl⟩:=HU.out;refine ⟨World.ownsRow_nil _ _ _ _,World.ownsRow_nil _ _ _ _, ?_,World.ownsRow_nil _ _ _ _⟩;show AX.ownsRow w.heap.size _ 4 _ Z.length (fG Z);rw [show Z.length=c.length by omega];exact Iz
      · have q2:(l.length:Int)<(c.length:Int):=by omega
        have q3:¬(c.length:Int)≤(l.length:Int):=by omega
        have q4:(l.length:Int)≤(cc:Int):=by omega
        go_wp2_with fail
        go_loopw [6,7,56] (fun _ _ i wr=>∃(j:Nat) (a3:Option Addr) (c3:Nat),i= .int .i64 j∧j≤l.length∧Did K w (K.X.must (K.X.fail σ2) [(⟨#[41]⟩:ah)]) wr∧wr.heap[w2.heap.size]? =some (.cells (aP {Sx.zero with kind:=5,dA:=o} au au (.slice a3 j c3) au au) 39 (0,0))∧wr.ownsRow w.heap.size 43 4 (.slice a3 j c3) j (fG (List.zipWith Pr.mk (c.take j) (l.take j)))∧wr.ownsRow w.heap.size 9 1 (.slice (some ⟨gc,0,none⟩) c.length cc) c.length (c.map Value.string)∧wr.ownsRow w.heap.size 41 3 (.slice (some ⟨gv,0,none⟩) l.length c2) l.length (ru l)) (fun _ _ i _=>l.length - (intOf i).toNat)
        case atStart=>exact ⟨0,none,0,rfl,by omega,jU,D5,World.ownsRow_nil _ _ _ _,hc22,pR⟩
        case round=>
         obtain ⟨j,a3,c3,rfl,hj,xJ,hbr,hsr,hnr,Cu⟩:=hrel;by_cases Yf:j<l.length
         · have p0:(j:Int)<(l.length:Int):=by omega
           have hjl:j<c.length:=by omega
           have p1:(0:Int)≤(j:Int):=by omega
           have p2:(j:Int)<(l.length:Int):=by omega
           have p3:(j:Int)<(c.length:Int):=by omega
           have k0:wr.cell? ⟨gc,j,none⟩=some (.string c[j]):=aM hnr j _ (by rw [List.getElem?_map,List.getElem?_eq_getElem hjl];rfl);have zo:j<l.length:=by omega
           have k1:wr.cell? ⟨gv,j*3,none⟩=some (.int .i64 l[j].ty):=aM Cu (j*3) _ (by have:=iq l j 0 zo (by omega);rw [Nat.add_zero]at this;rw [this];rfl);have k2:wr.cell? ⟨gv,j*3+1,none⟩=some (.string l[j].s):=aM Cu (j*3+1) _ (by rw [iq l j 1 zo (by omega)];rfl);have k3:wr.cell? ⟨gv,j*3+2,none⟩=some (.int .i64 l[j].n):=aM Cu (j*3+2) _ (by rw [iq l j 2 zo (by omega)];rfl);have y12:=(bn hbr).2.2.2.2.2.2.2.2.2.2.2.2.1;have WE:=ak hbr 12;have Yg:=xJ.size;have z0:=aG hbr;have z1:gc<wr.heap.size:=eH k0;have z2:gv<wr.heap.size:=eH k1;have HX:=Lib.hid (uW c l j hjl zo);generalize c[j]=nm at *;generalize l[j]=tm at *;clear zo;go_wp2_with fail
           go_region_law (refine jT Tryz.Fe rfl _ _ rfl w.heap.size _ _ _ rfl (hsr.alloc _) _ _ [.string nm, .int .i64 tm.ty, .string tm.s, .int .i64 tm.n] rfl rfl (fun j u hj=>by rw [jO,Nat.zero_add];exact bA _ _ _ j u hj) (by intro u hu;simp at hu;rcases hu with rfl|rfl|rfl|rfl<;>rfl) (by omega) (by simp;omega) ?_;intro g3 iR w3 h3 hg3 OI hl3;have hb3:w3.heap[w2.heap.size]? =some (.cells (aP {Sx.zero with kind:=5,dA:=o} au au (.slice a3 j c3) au au) 39 (0,0)):=(hg3.block _ (aG (ay hbr _)) (fun e=>fA hsr hbr (by decide) e.symm)).trans (ay hbr _);have y3:=(bn hb3).2.2.2.2.2.2.2.2.2.2.2.2.1;have u3:=ak hb3 12)
           all_goals
            have hg4:(wr.alloc (.cells #[.string nm, .int .i64 tm.ty, .string tm.s, .int .i64 tm.n] 43)).grownBy w3 (Value.slice a3 j c3).ownBlock:=⟨hg3.os,hg3.tape,hg3.output,hg3.size,hg3.block⟩;have hap:∀{e:TypeId} {sz nn:Nat} {u:Value} {ys:List Value},wr.ownsRow w.heap.size e sz u nn ys→43≠e→w3.ownsRow w.heap.size e sz u nn ys:=fun hu hne=>(eD hsr hu hne).keep (hu.alloc _) hg4
            have hD3:=(xJ.alloc _).grown hg4 (fun g hg2=>(hsr.lt g hg2).1);rw [←HX.out]at h3;go_wp2_with fail;go_roundw
            case rel=>exact ⟨j+1,some ⟨g3,0,none⟩,iR,by go_num,by omega,hD3.own hbx 12 _,qY hb3 _,aZ h3 hb3 (by decide) 12 _,aZ (hap hnr (by decide)) hb3 (by decide) 12 _,aZ (hap Cu (by decide)) hb3 (by decide) 12 _⟩
            case measure=>simp [intOf];omega
         · have jV:j=l.length:=by omega
           subst jV;have HZ:=zl c l (l.length) (by omega);have Yh:=zm c l;rw [HZ]at hsr;clear HZ;obtain ⟨Z,hZ⟩:∃Z,List.zipWith Pr.mk c l=Z:=⟨_,rfl⟩;rw [hZ]at hsr Yh;obtain ⟨⟨xu,Yi⟩,hu⟩:∃r,K.X.using_ (K.X.must (K.X.fail σ2) [(⟨#[41]⟩:ah)]) true {Sx.zero with kind:=5,dA:=o,sets:=Z}=r:=⟨_,rfl⟩;have HU:=Lib.hid (nA K.X _ _ _ _ _ hu);have E8:=kX xJ hbx (x:={Sx.zero with kind:=5,dA:=o,sets:=Z}) hbr true;rw [hu]at E8;go_wp2_with fail;refine E8.mono ?_;rintro e AX ⟨rfl,Iw,mO,Iy⟩;have Iz:=Iy.row hsr hle hbr (by decide);have hBx:=ny;have MU:=uV;go_wp2_with (refine bK rfl _ rfl rfl rfl mO ?_);go_ret
           have HE:Hid (K.X.insert σ=(xu,Yi)):=by
            show _=_;have hi:=HIF.out;unfold Tx.insert;simp only [hq1,hq2,hq3,hq4,Jo,QO,hR,hi,hZ,hu]
           rw [HE.out];refine ⟨au,au,_,au,rfl,Iw, ?_⟩;obtain ⟨u1,u2,rfl⟩:=HU.out;refine ⟨World.ownsRow_nil _ _ _ _,World.ownsRow_nil _ _ _ _, ?_,World.ownsRow_nil _ _ _ _⟩;show AX.ownsRow w.heap.size _ 4 _ Z.length (fG Z);rw [show Z.length=l.length by omega];exact Iz
end Go.Proofs.YtnngbhpeeakfaaaGreatDoor
