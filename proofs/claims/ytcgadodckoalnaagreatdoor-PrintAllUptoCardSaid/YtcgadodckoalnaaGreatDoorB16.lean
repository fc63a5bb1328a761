/- Parts of a proof. -/
import Derived.Test.YtcgadodckoalnaaGreatDoorB15
set_option maxHeartbeats 4000000
set_option maxRecDepth 100000
namespace Go.Proofs.YtcgadodckoalnaaGreatDoor
open Go.Proofs.Tryz
open Go.RowKit
open aN
theorem LJ {w:World}{base:Nat}{v:Value}{l:List ByteArray}(hown:w.ownsRow base 9 1 v l.length (l.map Value.string)) (hl:l.length≤200000) (x:ByteArray):
 Calls prog 143 #[v, .string x] w fun e w' =>e= .returned (.bool (pW x l))∧w' =w:=by
 obtain ⟨a,cap,rfl,hr⟩:=aY hown;by_cases h0:0<l.length
 · obtain ⟨g,rfl,_,_,hc⟩:=hr h0
   have:=Tryz.slices_Contains_string g 0 l.length cap l x w (Nat.le_refl _) (by omega) (fun j hj=>by
    rw [Nat.zero_add,List.getD_eq_getElem?_getD,List.getElem?_eq_getElem hj];exact hc j _ (by rw [List.getElem?_map,List.getElem?_eq_getElem hj];rfl))
   rw [List.take_length,tQ]at this;exact this
 · have hl0:l= []:=List.eq_nil_of_length_eq_zero (by omega);subst hl0;exact Tryz.slices_Contains_string_empty a cap x w
theorem FC {K:PK}{w:World}{σ:Ps}(h:PQ K w σ) {base:Nat}{v:Value}{l:List ByteArray}(hown:w.ownsRow base 9 1 v l.length (l.map Value.string)) (hb:K.L≤base) (hl:l.length≤200000) (but:ByteArray):
 Calls prog 115 #[.pointer (some ⟨K.b,0,none⟩),v, .string but] w (yc K w (.string (K.X.one σ l but).1) (K.X.one σ l but).2):=by
 have hD:=Did.refl h;have ha:=jH h;obtain ⟨a0,cap0,rfl,_⟩:=aY hown;obtain ⟨⟨x,σ2⟩,hx⟩:∃r,K.X.name σ=r:=⟨_,rfl⟩;have HE:Hid (K.X.one σ l but=(x,if !pW x l||jf x but then σ2.wrong (K.X.here σ)else σ2)):=by show _=_;unfold Tx.one;simp only [hx]
 generalize K.X.here σ=zH at *;have e1:=dR x but;cases hc:pW x l<;>cases hq:jf x but
 all_goals
  rw [hc,hq]at HE;rw [hq]at e1;go_enter func115,ntmps115;go_wp2_with fail;refine ha.mono ?_;rintro e w1 ⟨rfl,m,rfl⟩;replace hD:=hD.drewN m;have hnm:=gu hD.1;rw [hx]at hnm;go_wp2_with fail;refine hnm.mono ?_;rintro e w3 ⟨rfl,hd3⟩;replace hD:=hD.trans hd3;have hcon:=LJ (hD.row hown hb) hl x;rw [hc]at hcon;go_wp2_with fail;refine hcon.mono ?_;rintro e w4 ⟨rfl,rfl⟩;have hw2:=iN hD.1 zH;go_wp2_with fail
  first
   |(refine hw2.mono ?_;rintro e w5 ⟨rfl,hd5⟩
     go_wp2_with fail;go_ret;rw [HE.out];exact ⟨rfl,hD.trans hd5⟩)
   |(go_ret
     rw [HE.out];exact ⟨rfl,hD⟩)
theorem Tryz.UU:X0 prog 24 23 (.agg #[.string ⟨#[]⟩, .int .i64 0]) 2 24:=DC underlying24 (by kernel_rfl) rfl (by decide)
theorem rM (l:List Cl) (p:Cl):iO (l++ [p])=iO l++mJ p:=by simp [iO]
theorem He {σ:Ps}{a:Nat}(h:(σ.wrong a).bad=none):σ.bad=none:=by
 unfold Ps.wrong at h;cases hb:σ.bad with
 |none=>rfl
 |some b=>rw [hb]at h;rw [hb]at h;exact h
theorem zf {X:Tx}{σ:Ps}:(X.fail σ).bad≠none:=by
 unfold Tx.fail Ps.wrong;cases hb:σ.bad with
 |none=>simp
 |some b=>rw [hb];simp
theorem Aw {X:Tx}{σ:Ps}{s:ByteArray}(h:(X.must σ [s]).bad=none):σ.bad=none:=by
 replace h:(X.bC σ s).bad=none:=h;unfold Tx.bC at h;split at h
 · exact h
 · exact absurd h zf
theorem Yu (X:Tx) (σ:Ps):σ.i≤(X.kind σ).2.i:=by
 unfold Tx.kind;split
 · show σ.i≤σ.i+1;omega
 · exact Ck X σ _
theorem Ki {X:Tx}{σ:Ps}(h:(X.kind σ).2.bad=none):σ.bad=none:=by
 unfold Tx.kind at h;split at h
 · exact h
 · exact Aw h
theorem SE {X:Tx}{σ:Ps}(h:(X.name σ).2.bad=none):σ.bad=none∧σ.i<X.T.length∧(X.name σ).2.i=σ.i+1:=by
 unfold Tx.name at h⊢;split at h
 · rename_i t hx;split at h
   · exact absurd h zf
   · rename_i hr;obtain ⟨h1,h2⟩:=next_lt (X:=X) (σ:=σ) (k:=1) (by rw [hx];rfl);simp only [hr];exact ⟨h2,h1,rfl⟩
 · exact absurd h zf
theorem UW {X:Tx}{σ:Ps}{l:List ByteArray}{most:Nat}(h:(X.column σ l most).2.bad=none):σ.i<X.T.length∧σ.i+1≤(X.column σ l most).2.i:=by
 unfold Tx.column at h⊢
 have e:∀(b:Bool) (τ:Ps) (a:Nat),(if b=true then τ.wrong a else τ).bad=none→τ.bad=none:=by
  intro b τ a hh;cases b
  · exact hh
  · exact He hh
 have h1:=e _ _ _ h;have ei:∀(b:Bool) (τ:Ps) (a:Nat),(if b=true then τ.wrong a else τ).i=τ.i:=by intro b τ a;cases b<;>simp [oK]
 simp only [ei];obtain ⟨h2,h3,h4⟩:=SE h1;have es:(if most≤l.length then σ.wrong (X.here σ)else σ).i=σ.i:=by split<;>simp [oK]
 rw [es]at h3 h4;exact ⟨h3,by omega⟩
theorem oZ:∀(l:List Cl) (k j:Nat) (h:k<l.length) (_:j<2),(iO l)[k*2+j]? =(mJ l[k])[j]?
 |p::l,0,j,_,hj=>by
  simp only [iO,List.flatMap_cons,Nat.zero_mul,Nat.zero_add,List.getElem_cons_zero];rw [List.getElem?_append_left (by simp [mJ];omega)]
 |p::l,k+1,j,h,hj=>by
  have:=oZ l k j (by simp at h;omega) hj;simp only [iO,List.flatMap_cons,List.getElem_cons_succ]at this⊢;rw [List.getElem?_append_right (by simp [mJ];omega)];have e:(k+1)*2+j - (mJ p).length=k*2+j:=by simp [mJ];omega
  rw [e];exact this
theorem QA (pk ck:ByteArray) (C:List Cl) (x:Sx) (j:Nat) (h:j<C.length):(C.take (j+1)).foldl (fun x c=>Tx.place x pk ck c) x=Tx.place ((C.take j).foldl (fun x c=>Tx.place x pk ck c) x) pk ck C[j]:=by
 rw [List.take_succ_eq_append_getElem h,List.foldl_append];rfl
theorem yw (pk ck:ByteArray) (C:List Cl) (x:Sx) (j:Nat) (h:j<C.length) {q:Cl}(hq:C[j]=q):(C.take (j+1)).foldl (fun x c=>Tx.place x pk ck c) x=Tx.place ((C.take j).foldl (fun x c=>Tx.place x pk ck c) x) pk ck q:=by rw [←hq];exact QA pk ck C x j h
theorem sQ (w:World) (o:Obj) (L:List Value) (t:TypeId):∀j u,L[j]? =some u→((w.alloc o).alloc (.cells L.toArray t)).cell? ⟨w.heap.size+1,j,none⟩=some u:=by
 intro j u hj;have:=bg (w.alloc o) L t j u hj;rw [av]at this;exact this
theorem ab8 {T i j:Nat}(h1:i<T) (h2:i+1≤j):T - j+1<T - i+1:=by omega
theorem ab9 {T i j n:Nat}(h:T - i<n+1) (h1:i<T) (h2:i+1≤j):T - j<n:=by omega
def SF (K:PK) (w:World):Nat:=match w.cell? ⟨K.b,3,none⟩with|some (.int _ v)=>if v<0 then K.X.T.length - UG K w+1 else 0|_=>0
theorem Oc {K:PK}{w:World}{σ:Ps}(h:PQ K w σ) (hb:σ.bad=none):SF K w=K.X.T.length - σ.i+1:=by
 obtain ⟨_,_,_,_,_,c3,_⟩:=h.cells;have hi:=Aq h;unfold SF;rw [c3];have:σ.fT= -1:=by unfold Ps.fT;rw [hb]
 rw [this,hi];rfl
theorem Yv {K:PK}{w:World}{σ:Ps}(h:PQ K w σ) (hb:σ.bad≠none):SF K w=0:=by
 obtain ⟨_,_,_,_,_,c3,_⟩:=h.cells;unfold SF;rw [c3];cases hx:σ.bad with
 |none=>exact absurd hx hb
 |some a=>
  have:σ.fT=(a:Int):=by unfold Ps.fT;rw [hx]
  rw [this];simp
theorem UY {K:PK}{w:World}{σ:Ps}(h:PQ K w σ):
 Calls prog 68 #[.pointer (some ⟨K.b,0,none⟩)] w (iH K w 100 (K.X.table σ).1 (K.X.table σ).2):=by
 have hle:=h.le;have hD0:=Did.refl h;obtain ⟨⟨x,σ1⟩,hq1⟩:∃r,K.X.name σ=r:=⟨_,rfl⟩;obtain ⟨σ2,hq2⟩:∃r,K.X.must σ1 [(⟨#[40]⟩:ah)]=r:=⟨_,rfl⟩;obtain ⟨⟨lf,Cf,nN⟩,hR⟩:∃r,K.X.gI (K.X.T.length+1) σ2 [] []=r:=⟨_,rfl⟩;obtain ⟨Yw,ha⟩:∃r,K.X.must nN [(⟨#[107,101,121]⟩:ah),(⟨#[40]⟩:ah)]=r:=⟨_,rfl⟩;obtain ⟨⟨pk,Wq⟩,hpb⟩:∃r,K.X.one Yw lf ⟨#[]⟩=r:=⟨_,rfl⟩;obtain ⟨ZY,hc0⟩:∃r,K.X.must Wq [(⟨#[44]⟩:ah)]=r:=⟨_,rfl⟩;obtain ⟨⟨ck,Z0⟩,hcd⟩:∃r,K.X.one ZY lf pk=r:=⟨_,rfl⟩;obtain ⟨QB,he⟩:∃r,K.X.must Z0 [(⟨#[41]⟩:ah),(⟨#[41]⟩:ah)]=r:=⟨_,rfl⟩;have HE:Hid (K.X.table σ=(Cf.foldl (fun x c=>Tx.place x pk ck c) {Sx.zero with kind:=1,name:=x,bG:=x},QB)):=by show _=_;unfold Tx.table;simp only [hq1,hq2,hR,ha,hpb,hc0,hcd,he]
 have HT:=Lib.hid K.hT;go_enter func68,ntmps68;have hm1:=gu hD0.1;rw [hq1]at hm1;try simp only at hm1
 go_wp2_with fail;refine hm1.mono ?_;rintro e w1 ⟨rfl,hd1⟩;have hD1:=hD0.trans hd1;have hB2:=Ca 1 x;have dW:K.L≤w1.heap.size:=Nat.le_trans hle hD1.size;have hbx:w.heap.size≤w1.heap.size:=hD1.size;have hblk2:(w1.alloc (.cells (aG {Sx.zero with kind:=1,name:=x,bG:=x} ak ak ak ak ak) 31)).heap[w1.heap.size]? =some (.cells (aG {Sx.zero with kind:=1,name:=x,bG:=x} ak ak ak ak ak) 31 (0,0)):=aA w1 _;have hD2:=hD1.alloc (.cells (aG {Sx.zero with kind:=1,name:=x,bG:=x} ak ak ak ak ak) 31);have oL:=bC hD2.1 (⟨#[40]⟩:ah);rw [hq2]at oL;try simp only [av]at oL
 go_wp2_with (refine lT rfl _ _ rfl rfl rfl rfl rfl ?_);refine oL.mono ?_;rintro e w3 ⟨rfl,hd3⟩;have hD3:=hD2.trans hd3;have hblk3:=hd3.blk hblk2 dW;go_wp2_with fail
 go_loopw [4,5] (fun names aI wr=>∃(l:List ByteArray) (a:Option Addr) (c:Nat) (C:List Cl) (a3:Option Addr) (c3:Nat) (σ2:Ps) (n:Nat),names= .slice a l.length c∧aI= .slice a3 C.length c3∧Did K w σ2 wr∧wr.heap[w1.heap.size]? =some (.cells (aG {Sx.zero with kind:=1,name:=x,bG:=x} ak ak ak ak ak) 31 (0,0))∧wr.ownsRow w.heap.size 23 2 (.slice a3 C.length c3) C.length (iO C)∧wr.ownsRow w.heap.size 9 1 (.slice a l.length c) l.length (l.map Value.string)∧Hid (K.X.gI n σ2 l C=(lf,Cf,nN))∧(σ2.bad=none→K.X.T.length - σ2.i<n)∧l.length+n≤K.X.T.length+1∧Hid (C.length=l.length)) (fun _ _ wr=>SF K wr)
 case atStart=>exact ⟨[],none,0, [],none,0,σ2,K.X.T.length+1,rfl,rfl,hD3,hblk3,World.ownsRow_nil _ _ _ _,World.ownsRow_nil _ _ _ _,hR,fun _=>by omega,by simp,rfl⟩
 case round=>
  obtain ⟨l,a,c,C,a3,c3,σ2,n,rfl,rfl,hD,hb,hs,hnr,HR,hn,hln,ME⟩:=hrel;have hT:=HT.out;have hsz:=hD.size;cases hbad:σ2.bad with
  |some bd=>
   have hok:=wN hD.1 (v:=false) (by rw [hbad];rfl)
   have HR2:(l,C,σ2)=(lf,Cf,nN):=by
    have h:=HR.out;cases n with
    |zero=>exact h
    |succ n=>rw [Tx.gI,hbad]at h;exact h
   cases HR2;go_wp2_with fail;refine hok.mono ?_;rintro e I6 ⟨rfl,m20,rfl⟩;have eH:=(Did.refl hD.1).drewN m20;have iA:=hD.trans eH;have kN:=eH.blk hb dW;have Oa:=eH.row hs hle;have QC:=eH.row hnr hle;have Yx:=NQ iA.1 (⟨#[107,101,121]⟩:ah) (⟨#[40]⟩:ah);rw [ha]at Yx;go_wp2_with fail;refine Yx.mono ?_;rintro e w31 ⟨rfl,hd31⟩;have N9:=iA.trans hd31;have Yo:=hd31.blk kN dW;have adz:=hd31.row Oa hle;have Yy:=hd31.row QC hle;have Yz:=FC N9.1 Yy hle (by omega) ⟨#[]⟩;rw [hpb]at Yz;go_wp2_with fail;refine Yz.mono ?_;rintro e w32 ⟨rfl,hd32⟩;have YA:=N9.trans hd32;have adA:=hd32.blk Yo dW;have adB:=hd32.row adz hle;have hn32:=hd32.row Yy hle;have YB:=bC YA.1 (⟨#[44]⟩:ah);rw [hc0]at YB;go_wp2_with fail;refine YB.mono ?_;rintro e w33 ⟨rfl,G8⟩;have YC:=YA.trans G8;have adC:=G8.blk adA dW;have adD:=G8.row adB hle;have YD:=G8.row hn32 hle;have YE:=FC YC.1 YD hle (by omega) pk;rw [hcd]at YE;go_wp2_with fail;refine YE.mono ?_;rintro e w34 ⟨rfl,hd34⟩;have YF:=YC.trans hd34;have adE:=hd34.blk adC dW;have adF:=hd34.row adD hle;have adG:=hd34.row YD hle;have YG:=NQ YF.1 (⟨#[41]⟩:ah) (⟨#[41]⟩:ah);rw [he]at YG;go_wp2_with fail;refine YG.mono ?_;rintro e w35 ⟨rfl,LK⟩;have adH:=YF.trans LK;have adI:=LK.blk adE dW;have YH:=LK.row adF hle;have ahN:=LK.row adG hle;have hCb:Cf.length≤200000:=by have:=ME.out;omega
   have HZ0:=Lib.hid YH;go_wp2_with fail
   go_loopw [9,63,77,83] (fun _ i _ _ wr=>∃(j:Nat) (X:Sx) (a4:Option Addr) (c4:Nat),i= .int .i64 j∧j≤Cf.length∧Did K w QB wr∧wr.heap[w1.heap.size]? =some (.cells (aG X (.slice a4 X.aB.length c4) ak ak ak ak) 31 (0,0))∧wr.ownsRow w.heap.size 23 2 (.slice a4 X.aB.length c4) X.aB.length (iO X.aB)∧wr.ownsRow w.heap.size 23 2 (.slice a3 Cf.length c3) Cf.length (iO Cf)∧Apart (.slice a4 X.aB.length c4) (.slice a3 Cf.length c3)∧Hid (X=(Cf.take j).foldl (fun x c=>Tx.place x pk ck c) {Sx.zero with kind:=1,name:=x,bG:=x})∧X.aI= []∧X.sets= []∧X.aH= []∧X.aB.length≤j) (fun _ i _ _ _=>Cf.length - (intOf i).toNat)
   case atStart=>exact ⟨0,_,none,0,rfl,by omega,adH,adI,World.ownsRow_nil _ _ _ _,YH,yZ,rfl,rfl,rfl,rfl,Nat.le_refl _⟩
   case round=>
    obtain ⟨j,X,a4,c4,rfl,hj,Au,hBr,hSr,QD,hap,HX,hx1,hx2,hx3,hxl⟩:=hrel;have hsz:=Au.size;by_cases hjl:j<Cf.length
    · have p0:(j:Int)<(Cf.length:Int):=by omega
      have HJ:=Lib.hid (show j+1≤Cf.length from hjl);have p1:(0:Int)≤(j:Int):=by omega
      obtain ⟨_,_,hsl,hgx⟩:=aY QD;cases hsl;obtain ⟨gc,rfl,_,_,_⟩:=hgx (by omega);have k0:=aS QD (j*2) (.string Cf[j].name) (by have:=oZ Cf j 0 hjl (by omega);rw [Nat.add_zero]at this;rw [this];rfl);have k1:=aS QD (j*2+1) (.int .i64 Cf[j].ty) (by rw [oZ Cf j 1 hjl (by omega)];rfl);obtain ⟨q,hq⟩:∃q,Cf[j]=q:=⟨_,rfl⟩;have Kj:=Lib.hid (yw pk ck Cf {Sx.zero with kind:=1,name:=x,bG:=x} j hjl hq);rw [hq]at k0 k1;clear hq;obtain ⟨nm,ty⟩:=q;have e1:=dR nm pk;have e2:=dR nm ck;have z0:=aD hBr;have z1:=dZ k0;cases q1:jf nm pk with
      |true=>
       rw [q1]at e1;have y6:=(aK hBr).2.2.2.2.2.2.1;have y7:=(aK hBr).2.2.2.2.2.2.2.1;have u6:=aj hBr 6;have u7:=aj hBr 7;have hb6:(wr.setCell ⟨w1.heap.size,6,none⟩ (.string nm)).heap[w1.heap.size]? =some (.cells (aG {X with part:=⟨nm,X.part.ty⟩} (.slice a4 X.aB.length c4) ak ak ak ak) 31 (0,0)):=by rw [dB hBr 6 _];rfl
       have hb7:((wr.setCell ⟨w1.heap.size,6,none⟩ (.string nm)).setCell ⟨w1.heap.size,7,none⟩ (.int .i64 ty)).heap[w1.heap.size]? =some (.cells (aG {X with part:=⟨nm,ty⟩} (.slice a4 X.aB.length c4) ak ak ak ak) 31 (0,0)):=by rw [dB hb6 7 _];rfl
       go_wp2_with fail;go_roundw
       case rel=>exact ⟨j+1,{X with part:=⟨nm,ty⟩},a4,c4,by go_num,HJ.out,((Au.own hbx 6 _).own hbx 7 _).alloc _,aC hb7 _,(aL (aL hSr hBr (by decide) 6 _) hb6 (by decide) 7 _).alloc _,(aL (aL QD hBr (by decide) 6 _) hb6 (by decide) 7 _).alloc _,hap,(by show _=_;rw [Kj.out,←HX.out];unfold Tx.place;rw [if_pos q1]),hx1,hx2,hx3,by show X.aB.length≤_;omega⟩
       case measure=>have hjj:=HJ.out;simp [intOf];omega
      |false=>
       rw [q1]at e1;cases q2:jf nm ck with
       |true=>
        rw [q2]at e2;have y8:=(aK hBr).2.2.2.2.2.2.2.2.1;have y9:=(aK hBr).2.2.2.2.2.2.2.2.2.1;have u8:=aj hBr 8;have u9:=aj hBr 9;have hb6:(wr.setCell ⟨w1.heap.size,8,none⟩ (.string nm)).heap[w1.heap.size]? =some (.cells (aG {X with aX:=⟨nm,X.aX.ty⟩} (.slice a4 X.aB.length c4) ak ak ak ak) 31 (0,0)):=by rw [dB hBr 8 _];rfl
        have hb7:((wr.setCell ⟨w1.heap.size,8,none⟩ (.string nm)).setCell ⟨w1.heap.size,9,none⟩ (.int .i64 ty)).heap[w1.heap.size]? =some (.cells (aG {X with aX:=⟨nm,ty⟩} (.slice a4 X.aB.length c4) ak ak ak ak) 31 (0,0)):=by rw [dB hb6 9 _];rfl
        go_wp2_with fail;go_roundw
        case rel=>exact ⟨j+1,{X with aX:=⟨nm,ty⟩},a4,c4,by go_num,HJ.out,((Au.own hbx 8 _).own hbx 9 _).alloc _,aC hb7 _,(aL (aL hSr hBr (by decide) 8 _) hb6 (by decide) 9 _).alloc _,(aL (aL QD hBr (by decide) 8 _) hb6 (by decide) 9 _).alloc _,hap,(by show _=_;rw [Kj.out,←HX.out];unfold Tx.place;rw [if_neg (by rw [q1];decide),if_pos q2]),hx1,hx2,hx3,by show X.aB.length≤_;omega⟩
        case measure=>have hjj:=HJ.out;simp [intOf];omega
       |false=>
        rw [q2]at e2;have y10:=(aK hBr).2.2.2.2.2.2.2.2.2.2.1;have u10:=aj hBr 10;go_wp2_with (at_builtin;refine app1 Tryz.UU rfl _ _ rfl w.heap.size _ _ _ rfl ((hSr.alloc _).alloc _) _ _ [.string nm, .int .i64 ty] rfl rfl (sQ _ _ _ _) (by intro u hu;simp at hu;rcases hu with rfl|rfl<;>rfl) (by have:=HJ.out;omega) (by simp;omega) ?_;intro a5 c5 w5 h5 hg5 I7;have hb5:w5.heap[w1.heap.size]? =some (.cells (aG X (.slice a4 X.aB.length c4) ak ak ak ak) 31 (0,0)):=(hg5.block _ (aD (aC (aC hBr _) _)) (fun e=>gy hSr hBr (by decide) e.symm)).trans (aC (aC hBr _) _);have y5:=(aK hb5).2.2.2.2.2.2.2.2.2.2.1;have u5:=aj hb5 10);have hD5:=(((Au.alloc (.cells #[.string nm, .int .i64 ty] 23)).alloc (.cells #[.string nm, .int .i64 ty] 23)).grown hg5 (fun g hg2=>(hSr.lt g hg2).1)).own hbx 10 (.slice a5 (X.aB.length+1) c5);have hb6:=Yb hb5 (.slice a5 (X.aB.length+1) c5);have hS6:=aL h5 hb5 (by decide) 10 (.slice a5 (X.aB.length+1) c5);have hC6:=aL (hap.keep ((QD.alloc _).alloc _) hg5) hb5 (by decide) 10 (.slice a5 (X.aB.length+1) c5);have YI:=hap.near I7 ((QD.alloc _).alloc _);go_wp2_with fail;go_roundw
        case rel=>
         refine ⟨j+1,{X with aB:=X.aB++ [⟨nm,ty⟩]},a5,c5,by go_num,HJ.out,hD5,by rw [List.length_append];exact hb6, ?_,hC6,by rw [List.length_append];exact YI,(by show _=_;rw [Kj.out,←HX.out];unfold Tx.place;rw [if_neg (by rw [q1];decide),if_neg (by rw [q2];decide)]),hx1,hx2,hx3,by rw [List.length_append];show X.aB.length+1≤_;omega⟩;rw [List.length_append,rM];exact hS6
        case measure=>have hjj:=HJ.out;simp [intOf];omega
    · have mF:j=Cf.length:=by omega
      subst mF;rw [List.take_length]at HX;have hBx:=rG;have Qt:=yj;go_wp2_with (refine aT rfl _ rfl rfl rfl hBr ?_);go_ret;rw [HE.out,←HX.out];refine ⟨_,ak,ak,ak,rfl,Au,hSr, ?_, ?_, ?_⟩
      · rw [hx1];exact World.ownsRow_nil _ _ _ _
      · rw [hx2];exact World.ownsRow_nil _ _ _ _
      · rw [hx3];exact World.ownsRow_nil _ _ _ _
  |none=>
   have hok:=wN hD.1 (v:=true) (by rw [hbad];rfl);have hnn:=hn hbad;clear hn;obtain ⟨n,rfl⟩:∃m,n=m+1:=⟨n - 1,by omega⟩;cases hsp:K.X.sees σ2 (⟨#[112,114,105,109,97,114,121]⟩:ah)with
   |true=>
    have HR2:(l,C,σ2.step)=(lf,Cf,nN):=by
     have h:=HR.out;rw [Tx.gI,hbad,hsp]at h;exact h
    cases HR2;go_wp2_with fail;refine hok.mono ?_;rintro e w19 ⟨rfl,m19,rfl⟩;have QE:=hD.drewN m19;have hmay:=aV QE.1 (⟨#[112,114,105,109,97,114,121]⟩:ah);unfold Tx.may at hmay;rw [hsp,if_pos rfl]at hmay;go_wp2_with fail;refine hmay.mono ?_;rintro e I6 ⟨rfl,zK⟩;have eH:=((Did.refl hD.1).drewN m19).trans zK;have iA:=hD.trans eH;have kN:=eH.blk hb dW;have Oa:=eH.row hs hle;have QC:=eH.row hnr hle;have Yx:=NQ iA.1 (⟨#[107,101,121]⟩:ah) (⟨#[40]⟩:ah);rw [ha]at Yx;go_wp2_with fail;refine Yx.mono ?_;rintro e w31 ⟨rfl,hd31⟩;have N9:=iA.trans hd31;have Yo:=hd31.blk kN dW;have adz:=hd31.row Oa hle;have Yy:=hd31.row QC hle;have Yz:=FC N9.1 Yy hle (by omega) ⟨#[]⟩;rw [hpb]at Yz;go_wp2_with fail;refine Yz.mono ?_;rintro e w32 ⟨rfl,hd32⟩;have YA:=N9.trans hd32;have adA:=hd32.blk Yo dW;have adB:=hd32.row adz hle;have hn32:=hd32.row Yy hle;have YB:=bC YA.1 (⟨#[44]⟩:ah);rw [hc0]at YB;go_wp2_with fail;refine YB.mono ?_;rintro e w33 ⟨rfl,G8⟩;have YC:=YA.trans G8;have adC:=G8.blk adA dW;have adD:=G8.row adB hle;have YD:=G8.row hn32 hle;have YE:=FC YC.1 YD hle (by omega) pk;rw [hcd]at YE;go_wp2_with fail;refine YE.mono ?_;rintro e w34 ⟨rfl,hd34⟩;have YF:=YC.trans hd34;have adE:=hd34.blk adC dW;have adF:=hd34.row adD hle;have adG:=hd34.row YD hle;have YG:=NQ YF.1 (⟨#[41]⟩:ah) (⟨#[41]⟩:ah);rw [he]at YG;go_wp2_with fail;refine YG.mono ?_;rintro e w35 ⟨rfl,LK⟩;have adH:=YF.trans LK;have adI:=LK.blk adE dW;have YH:=LK.row adF hle;have ahN:=LK.row adG hle;have hCb:Cf.length≤200000:=by have:=ME.out;omega
    have HZ0:=Lib.hid YH;go_wp2_with fail
    go_loopw [9,63,77,83] (fun _ i _ _ wr=>∃(j:Nat) (X:Sx) (a4:Option Addr) (c4:Nat),i= .int .i64 j∧j≤Cf.length∧Did K w QB wr∧wr.heap[w1.heap.size]? =some (.cells (aG X (.slice a4 X.aB.length c4) ak ak ak ak) 31 (0,0))∧wr.ownsRow w.heap.size 23 2 (.slice a4 X.aB.length c4) X.aB.length (iO X.aB)∧wr.ownsRow w.heap.size 23 2 (.slice a3 Cf.length c3) Cf.length (iO Cf)∧Apart (.slice a4 X.aB.length c4) (.slice a3 Cf.length c3)∧Hid (X=(Cf.take j).foldl (fun x c=>Tx.place x pk ck c) {Sx.zero with kind:=1,name:=x,bG:=x})∧X.aI= []∧X.sets= []∧X.aH= []∧X.aB.length≤j) (fun _ i _ _ _=>Cf.length - (intOf i).toNat)
    case atStart=>exact ⟨0,_,none,0,rfl,by omega,adH,adI,World.ownsRow_nil _ _ _ _,YH,yZ,rfl,rfl,rfl,rfl,Nat.le_refl _⟩
    case round=>
     obtain ⟨j,X,a4,c4,rfl,hj,Au,hBr,hSr,QD,hap,HX,hx1,hx2,hx3,hxl⟩:=hrel;have hsz:=Au.size;by_cases hjl:j<Cf.length
     · have p0:(j:Int)<(Cf.length:Int):=by omega
       have HJ:=Lib.hid (show j+1≤Cf.length from hjl);have p1:(0:Int)≤(j:Int):=by omega
       obtain ⟨_,_,hsl,hgx⟩:=aY QD;cases hsl;obtain ⟨gc,rfl,_,_,_⟩:=hgx (by omega);have k0:=aS QD (j*2) (.string Cf[j].name) (by have:=oZ Cf j 0 hjl (by omega);rw [Nat.add_zero]at this;rw [this];rfl);have k1:=aS QD (j*2+1) (.int .i64 Cf[j].ty) (by rw [oZ Cf j 1 hjl (by omega)];rfl);obtain ⟨q,hq⟩:∃q,Cf[j]=q:=⟨_,rfl⟩;have Kj:=Lib.hid (yw pk ck Cf {Sx.zero with kind:=1,name:=x,bG:=x} j hjl hq);rw [hq]at k0 k1;clear hq;obtain ⟨nm,ty⟩:=q;have e1:=dR nm pk;have e2:=dR nm ck;have z0:=aD hBr;have z1:=dZ k0;cases q1:jf nm pk with
       |true=>
        rw [q1]at e1;have y6:=(aK hBr).2.2.2.2.2.2.1;have y7:=(aK hBr).2.2.2.2.2.2.2.1;have u6:=aj hBr 6;have u7:=aj hBr 7;have hb6:(wr.setCell ⟨w1.heap.size,6,none⟩ (.string nm)).heap[w1.heap.size]? =some (.cells (aG {X with part:=⟨nm,X.part.ty⟩} (.slice a4 X.aB.length c4) ak ak ak ak) 31 (0,0)):=by rw [dB hBr 6 _];rfl
        have hb7:((wr.setCell ⟨w1.heap.size,6,none⟩ (.string nm)).setCell ⟨w1.heap.size,7,none⟩ (.int .i64 ty)).heap[w1.heap.size]? =some (.cells (aG {X with part:=⟨nm,ty⟩} (.slice a4 X.aB.length c4) ak ak ak ak) 31 (0,0)):=by rw [dB hb6 7 _];rfl
        go_wp2_with fail;go_roundw
        case rel=>exact ⟨j+1,{X with part:=⟨nm,ty⟩},a4,c4,by go_num,HJ.out,((Au.own hbx 6 _).own hbx 7 _).alloc _,aC hb7 _,(aL (aL hSr hBr (by decide) 6 _) hb6 (by decide) 7 _).alloc _,(aL (aL QD hBr (by decide) 6 _) hb6 (by decide) 7 _).alloc _,hap,(by show _=_;rw [Kj.out,←HX.out];unfold Tx.place;rw [if_pos q1]),hx1,hx2,hx3,by show X.aB.length≤_;omega⟩
        case measure=>have hjj:=HJ.out;simp [intOf];omega
       |false=>
        rw [q1]at e1;cases q2:jf nm ck with
        |true=>
         rw [q2]at e2;have y8:=(aK hBr).2.2.2.2.2.2.2.2.1;have y9:=(aK hBr).2.2.2.2.2.2.2.2.2.1;have u8:=aj hBr 8;have u9:=aj hBr 9;have hb6:(wr.setCell ⟨w1.heap.size,8,none⟩ (.string nm)).heap[w1.heap.size]? =some (.cells (aG {X with aX:=⟨nm,X.aX.ty⟩} (.slice a4 X.aB.length c4) ak ak ak ak) 31 (0,0)):=by rw [dB hBr 8 _];rfl
         have hb7:((wr.setCell ⟨w1.heap.size,8,none⟩ (.string nm)).setCell ⟨w1.heap.size,9,none⟩ (.int .i64 ty)).heap[w1.heap.size]? =some (.cells (aG {X with aX:=⟨nm,ty⟩} (.slice a4 X.aB.length c4) ak ak ak ak) 31 (0,0)):=by rw [dB hb6 9 _];rfl
         go_wp2_with fail;go_roundw
         case rel=>exact ⟨j+1,{X with aX:=⟨nm,ty⟩},a4,c4,by go_num,HJ.out,((Au.own hbx 8 _).own hbx 9 _).alloc _,aC hb7 _,(aL (aL hSr hBr (by decide) 8 _) hb6 (by decide) 9 _).alloc _,(aL (aL QD hBr (by decide) 8 _) hb6 (by decide) 9 _).alloc _,hap,(by show _=_;rw [Kj.out,←HX.out];unfold Tx.place;rw [if_neg (by rw [q1];decide),if_pos q2]),hx1,hx2,hx3,by show X.aB.length≤_;omega⟩
         case measure=>have hjj:=HJ.out;simp [intOf];omega
        |false=>
         rw [q2]at e2;have y10:=(aK hBr).2.2.2.2.2.2.2.2.2.2.1;have u10:=aj hBr 10;go_wp2_with (at_builtin;refine app1 Tryz.UU rfl _ _ rfl w.heap.size _ _ _ rfl ((hSr.alloc _).alloc _) _ _ [.string nm, .int .i64 ty] rfl rfl (sQ _ _ _ _) (by intro u hu;simp at hu;rcases hu with rfl|rfl<;>rfl) (by have:=HJ.out;omega) (by simp;omega) ?_;intro a5 c5 w5 h5 hg5 I7;have hb5:w5.heap[w1.heap.size]? =some (.cells (aG X (.slice a4 X.aB.length c4) ak ak ak ak) 31 (0,0)):=(hg5.block _ (aD (aC (aC hBr _) _)) (fun e=>gy hSr hBr (by decide) e.symm)).trans (aC (aC hBr _) _);have y5:=(aK hb5).2.2.2.2.2.2.2.2.2.2.1;have u5:=aj hb5 10);have hD5:=(((Au.alloc (.cells #[.string nm, .int .i64 ty] 23)).alloc (.cells #[.string nm, .int .i64 ty] 23)).grown hg5 (fun g hg2=>(hSr.lt g hg2).1)).own hbx 10 (.slice a5 (X.aB.length+1) c5);have hb6:=Yb hb5 (.slice a5 (X.aB.length+1) c5);have hS6:=aL h5 hb5 (by decide) 10 (.slice a5 (X.aB.length+1) c5);have hC6:=aL (hap.keep ((QD.alloc _).alloc _) hg5) hb5 (by decide) 10 (.slice a5 (X.aB.length+1) c5);have YI:=hap.near I7 ((QD.alloc _).alloc _);go_wp2_with fail;go_roundw
         case rel=>
          refine ⟨j+1,{X with aB:=X.aB++ [⟨nm,ty⟩]},a5,c5,by go_num,HJ.out,hD5,by rw [List.length_append];exact hb6, ?_,hC6,by rw [List.length_append];exact YI,(by show _=_;rw [Kj.out,←HX.out];unfold Tx.place;rw [if_neg (by rw [q1];decide),if_neg (by rw [q2];decide)]),hx1,hx2,hx3,by rw [List.length_append];show X.aB.length+1≤_;omega⟩;rw [List.length_append,rM];exact hS6
         case measure=>have hjj:=HJ.out;simp [intOf];omega
     · have mF:j=Cf.length:=by omega
       subst mF;rw [List.take_length]at HX;have hBx:=rG;have Qt:=yj;go_wp2_with (refine aT rfl _ rfl rfl rfl hBr ?_);go_ret;rw [HE.out,←HX.out];refine ⟨_,ak,ak,ak,rfl,Au,hSr, ?_, ?_, ?_⟩
       · rw [hx1];exact World.ownsRow_nil _ _ _ _
       · rw [hx2];exact World.ownsRow_nil _ _ _ _
       · rw [hx3];exact World.ownsRow_nil _ _ _ _
   |false=>
    have hm0:=Oc hD.1 hbad;obtain ⟨nm,hnm⟩:=EG K.X σ2 l 10;have hon:=fun h=>UW (X:=K.X) (σ:=σ2) (l:=l) (most:=10) h
    obtain ⟨⟨l3,σ3⟩,hc3⟩:∃r,K.X.column σ2 l 10=r:=⟨_,rfl⟩;rw [hc3]at hnm hon;replace hnm:l3=l++ [nm]:=hnm;replace hon:σ3.bad=none→σ2.i<K.X.T.length∧σ2.i+1≤σ3.i:=hon;subst hnm;have hi3:=Yu K.X σ3;have hk3:=fun h=>Ki (X:=K.X) (σ:=σ3) h
    obtain ⟨⟨ty,jS⟩,hv4⟩:∃r,K.X.kind σ3=r:=⟨_,rfl⟩;rw [hv4]at hi3 hk3;replace hi3:σ3.i≤jS.i:=hi3;replace hk3:jS.bad=none→σ3.bad=none:=hk3;have hi4:=Ck K.X jS (⟨#[44]⟩:ah);have hk4:=fun h=>Aw (X:=K.X) (σ:=jS) (s:=(⟨#[44]⟩:ah)) h
    obtain ⟨lX,h5⟩:∃r,K.X.must jS [(⟨#[44]⟩:ah)]=r:=⟨_,rfl⟩;rw [h5]at hi4 hk4;have HG:Hid (lX.bad=none→σ2.i<K.X.T.length∧σ2.i+1≤lX.i):=fun hb5=>⟨(hon (hk3 (hk4 hb5))).1,Nat.le_trans (hon (hk3 (hk4 hb5))).2 (Nat.le_trans hi3 hi4)⟩
    clear hon hk3 hk4 hi3 hi4
    have HR2:Hid (K.X.gI n lX (l++ [nm]) (C++ [⟨nm,ty⟩])=(lf,Cf,nN)):=by
     have h:=HR.out;rw [Tx.gI,hbad,hsp]at h;simp only [hc3,hv4,h5,Cm]at h;exact Lib.hid h
    have Cn:=fun w1 (hD1:Did K w σ2 w1) hr1=>vT hD1 w.heap.size (Nat.le_refl _) hD1.size (.slice a l.length c) l 10 hr1 (by omega) (by omega)
    rw [hc3]at Cn;go_wp2_with fail;refine hok.mono ?_;rintro e w19 ⟨rfl,m19,rfl⟩;have QE:=hD.drewN m19;have hmay:=aV QE.1 (⟨#[112,114,105,109,97,114,121]⟩:ah);unfold Tx.may at hmay;rw [hsp,if_neg (by decide)]at hmay;go_wp2_with fail;refine hmay.mono ?_;rintro e I6 ⟨rfl,eH⟩;have zK:=((Did.refl hD.1).drewN m19).trans eH;have iA:=hD.trans zK;have kN:=zK.blk hb dW;have Oa:=zK.row hs hle;have QC:=zK.row hnr hle;have hcc:=Cn _ iA QC;go_wp2_with fail;refine hcc.mono ?_;rintro e DL ⟨a2,c2,rfl,mX,G9,hel⟩;have wS:=hel.1 _ _ dW (gy QC kN (by decide)) kN;have Yi:=hel.row (dH QC Oa (by decide)) Oa hle;obtain ⟨_,_,hsl,hgn⟩:=aY G9;cases hsl;obtain ⟨gn,rfl,_,adn,_⟩:=hgn (by omega);have k21:=aS G9 l.length (.string nm) (by simp);have p3:IntKind.i64.wrap (l.length:Int)=(l.length:Int):=IntWalk.i64_in _ (by omega);have p1:(0:Int)≤(l.length:Int):=by omega
    have p2' :(l.length:Int)<(l.length:Int)+1:=by omega
    have hZb:C.length≤100001:=by have:=ME.out;omega
    go_wp2_with fail
    go_region_law (first|(refine fM Tryz.UU rfl _ _ rfl w.heap.size _ _ _ rfl (rJ.alloc _) _ _ [.string nm, .int .i64 ty] rfl rfl (fun j u hj=>by rw [iG,Nat.zero_add];exact bg _ _ _ j u hj) (by intro u hu;simp at hu;rcases hu with rfl|rfl<;>rfl) (by omega) (by simp;omega) ?_;intro g3 jm w3 h3 hg3 wU hl3)|(go_simp;go_at_call 114;have hkk:=X8 (K:=K) (σ:=σ3) (mX.drewN 1).1;rw [hv4]at hkk;refine hkk.mono ?_;rintro e EU ⟨rfl,jq⟩;have kK:=jq.blk wS dW;have rJ:=jq.row Yi hle;have Av:=jq.row G9 hle;have Ob:=(mX.drewN 1).trans jq;have k30:=aS Av l.length (.string nm) (by simp);have LG:=dZ k30;have Yq:=Ob.size))
    all_goals
     have hg4:(EU.alloc (.cells #[.string nm, .int .i64 ty] 23)).grownBy w3 (Value.slice a3 C.length c3).ownBlock:=⟨hg3.os,hg3.tape,hg3.output,hg3.size,hg3.block⟩;have hD4:=(Ob.alloc (.cells #[.string nm, .int .i64 ty] 23)).grown hg4 (fun g hg2=>(rJ.lt g hg2).1);have hb4:w3.heap[w1.heap.size]? =some (.cells (aG {Sx.zero with kind:=1,name:=x,bG:=x} ak ak ak ak ak) 31 (0,0)):=(hg4.block _ (aD (aC kK _)) (fun e=>gy rJ kK (by decide) e.symm)).trans (aC kK _);have hn4:=(dH rJ Av (by decide)).keep (Av.alloc _) hg4;have sO:=bC hD4.1 (⟨#[44]⟩:ah);rw [h5]at sO;go_wp2_with fail;refine sO.mono ?_;rintro e w6 ⟨rfl,hd6⟩;have hD6:=hD4.trans hd6;have hb6:=hd6.blk hb4 dW;have hs6:=hd6.row h3 hle;have UQ:=hd6.row hn4 hle
     have hmm:SF K w6<SF K wr:=by
      rw [hm0];by_cases hb5:lX.bad=none
      · rw [Oc hD6.1 hb5];exact ab8 (HG.out hb5).1 (HG.out hb5).2
      · rw [Yv hD6.1 hb5];exact Nat.succ_pos _
     go_wp2_with fail;go_roundw
     case rel=>
      refine ⟨l++ [nm],some ⟨gn,0,none⟩,c2,C++ [⟨nm,ty⟩],some ⟨g3,0,none⟩,jm,lX,n,by rw [List.length_append];rfl,by rw [List.length_append];rfl,hD6,hb6, ?_, ?_,HR2,(fun hb5=>ab9 hnn (HG.out hb5).1 (HG.out hb5).2),by rw [List.length_append];show l.length+1+n≤_;omega,by show _=_;rw [List.length_append,List.length_append,ME.out];rfl⟩
      · rw [List.length_append,rM];exact hs6
      · rw [List.length_append];exact UQ
     case measure=>exact hmm
end Go.Proofs.YtcgadodckoalnaaGreatDoor
