/- Parts of a proof. -/
import Derived.Test.YtnngbhpeeakfaaaGreatDoorB16
set_option maxHeartbeats 4000000
set_option maxRecDepth 100000
namespace Go.Proofs.YtnngbhpeeakfaaaGreatDoor
open Go.Proofs.Tryz
open Go.RowKit
open aK
theorem IG {w:World}{base:Nat}{v:Value}{l:List ByteArray}(hown:w.ownsRow base 9 1 v l.length (l.map Value.string)) (hl:l.length≤200000) (x:ByteArray):
 Calls prog 59 #[v, .string x] w fun e w' =>e= .returned (.bool (lu x l))∧w' =w:=by
 obtain ⟨a,cap,rfl,hr⟩:=aN hown;by_cases h0:0<l.length
 · obtain ⟨g,rfl,_,_,hc⟩:=hr h0
   have:=Tryz.slices_Contains_string g 0 l.length cap l x w (Nat.le_refl _) (by omega) (fun j hj=>by
    rw [Nat.zero_add,List.getD_eq_getElem?_getD,List.getElem?_eq_getElem hj];exact hc j _ (by rw [List.getElem?_map,List.getElem?_eq_getElem hj];rfl))
   rw [List.take_length,mX]at this;exact this
 · have hl0:l= []:=List.eq_nil_of_length_eq_zero (by omega);subst hl0;exact Tryz.slices_Contains_string_empty a cap x w
theorem Cw {K:PK}{w:World}{σ:Ps}(h:PQ K w σ) {base:Nat}{v:Value}{l:List ByteArray}(hown:w.ownsRow base 9 1 v l.length (l.map Value.string)) (hb:K.L≤base) (hl:l.length≤200000) (but:ByteArray):
 Calls prog 276 #[.pointer (some ⟨K.b,0,none⟩),v, .string but] w (uS K w (.string (K.X.one σ l but).1) (K.X.one σ l but).2):=by
 have hD:=Did.refl h;have ha:=iQ h;obtain ⟨a0,cap0,rfl,_⟩:=aN hown;obtain ⟨⟨x,σ2⟩,hx⟩:∃r,K.X.name σ=r:=⟨_,rfl⟩;have HE:Hid (K.X.one σ l but=(x,if !lu x l||fB x but then σ2.wrong (K.X.here σ)else σ2)):=by show _=_;unfold Tx.one;simp only [hx]
 generalize K.X.here σ=OW at *;have e1:=bU x but;cases hc:lu x l<;>cases hq:fB x but
 all_goals
  rw [hc,hq]at HE;rw [hq]at e1;go_enter func276,ntmps276;go_wp2_with fail;refine ha.mono ?_;rintro e w1 ⟨rfl,m,rfl⟩;replace hD:=hD.drewN m;have hnm:=dS hD.1;rw [hx]at hnm;go_wp2_with fail;refine hnm.mono ?_;rintro e w3 ⟨rfl,hd3⟩;replace hD:=hD.trans hd3;have hcon:=IG (hD.row hown hb) hl x;rw [hc]at hcon;go_wp2_with fail;refine hcon.mono ?_;rintro e w4 ⟨rfl,rfl⟩;have hw2:=gM hD.1 OW;go_wp2_with fail
  first
   |(refine hw2.mono ?_;rintro e w5 ⟨rfl,hd5⟩
     go_wp2_with fail;go_ret;rw [HE.out];exact ⟨rfl,hD.trans hd5⟩)
   |(go_ret
     rw [HE.out];exact ⟨rfl,hD⟩)
theorem D8 {σ:Ps}{a:Nat}(h:(σ.wrong a).bad=none):σ.bad=none:=by
 unfold Ps.wrong at h;cases hb:σ.bad with
 |none=>rfl
 |some b=>rw [hb]at h;rw [hb]at h;exact h
theorem vX {X:Tx}{σ:Ps}:(X.fail σ).bad≠none:=by
 unfold Tx.fail Ps.wrong;cases hb:σ.bad with
 |none=>simp
 |some b=>rw [hb];simp
theorem xL {X:Tx}{σ:Ps}{s:ByteArray}(h:(X.must σ [s]).bad=none):σ.bad=none:=by
 replace h:(X.bS σ s).bad=none:=h;unfold Tx.bS at h;split at h
 · exact h
 · exact absurd h vX
theorem Vb (X:Tx) (σ:Ps):σ.i≤(X.kind σ).2.i:=by
 unfold Tx.kind;split
 · show σ.i≤σ.i+1;omega
 · exact Cv X σ _
theorem Gi {X:Tx}{σ:Ps}(h:(X.kind σ).2.bad=none):σ.bad=none:=by
 unfold Tx.kind at h;split at h
 · exact h
 · exact xL h
theorem O7 {X:Tx}{σ:Ps}(h:(X.name σ).2.bad=none):σ.bad=none∧σ.i<X.T.length∧(X.name σ).2.i=σ.i+1:=by
 unfold Tx.name at h⊢;split at h
 · rename_i t hx;split at h
   · exact absurd h vX
   · rename_i hr;obtain ⟨h1,h2⟩:=next_lt (X:=X) (σ:=σ) (k:=1) (by rw [hx];rfl);simp only [hr];exact ⟨h2,h1,rfl⟩
 · exact absurd h vX
theorem Q5 {X:Tx}{σ:Ps}{l:List ByteArray}{most:Nat}(h:(X.column σ l most).2.bad=none):σ.i<X.T.length∧σ.i+1≤(X.column σ l most).2.i:=by
 unfold Tx.column at h⊢
 have e:∀(b:Bool) (τ:Ps) (a:Nat),(if b=true then τ.wrong a else τ).bad=none→τ.bad=none:=by
  intro b τ a hh;cases b
  · exact hh
  · exact D8 hh
 have h1:=e _ _ _ h;have ei:∀(b:Bool) (τ:Ps) (a:Nat),(if b=true then τ.wrong a else τ).i=τ.i:=by intro b τ a;cases b<;>simp [oq]
 simp only [ei];obtain ⟨h2,h3,h4⟩:=O7 h1;have es:(if most≤l.length then σ.wrong (X.here σ)else σ).i=σ.i:=by split<;>simp [oq]
 rw [es]at h3 h4;exact ⟨h3,by omega⟩
theorem M5 (pk ck:ByteArray) (C:List Cl) (x:Sx) (j:Nat) (h:j<C.length):(C.take (j+1)).foldl (fun x c=>Tx.place x pk ck c) x=Tx.place ((C.take j).foldl (fun x c=>Tx.place x pk ck c) x) pk ck C[j]:=by
 rw [List.take_succ_eq_append_getElem h,List.foldl_append];rfl
theorem uY (pk ck:ByteArray) (C:List Cl) (x:Sx) (j:Nat) (h:j<C.length) {q:Cl}(hq:C[j]=q):(C.take (j+1)).foldl (fun x c=>Tx.place x pk ck c) x=Tx.place ((C.take j).foldl (fun x c=>Tx.place x pk ck c) x) pk ck q:=by rw [←hq];exact M5 pk ck C x j h
theorem Zw {T i j:Nat}(h1:i<T) (h2:i+1≤j):T - j+1<T - i+1:=by omega
theorem Zx {T i j n:Nat}(h:T - i<n+1) (h1:i<T) (h2:i+1≤j):T - j<n:=by omega
def O8 (K:PK) (w:World):Nat:=match w.cell? ⟨K.b,3,none⟩with|some (.int _ v)=>if v<0 then K.X.T.length - UU K w+1 else 0|_=>0
theorem KW {K:PK}{w:World}{σ:Ps}(h:PQ K w σ) (hb:σ.bad=none):O8 K w=K.X.T.length - σ.i+1:=by
 obtain ⟨_,_,_,_,_,c3,_⟩:=h.cells;have hi:=xG h;unfold O8;rw [c3];have:σ.iB= -1:=by unfold Ps.iB;rw [hb]
 rw [this,hi];rfl
theorem Vd {K:PK}{w:World}{σ:Ps}(h:PQ K w σ) (hb:σ.bad≠none):O8 K w=0:=by
 obtain ⟨_,_,_,_,_,c3,_⟩:=h.cells;unfold O8;rw [c3];cases hx:σ.bad with
 |none=>exact absurd hx hb
 |some a=>
  have:σ.iB=(a:Int):=by unfold Ps.iB;rw [hx]
  rw [this];simp
theorem Q6 {K:PK}{w:World}{σ:Ps}(h:PQ K w σ):
 Calls prog 196 #[.pointer (some ⟨K.b,0,none⟩)] w (gD K w 280 (K.X.table σ).1 (K.X.table σ).2):=by
 have hle:=h.le;have hD0:=Did.refl h;obtain ⟨⟨x,σ1⟩,hq1⟩:∃r,K.X.name σ=r:=⟨_,rfl⟩;obtain ⟨σ2,hq2⟩:∃r,K.X.must σ1 [(⟨#[40]⟩:ah)]=r:=⟨_,rfl⟩;obtain ⟨⟨lf,Cf,sP⟩,hR⟩:∃r,K.X.iE (K.X.T.length+1) σ2 [] []=r:=⟨_,rfl⟩;obtain ⟨σa,ha⟩:∃r,K.X.must sP [(⟨#[107,101,121]⟩:ah),(⟨#[40]⟩:ah)]=r:=⟨_,rfl⟩;obtain ⟨⟨pk,σb⟩,hpb⟩:∃r,K.X.one σa lf ⟨#[]⟩=r:=⟨_,rfl⟩;obtain ⟨σc,hc0⟩:∃r,K.X.must σb [(⟨#[44]⟩:ah)]=r:=⟨_,rfl⟩;obtain ⟨⟨ck,σd⟩,hcd⟩:∃r,K.X.one σc lf pk=r:=⟨_,rfl⟩;obtain ⟨S9,he⟩:∃r,K.X.must σd [(⟨#[41]⟩:ah),(⟨#[41]⟩:ah)]=r:=⟨_,rfl⟩;have HE:Hid (K.X.table σ=(Cf.foldl (fun x c=>Tx.place x pk ck c) {Sx.zero with kind:=1,name:=x,bW:=x},S9)):=by show _=_;unfold Tx.table;simp only [hq1,hq2,hR,ha,hpb,hc0,hcd,he]
 have HT:=Lib.hid K.hT;go_enter func196,ntmps196;have hm1:=dS hD0.1;rw [hq1]at hm1;try simp only at hm1
 go_wp2_with fail;refine hm1.mono ?_;rintro e w1 ⟨rfl,hd1⟩;have hD1:=hD0.trans hd1;have hB2:=zf 1 x;have dK:K.L≤w1.heap.size:=Nat.le_trans hle hD1.size;have hbx:w.heap.size≤w1.heap.size:=hD1.size;have hblk2:(w1.alloc (.cells (aP {Sx.zero with kind:=1,name:=x,bW:=x} au au au au au) 39)).heap[w1.heap.size]? =some (.cells (aP {Sx.zero with kind:=1,name:=x,bW:=x} au au au au au) 39 (0,0)):=aB w1 _;have hD2:=hD1.alloc (.cells (aP {Sx.zero with kind:=1,name:=x,bW:=x} au au au au au) 39);have mY:=bS hD2.1 (⟨#[40]⟩:ah);rw [hq2]at mY;try simp only [av]at mY
 go_wp2_with (refine lN rfl _ _ rfl rfl rfl rfl rfl ?_);refine mY.mono ?_;rintro e w3 ⟨rfl,hd3⟩;have hD3:=hD2.trans hd3;have hblk3:=hd3.blk hblk2 dK;go_wp2_with fail
 go_loopw [4,5] (fun names aD wr=>∃(l:List ByteArray) (a:Option Addr) (c:Nat) (C:List Cl) (a3:Option Addr) (c3:Nat) (σ2:Ps) (n:Nat),names= .slice a l.length c∧aD= .slice a3 C.length c3∧Did K w σ2 wr∧wr.heap[w1.heap.size]? =some (.cells (aP {Sx.zero with kind:=1,name:=x,bW:=x} au au au au au) 39 (0,0))∧wr.ownsRow w.heap.size 24 2 (.slice a3 C.length c3) C.length (gH C)∧wr.ownsRow w.heap.size 9 1 (.slice a l.length c) l.length (l.map Value.string)∧Hid (K.X.iE n σ2 l C=(lf,Cf,sP))∧(σ2.bad=none→K.X.T.length - σ2.i<n)∧l.length+n≤K.X.T.length+1∧Hid (C.length=l.length)) (fun _ _ wr=>O8 K wr)
 case atStart=>exact ⟨[],none,0, [],none,0,σ2,K.X.T.length+1,rfl,rfl,hD3,hblk3,World.ownsRow_nil _ _ _ _,World.ownsRow_nil _ _ _ _,hR,fun _=>by omega,by simp,rfl⟩
 case round=>
  obtain ⟨l,a,c,C,a3,c3,σ2,n,rfl,rfl,hD,hb,hs,hnr,HR,hn,hln,O6⟩:=hrel;have hT:=HT.out;have hsz:=hD.size;cases hbad:σ2.bad with
  |some bd=>
   have hok:=tK hD.1 (v:=false) (by rw [hbad];rfl)
   have HR2:(l,C,σ2)=(lf,Cf,sP):=by
    have h:=HR.out;cases n with
    |zero=>exact h
    |succ n=>rw [Tx.iE,hbad]at h;exact h
   cases HR2;go_wp2_with fail;refine hok.mono ?_;rintro e O5 ⟨rfl,m20,rfl⟩;have dN:=(Did.refl hD.1).drewN m20;have fZ:=hD.trans dN;have jF:=dN.blk hb dK;have KT:=dN.row hs hle;have M6:=dN.row hnr hle;have Ve:=KF fZ.1 (⟨#[107,101,121]⟩:ah) (⟨#[40]⟩:ah);rw [ha]at Ve;go_wp2_with fail;refine Ve.mono ?_;rintro e w31 ⟨rfl,hd31⟩;have KS:=fZ.trans hd31;have U7:=hd31.blk jF dK;have aaU:=hd31.row KT hle;have Vf:=hd31.row M6 hle;have Vg:=Cw KS.1 Vf hle (by omega) ⟨#[]⟩;rw [hpb]at Vg;go_wp2_with fail;refine Vg.mono ?_;rintro e w32 ⟨rfl,hd32⟩;have Vh:=KS.trans hd32;have aaV:=hd32.blk U7 dK;have aaW:=hd32.row aaU hle;have hn32:=hd32.row Vf hle;have Vi:=bS Vh.1 (⟨#[44]⟩:ah);rw [hc0]at Vi;go_wp2_with fail;refine Vi.mono ?_;rintro e w33 ⟨rfl,D6⟩;have Vj:=Vh.trans D6;have aaX:=D6.blk aaV dK;have aaY:=D6.row aaW hle;have Vk:=D6.row hn32 hle;have Vl:=Cw Vj.1 Vk hle (by omega) pk;rw [hcd]at Vl;go_wp2_with fail;refine Vl.mono ?_;rintro e w34 ⟨rfl,hd34⟩;have Vm:=Vj.trans hd34;have aaZ:=hd34.blk aaX dK;have aa0:=hd34.row aaY hle;have aa1:=hd34.row Vk hle;have Vn:=KF Vm.1 (⟨#[41]⟩:ah) (⟨#[41]⟩:ah);rw [he]at Vn;go_wp2_with fail;refine Vn.mono ?_;rintro e w35 ⟨rfl,II⟩;have aa2:=Vm.trans II;have aa3:=II.blk aaZ dK;have Vo:=II.row aa0 hle;have afj:=II.row aa1 hle;have hCb:Cf.length≤200000:=by have:=O6.out;omega
   have HZ0:=Lib.hid Vo;go_wp2_with fail
   go_loopw [9,63,77,83] (fun _ i _ _ wr=>∃(j:Nat) (X:Sx) (a4:Option Addr) (c4:Nat),i= .int .i64 j∧j≤Cf.length∧Did K w S9 wr∧wr.heap[w1.heap.size]? =some (.cells (aP X (.slice a4 X.aF.length c4) au au au au) 39 (0,0))∧wr.ownsRow w.heap.size 24 2 (.slice a4 X.aF.length c4) X.aF.length (gH X.aF)∧wr.ownsRow w.heap.size 24 2 (.slice a3 Cf.length c3) Cf.length (gH Cf)∧Apart (.slice a4 X.aF.length c4) (.slice a3 Cf.length c3)∧Hid (X=(Cf.take j).foldl (fun x c=>Tx.place x pk ck c) {Sx.zero with kind:=1,name:=x,bW:=x})∧X.aD= []∧X.sets= []∧X.aO= []∧X.aF.length≤j) (fun _ i _ _ _=>Cf.length - (intOf i).toNat)
   case atStart=>exact ⟨0,_,none,0,rfl,by omega,aa2,aa3,World.ownsRow_nil _ _ _ _,Vo,AB,rfl,rfl,rfl,rfl,Nat.le_refl _⟩
   case round=>
    obtain ⟨j,X,a4,c4,rfl,hj,xJ,hBr,hSr,M7,hap,HX,hx1,hx2,hx3,hxl⟩:=hrel;have hsz:=xJ.size;by_cases hjl:j<Cf.length
    · have p0:(j:Int)<(Cf.length:Int):=by omega
      have HJ:=Lib.hid (show j+1≤Cf.length from hjl);have p1:(0:Int)≤(j:Int):=by omega
      obtain ⟨_,_,hsl,hgx⟩:=aN M7;cases hsl;obtain ⟨gc,rfl,_,_,_⟩:=hgx (by omega);have k0:=aM M7 (j*2) (.string Cf[j].name) (by have:=nu Cf j 0 hjl (by omega);rw [Nat.add_zero]at this;rw [this];rfl);have k1:=aM M7 (j*2+1) (.int .i64 Cf[j].ty) (by rw [nu Cf j 1 hjl (by omega)];rfl);obtain ⟨q,hq⟩:∃q,Cf[j]=q:=⟨_,rfl⟩;have O9:=Lib.hid (uY pk ck Cf {Sx.zero with kind:=1,name:=x,bW:=x} j hjl hq);rw [hq]at k0 k1;clear hq;obtain ⟨nm,ty⟩:=q;have e1:=bU nm pk;have e2:=bU nm ck;have z0:=aG hBr;have z1:=eH k0;cases q1:fB nm pk with
      |true=>
       rw [q1]at e1;have y6:=(bn hBr).2.2.2.2.2.2.1;have y7:=(bn hBr).2.2.2.2.2.2.2.1;have u6:=ak hBr 6;have u7:=ak hBr 7;have hb6:(wr.setCell ⟨w1.heap.size,6,none⟩ (.string nm)).heap[w1.heap.size]? =some (.cells (aP {X with part:=⟨nm,X.part.ty⟩} (.slice a4 X.aF.length c4) au au au au) 39 (0,0)):=by rw [bG hBr 6 _];rfl
       have Vp:((wr.setCell ⟨w1.heap.size,6,none⟩ (.string nm)).setCell ⟨w1.heap.size,7,none⟩ (.int .i64 ty)).heap[w1.heap.size]? =some (.cells (aP {X with part:=⟨nm,ty⟩} (.slice a4 X.aF.length c4) au au au au) 39 (0,0)):=by rw [bG hb6 7 _];rfl
       go_wp2_with fail;go_roundw
       case rel=>exact ⟨j+1,{X with part:=⟨nm,ty⟩},a4,c4,by go_num,HJ.out,((xJ.own hbx 6 _).own hbx 7 _).alloc _,ay Vp _,(aZ (aZ hSr hBr (by decide) 6 _) hb6 (by decide) 7 _).alloc _,(aZ (aZ M7 hBr (by decide) 6 _) hb6 (by decide) 7 _).alloc _,hap,(by show _=_;rw [O9.out,←HX.out];unfold Tx.place;rw [if_pos q1]),hx1,hx2,hx3,by show X.aF.length≤_;omega⟩
       case measure=>have hjj:=HJ.out;simp [intOf];omega
      |false=>
       rw [q1]at e1;cases q2:fB nm ck with
       |true=>
        rw [q2]at e2;have y8:=(bn hBr).2.2.2.2.2.2.2.2.1;have y9:=(bn hBr).2.2.2.2.2.2.2.2.2.1;have u8:=ak hBr 8;have u9:=ak hBr 9;have hb6:(wr.setCell ⟨w1.heap.size,8,none⟩ (.string nm)).heap[w1.heap.size]? =some (.cells (aP {X with aY:=⟨nm,X.aY.ty⟩} (.slice a4 X.aF.length c4) au au au au) 39 (0,0)):=by rw [bG hBr 8 _];rfl
        have Vp:((wr.setCell ⟨w1.heap.size,8,none⟩ (.string nm)).setCell ⟨w1.heap.size,9,none⟩ (.int .i64 ty)).heap[w1.heap.size]? =some (.cells (aP {X with aY:=⟨nm,ty⟩} (.slice a4 X.aF.length c4) au au au au) 39 (0,0)):=by rw [bG hb6 9 _];rfl
        go_wp2_with fail;go_roundw
        case rel=>exact ⟨j+1,{X with aY:=⟨nm,ty⟩},a4,c4,by go_num,HJ.out,((xJ.own hbx 8 _).own hbx 9 _).alloc _,ay Vp _,(aZ (aZ hSr hBr (by decide) 8 _) hb6 (by decide) 9 _).alloc _,(aZ (aZ M7 hBr (by decide) 8 _) hb6 (by decide) 9 _).alloc _,hap,(by show _=_;rw [O9.out,←HX.out];unfold Tx.place;rw [if_neg (by rw [q1];decide),if_pos q2]),hx1,hx2,hx3,by show X.aF.length≤_;omega⟩
        case measure=>have hjj:=HJ.out;simp [intOf];omega
       |false=>
        rw [q2]at e2;have y10:=(bn hBr).2.2.2.2.2.2.2.2.2.2.1;have u10:=ak hBr 10;go_wp2_with (at_builtin;refine app1 Tryz.KA rfl _ _ rfl w.heap.size _ _ _ rfl ((hSr.alloc _).alloc _) _ _ [.string nm, .int .i64 ty] rfl rfl (ql _ _ _ _) (by intro u hu;simp at hu;rcases hu with rfl|rfl<;>rfl) (by have:=HJ.out;omega) (by simp;omega) ?_;intro a5 c5 w5 h5 hg5 Ab;have hb5:w5.heap[w1.heap.size]? =some (.cells (aP X (.slice a4 X.aF.length c4) au au au au) 39 (0,0)):=(hg5.block _ (aG (ay (ay hBr _) _)) (fun e=>fA hSr hBr (by decide) e.symm)).trans (ay (ay hBr _) _);have y5:=(bn hb5).2.2.2.2.2.2.2.2.2.2.1;have u5:=ak hb5 10);have hD5:=(((xJ.alloc (.cells #[.string nm, .int .i64 ty] 24)).alloc (.cells #[.string nm, .int .i64 ty] 24)).grown hg5 (fun g hg2=>(hSr.lt g hg2).1)).own hbx 10 (.slice a5 (X.aF.length+1) c5);have hb6:=UZ hb5 (.slice a5 (X.aF.length+1) c5);have hS6:=aZ h5 hb5 (by decide) 10 (.slice a5 (X.aF.length+1) c5);have hC6:=aZ (hap.keep ((M7.alloc _).alloc _) hg5) hb5 (by decide) 10 (.slice a5 (X.aF.length+1) c5);have Vq:=hap.near Ab ((M7.alloc _).alloc _);go_wp2_with fail;go_roundw
        case rel=>
         refine ⟨j+1,{X with aF:=X.aF++ [⟨nm,ty⟩]},a5,c5,by go_num,HJ.out,hD5,by rw [List.length_append];exact hb6, ?_,hC6,by rw [List.length_append];exact Vq,(by show _=_;rw [O9.out,←HX.out];unfold Tx.place;rw [if_neg (by rw [q1];decide),if_neg (by rw [q2];decide)]),hx1,hx2,hx3,by rw [List.length_append];show X.aF.length+1≤_;omega⟩;rw [List.length_append,oU];exact hS6
        case measure=>have hjj:=HJ.out;simp [intOf];omega
    · have jV:j=Cf.length:=by omega
      subst jV;rw [List.take_length]at HX;have hBx:=oW;have MU:=uU;go_wp2_with (refine bK rfl _ rfl rfl rfl hBr ?_);go_ret;rw [HE.out,←HX.out];refine ⟨_,au,au,au,rfl,xJ,hSr, ?_, ?_, ?_⟩
      · rw [hx1];exact World.ownsRow_nil _ _ _ _
      · rw [hx2];exact World.ownsRow_nil _ _ _ _
      · rw [hx3];exact World.ownsRow_nil _ _ _ _
  |none=>
   have hok:=tK hD.1 (v:=true) (by rw [hbad];rfl);have hnn:=hn hbad;clear hn;obtain ⟨n,rfl⟩:∃m,n=m+1:=⟨n - 1,by omega⟩;cases hsp:K.X.sees σ2 (⟨#[112,114,105,109,97,114,121]⟩:ah)with
   |true=>
    have HR2:(l,C,σ2.step)=(lf,Cf,sP):=by
     have h:=HR.out;rw [Tx.iE,hbad,hsp]at h;exact h
    cases HR2;go_wp2_with fail;refine hok.mono ?_;rintro e w19 ⟨rfl,m19,rfl⟩;have M8:=hD.drewN m19;have hmay:=aS M8.1 (⟨#[112,114,105,109,97,114,121]⟩:ah);unfold Tx.may at hmay;rw [hsp,if_pos rfl]at hmay;go_wp2_with fail;refine hmay.mono ?_;rintro e O5 ⟨rfl,wJ⟩;have dN:=((Did.refl hD.1).drewN m19).trans wJ;have fZ:=hD.trans dN;have jF:=dN.blk hb dK;have KT:=dN.row hs hle;have M6:=dN.row hnr hle;have Ve:=KF fZ.1 (⟨#[107,101,121]⟩:ah) (⟨#[40]⟩:ah);rw [ha]at Ve;go_wp2_with fail;refine Ve.mono ?_;rintro e w31 ⟨rfl,hd31⟩;have KS:=fZ.trans hd31;have U7:=hd31.blk jF dK;have aaU:=hd31.row KT hle;have Vf:=hd31.row M6 hle;have Vg:=Cw KS.1 Vf hle (by omega) ⟨#[]⟩;rw [hpb]at Vg;go_wp2_with fail;refine Vg.mono ?_;rintro e w32 ⟨rfl,hd32⟩;have Vh:=KS.trans hd32;have aaV:=hd32.blk U7 dK;have aaW:=hd32.row aaU hle;have hn32:=hd32.row Vf hle;have Vi:=bS Vh.1 (⟨#[44]⟩:ah);rw [hc0]at Vi;go_wp2_with fail;refine Vi.mono ?_;rintro e w33 ⟨rfl,D6⟩;have Vj:=Vh.trans D6;have aaX:=D6.blk aaV dK;have aaY:=D6.row aaW hle;have Vk:=D6.row hn32 hle;have Vl:=Cw Vj.1 Vk hle (by omega) pk;rw [hcd]at Vl;go_wp2_with fail;refine Vl.mono ?_;rintro e w34 ⟨rfl,hd34⟩;have Vm:=Vj.trans hd34;have aaZ:=hd34.blk aaX dK;have aa0:=hd34.row aaY hle;have aa1:=hd34.row Vk hle;have Vn:=KF Vm.1 (⟨#[41]⟩:ah) (⟨#[41]⟩:ah);rw [he]at Vn;go_wp2_with fail;refine Vn.mono ?_;rintro e w35 ⟨rfl,II⟩;have aa2:=Vm.trans II;have aa3:=II.blk aaZ dK;have Vo:=II.row aa0 hle;have afj:=II.row aa1 hle;have hCb:Cf.length≤200000:=by have:=O6.out;omega
    have HZ0:=Lib.hid Vo;go_wp2_with fail
    go_loopw [9,63,77,83] (fun _ i _ _ wr=>∃(j:Nat) (X:Sx) (a4:Option Addr) (c4:Nat),i= .int .i64 j∧j≤Cf.length∧Did K w S9 wr∧wr.heap[w1.heap.size]? =some (.cells (aP X (.slice a4 X.aF.length c4) au au au au) 39 (0,0))∧wr.ownsRow w.heap.size 24 2 (.slice a4 X.aF.length c4) X.aF.length (gH X.aF)∧wr.ownsRow w.heap.size 24 2 (.slice a3 Cf.length c3) Cf.length (gH Cf)∧Apart (.slice a4 X.aF.length c4) (.slice a3 Cf.length c3)∧Hid (X=(Cf.take j).foldl (fun x c=>Tx.place x pk ck c) {Sx.zero with kind:=1,name:=x,bW:=x})∧X.aD= []∧X.sets= []∧X.aO= []∧X.aF.length≤j) (fun _ i _ _ _=>Cf.length - (intOf i).toNat)
    case atStart=>exact ⟨0,_,none,0,rfl,by omega,aa2,aa3,World.ownsRow_nil _ _ _ _,Vo,AB,rfl,rfl,rfl,rfl,Nat.le_refl _⟩
    case round=>
     obtain ⟨j,X,a4,c4,rfl,hj,xJ,hBr,hSr,M7,hap,HX,hx1,hx2,hx3,hxl⟩:=hrel;have hsz:=xJ.size;by_cases hjl:j<Cf.length
     · have p0:(j:Int)<(Cf.length:Int):=by omega
       have HJ:=Lib.hid (show j+1≤Cf.length from hjl);have p1:(0:Int)≤(j:Int):=by omega
       obtain ⟨_,_,hsl,hgx⟩:=aN M7;cases hsl;obtain ⟨gc,rfl,_,_,_⟩:=hgx (by omega);have k0:=aM M7 (j*2) (.string Cf[j].name) (by have:=nu Cf j 0 hjl (by omega);rw [Nat.add_zero]at this;rw [this];rfl);have k1:=aM M7 (j*2+1) (.int .i64 Cf[j].ty) (by rw [nu Cf j 1 hjl (by omega)];rfl);obtain ⟨q,hq⟩:∃q,Cf[j]=q:=⟨_,rfl⟩;have O9:=Lib.hid (uY pk ck Cf {Sx.zero with kind:=1,name:=x,bW:=x} j hjl hq);rw [hq]at k0 k1;clear hq;obtain ⟨nm,ty⟩:=q;have e1:=bU nm pk;have e2:=bU nm ck;have z0:=aG hBr;have z1:=eH k0;cases q1:fB nm pk with
       |true=>
        rw [q1]at e1;have y6:=(bn hBr).2.2.2.2.2.2.1;have y7:=(bn hBr).2.2.2.2.2.2.2.1;have u6:=ak hBr 6;have u7:=ak hBr 7;have hb6:(wr.setCell ⟨w1.heap.size,6,none⟩ (.string nm)).heap[w1.heap.size]? =some (.cells (aP {X with part:=⟨nm,X.part.ty⟩} (.slice a4 X.aF.length c4) au au au au) 39 (0,0)):=by rw [bG hBr 6 _];rfl
        have Vp:((wr.setCell ⟨w1.heap.size,6,none⟩ (.string nm)).setCell ⟨w1.heap.size,7,none⟩ (.int .i64 ty)).heap[w1.heap.size]? =some (.cells (aP {X with part:=⟨nm,ty⟩} (.slice a4 X.aF.length c4) au au au au) 39 (0,0)):=by rw [bG hb6 7 _];rfl
        go_wp2_with fail;go_roundw
        case rel=>exact ⟨j+1,{X with part:=⟨nm,ty⟩},a4,c4,by go_num,HJ.out,((xJ.own hbx 6 _).own hbx 7 _).alloc _,ay Vp _,(aZ (aZ hSr hBr (by decide) 6 _) hb6 (by decide) 7 _).alloc _,(aZ (aZ M7 hBr (by decide) 6 _) hb6 (by decide) 7 _).alloc _,hap,(by show _=_;rw [O9.out,←HX.out];unfold Tx.place;rw [if_pos q1]),hx1,hx2,hx3,by show X.aF.length≤_;omega⟩
        case measure=>have hjj:=HJ.out;simp [intOf];omega
       |false=>
        rw [q1]at e1;cases q2:fB nm ck with
        |true=>
         rw [q2]at e2;have y8:=(bn hBr).2.2.2.2.2.2.2.2.1;have y9:=(bn hBr).2.2.2.2.2.2.2.2.2.1;have u8:=ak hBr 8;have u9:=ak hBr 9;have hb6:(wr.setCell ⟨w1.heap.size,8,none⟩ (.string nm)).heap[w1.heap.size]? =some (.cells (aP {X with aY:=⟨nm,X.aY.ty⟩} (.slice a4 X.aF.length c4) au au au au) 39 (0,0)):=by rw [bG hBr 8 _];rfl
         have Vp:((wr.setCell ⟨w1.heap.size,8,none⟩ (.string nm)).setCell ⟨w1.heap.size,9,none⟩ (.int .i64 ty)).heap[w1.heap.size]? =some (.cells (aP {X with aY:=⟨nm,ty⟩} (.slice a4 X.aF.length c4) au au au au) 39 (0,0)):=by rw [bG hb6 9 _];rfl
         go_wp2_with fail;go_roundw
         case rel=>exact ⟨j+1,{X with aY:=⟨nm,ty⟩},a4,c4,by go_num,HJ.out,((xJ.own hbx 8 _).own hbx 9 _).alloc _,ay Vp _,(aZ (aZ hSr hBr (by decide) 8 _) hb6 (by decide) 9 _).alloc _,(aZ (aZ M7 hBr (by decide) 8 _) hb6 (by decide) 9 _).alloc _,hap,(by show _=_;rw [O9.out,←HX.out];unfold Tx.place;rw [if_neg (by rw [q1];decide),if_pos q2]),hx1,hx2,hx3,by show X.aF.length≤_;omega⟩
         case measure=>have hjj:=HJ.out;simp [intOf];omega
        |false=>
         rw [q2]at e2;have y10:=(bn hBr).2.2.2.2.2.2.2.2.2.2.1;have u10:=ak hBr 10;go_wp2_with (at_builtin;refine app1 Tryz.KA rfl _ _ rfl w.heap.size _ _ _ rfl ((hSr.alloc _).alloc _) _ _ [.string nm, .int .i64 ty] rfl rfl (ql _ _ _ _) (by intro u hu;simp at hu;rcases hu with rfl|rfl<;>rfl) (by have:=HJ.out;omega) (by simp;omega) ?_;intro a5 c5 w5 h5 hg5 Ab;have hb5:w5.heap[w1.heap.size]? =some (.cells (aP X (.slice a4 X.aF.length c4) au au au au) 39 (0,0)):=(hg5.block _ (aG (ay (ay hBr _) _)) (fun e=>fA hSr hBr (by decide) e.symm)).trans (ay (ay hBr _) _);have y5:=(bn hb5).2.2.2.2.2.2.2.2.2.2.1;have u5:=ak hb5 10);have hD5:=(((xJ.alloc (.cells #[.string nm, .int .i64 ty] 24)).alloc (.cells #[.string nm, .int .i64 ty] 24)).grown hg5 (fun g hg2=>(hSr.lt g hg2).1)).own hbx 10 (.slice a5 (X.aF.length+1) c5);have hb6:=UZ hb5 (.slice a5 (X.aF.length+1) c5);have hS6:=aZ h5 hb5 (by decide) 10 (.slice a5 (X.aF.length+1) c5);have hC6:=aZ (hap.keep ((M7.alloc _).alloc _) hg5) hb5 (by decide) 10 (.slice a5 (X.aF.length+1) c5);have Vq:=hap.near Ab ((M7.alloc _).alloc _);go_wp2_with fail;go_roundw
         case rel=>
          refine ⟨j+1,{X with aF:=X.aF++ [⟨nm,ty⟩]},a5,c5,by go_num,HJ.out,hD5,by rw [List.length_append];exact hb6, ?_,hC6,by rw [List.length_append];exact Vq,(by show _=_;rw [O9.out,←HX.out];unfold Tx.place;rw [if_neg (by rw [q1];decide),if_neg (by rw [q2];decide)]),hx1,hx2,hx3,by rw [List.length_append];show X.aF.length+1≤_;omega⟩;rw [List.length_append,oU];exact hS6
         case measure=>have hjj:=HJ.out;simp [intOf];omega
     · have jV:j=Cf.length:=by omega
       subst jV;rw [List.take_length]at HX;have hBx:=oW;have MU:=uU;go_wp2_with (refine bK rfl _ rfl rfl rfl hBr ?_);go_ret;rw [HE.out,←HX.out];refine ⟨_,au,au,au,rfl,xJ,hSr, ?_, ?_, ?_⟩
       · rw [hx1];exact World.ownsRow_nil _ _ _ _
       · rw [hx2];exact World.ownsRow_nil _ _ _ _
       · rw [hx3];exact World.ownsRow_nil _ _ _ _
   |false=>
    have hm0:=KW hD.1 hbad;obtain ⟨nm,hnm⟩:=BK K.X σ2 l 10;have hon:=fun h=>Q5 (X:=K.X) (σ:=σ2) (l:=l) (most:=10) h
    obtain ⟨⟨l3,σ3⟩,hc3⟩:∃r,K.X.column σ2 l 10=r:=⟨_,rfl⟩;rw [hc3]at hnm hon;replace hnm:l3=l++ [nm]:=hnm;replace hon:σ3.bad=none→σ2.i<K.X.T.length∧σ2.i+1≤σ3.i:=hon;subst hnm;have hi3:=Vb K.X σ3;have hk3:=fun h=>Gi (X:=K.X) (σ:=σ3) h
    obtain ⟨⟨ty,jH⟩,hv4⟩:∃r,K.X.kind σ3=r:=⟨_,rfl⟩;rw [hv4]at hi3 hk3;replace hi3:σ3.i≤jH.i:=hi3;replace hk3:jH.bad=none→σ3.bad=none:=hk3;have hi4:=Cv K.X jH (⟨#[44]⟩:ah);have hk4:=fun h=>xL (X:=K.X) (σ:=jH) (s:=(⟨#[44]⟩:ah)) h
    obtain ⟨oF,h5⟩:∃r,K.X.must jH [(⟨#[44]⟩:ah)]=r:=⟨_,rfl⟩;rw [h5]at hi4 hk4;have HG:Hid (oF.bad=none→σ2.i<K.X.T.length∧σ2.i+1≤oF.i):=fun hb5=>⟨(hon (hk3 (hk4 hb5))).1,Nat.le_trans (hon (hk3 (hk4 hb5))).2 (Nat.le_trans hi3 hi4)⟩
    clear hon hk3 hk4 hi3 hi4
    have HR2:Hid (K.X.iE n oF (l++ [nm]) (C++ [⟨nm,ty⟩])=(lf,Cf,sP)):=by
     have h:=HR.out;rw [Tx.iE,hbad,hsp]at h;simp only [hc3,hv4,h5,D7]at h;exact Lib.hid h
    have IB:=fun w1 (hD1:Did K w σ2 w1) hr1=>sM hD1 w.heap.size (Nat.le_refl _) hD1.size (.slice a l.length c) l 10 hr1 (by omega) (by omega)
    rw [hc3]at IB;go_wp2_with fail;refine hok.mono ?_;rintro e w19 ⟨rfl,m19,rfl⟩;have M8:=hD.drewN m19;have hmay:=aS M8.1 (⟨#[112,114,105,109,97,114,121]⟩:ah);unfold Tx.may at hmay;rw [hsp,if_neg (by decide)]at hmay;go_wp2_with fail;refine hmay.mono ?_;rintro e O5 ⟨rfl,dN⟩;have wJ:=((Did.refl hD.1).drewN m19).trans dN;have fZ:=hD.trans wJ;have jF:=wJ.blk hb dK;have KT:=wJ.row hs hle;have M6:=wJ.row hnr hle;have hcc:=IB _ fZ M6;go_wp2_with fail;refine hcc.mono ?_;rintro e Jq ⟨a2,c2,rfl,mM,KU,hel⟩;have tZ:=hel.1 _ _ dK (fA M6 jF (by decide)) jF;have Ye:=hel.row (eD M6 KT (by decide)) KT hle;obtain ⟨_,_,hsl,hgn⟩:=aN KU;cases hsl;obtain ⟨gn,rfl,_,ac1,_⟩:=hgn (by omega);have k21:=aM KU l.length (.string nm) (by simp);have p3:IntKind.i64.wrap (l.length:Int)=(l.length:Int):=IntWalk.i64_in _ (by omega);have p1:(0:Int)≤(l.length:Int):=by omega
    have p2' :(l.length:Int)<(l.length:Int)+1:=by omega
    have hZb:C.length≤100001:=by have:=O6.out;omega
    go_wp2_with fail
    go_region_law (first|(refine jT Tryz.KA rfl _ _ rfl w.heap.size _ _ _ rfl (zq.alloc _) _ _ [.string nm, .int .i64 ty] rfl rfl (fun j u hj=>by rw [jO,Nat.zero_add];exact bA _ _ _ j u hj) (by intro u hu;simp at hu;rcases hu with rfl|rfl<;>rfl) (by omega) (by simp;omega) ?_;intro g3 iR w3 h3 hg3 OI hl3)|(go_simp;go_at_call 275;have hkk:=UW (K:=K) (σ:=σ3) (mM.drewN 1).1;rw [hv4]at hkk;refine hkk.mono ?_;rintro e w30 ⟨rfl,zu⟩;have uX:=zu.blk tZ dK;have zq:=zu.row Ye hle;have Fg:=zu.row KU hle;have KV:=(mM.drewN 1).trans zu;have k30:=aM Fg l.length (.string nm) (by simp);have aff:=eH k30;have Zu:=KV.size))
    all_goals
     have hg4:(w30.alloc (.cells #[.string nm, .int .i64 ty] 24)).grownBy w3 (Value.slice a3 C.length c3).ownBlock:=⟨hg3.os,hg3.tape,hg3.output,hg3.size,hg3.block⟩;have hD4:=(KV.alloc (.cells #[.string nm, .int .i64 ty] 24)).grown hg4 (fun g hg2=>(zq.lt g hg2).1);have hb4:w3.heap[w1.heap.size]? =some (.cells (aP {Sx.zero with kind:=1,name:=x,bW:=x} au au au au au) 39 (0,0)):=(hg4.block _ (aG (ay uX _)) (fun e=>fA zq uX (by decide) e.symm)).trans (ay uX _);have hn4:=(eD zq Fg (by decide)).keep (Fg.alloc _) hg4;have qm:=bS hD4.1 (⟨#[44]⟩:ah);rw [h5]at qm;go_wp2_with fail;refine qm.mono ?_;rintro e w6 ⟨rfl,hd6⟩;have hD6:=hD4.trans hd6;have hb6:=hd6.blk hb4 dK;have hs6:=hd6.row h3 hle;have Q0:=hd6.row hn4 hle
     have hmm:O8 K w6<O8 K wr:=by
      rw [hm0];by_cases hb5:oF.bad=none
      · rw [KW hD6.1 hb5];exact Zw (HG.out hb5).1 (HG.out hb5).2
      · rw [Vd hD6.1 hb5];exact Nat.succ_pos _
     go_wp2_with fail;go_roundw
     case rel=>
      refine ⟨l++ [nm],some ⟨gn,0,none⟩,c2,C++ [⟨nm,ty⟩],some ⟨g3,0,none⟩,iR,oF,n,by rw [List.length_append];rfl,by rw [List.length_append];rfl,hD6,hb6, ?_, ?_,HR2,(fun hb5=>Zx hnn (HG.out hb5).1 (HG.out hb5).2),by rw [List.length_append];show l.length+1+n≤_;omega,by show _=_;rw [List.length_append,List.length_append,O6.out];rfl⟩
      · rw [List.length_append,oU];exact hs6
      · rw [List.length_append];exact Q0
     case measure=>exact hmm
end Go.Proofs.YtnngbhpeeakfaaaGreatDoor
