/- Parts of a proof. -/
import Derived.Test.YtnngbhpeeakfaaaGreatDoorB18
set_option maxHeartbeats 8000000
set_option maxRecDepth 100000
namespace Go.Proofs.YtnngbhpeeakfaaaGreatDoor
open Go.Proofs.Tryz
open Go.RowKit
open aK
def vg (K:PK) (bx:Nat) (w:World):Nat:=match w.cell? ⟨K.b,3,none⟩,w.cell? ⟨bx,0,none⟩with|some (.int _ v),some (.slice _ n _)=>if v<0 then 11 - n else 0|_,_=>0
theorem sS {K:PK}{w:World}{σ:Ps}{bx n cap:Nat}{a:Option Addr}(h:PQ K w σ) (hb:σ.bad=none) (hx:w.heap[bx]? =some (.cells #[.slice a n cap] 334 (0,0))):vg K bx w=11 - n:=by
 obtain ⟨_,_,_,_,_,c3,_⟩:=h.cells;unfold vg;rw [c3,aj hx];have:σ.iB= -1:=by unfold Ps.iB;rw [hb]
 rw [this];rfl
theorem xM {K:PK}{w:World}{σ:Ps}{bx n cap:Nat}{a:Option Addr}(h:PQ K w σ) (hb:σ.bad≠none) (hx:w.heap[bx]? =some (.cells #[.slice a n cap] 334 (0,0))):vg K bx w=0:=by
 obtain ⟨_,_,_,_,_,c3,_⟩:=h.cells;unfold vg;rw [c3,aj hx];cases hq:σ.bad with
 |none=>exact absurd hq hb
 |some a=>
  have:σ.iB=(a:Int):=by unfold Ps.iB;rw [hq]
  rw [this];show (if (a:Int)<0 then 11 - n else 0)=0;rw [if_neg (by omega)]
theorem Vt {X:Tx}{st:Ps→Tx.Nd×Ps}{σ:Ps}(h:σ.bad≠none) (n:Nat) (l:List Sx):X.jB st n σ l=(l,σ):=by
 cases n with
 |zero=>rfl
 |succ n=>
  rw [Tx.jB];cases hb:σ.bad with
  |none=>exact absurd hb h
  |some a=>simp
def D9 (X:Tx) (st:Ps→Tx.Nd×Ps) (m:Nat) (l:List Sx) (a:Nat) (nd:Tx.Nd) (jH:Ps):List Sx×Ps:=match nd with| .change x=>X.jB st m (X.must jH [(⟨#[59]⟩:ah)]) (l++ [x])|_=>(l,⟨jH.i,some a⟩)
theorem xO {X:Tx}{st:Ps→Tx.Nd×Ps}{σ σ3 jH:Ps}{nd:Tx.Nd}{l:List Sx}{m:Nat}(hb:σ.bad=none) (hs:(!l.isEmpty&&X.sees σ (⟨#[97,112,112,108,121]⟩:ah))=false) (h3:(if 8≤l.length then σ.wrong (X.here σ)else σ)=σ3) (h4:st σ3=(nd,jH)):
 X.jB st (m+1) σ l=D9 X st m l (X.here σ) nd jH:=by
 rw [Tx.jB,hb,hs];simp only [Option.isSome_none,Bool.false_eq_true,if_false];rw [h3,h4];rfl
theorem Vu {X:Tx}{st:Ps→Tx.Nd×Ps}{σ:Ps}{l:List Sx}{m:Nat}(hb:σ.bad=none) (hl:l≠ []) (hs:X.sees σ (⟨#[97,112,112,108,121]⟩:ah)=true):X.jB st (m+1) σ l=(l,σ.step):=by
 have he:l.isEmpty=false:=by cases l with|nil=>exact absurd rfl hl|cons a l=>rfl
 rw [Tx.jB,hb,he,hs];rfl
theorem ade {a m:Nat}(h:a+(m+1)=10) (h8:a≤8):a+1+m=10∧a+1≤9:=by omega
theorem aa6 {a:Nat}(h8:a≤8):11 - (a+1)<11 - a∧0<11 - a:=by omega
theorem ow {ops:Array Oper}{rest:List Oper}{op:Oper}{a:Act}{w:World}{Q:Exit→Act→World→Prop}{V:Array Value}(hgd:op.guard=none) (x y:Operand) (ho:op.op= .store 330 x y)
 (hx:a.eval x= .pointer (some ⟨w.heap.size,0,none⟩)) (hy:a.eval y= .agg V) (hV:V.size=18) (h1' :V.toList.all (·.oneCell')=true) (h:wpList prog ops Q rest (a.put op.dst undef) (w.alloc (.cells V 330))):
 wpList prog ops Q (op::rest) a (w.alloc (.cells bC 330)):=by
 have hsz:(prog.info? 330).map (·.size)=some 18:=by kernel_rfl
 have h1:V.all (·.oneCell')=true:=by rw [←Array.all_toList];exact h1'
 refine wpList_plain hgd fun K hK=> ?_
 unfold Oper.wp execOp
 have:(Instr.storeAt 330 (.pointer (some ⟨w.heap.size,0,none⟩)) (.agg V)).run prog (w.alloc (.cells bC 330))= .ok () (w.alloc (.cells V 330)):=
  run_storeAt_new w _ _ V (by rw [hV];exact hsz) (by rw [hV];rfl) h1
 simp only [ho,hx,hy,Sem.run_bind,this,Result.andThen_ok,Sem.run_pure];exact hK _ _ h
theorem Vx {K:PK}{n:Nat}(hst:∀{w:World}{σ:Ps},PQ K w σ→K.X.T.length - σ.i<n→Calls prog 122 #[.pointer (some ⟨K.b,0,none⟩)] w (o8 K w (K.X.iY n σ).1 (K.X.iY n σ).2))
 {w:World} {σ:Ps} (h:PQ K w σ) (hlt:K.X.T.length - σ.i<n):
 Calls prog 194 #[.pointer (some ⟨K.b,0,none⟩)] w (o8 K w (.batch (K.X.many (K.X.iY n) σ).1) (K.X.many (K.X.iY n) σ).2):=by
 have hle:=h.le;have hD0:=Did.refl h;obtain ⟨σ1,h1⟩:∃r,K.X.must σ [(⟨#[98,97,116,99,104]⟩:ah)]=r:=⟨_,rfl⟩;have adf:Le σ σ1:=by rw [←h1];exact bZ K.X _ _
 obtain ⟨⟨lf,sP⟩,hR⟩:∃r,K.X.jB (K.X.iY n) 10 σ1 []=r:=⟨_,rfl⟩;obtain ⟨S9,he⟩:∃r,K.X.must sP [(⟨#[98,97,116,99,104]⟩:ah)]=r:=⟨_,rfl⟩;have HE:Hid (K.X.many (K.X.iY n) σ=(lf,S9)):=by show _=_;unfold Tx.many;simp only [h1,hR,he]
 have hm1:=bS hD0.1 (⟨#[98,97,116,99,104]⟩:ah);rw [h1]at hm1;have HLT:=Lib.hid (Nat.lt_of_le_of_lt (Nat.sub_le_sub_left adf.1 K.X.T.length) hlt);clear adf hlt;have HT:=Lib.hid K.hT;have HS:=fun (w:World) (σ' :Ps) (hw:PQ K w σ') (hl:Le σ1 σ')=>hst hw (Nat.lt_of_le_of_lt (Nat.sub_le_sub_left hl.1 K.X.T.length) HLT.out)
 clear hst;go_enter func194,ntmps194;go_wp2_with fail;refine hm1.mono ?_;rintro e w1 ⟨rfl,hd1⟩;have hD1:=hD0.trans hd1;have dK:K.L≤w1.heap.size:=Nat.le_trans hle hD1.size;have hbx:w.heap.size≤w1.heap.size:=hD1.size;have hb1:(w1.alloc (.cells #[au] 334)).heap[w1.heap.size]? =some (.cells #[au] 334 (0,0)):=aB w1 _;have hD2:=hD1.alloc (.cells #[au] 334);go_wp2_with fail
 go_loopw [] (fun wr=>∃(L:List Pv) (a:Option Addr) (cap:Nat) (σ2:Ps) (m:Nat),Did K w σ2 wr∧wr.heap[w1.heap.size]? =some (.cells #[.slice a L.length cap] 334 (0,0))∧wr.ownsRow w.heap.size 200 1 (.slice a L.length cap) L.length (L.map Pv.val)∧gI wr w.heap.size L∧Hid (K.X.jB (K.X.iY n) m σ2 (L.map Pv.x)=(lf,sP))∧L.length+m=10∧(9≤L.length→σ2.bad≠none)∧L.length≤9∧Hid (Le σ1 σ2)) (fun wr=>vg K w1.heap.size wr)
 case atStart=>exact ⟨[],none,0,σ1,10,hD2,hb1,World.ownsRow_nil _ _ _ _,(fun p hp=>absurd hp (by simp)),hR,rfl,(fun h=>absurd h (by decide)),by decide,Le.refl _⟩
 case round=>
  obtain ⟨L,a,cap,σ2,m,hD,hb,hr,hp,HR,hm,h9,hl9,HL⟩:=hrel;have hsz:=hD.size;cases hbad:σ2.bad with
  |some bd=>
   have hok:=tK hD.1 (v:=false) (by rw [hbad];rfl);have HR2:(L.map Pv.x,σ2)=(lf,sP):=by rw [←HR.out,Vt (by rw [hbad];simp)]
   cases HR2;go_wp2_with fail;refine hok.mono ?_;rintro e O5 ⟨rfl,m20,rfl⟩;have dN:=(Did.refl hD.1).drewN m20;have fZ:=hD.trans dN;have jF:=dN.blk hb dK;have ou:=dN.row hr hle;have rz:=hp.did dN hle;have hmz:=bS fZ.1 (⟨#[98,97,116,99,104]⟩:ah);rw [he]at hmz;try simp only [av,bB]at hmz
   go_wp2_with fail;refine hmz.mono ?_;rintro e AX ⟨rfl,iT⟩;have mO:=iT.blk jF dK;have c40:AX.cell? ⟨w1.heap.size,0,none⟩=some (.slice a L.length cap):=by rw [aj mO];rfl
   go_wp2_with fail;go_ret;rw [HE.out];exact ⟨L,a,cap,rfl,rfl,fZ.trans iT,iT.row ou hle,rz.did iT hle⟩
  |none=>
   have hok:=tK hD.1 (v:=true) (by rw [hbad];rfl)
   have hl8:L.length≤8:=by
    rcases Nat.lt_or_ge L.length 9 with h|h
    · exact Nat.le_of_lt_succ h
    · exact absurd hbad (h9 h)
   clear h9 hl9;obtain ⟨m,rfl⟩:∃k,m=k+1:=⟨m - 1,by omega⟩;have hM:=sS hD.1 hbad hb;have hh9:=ade hm hl8;have Q7:=aa6 hl8;have HM:=Lib.hid hm;clear hm;have c0:wr.cell? ⟨w1.heap.size,0,none⟩=some (.slice a L.length cap):=by rw [aj hb];rfl
   by_cases hlz:L.length=0
   · have hsf:(!(L.map Pv.x).isEmpty&&K.X.sees σ2 (⟨#[97,112,112,108,121]⟩:ah))=false:=by rw [List.length_eq_zero_iff.1 hlz];rfl
     have Q8:¬8≤L.length:=by omega
     have p0' :((L.length:Int)==0)=true:=by rw [beq_iff_eq];omega
     clear hlz;go_wp2_with fail;refine hok.mono ?_;rintro e w19 ⟨rfl,m19,rfl⟩;have c1:(wr.drewN m19).cell? ⟨w1.heap.size,0,none⟩=some (.slice a L.length cap):=c0;have dN:=(Did.refl hD.1).drewN m19;have fZ:=hD.trans dN;have jF:=dN.blk hb dK;have ou:=dN.row hr hle;have rz:=hp.did dN hle;generalize wr.drewN m19=O5 at *;have hat:=iQ fZ.1;go_wp2_with fail;refine hat.mono ?_;rintro e Jq ⟨rfl,m21,rfl⟩;have j6:=(Did.refl fZ.1).drewN m21;have mM:=fZ.trans j6;have tZ:=j6.blk jF dK;have DZ:=j6.row ou hle;have Vy:=rz.did j6 hle;have c21:(O5.drewN m21).cell? ⟨w1.heap.size,0,none⟩=some (.slice a L.length cap):=by rw [aj tZ];rfl
     have q8:(L.length:Int)<8:=by omega
     have jU:=mM;have sQ:=tZ;have pR:=DZ;have Ea:=Vy;have hif:(if 8≤(L.map Pv.x).length then σ2.wrong (K.X.here σ2)else σ2)=σ2:=by rw [if_neg (by rw [List.length_map];exact Q8)]
     have Eb:Le σ1 σ2:=HL.out;have Vz:9≤L.length+1→σ2.bad≠none:=fun h=>absurd (Nat.le_of_succ_le_succ h) Q8
     have hsm:=HS _ σ2 jU.1 Eb;have Ec:=G9 K.X n σ2;obtain ⟨⟨nd,jH⟩,h4⟩:∃r,K.X.iY n σ2=r:=⟨_,rfl⟩;rw [h4]at hsm Ec
     have HRR:Hid (D9 K.X (K.X.iY n) m (L.map Pv.x) (K.X.here σ2) nd jH=(lf,sP)):=by
      have h:=HR.out;rw [xO hbad hsf hif h4]at h;exact Lib.hid h
     have Zy:Hid (Le σ2 jH):=Ec;have HL3:=Lib.hid Eb;have H9:=Lib.hid Vz;clear hif Ec Eb Vz;have hTA:=M9;have hTP:=Vr;have hTB:=Vs;cases nd with
     |plain x=>
      replace hsm:Calls prog 122 #[.pointer (some ⟨K.b,0,none⟩)] _ (gD K _ 280 x jH):=hsm;have HR2:(L.map Pv.x,(⟨jH.i,some (K.X.here σ2)⟩:Ps))=(lf,sP):=HRR.out;cases HR2;go_wp2_with fail;refine hsm.mono ?_;rintro e Yk ⟨tc,c,s,wv,rfl,iU,o9⟩;have vk:=jU.trans iU;have vo:=iU.blk sQ dK;have vw:=iU.row pR hle;have vB:=Ea.did iU hle;have jE:=vk.alloc (.cells bC 330);have Ed:=ay vo (.cells bC 330);have Ee:=vw.alloc (.cells bC 330);have Ef:=vB.alloc (.cells bC 330);obtain ⟨_,_,_,_,_,d3,_,f3,_⟩:=jE.1.cells;have zb:=jE.1.lt;go_wp2_with (refine ow rfl _ _ rfl rfl rfl rfl rfl ?_);have dN:=(Did.refl jE.1).bad (K.X.here σ2);have fZ:=jE.trans dN;have jF:=dN.blk Ed dK;have ou:=dN.row Ee hle;have rz:=Ef.did dN hle;have hmz:=bS fZ.1 (⟨#[98,97,116,99,104]⟩:ah);rw [he]at hmz;try simp only [av,bB]at hmz
      go_wp2_with fail;refine hmz.mono ?_;rintro e AX ⟨rfl,iT⟩;have mO:=iT.blk jF dK;have c40:AX.cell? ⟨w1.heap.size,0,none⟩=some (.slice a L.length cap):=by rw [aj mO];rfl
      go_wp2_with fail;go_ret;rw [HE.out];exact ⟨L,a,cap,rfl,rfl,fZ.trans iT,iT.row ou hle,rz.did iT hle⟩
     |batch l=>
      replace hsm:Calls prog 122 #[.pointer (some ⟨K.b,0,none⟩)] _ (o8 K _ (.batch l) jH):=hsm;have HR2:(L.map Pv.x,(⟨jH.i,some (K.X.here σ2)⟩:Ps))=(lf,sP):=HRR.out;cases HR2;go_wp2_with fail;refine hsm.mono ?_;rintro e Yk ⟨L2,a2,cap2,_,rfl,iU,o9,_⟩;have vk:=jU.trans iU;have vo:=iU.blk sQ dK;have vw:=iU.row pR hle;have vB:=Ea.did iU hle;have jE:=vk.alloc (.cells bC 330);have Ed:=ay vo (.cells bC 330);have Ee:=vw.alloc (.cells bC 330);have Ef:=vB.alloc (.cells bC 330);obtain ⟨_,_,_,_,_,d3,_,f3,_⟩:=jE.1.cells;have zb:=jE.1.lt;go_wp2_with (refine ow rfl _ _ rfl rfl rfl rfl rfl ?_);have dN:=(Did.refl jE.1).bad (K.X.here σ2);have fZ:=jE.trans dN;have jF:=dN.blk Ed dK;have ou:=dN.row Ee hle;have rz:=Ef.did dN hle;have hmz:=bS fZ.1 (⟨#[98,97,116,99,104]⟩:ah);rw [he]at hmz;try simp only [av,bB]at hmz
      go_wp2_with fail;refine hmz.mono ?_;rintro e AX ⟨rfl,iT⟩;have mO:=iT.blk jF dK;have c40:AX.cell? ⟨w1.heap.size,0,none⟩=some (.slice a L.length cap):=by rw [aj mO];rfl
      go_wp2_with fail;go_ret;rw [HE.out];exact ⟨L,a,cap,rfl,rfl,fZ.trans iT,iT.row ou hle,rz.did iT hle⟩
     |change x=>
      replace hsm:Calls prog 122 #[.pointer (some ⟨K.b,0,none⟩)] _ (gD K _ 330 x jH):=hsm;obtain ⟨oF,h5⟩:∃r,K.X.must jH [(⟨#[59]⟩:ah)]=r:=⟨_,rfl⟩;have Eh:Le jH oF:=by rw [←h5];exact bZ K.X _ _
      have HL5:=Lib.hid ((HL3.out.trans Zy.out).trans Eh);have WG:Hid (9≤L.length+1→oF.bad≠none):=fun h hb5=>H9.out h (Zy.out.2 (Eh.2 hb5))
      clear Eh;have HR2:Hid (K.X.jB (K.X.iY n) m oF (L.map Pv.x++ [x])=(lf,sP)):=by have h:=HRR.out;unfold D9 at h;simp only [h5]at h;exact Lib.hid h
      go_wp2_with fail;refine hsm.mono ?_;rintro e Yk ⟨tc,c,s,wv,rfl,iU,o9⟩;have vk:=jU.trans iU;obtain ⟨tcA,tcC,htc,_⟩:=aN o9.1;obtain ⟨cA,cC,hc',_⟩:=aN o9.2.1;obtain ⟨sA,sC,hs',_⟩:=aN o9.2.2.1;obtain ⟨wA,wC,hw',_⟩:=aN o9.2.2.2;have hone:(aP x tc c s wv au).toList.all (·.oneCell')=true:=by rw [htc,hc',hs',hw'];rfl
      clear htc hc' hs' hw';have vo:=iU.blk sQ dK;have vw:=iU.row pR hle;have vB:=(Ea.did iU hle).snoc (p:=⟨x,tc,c,s,wv⟩) (o9.mono jU.size);have jE:=vk.alloc (.cells (aP x tc c s wv au) 330);have Ei:=bS jE.1 (⟨#[59]⟩:ah);rw [h5]at Ei;try simp only [av]at Ei
      go_wp2_with (refine ow rfl _ _ rfl rfl rfl rfl hone ?_);refine Ei.mono ?_;rintro e w25 ⟨rfl,hd25⟩;have KX:=jE.trans hd25;have zw:=hd25.blk (ay vo _) dK;have zx:=hd25.row (vw.alloc _) hle;have VA:=(vB.alloc _).did hd25 hle;have c25:w25.cell? ⟨w1.heap.size,0,none⟩=some (.slice a L.length cap):=by rw [aj zw];rfl
      have hh8:L.length≤8:=hl8;go_wp2_with (at_builtin;refine app1 Tryz.aa5 rfl _ _ rfl w.heap.size _ _ _ rfl (zx.alloc _) _ _ [.iface 330 (.agg (aP x tc c s wv au))] rfl rfl (bA _ _ _) (by intro u hu;rw [List.mem_singleton.1 hu];rfl) (by omega) (by have:=KX.size;simp;omega) ?_;intro a5 c5 w5 h5' hg5 Ab;have hb5:w5.heap[w1.heap.size]? =some (.cells #[.slice a L.length cap] 334 (0,0)):=(hg5.block _ (aG (ay zw _)) (fun e=>fA zx zw (by decide) e.symm)).trans (ay zw _);have y5:w5.cell? ⟨w1.heap.size,0,none⟩=some (.slice a L.length cap):=(by rw [aj hb5];rfl);have u5:=ak hb5 0);have hD5:=((KX.alloc (.cells #[.iface 330 (.agg (aP x tc c s wv au))] 200)).grown hg5 (fun g hg2=>(zx.lt g hg2).1)).own hbx 0 (.slice a5 (L.length+1) c5);have hb6:(w5.setCell ⟨w1.heap.size,0,none⟩ (.slice a5 (L.length+1) c5)).heap[w1.heap.size]? =some (.cells #[.slice a5 (L.length+1) c5] 334 (0,0)):=by rw [bG hb5 0 _];rfl
      have MV:=aZ h5' hb5 (by decide) 0 (.slice a5 (L.length+1) c5);have hp6:=((VA.alloc (.cells #[.iface 330 (.agg (aP x tc c s wv au))] 200)).map (fun _ _ _ _ _ he hq=>(eD (zx.alloc _) hq (fun e2=>uZ (T:=200) (by decide) he e2)).keep hq hg5)).set hb5 (by decide) 0 (.slice a5 (L.length+1) c5)
      have hmm:vg K w1.heap.size (w5.setCell ⟨w1.heap.size,0,none⟩ (.slice a5 (L.length+1) c5))<vg K w1.heap.size wr:=by
       rw [hM];by_cases hq:oF.bad=none
       · rw [sS hD5.1 hq hb6];exact Q7.1
       · rw [xM hD5.1 hq hb6];exact Q7.2
      go_wp2_with fail;go_roundw
      case rel=>
       refine ⟨L++ [⟨x,tc,c,s,wv⟩],a5,c5,oF,m,hD5,by rw [List.length_append];exact hb6,by rw [List.length_append,List.map_append];exact MV,hp6,by rw [List.map_append];exact HR2,by rw [List.length_append];exact hh9.1,by rw [List.length_append];exact WG.out,by rw [List.length_append];exact hh9.2,HL5⟩
      case measure=>exact hmm
   · have hLn:L.map Pv.x≠ []:=by intro e;apply hlz;rw [←List.length_map (f:=Pv.x),e];rfl
     have p0' :((L.length:Int)==0)=false:=by rw [beq_eq_false_iff_ne];omega
     cases hse:K.X.sees σ2 (⟨#[97,112,112,108,121]⟩:ah)with
     |true=>
      have HR2:(L.map Pv.x,σ2.step)=(lf,sP):=by rw [←HR.out,Vu hbad hLn hse]
      cases HR2;go_wp2_with fail;refine hok.mono ?_;rintro e w19 ⟨rfl,m19,rfl⟩;have M8:=hD.drewN m19;have c1:(wr.drewN m19).cell? ⟨w1.heap.size,0,none⟩=some (.slice a L.length cap):=c0;have hmay:=aS M8.1 (⟨#[97,112,112,108,121]⟩:ah);unfold Tx.may at hmay;rw [hse,if_pos rfl]at hmay;go_wp2_with fail;refine hmay.mono ?_;rintro e O5 ⟨rfl,wJ⟩;have dN:=((Did.refl hD.1).drewN m19).trans wJ;have fZ:=hD.trans dN;have jF:=dN.blk hb dK;have ou:=dN.row hr hle;have rz:=hp.did dN hle;have hmz:=bS fZ.1 (⟨#[98,97,116,99,104]⟩:ah);rw [he]at hmz;try simp only [av,bB]at hmz
      go_wp2_with fail;refine hmz.mono ?_;rintro e AX ⟨rfl,iT⟩;have mO:=iT.blk jF dK;have c40:AX.cell? ⟨w1.heap.size,0,none⟩=some (.slice a L.length cap):=by rw [aj mO];rfl
      go_wp2_with fail;go_ret;rw [HE.out];exact ⟨L,a,cap,rfl,rfl,fZ.trans iT,iT.row ou hle,rz.did iT hle⟩
     |false=>
      have hsf:(!(L.map Pv.x).isEmpty&&K.X.sees σ2 (⟨#[97,112,112,108,121]⟩:ah))=false:=by rw [hse,Bool.and_false]
      go_wp2_with fail;refine hok.mono ?_;rintro e w19 ⟨rfl,m19,rfl⟩;have M8:=hD.drewN m19;have c1:(wr.drewN m19).cell? ⟨w1.heap.size,0,none⟩=some (.slice a L.length cap):=c0;have hmay:=aS M8.1 (⟨#[97,112,112,108,121]⟩:ah);unfold Tx.may at hmay;rw [hse,if_neg (by decide)]at hmay;go_wp2_with fail;refine hmay.mono ?_;rintro e O5 ⟨rfl,wJ⟩;have dN:=((Did.refl hD.1).drewN m19).trans wJ;have fZ:=hD.trans dN;have jF:=dN.blk hb dK;have ou:=dN.row hr hle;have rz:=hp.did dN hle;by_cases Q8:8≤L.length
      · skip
        have hat:=iQ fZ.1;go_wp2_with fail;refine hat.mono ?_;rintro e Jq ⟨rfl,m21,rfl⟩;have j6:=(Did.refl fZ.1).drewN m21;have mM:=fZ.trans j6;have tZ:=j6.blk jF dK;have DZ:=j6.row ou hle;have Vy:=rz.did j6 hle;have c21:(O5.drewN m21).cell? ⟨w1.heap.size,0,none⟩=some (.slice a L.length cap):=by rw [aj tZ];rfl
        have q8:(8:Int)≤(L.length:Int):=by omega
        have hwr:=gM mM.1 (K.X.here σ2);go_wp2_with fail;refine hwr.mono ?_;rintro e Zt ⟨rfl,lQ⟩;have jU:=mM.trans lQ;have sQ:=lQ.blk tZ dK;have pR:=lQ.row DZ hle;have Ea:=Vy.did lQ hle;obtain ⟨σ3,h3⟩:∃r,σ2.wrong (K.X.here σ2)=r:=⟨_,rfl⟩;have hif:(if 8≤(L.map Pv.x).length then σ2.wrong (K.X.here σ2)else σ2)=σ3:=by rw [if_pos (by rw [List.length_map];exact Q8)];exact h3
        have Eb:Le σ1 σ3:=HL.out.trans (by rw [←h3];exact oJ _ _);have Vz:9≤L.length+1→σ3.bad≠none:=fun _=>by rw [←h3];unfold Ps.wrong;rw [hbad];simp
        rw [h3]at jU;have hsm:=HS _ σ3 jU.1 Eb;have Ec:=G9 K.X n σ3;obtain ⟨⟨nd,jH⟩,h4⟩:∃r,K.X.iY n σ3=r:=⟨_,rfl⟩;rw [h4]at hsm Ec
        have HRR:Hid (D9 K.X (K.X.iY n) m (L.map Pv.x) (K.X.here σ2) nd jH=(lf,sP)):=by
         have h:=HR.out;rw [xO hbad hsf hif h4]at h;exact Lib.hid h
        have Zy:Hid (Le σ3 jH):=Ec;have HL3:=Lib.hid Eb;have H9:=Lib.hid Vz;clear hif Ec Eb Vz;have hTA:=M9;have hTP:=Vr;have hTB:=Vs;cases nd with
        |plain x=>
         replace hsm:Calls prog 122 #[.pointer (some ⟨K.b,0,none⟩)] _ (gD K _ 280 x jH):=hsm;have HR2:(L.map Pv.x,(⟨jH.i,some (K.X.here σ2)⟩:Ps))=(lf,sP):=HRR.out;cases HR2;go_wp2_with fail;refine hsm.mono ?_;rintro e Yk ⟨tc,c,s,wv,rfl,iU,o9⟩;have vk:=jU.trans iU;have vo:=iU.blk sQ dK;have vw:=iU.row pR hle;have vB:=Ea.did iU hle;have jE:=vk.alloc (.cells bC 330);have Ed:=ay vo (.cells bC 330);have Ee:=vw.alloc (.cells bC 330);have Ef:=vB.alloc (.cells bC 330);obtain ⟨_,_,_,_,_,d3,_,f3,_⟩:=jE.1.cells;have zb:=jE.1.lt;go_wp2_with (refine ow rfl _ _ rfl rfl rfl rfl rfl ?_);have dN:=(Did.refl jE.1).bad (K.X.here σ2);have fZ:=jE.trans dN;have jF:=dN.blk Ed dK;have ou:=dN.row Ee hle;have rz:=Ef.did dN hle;have hmz:=bS fZ.1 (⟨#[98,97,116,99,104]⟩:ah);rw [he]at hmz;try simp only [av,bB]at hmz
         go_wp2_with fail;refine hmz.mono ?_;rintro e AX ⟨rfl,iT⟩;have mO:=iT.blk jF dK;have c40:AX.cell? ⟨w1.heap.size,0,none⟩=some (.slice a L.length cap):=by rw [aj mO];rfl
         go_wp2_with fail;go_ret;rw [HE.out];exact ⟨L,a,cap,rfl,rfl,fZ.trans iT,iT.row ou hle,rz.did iT hle⟩
        |batch l=>
         replace hsm:Calls prog 122 #[.pointer (some ⟨K.b,0,none⟩)] _ (o8 K _ (.batch l) jH):=hsm;have HR2:(L.map Pv.x,(⟨jH.i,some (K.X.here σ2)⟩:Ps))=(lf,sP):=HRR.out;cases HR2;go_wp2_with fail;refine hsm.mono ?_;rintro e Yk ⟨L2,a2,cap2,_,rfl,iU,o9,_⟩;have vk:=jU.trans iU;have vo:=iU.blk sQ dK;have vw:=iU.row pR hle;have vB:=Ea.did iU hle;have jE:=vk.alloc (.cells bC 330);have Ed:=ay vo (.cells bC 330);have Ee:=vw.alloc (.cells bC 330);have Ef:=vB.alloc (.cells bC 330);obtain ⟨_,_,_,_,_,d3,_,f3,_⟩:=jE.1.cells;have zb:=jE.1.lt;go_wp2_with (refine ow rfl _ _ rfl rfl rfl rfl rfl ?_);have dN:=(Did.refl jE.1).bad (K.X.here σ2);have fZ:=jE.trans dN;have jF:=dN.blk Ed dK;have ou:=dN.row Ee hle;have rz:=Ef.did dN hle;have hmz:=bS fZ.1 (⟨#[98,97,116,99,104]⟩:ah);rw [he]at hmz;try simp only [av,bB]at hmz
         go_wp2_with fail;refine hmz.mono ?_;rintro e AX ⟨rfl,iT⟩;have mO:=iT.blk jF dK;have c40:AX.cell? ⟨w1.heap.size,0,none⟩=some (.slice a L.length cap):=by rw [aj mO];rfl
         go_wp2_with fail;go_ret;rw [HE.out];exact ⟨L,a,cap,rfl,rfl,fZ.trans iT,iT.row ou hle,rz.did iT hle⟩
        |change x=>
         replace hsm:Calls prog 122 #[.pointer (some ⟨K.b,0,none⟩)] _ (gD K _ 330 x jH):=hsm;obtain ⟨oF,h5⟩:∃r,K.X.must jH [(⟨#[59]⟩:ah)]=r:=⟨_,rfl⟩;have Eh:Le jH oF:=by rw [←h5];exact bZ K.X _ _
         have HL5:=Lib.hid ((HL3.out.trans Zy.out).trans Eh);have WG:Hid (9≤L.length+1→oF.bad≠none):=fun h hb5=>H9.out h (Zy.out.2 (Eh.2 hb5))
         clear Eh;have HR2:Hid (K.X.jB (K.X.iY n) m oF (L.map Pv.x++ [x])=(lf,sP)):=by have h:=HRR.out;unfold D9 at h;simp only [h5]at h;exact Lib.hid h
         go_wp2_with fail;refine hsm.mono ?_;rintro e Yk ⟨tc,c,s,wv,rfl,iU,o9⟩;have vk:=jU.trans iU;obtain ⟨tcA,tcC,htc,_⟩:=aN o9.1;obtain ⟨cA,cC,hc',_⟩:=aN o9.2.1;obtain ⟨sA,sC,hs',_⟩:=aN o9.2.2.1;obtain ⟨wA,wC,hw',_⟩:=aN o9.2.2.2;have hone:(aP x tc c s wv au).toList.all (·.oneCell')=true:=by rw [htc,hc',hs',hw'];rfl
         clear htc hc' hs' hw';have vo:=iU.blk sQ dK;have vw:=iU.row pR hle;have vB:=(Ea.did iU hle).snoc (p:=⟨x,tc,c,s,wv⟩) (o9.mono jU.size);have jE:=vk.alloc (.cells (aP x tc c s wv au) 330);have Ei:=bS jE.1 (⟨#[59]⟩:ah);rw [h5]at Ei;try simp only [av]at Ei
         go_wp2_with (refine ow rfl _ _ rfl rfl rfl rfl hone ?_);refine Ei.mono ?_;rintro e w25 ⟨rfl,hd25⟩;have KX:=jE.trans hd25;have zw:=hd25.blk (ay vo _) dK;have zx:=hd25.row (vw.alloc _) hle;have VA:=(vB.alloc _).did hd25 hle;have c25:w25.cell? ⟨w1.heap.size,0,none⟩=some (.slice a L.length cap):=by rw [aj zw];rfl
         have hh8:L.length≤8:=hl8;go_wp2_with (at_builtin;refine app1 Tryz.aa5 rfl _ _ rfl w.heap.size _ _ _ rfl (zx.alloc _) _ _ [.iface 330 (.agg (aP x tc c s wv au))] rfl rfl (bA _ _ _) (by intro u hu;rw [List.mem_singleton.1 hu];rfl) (by omega) (by have:=KX.size;simp;omega) ?_;intro a5 c5 w5 h5' hg5 Ab;have hb5:w5.heap[w1.heap.size]? =some (.cells #[.slice a L.length cap] 334 (0,0)):=(hg5.block _ (aG (ay zw _)) (fun e=>fA zx zw (by decide) e.symm)).trans (ay zw _);have y5:w5.cell? ⟨w1.heap.size,0,none⟩=some (.slice a L.length cap):=(by rw [aj hb5];rfl);have u5:=ak hb5 0);have hD5:=((KX.alloc (.cells #[.iface 330 (.agg (aP x tc c s wv au))] 200)).grown hg5 (fun g hg2=>(zx.lt g hg2).1)).own hbx 0 (.slice a5 (L.length+1) c5);have hb6:(w5.setCell ⟨w1.heap.size,0,none⟩ (.slice a5 (L.length+1) c5)).heap[w1.heap.size]? =some (.cells #[.slice a5 (L.length+1) c5] 334 (0,0)):=by rw [bG hb5 0 _];rfl
         have MV:=aZ h5' hb5 (by decide) 0 (.slice a5 (L.length+1) c5);have hp6:=((VA.alloc (.cells #[.iface 330 (.agg (aP x tc c s wv au))] 200)).map (fun _ _ _ _ _ he hq=>(eD (zx.alloc _) hq (fun e2=>uZ (T:=200) (by decide) he e2)).keep hq hg5)).set hb5 (by decide) 0 (.slice a5 (L.length+1) c5)
         have hmm:vg K w1.heap.size (w5.setCell ⟨w1.heap.size,0,none⟩ (.slice a5 (L.length+1) c5))<vg K w1.heap.size wr:=by
          rw [hM];by_cases hq:oF.bad=none
          · rw [sS hD5.1 hq hb6];exact Q7.1
          · rw [xM hD5.1 hq hb6];exact Q7.2
         go_wp2_with fail;go_roundw
         case rel=>
          refine ⟨L++ [⟨x,tc,c,s,wv⟩],a5,c5,oF,m,hD5,by rw [List.length_append];exact hb6,by rw [List.length_append,List.map_append];exact MV,hp6,by rw [List.map_append];exact HR2,by rw [List.length_append];exact hh9.1,by rw [List.length_append];exact WG.out,by rw [List.length_append];exact hh9.2,HL5⟩
         case measure=>exact hmm
      · skip
        have hat:=iQ fZ.1;go_wp2_with fail;refine hat.mono ?_;rintro e Jq ⟨rfl,m21,rfl⟩;have j6:=(Did.refl fZ.1).drewN m21;have mM:=fZ.trans j6;have tZ:=j6.blk jF dK;have DZ:=j6.row ou hle;have Vy:=rz.did j6 hle;have c21:(O5.drewN m21).cell? ⟨w1.heap.size,0,none⟩=some (.slice a L.length cap):=by rw [aj tZ];rfl
        have q8:(L.length:Int)<8:=by omega
        have jU:=mM;have sQ:=tZ;have pR:=DZ;have Ea:=Vy;have hif:(if 8≤(L.map Pv.x).length then σ2.wrong (K.X.here σ2)else σ2)=σ2:=by rw [if_neg (by rw [List.length_map];exact Q8)]
        have Eb:Le σ1 σ2:=HL.out;have Vz:9≤L.length+1→σ2.bad≠none:=fun h=>absurd (Nat.le_of_succ_le_succ h) Q8
        have hsm:=HS _ σ2 jU.1 Eb;have Ec:=G9 K.X n σ2;obtain ⟨⟨nd,jH⟩,h4⟩:∃r,K.X.iY n σ2=r:=⟨_,rfl⟩;rw [h4]at hsm Ec
        have HRR:Hid (D9 K.X (K.X.iY n) m (L.map Pv.x) (K.X.here σ2) nd jH=(lf,sP)):=by
         have h:=HR.out;rw [xO hbad hsf hif h4]at h;exact Lib.hid h
        have Zy:Hid (Le σ2 jH):=Ec;have HL3:=Lib.hid Eb;have H9:=Lib.hid Vz;clear hif Ec Eb Vz;have hTA:=M9;have hTP:=Vr;have hTB:=Vs;cases nd with
        |plain x=>
         replace hsm:Calls prog 122 #[.pointer (some ⟨K.b,0,none⟩)] _ (gD K _ 280 x jH):=hsm;have HR2:(L.map Pv.x,(⟨jH.i,some (K.X.here σ2)⟩:Ps))=(lf,sP):=HRR.out;cases HR2;go_wp2_with fail;refine hsm.mono ?_;rintro e Yk ⟨tc,c,s,wv,rfl,iU,o9⟩;have vk:=jU.trans iU;have vo:=iU.blk sQ dK;have vw:=iU.row pR hle;have vB:=Ea.did iU hle;have jE:=vk.alloc (.cells bC 330);have Ed:=ay vo (.cells bC 330);have Ee:=vw.alloc (.cells bC 330);have Ef:=vB.alloc (.cells bC 330);obtain ⟨_,_,_,_,_,d3,_,f3,_⟩:=jE.1.cells;have zb:=jE.1.lt;go_wp2_with (refine ow rfl _ _ rfl rfl rfl rfl rfl ?_);have dN:=(Did.refl jE.1).bad (K.X.here σ2);have fZ:=jE.trans dN;have jF:=dN.blk Ed dK;have ou:=dN.row Ee hle;have rz:=Ef.did dN hle;have hmz:=bS fZ.1 (⟨#[98,97,116,99,104]⟩:ah);rw [he]at hmz;try simp only [av,bB]at hmz
         go_wp2_with fail;refine hmz.mono ?_;rintro e AX ⟨rfl,iT⟩;have mO:=iT.blk jF dK;have c40:AX.cell? ⟨w1.heap.size,0,none⟩=some (.slice a L.length cap):=by rw [aj mO];rfl
         go_wp2_with fail;go_ret;rw [HE.out];exact ⟨L,a,cap,rfl,rfl,fZ.trans iT,iT.row ou hle,rz.did iT hle⟩
        |batch l=>
         replace hsm:Calls prog 122 #[.pointer (some ⟨K.b,0,none⟩)] _ (o8 K _ (.batch l) jH):=hsm;have HR2:(L.map Pv.x,(⟨jH.i,some (K.X.here σ2)⟩:Ps))=(lf,sP):=HRR.out;cases HR2;go_wp2_with fail;refine hsm.mono ?_;rintro e Yk ⟨L2,a2,cap2,_,rfl,iU,o9,_⟩;have vk:=jU.trans iU;have vo:=iU.blk sQ dK;have vw:=iU.row pR hle;have vB:=Ea.did iU hle;have jE:=vk.alloc (.cells bC 330);have Ed:=ay vo (.cells bC 330);have Ee:=vw.alloc (.cells bC 330);have Ef:=vB.alloc (.cells bC 330);obtain ⟨_,_,_,_,_,d3,_,f3,_⟩:=jE.1.cells;have zb:=jE.1.lt;go_wp2_with (refine ow rfl _ _ rfl rfl rfl rfl rfl ?_);have dN:=(Did.refl jE.1).bad (K.X.here σ2);have fZ:=jE.trans dN;have jF:=dN.blk Ed dK;have ou:=dN.row Ee hle;have rz:=Ef.did dN hle;have hmz:=bS fZ.1 (⟨#[98,97,116,99,104]⟩:ah);rw [he]at hmz;try simp only [av,bB]at hmz
         go_wp2_with fail;refine hmz.mono ?_;rintro e AX ⟨rfl,iT⟩;have mO:=iT.blk jF dK;have c40:AX.cell? ⟨w1.heap.size,0,none⟩=some (.slice a L.length cap):=by rw [aj mO];rfl
         go_wp2_with fail;go_ret;rw [HE.out];exact ⟨L,a,cap,rfl,rfl,fZ.trans iT,iT.row ou hle,rz.did iT hle⟩
        |change x=>
         replace hsm:Calls prog 122 #[.pointer (some ⟨K.b,0,none⟩)] _ (gD K _ 330 x jH):=hsm;obtain ⟨oF,h5⟩:∃r,K.X.must jH [(⟨#[59]⟩:ah)]=r:=⟨_,rfl⟩;have Eh:Le jH oF:=by rw [←h5];exact bZ K.X _ _
         have HL5:=Lib.hid ((HL3.out.trans Zy.out).trans Eh);have WG:Hid (9≤L.length+1→oF.bad≠none):=fun h hb5=>H9.out h (Zy.out.2 (Eh.2 hb5))
         clear Eh;have HR2:Hid (K.X.jB (K.X.iY n) m oF (L.map Pv.x++ [x])=(lf,sP)):=by have h:=HRR.out;unfold D9 at h;simp only [h5]at h;exact Lib.hid h
         go_wp2_with fail;refine hsm.mono ?_;rintro e Yk ⟨tc,c,s,wv,rfl,iU,o9⟩;have vk:=jU.trans iU;obtain ⟨tcA,tcC,htc,_⟩:=aN o9.1;obtain ⟨cA,cC,hc',_⟩:=aN o9.2.1;obtain ⟨sA,sC,hs',_⟩:=aN o9.2.2.1;obtain ⟨wA,wC,hw',_⟩:=aN o9.2.2.2;have hone:(aP x tc c s wv au).toList.all (·.oneCell')=true:=by rw [htc,hc',hs',hw'];rfl
         clear htc hc' hs' hw';have vo:=iU.blk sQ dK;have vw:=iU.row pR hle;have vB:=(Ea.did iU hle).snoc (p:=⟨x,tc,c,s,wv⟩) (o9.mono jU.size);have jE:=vk.alloc (.cells (aP x tc c s wv au) 330);have Ei:=bS jE.1 (⟨#[59]⟩:ah);rw [h5]at Ei;try simp only [av]at Ei
         go_wp2_with (refine ow rfl _ _ rfl rfl rfl rfl hone ?_);refine Ei.mono ?_;rintro e w25 ⟨rfl,hd25⟩;have KX:=jE.trans hd25;have zw:=hd25.blk (ay vo _) dK;have zx:=hd25.row (vw.alloc _) hle;have VA:=(vB.alloc _).did hd25 hle;have c25:w25.cell? ⟨w1.heap.size,0,none⟩=some (.slice a L.length cap):=by rw [aj zw];rfl
         have hh8:L.length≤8:=hl8;go_wp2_with (at_builtin;refine app1 Tryz.aa5 rfl _ _ rfl w.heap.size _ _ _ rfl (zx.alloc _) _ _ [.iface 330 (.agg (aP x tc c s wv au))] rfl rfl (bA _ _ _) (by intro u hu;rw [List.mem_singleton.1 hu];rfl) (by omega) (by have:=KX.size;simp;omega) ?_;intro a5 c5 w5 h5' hg5 Ab;have hb5:w5.heap[w1.heap.size]? =some (.cells #[.slice a L.length cap] 334 (0,0)):=(hg5.block _ (aG (ay zw _)) (fun e=>fA zx zw (by decide) e.symm)).trans (ay zw _);have y5:w5.cell? ⟨w1.heap.size,0,none⟩=some (.slice a L.length cap):=(by rw [aj hb5];rfl);have u5:=ak hb5 0);have hD5:=((KX.alloc (.cells #[.iface 330 (.agg (aP x tc c s wv au))] 200)).grown hg5 (fun g hg2=>(zx.lt g hg2).1)).own hbx 0 (.slice a5 (L.length+1) c5);have hb6:(w5.setCell ⟨w1.heap.size,0,none⟩ (.slice a5 (L.length+1) c5)).heap[w1.heap.size]? =some (.cells #[.slice a5 (L.length+1) c5] 334 (0,0)):=by rw [bG hb5 0 _];rfl
         have MV:=aZ h5' hb5 (by decide) 0 (.slice a5 (L.length+1) c5);have hp6:=((VA.alloc (.cells #[.iface 330 (.agg (aP x tc c s wv au))] 200)).map (fun _ _ _ _ _ he hq=>(eD (zx.alloc _) hq (fun e2=>uZ (T:=200) (by decide) he e2)).keep hq hg5)).set hb5 (by decide) 0 (.slice a5 (L.length+1) c5)
         have hmm:vg K w1.heap.size (w5.setCell ⟨w1.heap.size,0,none⟩ (.slice a5 (L.length+1) c5))<vg K w1.heap.size wr:=by
          rw [hM];by_cases hq:oF.bad=none
          · rw [sS hD5.1 hq hb6];exact Q7.1
          · rw [xM hD5.1 hq hb6];exact Q7.2
         go_wp2_with fail;go_roundw
         case rel=>
          refine ⟨L++ [⟨x,tc,c,s,wv⟩],a5,c5,oF,m,hD5,by rw [List.length_append];exact hb6,by rw [List.length_append,List.map_append];exact MV,hp6,by rw [List.map_append];exact HR2,by rw [List.length_append];exact hh9.1,by rw [List.length_append];exact WG.out,by rw [List.length_append];exact hh9.2,HL5⟩
         case measure=>exact hmm
end Go.Proofs.YtnngbhpeeakfaaaGreatDoor
