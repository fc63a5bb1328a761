/- Parts of a proof. -/
import Derived.Test.YtcgadodckoalnaaGreatDoorB17
set_option maxHeartbeats 8000000
set_option maxRecDepth 100000
namespace Go.Proofs.YtcgadodckoalnaaGreatDoor
open Go.Proofs.Tryz
open Go.RowKit
open aN
def yx (K:PK) (bx:Nat) (w:World):Nat:=match w.cell? ⟨K.b,3,none⟩,w.cell? ⟨bx,0,none⟩with|some (.int _ v),some (.slice _ n _)=>if v<0 then 11 - n else 0|_,_=>0
theorem vZ {K:PK}{w:World}{σ:Ps}{bx n cap:Nat}{a:Option Addr}(h:PQ K w σ) (hb:σ.bad=none) (hx:w.heap[bx]? =some (.cells #[.slice a n cap] 138 (0,0))):yx K bx w=11 - n:=by
 obtain ⟨_,_,_,_,_,c3,_⟩:=h.cells;unfold yx;rw [c3,au hx];have:σ.fT= -1:=by unfold Ps.fT;rw [hb]
 rw [this];rfl
theorem Ay {K:PK}{w:World}{σ:Ps}{bx n cap:Nat}{a:Option Addr}(h:PQ K w σ) (hb:σ.bad≠none) (hx:w.heap[bx]? =some (.cells #[.slice a n cap] 138 (0,0))):yx K bx w=0:=by
 obtain ⟨_,_,_,_,_,c3,_⟩:=h.cells;unfold yx;rw [c3,au hx];cases hq:σ.bad with
 |none=>exact absurd hq hb
 |some a=>
  have:σ.fT=(a:Int):=by unfold Ps.fT;rw [hq]
  rw [this];show (if (a:Int)<0 then 11 - n else 0)=0;rw [if_neg (by omega)]
theorem YL {X:Tx}{st:Ps→Tx.Nd×Ps}{σ:Ps}(h:σ.bad≠none) (n:Nat) (l:List Sx):X.jk st n σ l=(l,σ):=by
 cases n with
 |zero=>rfl
 |succ n=>
  rw [Tx.jk];cases hb:σ.bad with
  |none=>exact absurd hb h
  |some a=>simp
def Hf (X:Tx) (st:Ps→Tx.Nd×Ps) (m:Nat) (l:List Sx) (a:Nat) (nd:Tx.Nd) (jS:Ps):List Sx×Ps:=match nd with| .change x=>X.jk st m (X.must jS [(⟨#[59]⟩:ah)]) (l++ [x])|_=>(l,⟨jS.i,some a⟩)
theorem Az {X:Tx}{st:Ps→Tx.Nd×Ps}{σ σ3 jS:Ps}{nd:Tx.Nd}{l:List Sx}{m:Nat}(hb:σ.bad=none) (hs:(!l.isEmpty&&X.sees σ (⟨#[97,112,112,108,121]⟩:ah))=false) (h3:(if 8≤l.length then σ.wrong (X.here σ)else σ)=σ3) (h4:st σ3=(nd,jS)):
 X.jk st (m+1) σ l=Hf X st m l (X.here σ) nd jS:=by
 rw [Tx.jk,hb,hs];simp only [Option.isSome_none,Bool.false_eq_true,if_false];rw [h3,h4];rfl
theorem YM {X:Tx}{st:Ps→Tx.Nd×Ps}{σ:Ps}{l:List Sx}{m:Nat}(hb:σ.bad=none) (hl:l≠ []) (hs:X.sees σ (⟨#[97,112,112,108,121]⟩:ah)=true):X.jk st (m+1) σ l=(l,σ.step):=by
 have he:l.isEmpty=false:=by cases l with|nil=>exact absurd rfl hl|cons a l=>rfl
 rw [Tx.jk,hb,he,hs];rfl
theorem afO {a m:Nat}(h:a+(m+1)=10) (h8:a≤8):a+1+m=10∧a+1≤9:=by omega
theorem adM {a:Nat}(h8:a≤8):11 - (a+1)<11 - a∧0<11 - a:=by omega
theorem qL {ops:Array Oper}{rest:List Oper}{op:Oper}{a:Act}{w:World}{Q:Exit→Act→World→Prop}{V:Array Value}(hgd:op.guard=none) (x y:Operand) (ho:op.op= .store 133 x y)
 (hx:a.eval x= .pointer (some ⟨w.heap.size,0,none⟩)) (hy:a.eval y= .agg V) (hV:V.size=18) (h1' :V.toList.all (·.oneCell')=true) (h:wpList prog ops Q rest (a.put op.dst undef) (w.alloc (.cells V 133))):
 wpList prog ops Q (op::rest) a (w.alloc (.cells bf 133)):=by
 have hsz:(prog.info? 133).map (·.size)=some 18:=by kernel_rfl
 have h1:V.all (·.oneCell')=true:=by rw [←Array.all_toList];exact h1'
 refine wpList_plain hgd fun K hK=> ?_
 unfold Oper.wp execOp
 have:(Instr.storeAt 133 (.pointer (some ⟨w.heap.size,0,none⟩)) (.agg V)).run prog (w.alloc (.cells bf 133))= .ok () (w.alloc (.cells V 133)):=
  run_storeAt_new w _ _ V (by rw [hV];exact hsz) (by rw [hV];rfl) h1
 simp only [ho,hx,hy,Sem.run_bind,this,Result.andThen_ok,Sem.run_pure];exact hK _ _ h
theorem YN {K:PK}{n:Nat}(hst:∀{w:World}{σ:Ps},PQ K w σ→K.X.T.length - σ.i<n→Calls prog 21 #[.pointer (some ⟨K.b,0,none⟩)] w (rO K w (K.X.jh n σ).1 (K.X.jh n σ).2))
 {w:World} {σ:Ps} (h:PQ K w σ) (hlt:K.X.T.length - σ.i<n):
 Calls prog 66 #[.pointer (some ⟨K.b,0,none⟩)] w (rO K w (.batch (K.X.many (K.X.jh n) σ).1) (K.X.many (K.X.jh n) σ).2):=by
 have hle:=h.le;have hD0:=Did.refl h;obtain ⟨σ1,h1⟩:∃r,K.X.must σ [(⟨#[98,97,116,99,104]⟩:ah)]=r:=⟨_,rfl⟩;have afP:Le σ σ1:=by rw [←h1];exact dx K.X _ _
 obtain ⟨⟨lf,nN⟩,hR⟩:∃r,K.X.jk (K.X.jh n) 10 σ1 []=r:=⟨_,rfl⟩;obtain ⟨QB,he⟩:∃r,K.X.must nN [(⟨#[98,97,116,99,104]⟩:ah)]=r:=⟨_,rfl⟩;have HE:Hid (K.X.many (K.X.jh n) σ=(lf,QB)):=by show _=_;unfold Tx.many;simp only [h1,hR,he]
 have hm1:=bC hD0.1 (⟨#[98,97,116,99,104]⟩:ah);rw [h1]at hm1;have HLT:=Lib.hid (Nat.lt_of_le_of_lt (Nat.sub_le_sub_left afP.1 K.X.T.length) hlt);clear afP hlt;have HT:=Lib.hid K.hT;have HS:=fun (w:World) (σ' :Ps) (hw:PQ K w σ') (hl:Le σ1 σ')=>hst hw (Nat.lt_of_le_of_lt (Nat.sub_le_sub_left hl.1 K.X.T.length) HLT.out)
 clear hst;go_enter func66,ntmps66;go_wp2_with fail;refine hm1.mono ?_;rintro e w1 ⟨rfl,hd1⟩;have hD1:=hD0.trans hd1;have dW:K.L≤w1.heap.size:=Nat.le_trans hle hD1.size;have hbx:w.heap.size≤w1.heap.size:=hD1.size;have hb1:(w1.alloc (.cells #[ak] 138)).heap[w1.heap.size]? =some (.cells #[ak] 138 (0,0)):=aA w1 _;have hD2:=hD1.alloc (.cells #[ak] 138);go_wp2_with fail
 go_loopw [] (fun wr=>∃(L:List Pv) (a:Option Addr) (cap:Nat) (σ2:Ps) (m:Nat),Did K w σ2 wr∧wr.heap[w1.heap.size]? =some (.cells #[.slice a L.length cap] 138 (0,0))∧wr.ownsRow w.heap.size 47 1 (.slice a L.length cap) L.length (L.map Pv.val)∧fO wr w.heap.size L∧Hid (K.X.jk (K.X.jh n) m σ2 (L.map Pv.x)=(lf,nN))∧L.length+m=10∧(9≤L.length→σ2.bad≠none)∧L.length≤9∧Hid (Le σ1 σ2)) (fun wr=>yx K w1.heap.size wr)
 case atStart=>exact ⟨[],none,0,σ1,10,hD2,hb1,World.ownsRow_nil _ _ _ _,(fun p hp=>absurd hp (by simp)),hR,rfl,(fun h=>absurd h (by decide)),by decide,Le.refl _⟩
 case round=>
  obtain ⟨L,a,cap,σ2,m,hD,hb,hr,hp,HR,hm,h9,hl9,HL⟩:=hrel;have hsz:=hD.size;cases hbad:σ2.bad with
  |some bd=>
   have hok:=wN hD.1 (v:=false) (by rw [hbad];rfl);have HR2:(L.map Pv.x,σ2)=(lf,nN):=by rw [←HR.out,YL (by rw [hbad];simp)]
   cases HR2;go_wp2_with fail;refine hok.mono ?_;rintro e I6 ⟨rfl,m20,rfl⟩;have eH:=(Did.refl hD.1).drewN m20;have iA:=hD.trans eH;have kN:=eH.blk hb dW;have qK:=eH.row hr hle;have uP:=hp.did eH hle;have hmz:=bC iA.1 (⟨#[98,97,116,99,104]⟩:ah);rw [he]at hmz;try simp only [av,bO]at hmz
   go_wp2_with fail;refine hmz.mono ?_;rintro e Cj ⟨rfl,jI⟩;have oo:=jI.blk kN dW;have c40:Cj.cell? ⟨w1.heap.size,0,none⟩=some (.slice a L.length cap):=by rw [au oo];rfl
   go_wp2_with fail;go_ret;rw [HE.out];exact ⟨L,a,cap,rfl,rfl,iA.trans jI,jI.row qK hle,uP.did jI hle⟩
  |none=>
   have hok:=wN hD.1 (v:=true) (by rw [hbad];rfl)
   have hl8:L.length≤8:=by
    rcases Nat.lt_or_ge L.length 9 with h|h
    · exact Nat.le_of_lt_succ h
    · exact absurd hbad (h9 h)
   clear h9 hl9;obtain ⟨m,rfl⟩:∃k,m=k+1:=⟨m - 1,by omega⟩;have hM:=vZ hD.1 hbad hb;have hh9:=afO hm hl8;have UZ:=adM hl8;have HM:=Lib.hid hm;clear hm;have c0:wr.cell? ⟨w1.heap.size,0,none⟩=some (.slice a L.length cap):=by rw [au hb];rfl
   by_cases hlz:L.length=0
   · have hsf:(!(L.map Pv.x).isEmpty&&K.X.sees σ2 (⟨#[97,112,112,108,121]⟩:ah))=false:=by rw [List.length_eq_zero_iff.1 hlz];rfl
     have U0:¬8≤L.length:=by omega
     have p0' :((L.length:Int)==0)=true:=by rw [beq_iff_eq];omega
     clear hlz;go_wp2_with fail;refine hok.mono ?_;rintro e w19 ⟨rfl,m19,rfl⟩;have c1:(wr.drewN m19).cell? ⟨w1.heap.size,0,none⟩=some (.slice a L.length cap):=c0;have eH:=(Did.refl hD.1).drewN m19;have iA:=hD.trans eH;have kN:=eH.blk hb dW;have qK:=eH.row hr hle;have uP:=hp.did eH hle;generalize wr.drewN m19=I6 at *;have hat:=jH iA.1;go_wp2_with fail;refine hat.mono ?_;rintro e DL ⟨rfl,m21,rfl⟩;have lU:=(Did.refl iA.1).drewN m21;have mX:=iA.trans lU;have wS:=lU.blk kN dW;have G5:=lU.row qK hle;have YO:=uP.did lU hle;have c21:(I6.drewN m21).cell? ⟨w1.heap.size,0,none⟩=some (.slice a L.length cap):=by rw [au wS];rfl
     have q8:(L.length:Int)<8:=by omega
     have lG:=mX;have vY:=wS;have rZ:=G5;have Hg:=YO;have hif:(if 8≤(L.map Pv.x).length then σ2.wrong (K.X.here σ2)else σ2)=σ2:=by rw [if_neg (by rw [List.length_map];exact U0)]
     have Ho:Le σ1 σ2:=HL.out;have QG:9≤L.length+1→σ2.bad≠none:=fun h=>absurd (Nat.le_of_succ_le_succ h) U0
     have hsm:=HS _ σ2 lG.1 Ho;have Ht:=KX K.X n σ2;obtain ⟨⟨nd,jS⟩,h4⟩:∃r,K.X.jh n σ2=r:=⟨_,rfl⟩;rw [h4]at hsm Ht
     have HRR:Hid (Hf K.X (K.X.jh n) m (L.map Pv.x) (K.X.here σ2) nd jS=(lf,nN)):=by
      have h:=HR.out;rw [Az hbad hsf hif h4]at h;exact Lib.hid h
     have HL4:Hid (Le σ2 jS):=Ht;have HL3:=Lib.hid Ho;have H9:=Lib.hid QG;clear hif Ht Ho QG;have hTA:=QF;have hTP:=YJ;have hTB:=YK;cases nd with
     |plain x=>
      replace hsm:Calls prog 21 #[.pointer (some ⟨K.b,0,none⟩)] _ (iH K _ 100 x jS):=hsm;have HR2:(L.map Pv.x,(⟨jS.i,some (K.X.here σ2)⟩:Ps))=(lf,nN):=HRR.out;cases HR2;go_wp2_with fail;refine hsm.mono ?_;rintro e Ws ⟨tc,c,s,wv,rfl,jJ,rP⟩;have yA:=lG.trans jJ;have yB:=jJ.blk vY dW;have yC:=jJ.row rZ hle;have yD:=Hg.did jJ hle;have kL:=yA.alloc (.cells bf 133);have DN:=aC yB (.cells bf 133);have Hu:=yC.alloc (.cells bf 133);have Hw:=yD.alloc (.cells bf 133);obtain ⟨_,_,_,_,_,d3,_,f3,_⟩:=kL.1.cells;have zb:=kL.1.lt;go_wp2_with (refine qL rfl _ _ rfl rfl rfl rfl rfl ?_);have eH:=(Did.refl kL.1).bad (K.X.here σ2);have iA:=kL.trans eH;have kN:=eH.blk DN dW;have qK:=eH.row Hu hle;have uP:=Hw.did eH hle;have hmz:=bC iA.1 (⟨#[98,97,116,99,104]⟩:ah);rw [he]at hmz;try simp only [av,bO]at hmz
      go_wp2_with fail;refine hmz.mono ?_;rintro e Cj ⟨rfl,jI⟩;have oo:=jI.blk kN dW;have c40:Cj.cell? ⟨w1.heap.size,0,none⟩=some (.slice a L.length cap):=by rw [au oo];rfl
      go_wp2_with fail;go_ret;rw [HE.out];exact ⟨L,a,cap,rfl,rfl,iA.trans jI,jI.row qK hle,uP.did jI hle⟩
     |batch l=>
      replace hsm:Calls prog 21 #[.pointer (some ⟨K.b,0,none⟩)] _ (rO K _ (.batch l) jS):=hsm;have HR2:(L.map Pv.x,(⟨jS.i,some (K.X.here σ2)⟩:Ps))=(lf,nN):=HRR.out;cases HR2;go_wp2_with fail;refine hsm.mono ?_;rintro e Ws ⟨L2,a2,cap2,_,rfl,jJ,rP,_⟩;have yA:=lG.trans jJ;have yB:=jJ.blk vY dW;have yC:=jJ.row rZ hle;have yD:=Hg.did jJ hle;have kL:=yA.alloc (.cells bf 133);have DN:=aC yB (.cells bf 133);have Hu:=yC.alloc (.cells bf 133);have Hw:=yD.alloc (.cells bf 133);obtain ⟨_,_,_,_,_,d3,_,f3,_⟩:=kL.1.cells;have zb:=kL.1.lt;go_wp2_with (refine qL rfl _ _ rfl rfl rfl rfl rfl ?_);have eH:=(Did.refl kL.1).bad (K.X.here σ2);have iA:=kL.trans eH;have kN:=eH.blk DN dW;have qK:=eH.row Hu hle;have uP:=Hw.did eH hle;have hmz:=bC iA.1 (⟨#[98,97,116,99,104]⟩:ah);rw [he]at hmz;try simp only [av,bO]at hmz
      go_wp2_with fail;refine hmz.mono ?_;rintro e Cj ⟨rfl,jI⟩;have oo:=jI.blk kN dW;have c40:Cj.cell? ⟨w1.heap.size,0,none⟩=some (.slice a L.length cap):=by rw [au oo];rfl
      go_wp2_with fail;go_ret;rw [HE.out];exact ⟨L,a,cap,rfl,rfl,iA.trans jI,jI.row qK hle,uP.did jI hle⟩
     |change x=>
      replace hsm:Calls prog 21 #[.pointer (some ⟨K.b,0,none⟩)] _ (iH K _ 133 x jS):=hsm;obtain ⟨lX,h5⟩:∃r,K.X.must jS [(⟨#[59]⟩:ah)]=r:=⟨_,rfl⟩;have Hy:Le jS lX:=by rw [←h5];exact dx K.X _ _
      have HL5:=Lib.hid ((HL3.out.trans HL4.out).trans Hy);have Wt:Hid (9≤L.length+1→lX.bad≠none):=fun h hb5=>H9.out h (HL4.out.2 (Hy.2 hb5))
      clear Hy;have HR2:Hid (K.X.jk (K.X.jh n) m lX (L.map Pv.x++ [x])=(lf,nN)):=by have h:=HRR.out;unfold Hf at h;simp only [h5]at h;exact Lib.hid h
      go_wp2_with fail;refine hsm.mono ?_;rintro e Ws ⟨tc,c,s,wv,rfl,jJ,rP⟩;have yA:=lG.trans jJ;obtain ⟨tcA,tcC,htc,_⟩:=aY rP.1;obtain ⟨cA,cC,hc',_⟩:=aY rP.2.1;obtain ⟨sA,sC,hs',_⟩:=aY rP.2.2.1;obtain ⟨wA,wC,hw',_⟩:=aY rP.2.2.2;have hone:(aG x tc c s wv ak).toList.all (·.oneCell')=true:=by rw [htc,hc',hs',hw'];rfl
      clear htc hc' hs' hw';have yB:=jJ.blk vY dW;have yC:=jJ.row rZ hle;have yD:=(Hg.did jJ hle).snoc (p:=⟨x,tc,c,s,wv⟩) (rP.mono lG.size);have kL:=yA.alloc (.cells (aG x tc c s wv ak) 133);have Hz:=bC kL.1 (⟨#[59]⟩:ah);rw [h5]at Hz;try simp only [av]at Hz
      go_wp2_with (refine qL rfl _ _ rfl rfl rfl rfl hone ?_);refine Hz.mono ?_;rintro e YP ⟨rfl,hd25⟩;have Od:=kL.trans hd25;have yE:=hd25.blk (aC yB _) dW;have Co:=hd25.row (yC.alloc _) hle;have YQ:=(yD.alloc _).did hd25 hle;have c25:YP.cell? ⟨w1.heap.size,0,none⟩=some (.slice a L.length cap):=by rw [au yE];rfl
      have hh8:L.length≤8:=hl8;go_wp2_with (at_builtin;refine app1 Tryz.adL rfl _ _ rfl w.heap.size _ _ _ rfl (Co.alloc _) _ _ [.iface 133 (.agg (aG x tc c s wv ak))] rfl rfl (bg _ _ _) (by intro u hu;rw [List.mem_singleton.1 hu];rfl) (by omega) (by have:=Od.size;simp;omega) ?_;intro a5 c5 w5 h5' hg5 I7;have hb5:w5.heap[w1.heap.size]? =some (.cells #[.slice a L.length cap] 138 (0,0)):=(hg5.block _ (aD (aC yE _)) (fun e=>gy Co yE (by decide) e.symm)).trans (aC yE _);have y5:w5.cell? ⟨w1.heap.size,0,none⟩=some (.slice a L.length cap):=(by rw [au hb5];rfl);have u5:=aj hb5 0);have hD5:=((Od.alloc (.cells #[.iface 133 (.agg (aG x tc c s wv ak))] 47)).grown hg5 (fun g hg2=>(Co.lt g hg2).1)).own hbx 0 (.slice a5 (L.length+1) c5);have hb6:(w5.setCell ⟨w1.heap.size,0,none⟩ (.slice a5 (L.length+1) c5)).heap[w1.heap.size]? =some (.cells #[.slice a5 (L.length+1) c5] 138 (0,0)):=by rw [dB hb5 0 _];rfl
      have NW:=aL h5' hb5 (by decide) 0 (.slice a5 (L.length+1) c5);have hp6:=((YQ.alloc (.cells #[.iface 133 (.agg (aG x tc c s wv ak))] 47)).map (fun _ _ _ _ _ he hq=>(dH (Co.alloc _) hq (fun e2=>o8 (T:=47) (by decide) he e2)).keep hq hg5)).set hb5 (by decide) 0 (.slice a5 (L.length+1) c5)
      have hmm:yx K w1.heap.size (w5.setCell ⟨w1.heap.size,0,none⟩ (.slice a5 (L.length+1) c5))<yx K w1.heap.size wr:=by
       rw [hM];by_cases hq:lX.bad=none
       · rw [vZ hD5.1 hq hb6];exact UZ.1
       · rw [Ay hD5.1 hq hb6];exact UZ.2
      go_wp2_with fail;go_roundw
      case rel=>
       refine ⟨L++ [⟨x,tc,c,s,wv⟩],a5,c5,lX,m,hD5,by rw [List.length_append];exact hb6,by rw [List.length_append,List.map_append];exact NW,hp6,by rw [List.map_append];exact HR2,by rw [List.length_append];exact hh9.1,by rw [List.length_append];exact Wt.out,by rw [List.length_append];exact hh9.2,HL5⟩
      case measure=>exact hmm
   · have hLn:L.map Pv.x≠ []:=by intro e;apply hlz;rw [←List.length_map (f:=Pv.x),e];rfl
     have p0' :((L.length:Int)==0)=false:=by rw [beq_eq_false_iff_ne];omega
     cases hse:K.X.sees σ2 (⟨#[97,112,112,108,121]⟩:ah)with
     |true=>
      have HR2:(L.map Pv.x,σ2.step)=(lf,nN):=by rw [←HR.out,YM hbad hLn hse]
      cases HR2;go_wp2_with fail;refine hok.mono ?_;rintro e w19 ⟨rfl,m19,rfl⟩;have QE:=hD.drewN m19;have c1:(wr.drewN m19).cell? ⟨w1.heap.size,0,none⟩=some (.slice a L.length cap):=c0;have hmay:=aV QE.1 (⟨#[97,112,112,108,121]⟩:ah);unfold Tx.may at hmay;rw [hse,if_pos rfl]at hmay;go_wp2_with fail;refine hmay.mono ?_;rintro e I6 ⟨rfl,zK⟩;have eH:=((Did.refl hD.1).drewN m19).trans zK;have iA:=hD.trans eH;have kN:=eH.blk hb dW;have qK:=eH.row hr hle;have uP:=hp.did eH hle;have hmz:=bC iA.1 (⟨#[98,97,116,99,104]⟩:ah);rw [he]at hmz;try simp only [av,bO]at hmz
      go_wp2_with fail;refine hmz.mono ?_;rintro e Cj ⟨rfl,jI⟩;have oo:=jI.blk kN dW;have c40:Cj.cell? ⟨w1.heap.size,0,none⟩=some (.slice a L.length cap):=by rw [au oo];rfl
      go_wp2_with fail;go_ret;rw [HE.out];exact ⟨L,a,cap,rfl,rfl,iA.trans jI,jI.row qK hle,uP.did jI hle⟩
     |false=>
      have hsf:(!(L.map Pv.x).isEmpty&&K.X.sees σ2 (⟨#[97,112,112,108,121]⟩:ah))=false:=by rw [hse,Bool.and_false]
      go_wp2_with fail;refine hok.mono ?_;rintro e w19 ⟨rfl,m19,rfl⟩;have QE:=hD.drewN m19;have c1:(wr.drewN m19).cell? ⟨w1.heap.size,0,none⟩=some (.slice a L.length cap):=c0;have hmay:=aV QE.1 (⟨#[97,112,112,108,121]⟩:ah);unfold Tx.may at hmay;rw [hse,if_neg (by decide)]at hmay;go_wp2_with fail;refine hmay.mono ?_;rintro e I6 ⟨rfl,zK⟩;have eH:=((Did.refl hD.1).drewN m19).trans zK;have iA:=hD.trans eH;have kN:=eH.blk hb dW;have qK:=eH.row hr hle;have uP:=hp.did eH hle;by_cases U0:8≤L.length
      · skip
        have hat:=jH iA.1;go_wp2_with fail;refine hat.mono ?_;rintro e DL ⟨rfl,m21,rfl⟩;have lU:=(Did.refl iA.1).drewN m21;have mX:=iA.trans lU;have wS:=lU.blk kN dW;have G5:=lU.row qK hle;have YO:=uP.did lU hle;have c21:(I6.drewN m21).cell? ⟨w1.heap.size,0,none⟩=some (.slice a L.length cap):=by rw [au wS];rfl
        have q8:(8:Int)≤(L.length:Int):=by omega
        have hwr:=iN mX.1 (K.X.here σ2);go_wp2_with fail;refine hwr.mono ?_;rintro e UN ⟨rfl,nG⟩;have lG:=mX.trans nG;have vY:=nG.blk wS dW;have rZ:=nG.row G5 hle;have Hg:=YO.did nG hle;obtain ⟨σ3,h3⟩:∃r,σ2.wrong (K.X.here σ2)=r:=⟨_,rfl⟩;have hif:(if 8≤(L.map Pv.x).length then σ2.wrong (K.X.here σ2)else σ2)=σ3:=by rw [if_pos (by rw [List.length_map];exact U0)];exact h3
        have Ho:Le σ1 σ3:=HL.out.trans (by rw [←h3];exact qW _ _);have QG:9≤L.length+1→σ3.bad≠none:=fun _=>by rw [←h3];unfold Ps.wrong;rw [hbad];simp
        rw [h3]at lG;have hsm:=HS _ σ3 lG.1 Ho;have Ht:=KX K.X n σ3;obtain ⟨⟨nd,jS⟩,h4⟩:∃r,K.X.jh n σ3=r:=⟨_,rfl⟩;rw [h4]at hsm Ht
        have HRR:Hid (Hf K.X (K.X.jh n) m (L.map Pv.x) (K.X.here σ2) nd jS=(lf,nN)):=by
         have h:=HR.out;rw [Az hbad hsf hif h4]at h;exact Lib.hid h
        have HL4:Hid (Le σ3 jS):=Ht;have HL3:=Lib.hid Ho;have H9:=Lib.hid QG;clear hif Ht Ho QG;have hTA:=QF;have hTP:=YJ;have hTB:=YK;cases nd with
        |plain x=>
         replace hsm:Calls prog 21 #[.pointer (some ⟨K.b,0,none⟩)] _ (iH K _ 100 x jS):=hsm;have HR2:(L.map Pv.x,(⟨jS.i,some (K.X.here σ2)⟩:Ps))=(lf,nN):=HRR.out;cases HR2;go_wp2_with fail;refine hsm.mono ?_;rintro e Ws ⟨tc,c,s,wv,rfl,jJ,rP⟩;have yA:=lG.trans jJ;have yB:=jJ.blk vY dW;have yC:=jJ.row rZ hle;have yD:=Hg.did jJ hle;have kL:=yA.alloc (.cells bf 133);have DN:=aC yB (.cells bf 133);have Hu:=yC.alloc (.cells bf 133);have Hw:=yD.alloc (.cells bf 133);obtain ⟨_,_,_,_,_,d3,_,f3,_⟩:=kL.1.cells;have zb:=kL.1.lt;go_wp2_with (refine qL rfl _ _ rfl rfl rfl rfl rfl ?_);have eH:=(Did.refl kL.1).bad (K.X.here σ2);have iA:=kL.trans eH;have kN:=eH.blk DN dW;have qK:=eH.row Hu hle;have uP:=Hw.did eH hle;have hmz:=bC iA.1 (⟨#[98,97,116,99,104]⟩:ah);rw [he]at hmz;try simp only [av,bO]at hmz
         go_wp2_with fail;refine hmz.mono ?_;rintro e Cj ⟨rfl,jI⟩;have oo:=jI.blk kN dW;have c40:Cj.cell? ⟨w1.heap.size,0,none⟩=some (.slice a L.length cap):=by rw [au oo];rfl
         go_wp2_with fail;go_ret;rw [HE.out];exact ⟨L,a,cap,rfl,rfl,iA.trans jI,jI.row qK hle,uP.did jI hle⟩
        |batch l=>
         replace hsm:Calls prog 21 #[.pointer (some ⟨K.b,0,none⟩)] _ (rO K _ (.batch l) jS):=hsm;have HR2:(L.map Pv.x,(⟨jS.i,some (K.X.here σ2)⟩:Ps))=(lf,nN):=HRR.out;cases HR2;go_wp2_with fail;refine hsm.mono ?_;rintro e Ws ⟨L2,a2,cap2,_,rfl,jJ,rP,_⟩;have yA:=lG.trans jJ;have yB:=jJ.blk vY dW;have yC:=jJ.row rZ hle;have yD:=Hg.did jJ hle;have kL:=yA.alloc (.cells bf 133);have DN:=aC yB (.cells bf 133);have Hu:=yC.alloc (.cells bf 133);have Hw:=yD.alloc (.cells bf 133);obtain ⟨_,_,_,_,_,d3,_,f3,_⟩:=kL.1.cells;have zb:=kL.1.lt;go_wp2_with (refine qL rfl _ _ rfl rfl rfl rfl rfl ?_);have eH:=(Did.refl kL.1).bad (K.X.here σ2);have iA:=kL.trans eH;have kN:=eH.blk DN dW;have qK:=eH.row Hu hle;have uP:=Hw.did eH hle;have hmz:=bC iA.1 (⟨#[98,97,116,99,104]⟩:ah);rw [he]at hmz;try simp only [av,bO]at hmz
         go_wp2_with fail;refine hmz.mono ?_;rintro e Cj ⟨rfl,jI⟩;have oo:=jI.blk kN dW;have c40:Cj.cell? ⟨w1.heap.size,0,none⟩=some (.slice a L.length cap):=by rw [au oo];rfl
         go_wp2_with fail;go_ret;rw [HE.out];exact ⟨L,a,cap,rfl,rfl,iA.trans jI,jI.row qK hle,uP.did jI hle⟩
        |change x=>
         replace hsm:Calls prog 21 #[.pointer (some ⟨K.b,0,none⟩)] _ (iH K _ 133 x jS):=hsm;obtain ⟨lX,h5⟩:∃r,K.X.must jS [(⟨#[59]⟩:ah)]=r:=⟨_,rfl⟩;have Hy:Le jS lX:=by rw [←h5];exact dx K.X _ _
         have HL5:=Lib.hid ((HL3.out.trans HL4.out).trans Hy);have Wt:Hid (9≤L.length+1→lX.bad≠none):=fun h hb5=>H9.out h (HL4.out.2 (Hy.2 hb5))
         clear Hy;have HR2:Hid (K.X.jk (K.X.jh n) m lX (L.map Pv.x++ [x])=(lf,nN)):=by have h:=HRR.out;unfold Hf at h;simp only [h5]at h;exact Lib.hid h
         go_wp2_with fail;refine hsm.mono ?_;rintro e Ws ⟨tc,c,s,wv,rfl,jJ,rP⟩;have yA:=lG.trans jJ;obtain ⟨tcA,tcC,htc,_⟩:=aY rP.1;obtain ⟨cA,cC,hc',_⟩:=aY rP.2.1;obtain ⟨sA,sC,hs',_⟩:=aY rP.2.2.1;obtain ⟨wA,wC,hw',_⟩:=aY rP.2.2.2;have hone:(aG x tc c s wv ak).toList.all (·.oneCell')=true:=by rw [htc,hc',hs',hw'];rfl
         clear htc hc' hs' hw';have yB:=jJ.blk vY dW;have yC:=jJ.row rZ hle;have yD:=(Hg.did jJ hle).snoc (p:=⟨x,tc,c,s,wv⟩) (rP.mono lG.size);have kL:=yA.alloc (.cells (aG x tc c s wv ak) 133);have Hz:=bC kL.1 (⟨#[59]⟩:ah);rw [h5]at Hz;try simp only [av]at Hz
         go_wp2_with (refine qL rfl _ _ rfl rfl rfl rfl hone ?_);refine Hz.mono ?_;rintro e YP ⟨rfl,hd25⟩;have Od:=kL.trans hd25;have yE:=hd25.blk (aC yB _) dW;have Co:=hd25.row (yC.alloc _) hle;have YQ:=(yD.alloc _).did hd25 hle;have c25:YP.cell? ⟨w1.heap.size,0,none⟩=some (.slice a L.length cap):=by rw [au yE];rfl
         have hh8:L.length≤8:=hl8;go_wp2_with (at_builtin;refine app1 Tryz.adL rfl _ _ rfl w.heap.size _ _ _ rfl (Co.alloc _) _ _ [.iface 133 (.agg (aG x tc c s wv ak))] rfl rfl (bg _ _ _) (by intro u hu;rw [List.mem_singleton.1 hu];rfl) (by omega) (by have:=Od.size;simp;omega) ?_;intro a5 c5 w5 h5' hg5 I7;have hb5:w5.heap[w1.heap.size]? =some (.cells #[.slice a L.length cap] 138 (0,0)):=(hg5.block _ (aD (aC yE _)) (fun e=>gy Co yE (by decide) e.symm)).trans (aC yE _);have y5:w5.cell? ⟨w1.heap.size,0,none⟩=some (.slice a L.length cap):=(by rw [au hb5];rfl);have u5:=aj hb5 0);have hD5:=((Od.alloc (.cells #[.iface 133 (.agg (aG x tc c s wv ak))] 47)).grown hg5 (fun g hg2=>(Co.lt g hg2).1)).own hbx 0 (.slice a5 (L.length+1) c5);have hb6:(w5.setCell ⟨w1.heap.size,0,none⟩ (.slice a5 (L.length+1) c5)).heap[w1.heap.size]? =some (.cells #[.slice a5 (L.length+1) c5] 138 (0,0)):=by rw [dB hb5 0 _];rfl
         have NW:=aL h5' hb5 (by decide) 0 (.slice a5 (L.length+1) c5);have hp6:=((YQ.alloc (.cells #[.iface 133 (.agg (aG x tc c s wv ak))] 47)).map (fun _ _ _ _ _ he hq=>(dH (Co.alloc _) hq (fun e2=>o8 (T:=47) (by decide) he e2)).keep hq hg5)).set hb5 (by decide) 0 (.slice a5 (L.length+1) c5)
         have hmm:yx K w1.heap.size (w5.setCell ⟨w1.heap.size,0,none⟩ (.slice a5 (L.length+1) c5))<yx K w1.heap.size wr:=by
          rw [hM];by_cases hq:lX.bad=none
          · rw [vZ hD5.1 hq hb6];exact UZ.1
          · rw [Ay hD5.1 hq hb6];exact UZ.2
         go_wp2_with fail;go_roundw
         case rel=>
          refine ⟨L++ [⟨x,tc,c,s,wv⟩],a5,c5,lX,m,hD5,by rw [List.length_append];exact hb6,by rw [List.length_append,List.map_append];exact NW,hp6,by rw [List.map_append];exact HR2,by rw [List.length_append];exact hh9.1,by rw [List.length_append];exact Wt.out,by rw [List.length_append];exact hh9.2,HL5⟩
         case measure=>exact hmm
      · skip
        have hat:=jH iA.1;go_wp2_with fail;refine hat.mono ?_;rintro e DL ⟨rfl,m21,rfl⟩;have lU:=(Did.refl iA.1).drewN m21;have mX:=iA.trans lU;have wS:=lU.blk kN dW;have G5:=lU.row qK hle;have YO:=uP.did lU hle;have c21:(I6.drewN m21).cell? ⟨w1.heap.size,0,none⟩=some (.slice a L.length cap):=by rw [au wS];rfl
        have q8:(L.length:Int)<8:=by omega
        have lG:=mX;have vY:=wS;have rZ:=G5;have Hg:=YO;have hif:(if 8≤(L.map Pv.x).length then σ2.wrong (K.X.here σ2)else σ2)=σ2:=by rw [if_neg (by rw [List.length_map];exact U0)]
        have Ho:Le σ1 σ2:=HL.out;have QG:9≤L.length+1→σ2.bad≠none:=fun h=>absurd (Nat.le_of_succ_le_succ h) U0
        have hsm:=HS _ σ2 lG.1 Ho;have Ht:=KX K.X n σ2;obtain ⟨⟨nd,jS⟩,h4⟩:∃r,K.X.jh n σ2=r:=⟨_,rfl⟩;rw [h4]at hsm Ht
        have HRR:Hid (Hf K.X (K.X.jh n) m (L.map Pv.x) (K.X.here σ2) nd jS=(lf,nN)):=by
         have h:=HR.out;rw [Az hbad hsf hif h4]at h;exact Lib.hid h
        have HL4:Hid (Le σ2 jS):=Ht;have HL3:=Lib.hid Ho;have H9:=Lib.hid QG;clear hif Ht Ho QG;have hTA:=QF;have hTP:=YJ;have hTB:=YK;cases nd with
        |plain x=>
         replace hsm:Calls prog 21 #[.pointer (some ⟨K.b,0,none⟩)] _ (iH K _ 100 x jS):=hsm;have HR2:(L.map Pv.x,(⟨jS.i,some (K.X.here σ2)⟩:Ps))=(lf,nN):=HRR.out;cases HR2;go_wp2_with fail;refine hsm.mono ?_;rintro e Ws ⟨tc,c,s,wv,rfl,jJ,rP⟩;have yA:=lG.trans jJ;have yB:=jJ.blk vY dW;have yC:=jJ.row rZ hle;have yD:=Hg.did jJ hle;have kL:=yA.alloc (.cells bf 133);have DN:=aC yB (.cells bf 133);have Hu:=yC.alloc (.cells bf 133);have Hw:=yD.alloc (.cells bf 133);obtain ⟨_,_,_,_,_,d3,_,f3,_⟩:=kL.1.cells;have zb:=kL.1.lt;go_wp2_with (refine qL rfl _ _ rfl rfl rfl rfl rfl ?_);have eH:=(Did.refl kL.1).bad (K.X.here σ2);have iA:=kL.trans eH;have kN:=eH.blk DN dW;have qK:=eH.row Hu hle;have uP:=Hw.did eH hle;have hmz:=bC iA.1 (⟨#[98,97,116,99,104]⟩:ah);rw [he]at hmz;try simp only [av,bO]at hmz
         go_wp2_with fail;refine hmz.mono ?_;rintro e Cj ⟨rfl,jI⟩;have oo:=jI.blk kN dW;have c40:Cj.cell? ⟨w1.heap.size,0,none⟩=some (.slice a L.length cap):=by rw [au oo];rfl
         go_wp2_with fail;go_ret;rw [HE.out];exact ⟨L,a,cap,rfl,rfl,iA.trans jI,jI.row qK hle,uP.did jI hle⟩
        |batch l=>
         replace hsm:Calls prog 21 #[.pointer (some ⟨K.b,0,none⟩)] _ (rO K _ (.batch l) jS):=hsm;have HR2:(L.map Pv.x,(⟨jS.i,some (K.X.here σ2)⟩:Ps))=(lf,nN):=HRR.out;cases HR2;go_wp2_with fail;refine hsm.mono ?_;rintro e Ws ⟨L2,a2,cap2,_,rfl,jJ,rP,_⟩;have yA:=lG.trans jJ;have yB:=jJ.blk vY dW;have yC:=jJ.row rZ hle;have yD:=Hg.did jJ hle;have kL:=yA.alloc (.cells bf 133);have DN:=aC yB (.cells bf 133);have Hu:=yC.alloc (.cells bf 133);have Hw:=yD.alloc (.cells bf 133);obtain ⟨_,_,_,_,_,d3,_,f3,_⟩:=kL.1.cells;have zb:=kL.1.lt;go_wp2_with (refine qL rfl _ _ rfl rfl rfl rfl rfl ?_);have eH:=(Did.refl kL.1).bad (K.X.here σ2);have iA:=kL.trans eH;have kN:=eH.blk DN dW;have qK:=eH.row Hu hle;have uP:=Hw.did eH hle;have hmz:=bC iA.1 (⟨#[98,97,116,99,104]⟩:ah);rw [he]at hmz;try simp only [av,bO]at hmz
         go_wp2_with fail;refine hmz.mono ?_;rintro e Cj ⟨rfl,jI⟩;have oo:=jI.blk kN dW;have c40:Cj.cell? ⟨w1.heap.size,0,none⟩=some (.slice a L.length cap):=by rw [au oo];rfl
         go_wp2_with fail;go_ret;rw [HE.out];exact ⟨L,a,cap,rfl,rfl,iA.trans jI,jI.row qK hle,uP.did jI hle⟩
        |change x=>
         replace hsm:Calls prog 21 #[.pointer (some ⟨K.b,0,none⟩)] _ (iH K _ 133 x jS):=hsm;obtain ⟨lX,h5⟩:∃r,K.X.must jS [(⟨#[59]⟩:ah)]=r:=⟨_,rfl⟩;have Hy:Le jS lX:=by rw [←h5];exact dx K.X _ _
         have HL5:=Lib.hid ((HL3.out.trans HL4.out).trans Hy);have Wt:Hid (9≤L.length+1→lX.bad≠none):=fun h hb5=>H9.out h (HL4.out.2 (Hy.2 hb5))
         clear Hy;have HR2:Hid (K.X.jk (K.X.jh n) m lX (L.map Pv.x++ [x])=(lf,nN)):=by have h:=HRR.out;unfold Hf at h;simp only [h5]at h;exact Lib.hid h
         go_wp2_with fail;refine hsm.mono ?_;rintro e Ws ⟨tc,c,s,wv,rfl,jJ,rP⟩;have yA:=lG.trans jJ;obtain ⟨tcA,tcC,htc,_⟩:=aY rP.1;obtain ⟨cA,cC,hc',_⟩:=aY rP.2.1;obtain ⟨sA,sC,hs',_⟩:=aY rP.2.2.1;obtain ⟨wA,wC,hw',_⟩:=aY rP.2.2.2;have hone:(aG x tc c s wv ak).toList.all (·.oneCell')=true:=by rw [htc,hc',hs',hw'];rfl
         clear htc hc' hs' hw';have yB:=jJ.blk vY dW;have yC:=jJ.row rZ hle;have yD:=(Hg.did jJ hle).snoc (p:=⟨x,tc,c,s,wv⟩) (rP.mono lG.size);have kL:=yA.alloc (.cells (aG x tc c s wv ak) 133);have Hz:=bC kL.1 (⟨#[59]⟩:ah);rw [h5]at Hz;try simp only [av]at Hz
         go_wp2_with (refine qL rfl _ _ rfl rfl rfl rfl hone ?_);refine Hz.mono ?_;rintro e YP ⟨rfl,hd25⟩;have Od:=kL.trans hd25;have yE:=hd25.blk (aC yB _) dW;have Co:=hd25.row (yC.alloc _) hle;have YQ:=(yD.alloc _).did hd25 hle;have c25:YP.cell? ⟨w1.heap.size,0,none⟩=some (.slice a L.length cap):=by rw [au yE];rfl
         have hh8:L.length≤8:=hl8;go_wp2_with (at_builtin;refine app1 Tryz.adL rfl _ _ rfl w.heap.size _ _ _ rfl (Co.alloc _) _ _ [.iface 133 (.agg (aG x tc c s wv ak))] rfl rfl (bg _ _ _) (by intro u hu;rw [List.mem_singleton.1 hu];rfl) (by omega) (by have:=Od.size;simp;omega) ?_;intro a5 c5 w5 h5' hg5 I7;have hb5:w5.heap[w1.heap.size]? =some (.cells #[.slice a L.length cap] 138 (0,0)):=(hg5.block _ (aD (aC yE _)) (fun e=>gy Co yE (by decide) e.symm)).trans (aC yE _);have y5:w5.cell? ⟨w1.heap.size,0,none⟩=some (.slice a L.length cap):=(by rw [au hb5];rfl);have u5:=aj hb5 0);have hD5:=((Od.alloc (.cells #[.iface 133 (.agg (aG x tc c s wv ak))] 47)).grown hg5 (fun g hg2=>(Co.lt g hg2).1)).own hbx 0 (.slice a5 (L.length+1) c5);have hb6:(w5.setCell ⟨w1.heap.size,0,none⟩ (.slice a5 (L.length+1) c5)).heap[w1.heap.size]? =some (.cells #[.slice a5 (L.length+1) c5] 138 (0,0)):=by rw [dB hb5 0 _];rfl
         have NW:=aL h5' hb5 (by decide) 0 (.slice a5 (L.length+1) c5);have hp6:=((YQ.alloc (.cells #[.iface 133 (.agg (aG x tc c s wv ak))] 47)).map (fun _ _ _ _ _ he hq=>(dH (Co.alloc _) hq (fun e2=>o8 (T:=47) (by decide) he e2)).keep hq hg5)).set hb5 (by decide) 0 (.slice a5 (L.length+1) c5)
         have hmm:yx K w1.heap.size (w5.setCell ⟨w1.heap.size,0,none⟩ (.slice a5 (L.length+1) c5))<yx K w1.heap.size wr:=by
          rw [hM];by_cases hq:lX.bad=none
          · rw [vZ hD5.1 hq hb6];exact UZ.1
          · rw [Ay hD5.1 hq hb6];exact UZ.2
         go_wp2_with fail;go_roundw
         case rel=>
          refine ⟨L++ [⟨x,tc,c,s,wv⟩],a5,c5,lX,m,hD5,by rw [List.length_append];exact hb6,by rw [List.length_append,List.map_append];exact NW,hp6,by rw [List.map_append];exact HR2,by rw [List.length_append];exact hh9.1,by rw [List.length_append];exact Wt.out,by rw [List.length_append];exact hh9.2,HL5⟩
         case measure=>exact hmm
end Go.Proofs.YtcgadodckoalnaaGreatDoor
