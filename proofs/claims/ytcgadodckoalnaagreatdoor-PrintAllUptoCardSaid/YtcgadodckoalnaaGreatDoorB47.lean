/- Parts of a proof. -/
import Derived.Test.YtcgadodckoalnaaGreatDoorB46
set_option maxHeartbeats 8000000
set_option maxRecDepth 100000
namespace Go.Proofs.YtcgadodckoalnaaGreatDoor
open Go.Proofs.Tryz
open Go.RowKit
open aN
def Ja (x:Sx):List Pc:=if 1≤x.kind∧x.kind≤4 then []else stP x
theorem gB.cut {x:Sx}(h:gB x):gB (iK x):=
 ⟨h.name,h.bT,h.on,h.part,h.aX,h.aB,h.aI,h.sets.cut,h.aH.cut,by show (x.aH.map jy).length≤90;rw [List.length_map];exact h.Ij,lJ _,lJ _,lJ _⟩
theorem agI {x:Sx}(h:gB x):(aF (Ja (iK x))).size≤2000000000:=by
 unfold Ja;split
 · show 0≤_;omega
 · exact Za h.cut
def IU (P:Pw→List Pc) (L:List Pw):ByteArray:=aF (L.flatMap fun q=>P q++ [.sg 59, .bl])
theorem V8 (P:Pw→List Pc) (L:List Pw) (j:Nat) (q:Pw) (h:L[j]? =some q):IU P (L.take (j+1))=(IU P (L.take j)++aF (P q))++(⟨#[59,32]⟩:ah):=by
 obtain ⟨h1,rfl⟩:=List.getElem?_eq_some_iff.1 h;unfold IU;rw [List.take_succ_eq_append_getElem h1,List.flatMap_append,bq,fV];congr 1;apply ByteArray.ext;apply Array.ext';simp [bq,aF,Pc.text]
theorem KL {w:World}{x:Sx}{tc c s wv:Value}{a4:Option Addr}{n k4:Nat}{L:List Pw}{P:Pw→List Pc}(hk:x.kind=9) (hn:L.length=n) (acw:n≤100) (hp:Rd w (.slice a4 n k4) n (jP L)) (hz:∀q∈L,(aF (P q)).size≤2000000000)
 (hf:∀q∈L,∀w',Below w.heap.size w w' →Calls prog 48 #[.agg q.arr] w' fun e w'' =>e= .returned (.string (aF (P q)))∧Below w'.heap.size w' w''):
 Calls prog 48 #[.agg (aG x tc c s wv (.slice a4 n k4))] w fun e w' =>e= .returned (.string (aF (nk (L.map P))))∧Below w.heap.size w w' :=by
 have hB1:=(Below.refl w.heap.size w).alloc (Nat.le_refl _) (.cells (aG x tc c s wv (.slice a4 n k4)) 31);have hV:=aA w (.cells (aG x tc c s wv (.slice a4 n k4)) 31)
 have HE:Hid (((⟨#[66,69,71,73,78,32,66,65,84,67,72,32]⟩:ah)++IU P L)++(⟨#[65,80,80,76,89,32,66,65,84,67,72]⟩:ah)=aF (nk (L.map P))):=by
  show _=_;unfold nk IU;rw [bq,bq,List.flatMap_map];rfl
 have HP:=Lib.hid hp;have HF:=Lib.hid hf;have HZ:=Lib.hid hz;have HN:=Lib.hid hn;clear hp hf hz hn;go_enter func48,ntmps48;go_upto_region 2 with fail
 generalize w.alloc (.cells (aG x tc c s wv (.slice a4 n k4)) 31)=w1 at *;have k0:w1.cell? ⟨w.heap.size,0,none⟩=some (.int .i64 9):=by rw [(aK hV).1,hk]
 have k17:w1.cell? ⟨w.heap.size,17,none⟩=some (.slice a4 n k4):=(aK hV).2.2.2.2.2.2.2.2.2.2.2.2.2.2.2.2.2;have HB1:=Lib.hid hB1;clear hV hk hB1;go_wp2_with fail
 go_loopw [8,9] (fun t i wr=>∃j:Nat,t= .string ((⟨#[66,69,71,73,78,32,66,65,84,67,72,32]⟩:ah)++IU P (L.take j))∧i= .int .i64 j∧j≤n∧(IU P (L.take j)).size≤j*2000000010∧Below w1.heap.size w1 wr) (fun _ i _=>n - (intOf i).toNat)
 case atStart=>exact ⟨0,rfl,rfl,Nat.zero_le _,by show 0≤_;omega,Below.refl _ _⟩
 case round=>
  obtain ⟨j,rfl,rfl,hj,hsz,hBr⟩:=hrel;have e17:=aJ hBr k17;have zw:=Lib.hid (HB1.out.trans (hBr.mono HB1.out.size));have Eb:=Lib.hid hBr;clear k0 k17 hBr;by_cases hlt:j<n
  · have q0:(j:Int)<(n:Int):=by omega
    have q1:(0:Int)≤(j:Int):=by omega
    have HJ:=Lib.hid (show j+1≤n from hlt);obtain ⟨q,hq⟩:∃q,L[j]? =some q:=⟨_,List.getElem?_eq_getElem (by have:=HN.out;omega)⟩;obtain ⟨a1,k1,ha1,hx0⟩:=HP.out;cases ha1;obtain ⟨ga,o1,PW,hx⟩:=hx0 (by omega);subst PW;have hmem:=List.mem_of_getElem? hq;have hc:=Lib.hid (HF.out q hmem);have hR1:=ou hx hq zw.out;have hzq:=HZ.out q hmem;have HS:=Lib.hid (V8 P L j q hq);obtain ⟨B,hBe⟩:∃B,IU P (L.take j)=B:=⟨_,rfl⟩;obtain ⟨B2,aeM⟩:∃B,IU P (L.take (j+1))=B:=⟨_,rfl⟩;obtain ⟨T,hT⟩:∃T,aF (P q)=T:=⟨_,rfl⟩;rw [hBe,aeM,hT]at HS;rw [hBe]at hsz⊢;rw [hT]at hc hzq;have ZG:j*2000000010≤100*2000000010:=Nat.mul_le_mul_right _ (by omega);obtain ⟨A1,Te⟩:∃A,(⟨#[66,69,71,73,78,32,66,65,84,67,72,32]⟩:ah)++B=A:=⟨_,rfl⟩;have zA1:A1.size≤12+B.size:=by rw [←Te,ByteArray.size_append];exact Nat.le_refl _
    obtain ⟨A2,Tf⟩:∃A,A1++T=A:=⟨_,rfl⟩;have zA2:A2.size=A1.size+T.size:=by rw [←Tf,ByteArray.size_append]
    obtain ⟨A3,eA3⟩:∃A,A2++(⟨#[59,32]⟩:ah)=A:=⟨_,rfl⟩;have ha1:=cZ A1 T (by omega);have ha2:=cZ A2 (⟨#[59,32]⟩:ah) (by show _+2≤_;omega);rw [Tf]at ha1;rw [eA3]at ha2
    have HR3:Hid (A3=(⟨#[66,69,71,73,78,32,66,65,84,67,72,32]⟩:ah)++B2):=by
     show _=_;rw [←eA3,←Tf,←Te,HS.out,fV,fV,fV]
    have HZ2:Hid (B2.size≤(j+1)*2000000010):=by
     show _≤_;rw [HS.out,ByteArray.size_append,ByteArray.size_append];show B.size+T.size+2≤_;rw [Nat.succ_mul];omega
    have agL:=Lib.hid aeM;rw [Te];obtain ⟨x1,tc1,cc1,ss1,wv1,pv1⟩:=q;have hv:wr.rangeAt ga (o1+j*18) (aG x1 tc1 cc1 ss1 wv1 pv1).toList:=hR1;have hc1:=hc.out _ zw.out;clear hq hx hx0 hmem hR1 hzq HS hBe aeM hT hsz ZG Te Tf eA3 zA1 zA2 hc;go_wp2_with (refine zi rfl _ rfl rfl rfl hv ?_);refine hc1.mono ?_;rintro e w2 ⟨rfl,hb2⟩;have hB2:=Eb.out.trans (hb2.mono Eb.out.size);go_wp2_with fail;go_roundw
    case rel=>exact ⟨j+1,by rw [HR3.out,agL.out],by go_num,HJ.out,by rw [agL.out];exact HZ2.out,hB2⟩
    case measure=>have hjj:=HJ.out;simp [intOf];omega
  · have mF:j=n:=by omega
    subst mF;have e:L.take j=L:=by rw [←HN.out,List.take_length]
    rw [e]at hsz⊢;have ZG:j*2000000010≤100*2000000010:=Nat.mul_le_mul_right _ acw;have ha:=cZ ((⟨#[66,69,71,73,78,32,66,65,84,67,72,32]⟩:ah)++IU P L) (⟨#[65,80,80,76,89,32,66,65,84,67,72]⟩:ah) (by rw [ByteArray.size_append];show 12+_+11≤_;omega);rw [HE.out]at ha;clear hsz ZG e;generalize (⟨#[66,69,71,73,78,32,66,65,84,67,72,32]⟩:ah)++IU P L=A at *;go_wp2_with fail;go_ret;exact ⟨rfl,zw.out⟩
theorem ZH {w:World}{x:Sx}{tc c s wv pv:Value}(h5:x.kind≠5) (h6:x.kind≠6) (h7:x.kind≠7) (h8:x.kind≠8) (h9:x.kind≠9):
 Calls prog 48 #[.agg (aG x tc c s wv pv)] w fun e w' =>e= .returned (.string ⟨#[]⟩)∧Below w.heap.size w w' :=by
 have hB1:=(Below.refl w.heap.size w).alloc (Nat.le_refl _) (.cells (aG x tc c s wv pv) 31);have hV:=aA w (.cells (aG x tc c s wv pv) 31);have q5:(x.kind==5)=false:=beq_eq_false_iff_ne.2 h5;have q6:(x.kind==6)=false:=beq_eq_false_iff_ne.2 h6;have q7:(x.kind==7)=false:=beq_eq_false_iff_ne.2 h7;have q8:(x.kind==8)=false:=beq_eq_false_iff_ne.2 h8;have q9:(x.kind==9)=false:=beq_eq_false_iff_ne.2 h9;go_enter func48,ntmps48;go_upto_region 2 with fail
 have k0:(w.alloc (.cells (aG x tc c s wv pv) 31)).cell? ⟨w.heap.size,0,none⟩=some (.int .i64 x.kind):=(aK hV).1;clear hV h5 h6 h7 h8 h9;generalize w.alloc (.cells (aG x tc c s wv pv) 31)=w1 at *;go_wp2_with fail;go_ret;exact ⟨rfl,hB1⟩
theorem ZI {x:Sx}(h5:x.kind≠5) (h6:x.kind≠6) (h7:x.kind≠7) (h8:x.kind≠8) (h9:x.kind≠9):aF (Ja x)=⟨#[]⟩:=by
 unfold Ja;split
 · rfl
 · rename_i h;unfold stP;rw [if_neg (by omega),if_neg (by omega),if_neg (by omega),if_neg (by omega),if_neg h5,if_neg h6,if_neg h7,if_neg h8,if_neg h9];rfl
theorem IV {x:Sx}(h:5≤x.kind):Ja (iK x)=stP (iK x):=by unfold Ja;rw [if_neg (by show¬(1≤x.kind∧x.kind≤4);omega)]
theorem Tg {w:World}{p:Pw}(hok:gB p.x) (hin:iJ w p.x p.tc p.c p.s p.wv) (hpv:p.pv.oneCell' =true) (h9:p.x.kind≠9):
 Calls prog 48 #[.agg p.arr] w fun e w' =>e= .returned (.string (aF (Ja (iK p.x))))∧Below w.heap.size w w' :=by
 obtain ⟨x,tc,c,s,wv,pv⟩:=p;replace h9:x.kind≠9:=h9;show Calls prog 48 #[.agg (aG x tc c s wv pv)] w fun e w' =>e= .returned (.string (aF (Ja (iK x))))∧_
 have hk' :(iK x).kind=x.kind:=rfl;by_cases h5:x.kind=5
 · rw [IV (by omega)];have e:stP (iK x)=oD (iK x):=by unfold stP;rw [hk',h5];rfl
   rw [e];exact Ry h5 hok hin hpv
 by_cases h6:x.kind=6
 · rw [IV (by omega)];have e:stP (iK x)=oF (iK x):=by unfold stP;rw [hk',h6];rfl
   rw [e];exact Rx h6 hok hin hpv
 by_cases h7:x.kind=7
 · rw [IV (by omega)];have e:stP (iK x)=jT (iK x):=by unfold stP;rw [hk',h7];rfl
   rw [e];by_cases hc:x.aI= []
   · exact O1 h7 hok hin hc hpv
   · exact O4 h7 hok hin hc hpv
 by_cases h8:x.kind=8
 · rw [IV (by omega)];have e:stP (iK x)=zx (iK x):=by unfold stP;rw [hk',h8];rfl
   rw [e];by_cases hc:x.limit=0
   · exact ZE h8 hok hin hc hpv
   · exact ZF h8 hok hin hc hpv
 rw [ZI (x:=iK x) h5 h6 h7 h8 h9];exact ZH h5 h6 h7 h8 h9
def dxP (z:kD):List Pc:=if z.x.kind=9 then nk (z.parts.map fun q=>Ja (iK q))else Ja (iK z.x)
theorem ZJ {w:World}{p:Pw}(h:zB w p) (hp:Rd w p.pv 0 []):
 Calls prog 48 #[.agg p.arr] w fun e w' =>e= .returned (.string (aF (Ja (iK p.x))))∧Below w.heap.size w w' :=by
 by_cases h9:p.x.kind=9
 · obtain ⟨x,tc,c,s,wv,pv⟩:=p;replace h9:x.kind=9:=h9;obtain ⟨a,k,e,_⟩:=id hp;replace e:pv= .slice a 0 k:=e;subst e
   have e2:Ja (iK x)=nk (([]:List Pw).map fun q=>Ja (iK q.x)):=by
    rw [IV (by omega)];unfold stP;rw [show (iK x).kind=9 from h9];rfl
   show Calls prog 48 #[.agg (aG x tc c s wv (.slice a 0 k))] w fun e w' =>e= .returned (.string (aF (Ja (iK x))))∧_
   rw [e2];exact KL (L:= []) h9 rfl (by omega) hp (fun q hq=>nomatch hq) (fun q hq=>nomatch hq)
 · exact Tg h.ok h.rd h.one h9
theorem O6 {w:World}{p:Pw}{L:List Pw}(h:zB w p) (hb:p.x.kind=9→L.length≤100∧Rd w p.pv L.length (jP L)∧∀q∈L,zB w q∧Rd w q.pv 0 []):
 Calls prog 48 #[.agg p.arr] w fun e w' =>e= .returned (.string (aF (dxP ⟨p.x,L.map Pw.x⟩)))∧Below w.heap.size w w' :=by
 unfold dxP;by_cases h9:p.x.kind=9
 · obtain ⟨hl,hp,hq⟩:=hb h9;obtain ⟨x,tc,c,s,wv,pv⟩:=p;replace h9:x.kind=9:=h9;obtain ⟨a,k,e,_⟩:=id hp;replace e:pv= .slice a L.length k:=e;subst e;rw [if_pos h9];have e2:(L.map Pw.x).map (fun q=>Ja (iK q))=L.map fun q=>Ja (iK q.x):=by rw [List.map_map];rfl
   show Calls prog 48 #[.agg (aG x tc c s wv (.slice a L.length k))] w fun e w' =>e= .returned (.string (aF (nk ((L.map Pw.x).map fun q=>Ja (iK q)))))∧_
   rw [e2];exact KL h9 rfl hl hp (fun q hq' =>agI (hq q hq').1.ok) fun q hq' w' hb' =>ZJ ((hq q hq').1.below hb') ((hq q hq').2.below hb')
 · rw [if_neg h9];exact Tg h.ok h.rd h.one h9
theorem ZK {w:World}{x:Sx}{tc c s wv pv:Value}(hk:x.kind=4) (hok:gB x):
 Calls prog 16 #[.agg (aG x tc c s wv pv)] w fun e w' =>e= .returned (.string (aF (zF x)))∧Below w.heap.size w w' :=by
 have hB1:=(Below.refl w.heap.size w).alloc (Nat.le_refl _) (.cells (aG x tc c s wv pv) 31);have hV:=aA w (.cells (aG x tc c s wv pv) 31);have nJ:((⟨#[68,82,79,80,32]⟩:ah)).size≤5:=by decide
 obtain ⟨A1,nK,LZ,nO⟩:=aM nJ (show (x.name).size≤2000000 from hok.name) (by decide)
 have HE:Hid (A1=aF (zF x)):=by
  show _=_;rw [←nK];unfold zF;apply ByteArray.ext;apply Array.ext';simp [aF,Pc.text]
 clear nK;clear nJ nO;clear hok;go_enter func16,ntmps16;go_upto_region 2 with fail
 generalize w.alloc (.cells (aG x tc c s wv pv) 31)=w1 at *;have k0:w1.cell? ⟨w.heap.size,0,none⟩=some (.int .i64 4):=by rw [(aK hV).1,hk]
 have k1:w1.cell? ⟨w.heap.size,1,none⟩=some (.string x.name):=(aK hV).2.1;have HB1:=Lib.hid hB1;clear hV hk hB1;go_wp2_with fail;go_ret;rw [HE.out];exact ⟨rfl,HB1.out⟩
theorem V9 {w:World}{x:Sx}{tc c s wv pv:Value}(hk:x.kind=3) (hok:gB x):
 Calls prog 16 #[.agg (aG x tc c s wv pv)] w fun e w' =>e= .returned (.string (aF (tK x)))∧Below w.heap.size w w' :=by
 have hB1:=(Below.refl w.heap.size w).alloc (Nat.le_refl _) (.cells (aG x tc c s wv pv) 31);have hV:=aA w (.cells (aG x tc c s wv pv) 31);have nJ:((⟨#[67,82,69,65,84,69,32,73,78,68,69,88,32]⟩:ah)).size≤13:=by decide
 obtain ⟨A1,nK,LZ,nO⟩:=aM nJ (show (x.name).size≤2000000 from hok.name) (by decide);obtain ⟨A2,pF,Oq,pG⟩:=aM nO (show ((⟨#[32,79,78,32]⟩:ah)).size≤4 from by decide) (by decide);obtain ⟨A3,pI,Ot,pJ⟩:=aM pG (show (x.bT).size≤2000000 from hok.bT) (by decide);obtain ⟨A4,pK,Ou,pO⟩:=aM pJ (show ((⟨#[32,40]⟩:ah)).size≤2 from by decide) (by decide);obtain ⟨A5,pQ,Ov,sj⟩:=aM pO (show (x.on).size≤2000000 from hok.on) (by decide);obtain ⟨A6,Cz,Ah6,EK⟩:=aM sj (show ((⟨#[41]⟩:ah)).size≤1 from by decide) (by decide)
 have HE:Hid (A6=aF (tK x)):=by
  show _=_;rw [←Cz,←pQ,←pK,←pI,←pF,←nK];unfold tK;apply ByteArray.ext;apply Array.ext';simp [aF,Pc.text]
 clear nK pF pI pK pQ Cz;clear nJ nO pG pJ pO sj EK;clear hok;go_enter func16,ntmps16;go_upto_region 2 with fail
 generalize w.alloc (.cells (aG x tc c s wv pv) 31)=w1 at *;have k0:w1.cell? ⟨w.heap.size,0,none⟩=some (.int .i64 3):=by rw [(aK hV).1,hk]
 have k1:w1.cell? ⟨w.heap.size,1,none⟩=some (.string x.name):=(aK hV).2.1;have k2:w1.cell? ⟨w.heap.size,2,none⟩=some (.string x.bT):=(aK hV).2.2.1;have k3:w1.cell? ⟨w.heap.size,3,none⟩=some (.string x.on):=(aK hV).2.2.2.1;have HB1:=Lib.hid hB1;clear hV hk hB1;go_wp2_with fail;go_ret;rw [HE.out];exact ⟨rfl,HB1.out⟩
theorem O7 (a b:Cl) (l:List Cl) (j:Nat) (q:Cl) (h:l[j]? =some q):aF (eB bA ((a::b::l.take (j+1)).map dN))=(aF (eB bA ((a::b::l.take j).map dN))++(⟨#[44,32]⟩:ah))++aF (dN q):=by
 obtain ⟨h1,rfl⟩:=List.getElem?_eq_some_iff.1 h;rw [List.take_succ_eq_append_getElem h1];have e:(a::b::(l.take j++ [l[j]])).map dN=(a::b::l.take j).map dN++ [dN l[j]]:=by simp only [List.map_cons,List.map_append,List.map_nil,List.cons_append]
 rw [e,zo,if_neg (by simp),bq,bq,iI,fV]
theorem Wd {w:World}{x:Sx}{tc c s wv pv:Value}(hk:x.kind=1) (hok:gB x) (hin:iJ w x tc c s wv):
 Calls prog 16 #[.agg (aG x tc c s wv pv)] w fun e w' =>e= .returned (.string (aF (tJ x)))∧Below w.heap.size w w' :=by
 have hn:=hok.aB.1;have hQ:=Lib.hid hok.aB.2;obtain ⟨cA,cC,hce,hcg⟩:=hin.tc;subst hce;obtain ⟨Jp,eJp⟩:∃r,aF (dN x.part)=r:=⟨_,rfl⟩;obtain ⟨Jc,eJc⟩:∃r,aF (dN x.aX)=r:=⟨_,rfl⟩;have zJp:Jp.size≤2000010:=by rw [←eJp];exact uW _ hok.part
 have zJc:Jc.size≤2000010:=by rw [←eJc];exact uW _ hok.aX
 have tJp:=fun w=>AV x.part w hok.part
 have tJc:=fun w=>AV x.aX w hok.aX
 rw [eJp]at tJp;rw [eJc]at tJc;have nJ:((⟨#[67,82,69,65,84,69,32,84,65,66,76,69,32]⟩:ah)).size≤13:=by decide
 obtain ⟨A1,nK,LZ,nO⟩:=aM nJ (show (x.name).size≤2000000 from hok.name) (by decide);obtain ⟨A2,pF,Oq,pG⟩:=aM nO (show ((⟨#[32,40]⟩:ah)).size≤2 from by decide) (by decide);obtain ⟨A3,pI,Ot,pJ⟩:=aM pG (show (Jp).size≤2000010 from zJp) (by decide);obtain ⟨A4,pK,Ou,pO⟩:=aM pJ (show ((⟨#[44,32]⟩:ah)).size≤2 from by decide) (by decide);obtain ⟨A5,pQ,Ov,sj⟩:=aM pO (show (Jc).size≤2000010 from zJc) (by decide)
 have Zl:Hid (A5=(⟨#[67,82,69,65,84,69,32,84,65,66,76,69,32]⟩:ah)++x.name++(⟨#[32,40]⟩:ah)++aF (eB bA ((x.part::x.aX::x.aB.take 0).map dN))):=by
  show _=_;rw [←pQ,←pK,←pI,←pF,←nK,←eJp,←eJc];simp only [List.take_zero,List.map_cons,List.map_nil,eB,List.flatMap_cons,List.flatMap_nil,List.append_nil,bq,iI,fV]
 have zA0:(A5).size≤6000100:=by omega
 obtain ⟨S,hS⟩:∃r,(⟨#[67,82,69,65,84,69,32,84,65,66,76,69,32]⟩:ah)++x.name++(⟨#[32,40]⟩:ah)++aF (eB bA ((x.part::x.aX::x.aB.take x.aB.length).map dN))=r:=⟨_,rfl⟩
 have zS:S.size≤100*2000014+6000000:=by
  rw [←hS,List.take_length,ByteArray.size_append,ByteArray.size_append,ByteArray.size_append];have h1:=Ko hok;have h2:=hok.name;show 13+_+2+_≤_;omega
 have Bz0:(S).size≤206001400:=zS;obtain ⟨B1,Be1,Bh1,Bz1⟩:=aM Bz0 (show ((⟨#[44,32,80,82,73,77,65,82,89,32,75,69,89,32,40]⟩:ah)).size≤15 from by decide) (by decide);obtain ⟨B2,Be2,Bh2,Bz2⟩:=aM Bz1 (show (x.part.name).size≤2000000 from hok.part) (by decide);obtain ⟨B3,Be3,Bh3,Bz3⟩:=aM Bz2 (show ((⟨#[44,32]⟩:ah)).size≤2 from by decide) (by decide);obtain ⟨B4,Be4,Bh4,Bz4⟩:=aM Bz3 (show (x.aX.name).size≤2000000 from hok.aX) (by decide);obtain ⟨B5,Be5,Bh5,Bz5⟩:=aM Bz4 (show ((⟨#[41,41]⟩:ah)).size≤2 from by decide) (by decide)
 have HE:Hid (B5=aF (tJ x)):=by
  show _=_;rw [←Be5,←Be4,←Be3,←Be2,←Be1,←hS,List.take_length];unfold tJ;apply ByteArray.ext;apply Array.ext';simp [bq,aF,Pc.text]
 clear nK pF pI pK pQ;clear nJ nO pG pJ pO sj;clear Be1 Be2 Be3 Be4 Be5;clear Bz0 Bz1 Bz2 Bz3 Bz4 Bz5;clear eJp eJc zJp zJc zS;have HS:=Lib.hid hS;clear hS hok hin;have hB1:=(Below.refl w.heap.size w).alloc (Nat.le_refl _) (.cells (aG x (.slice cA x.aB.length cC) c s wv pv) 31);have hV:=aA w (.cells (aG x (.slice cA x.aB.length cC) c s wv pv) 31);go_enter func16,ntmps16;go_upto_region 2 with fail
 generalize w.alloc (.cells (aG x (.slice cA x.aB.length cC) c s wv pv) 31)=w1 at *;have k0:w1.cell? ⟨w.heap.size,0,none⟩=some (.int .i64 1):=by rw [(aK hV).1,hk]
 have k1:w1.cell? ⟨w.heap.size,1,none⟩=some (.string x.name):=(aK hV).2.1;have k6:w1.cell? ⟨w.heap.size,6,none⟩=some (.string x.part.name):=(aK hV).2.2.2.2.2.2.1;have k7:w1.cell? ⟨w.heap.size,7,none⟩=some (.int .i64 x.part.ty):=(aK hV).2.2.2.2.2.2.2.1;have k8:w1.cell? ⟨w.heap.size,8,none⟩=some (.string x.aX.name):=(aK hV).2.2.2.2.2.2.2.2.1;have k9:w1.cell? ⟨w.heap.size,9,none⟩=some (.int .i64 x.aX.ty):=(aK hV).2.2.2.2.2.2.2.2.2.1;have k10:w1.cell? ⟨w.heap.size,10,none⟩=some ((.slice cA x.aB.length cC)):=(aK hV).2.2.2.2.2.2.2.2.2.2.1;have HB1:=Lib.hid hB1;clear hV hk hB1;have HN:Hid (x.aB.length≤90):=hn;have HC:=Lib.hid hcg;clear hn hcg;go_upto_region 3 with fail
 have r1:=fun d os=>cell_regrown k1 d os
 have r6:=fun d os=>cell_regrown k6 d os
 have r7:=fun d os=>cell_regrown k7 d os
 have r8:=fun d os=>cell_regrown k8 d os
 have r9:=fun d os=>cell_regrown k9 d os
 refine wp_region_quiet_below (by kernel_rfl) (by kernel_rfl) ?_
 iterate 7 (go_big_quiet_step (fail))
 go_big_quiet_step (exact Calls.regrown_of (tJp _))
 iterate 5 (go_big_quiet_step (fail))
 go_big_quiet_step (exact Calls.regrown_of (tJc _))
 iterate 2 (go_big_quiet_step (fail))
 refine wpQuiet_nil ?_
 first|(intro w9 Oi;obtain ⟨⟨dq,osq⟩,rfl⟩:=Oi)|(intro pq;obtain ⟨dq,osq⟩:=pq)
 have hBa:=below_regrown w1 dq osq;clear r1 r6 r7 r8 r9 tJp tJc;generalize Sort.grow (redrawn w1 dq) osq=w2 at *;obtain ⟨n,hn⟩:∃n,x.aB.length=n:=⟨_,rfl⟩;have HL:=Lib.hid hn;rw [hn]at HC HN HS k10;clear hn;have ajf:n≤90:=HN.out;go_wp2_with fail
 go_loopw [3,4] (fun t i wr=>∃(j:Nat),t= .string ((⟨#[67,82,69,65,84,69,32,84,65,66,76,69,32]⟩:ah)++x.name++(⟨#[32,40]⟩:ah)++aF (eB bA ((x.part::x.aX::x.aB.take j).map dN)))∧i= .int .i64 j∧j≤n∧((⟨#[67,82,69,65,84,69,32,84,65,66,76,69,32]⟩:ah)++x.name++(⟨#[32,40]⟩:ah)++aF (eB bA ((x.part::x.aX::x.aB.take j).map dN))).size≤6000100+j*2000014∧Below w1.heap.size w1 wr) (fun _ i _=>n - (intOf i).toNat)
 case atStart=>exact ⟨0,by rw [Zl.out],rfl,Nat.zero_le _,by rw [←Zl.out];omega,hBa⟩
 case round=>
  obtain ⟨j,rfl,rfl,hj,hsz,hBr⟩:=hrel;obtain ⟨T,hT⟩:∃T,(⟨#[67,82,69,65,84,69,32,84,65,66,76,69,32]⟩:ah)++x.name++(⟨#[32,40]⟩:ah)++aF (eB bA ((x.part::x.aX::x.aB.take j).map dN))=T:=⟨_,rfl⟩;have HT:=Lib.hid hT.symm;rw [hT]at hsz⊢;clear hT;have m6:=aJ hBr k6;have m8:=aJ hBr k8;have m10:=aJ hBr k10;have Eb:=Lib.hid hBr;clear k0 k1 k6 k7 k8 k9 k10 hBr hBa Zl;by_cases hlt:j<n
  · have q0:(j:Int)<(n:Int):=by omega
    have q1:(0:Int)≤(j:Int):=by omega
    have HJ:=Lib.hid (show j+1≤n from hlt);obtain ⟨g,off,hgs,hc⟩:=HC.out (by omega);subst hgs;obtain ⟨q,hq⟩:∃q,x.aB[j]? =some q:=⟨_,List.getElem?_eq_getElem (by have:=HL.out;omega)⟩;have zw:=Lib.hid (HB1.out.trans (Eb.out.mono HB1.out.size));have c0:wr.cell? ⟨g,off+j*2,none⟩=some (.string q.name):=aJ zw.out (hc (j*2) _ (by have:=jA hq 0 (by omega);rw [Nat.add_zero]at this;rw [this];rfl));have c1:wr.cell? ⟨g,off+j*2+1,none⟩=some (.int .i64 q.ty):=by rw [Nat.add_assoc];exact aJ zw.out (hc (j*2+1) _ (by rw [jA hq 1 (by omega)];rfl))
    have hqz:=hQ.out q (List.mem_of_getElem? hq);have hty:=fun w=>AV q w hqz
    have hle:=uW q hqz;have HSN:=Lib.hid (O7 x.part x.aX x.aB j q hq);obtain ⟨J,eJ⟩:∃r,aF (dN q)=r:=⟨_,rfl⟩;rw [eJ]at hty hle HSN;obtain ⟨A1,Te⟩:∃r,T++(⟨#[44,32]⟩:ah)=r:=⟨_,rfl⟩;have zA1:A1.size=T.size+2:=by rw [←Te,ByteArray.size_append];rfl
    obtain ⟨A2,Tf⟩:∃r,A1++J=r:=⟨_,rfl⟩;have zA2:A2.size=A1.size+J.size:=by rw [←Tf,ByteArray.size_append]
    have ZL:j*2000014≤90*2000014:=Nat.mul_le_mul_right _ (by omega);have ha1:=cZ T (⟨#[44,32]⟩:ah) (by show _+2≤_;omega);have ha2:=cZ A1 J (by omega);rw [Te]at ha1;rw [Tf]at ha2
    have HA2:Hid (A2=(⟨#[67,82,69,65,84,69,32,84,65,66,76,69,32]⟩:ah)++x.name++(⟨#[32,40]⟩:ah)++aF (eB bA ((x.part::x.aX::x.aB.take (j+1)).map dN))∧A2.size≤6000100+(j+1)*2000014):=by
     refine ⟨?_,by rw [Nat.succ_mul];omega⟩;rw [←Tf,←Te,HT.out,HSN.out];simp only [fV]
    clear hq hc hqz hle HSN eJ Te Tf zA1 zA2 ZL hsz m6 m8;go_wp2_with fail;refine (hty _).mono ?_;rintro e w3 ⟨rfl,hb3⟩;have hB3:=Eb.out.trans (hb3.mono Eb.out.size);go_wp2_with fail;go_roundw
    case rel=>exact ⟨j+1,by rw [HA2.out.1],by go_num,HJ.out,by rw [←HA2.out.1];exact HA2.out.2,hB3⟩
    case measure=>have hjj:=HJ.out;simp [intOf];omega
  · have mF:j=n:=by omega
    subst mF;have hTS:T=S:=HT.out.trans HS.out;subst hTS;clear hsz;go_wp2_with fail;go_ret;rw [HE.out];exact ⟨rfl,HB1.out.trans (Eb.out.mono HB1.out.size)⟩
theorem Wh (a:ByteArray) (l:List Pr) (j:Nat) (q:Pr) (h:l[j]? =some q):aF (eB bA ((a::(l.take (j+1)).map Pr.name).map fun s=> [Pc.wd s]))=(aF (eB bA ((a::(l.take j).map Pr.name).map fun s=> [Pc.wd s]))++(⟨#[44,32]⟩:ah))++q.name:=by
 obtain ⟨h1,rfl⟩:=List.getElem?_eq_some_iff.1 h;rw [List.take_succ_eq_append_getElem h1];have e:(a::(l.take j++ [l[j]]).map Pr.name).map (fun s=> [Pc.wd s])=(a::(l.take j).map Pr.name).map (fun s=> [Pc.wd s])++ [[Pc.wd l[j].name]]:=by simp only [List.map_cons,List.map_append,List.map_nil,List.cons_append]
 rw [e,zo,if_neg (by simp),bq,bq,iI,D6,fV]
theorem ZM {w:World}{x:Sx}{tc c s wv pv:Value}(hk:x.kind=2) (hok:gB x) (hin:iJ w x tc c s wv):
 Calls prog 16 #[.agg (aG x tc c s wv pv)] w fun e w' =>e= .returned (.string (aF (uH x)))∧Below w.heap.size w w' :=by
 have hn:=hok.Ij;have hQ:Hid (∀q∈x.aH,q.name.size≤2000000):=fun q hq=>(hok.aH.2 q hq).2
 obtain ⟨wA,wC,hwe,hwg⟩:=hin.wv;subst hwe;obtain ⟨Js,vo⟩:∃r,aF (fZ x.aI)=r:=⟨_,rfl⟩;have L9:Js.size≤100*2000006:=by rw [←vo];exact lN (Nat.le_trans hok.aI.1 (by decide)) hok.aI.2
 have tJs:Hid (∀w',Below w.heap.size w w' →Calls prog 47 #[c] w' fun e w'' =>e= .returned (.string Js)∧Below w'.heap.size w' w''):=fun w' hb=>by have h:=(D7 (Nat.le_trans hok.aI.1 (by decide)) (hin.c.below hb) hok.aI.2);rw [vo]at h;exact h.mono fun _ _ he=>⟨he.1,by rw [he.2];exact Below.refl _ _⟩
 have nJ:((⟨#[67,82,69,65,84,69,32,77,65,84,69,82,73,65,76,73,90,69,68,32,86,73,69,87,32]⟩:ah)).size≤25:=by decide
 obtain ⟨A1,nK,LZ,nO⟩:=aM nJ (show (x.name).size≤2000000 from hok.name) (by decide);obtain ⟨A2,pF,Oq,pG⟩:=aM nO (show ((⟨#[32,65,83,32,83,69,76,69,67,84,32]⟩:ah)).size≤11 from by decide) (by decide);obtain ⟨A3,pI,Ot,pJ⟩:=aM pG (show (Js).size≤200000600 from L9) (by decide);obtain ⟨A4,pK,Ou,pO⟩:=aM pJ (show ((⟨#[32,70,82,79,77,32]⟩:ah)).size≤6 from by decide) (by decide);obtain ⟨A5,pQ,Ov,sj⟩:=aM pO (show (x.bT).size≤2000000 from hok.bT) (by decide);obtain ⟨A6,Cz,Ah6,EK⟩:=aM sj (show ((⟨#[32,87,72,69,82,69,32]⟩:ah)).size≤7 from by decide) (by decide);obtain ⟨A7,Kn,Ah7,Pm⟩:=aM EK (show (x.on).size≤2000000 from hok.on) (by decide);obtain ⟨A8,Ae8,Ah8,Az8⟩:=aM Pm (show ((⟨#[32,73,83,32,78,79,84,32,78,85,76,76,32,80,82,73,77,65,82,89,32,75,69,89,32,40]⟩:ah)).size≤26 from by decide) (by decide);obtain ⟨A9,Ae9,Ah9,Az9⟩:=aM Az8 (show (x.on).size≤2000000 from hok.on) (by decide)
 have Zl:Hid (A9=((⟨#[67,82,69,65,84,69,32,77,65,84,69,82,73,65,76,73,90,69,68,32,86,73,69,87,32]⟩:ah)++x.name++(⟨#[32,65,83,32,83,69,76,69,67,84,32]⟩:ah)++aF (fZ x.aI)++(⟨#[32,70,82,79,77,32]⟩:ah)++x.bT++(⟨#[32,87,72,69,82,69,32]⟩:ah)++x.on++(⟨#[32,73,83,32,78,79,84,32,78,85,76,76,32,80,82,73,77,65,82,89,32,75,69,89,32,40]⟩:ah))++aF (eB bA ((x.on::(x.aH.take 0).map Pr.name).map fun s=> [Pc.wd s]))):=by
  show _=_;rw [←Ae9,←Ae8,←Kn,←Cz,←pQ,←pK,←pI,←pF,←nK,←vo];simp only [List.take_zero,List.map_cons,List.map_nil,eB,List.flatMap_nil,List.append_nil,D6]
 have zA0:(A9).size≤220000000:=by omega
 have HE:Hid (((⟨#[67,82,69,65,84,69,32,77,65,84,69,82,73,65,76,73,90,69,68,32,86,73,69,87,32]⟩:ah)++x.name++(⟨#[32,65,83,32,83,69,76,69,67,84,32]⟩:ah)++aF (fZ x.aI)++(⟨#[32,70,82,79,77,32]⟩:ah)++x.bT++(⟨#[32,87,72,69,82,69,32]⟩:ah)++x.on++(⟨#[32,73,83,32,78,79,84,32,78,85,76,76,32,80,82,73,77,65,82,89,32,75,69,89,32,40]⟩:ah))++aF (eB bA ((x.on::(x.aH.take x.aH.length).map Pr.name).map fun s=> [Pc.wd s]))++(⟨#[41]⟩:ah)=aF (uH x)):=by
  show _=_;rw [List.take_length];unfold uH;apply ByteArray.ext;apply Array.ext';simp [bq,aF,Pc.text]
 clear nK pF pI pK pQ Cz Kn Ae8 Ae9;clear nJ nO pG pJ pO sj EK Pm Az8 Az9;clear vo L9;clear hok hin;have hB1:=(Below.refl w.heap.size w).alloc (Nat.le_refl _) (.cells (aG x tc c s (.slice wA x.aH.length wC) pv) 31);have hV:=aA w (.cells (aG x tc c s (.slice wA x.aH.length wC) pv) 31);go_enter func16,ntmps16;go_upto_region 2 with fail
 generalize w.alloc (.cells (aG x tc c s (.slice wA x.aH.length wC) pv) 31)=w1 at *;have k0:w1.cell? ⟨w.heap.size,0,none⟩=some (.int .i64 2):=by rw [(aK hV).1,hk]
 have k1:w1.cell? ⟨w.heap.size,1,none⟩=some (.string x.name):=(aK hV).2.1;have k2:w1.cell? ⟨w.heap.size,2,none⟩=some (.string x.bT):=(aK hV).2.2.1;have k3:w1.cell? ⟨w.heap.size,3,none⟩=some (.string x.on):=(aK hV).2.2.2.1;have k11:w1.cell? ⟨w.heap.size,11,none⟩=some (c):=(aK hV).2.2.2.2.2.2.2.2.2.2.2.1;have k13:w1.cell? ⟨w.heap.size,13,none⟩=some ((.slice wA x.aH.length wC)):=(aK hV).2.2.2.2.2.2.2.2.2.2.2.2.2.1;have HB1:=Lib.hid hB1;clear hV hk hB1;have HN:Hid (x.aH.length≤90):=hn;have HC:=Lib.hid hwg;clear hn hwg;go_upto_region 10 with fail
 have r1:=fun d os=>cell_regrown k1 d os
 have r2:=fun d os=>cell_regrown k2 d os
 have r3:=fun d os=>cell_regrown k3 d os
 have r11:=fun d os=>cell_regrown k11 d os
 refine wp_region_quiet_below (by kernel_rfl) (by kernel_rfl) ?_
 iterate 6 (go_big_quiet_step (fail))
 go_big_quiet_step (exact Calls.regrown_of (tJs.out _ (HB1.out.trans ((below_regrown w1 _ _).mono HB1.out.size))))
 iterate 14 (go_big_quiet_step (fail))
 refine wpQuiet_nil ?_
 first|(intro w9 Oi;obtain ⟨⟨dq,osq⟩,rfl⟩:=Oi)|(intro pq;obtain ⟨dq,osq⟩:=pq)
 have hBa:=below_regrown w1 dq osq;clear r1 r2 r3 r11 tJs;generalize Sort.grow (redrawn w1 dq) osq=w2 at *;obtain ⟨n,hn⟩:∃n,x.aH.length=n:=⟨_,rfl⟩;have HL:=Lib.hid hn;rw [hn]at HC HN HE k13;clear hn;have ajf:n≤90:=HN.out;go_wp2_with fail
 go_loopw [5,6] (fun t i wr=>∃(j:Nat),t= .string (((⟨#[67,82,69,65,84,69,32,77,65,84,69,82,73,65,76,73,90,69,68,32,86,73,69,87,32]⟩:ah)++x.name++(⟨#[32,65,83,32,83,69,76,69,67,84,32]⟩:ah)++aF (fZ x.aI)++(⟨#[32,70,82,79,77,32]⟩:ah)++x.bT++(⟨#[32,87,72,69,82,69,32]⟩:ah)++x.on++(⟨#[32,73,83,32,78,79,84,32,78,85,76,76,32,80,82,73,77,65,82,89,32,75,69,89,32,40]⟩:ah))++aF (eB bA ((x.on::(x.aH.take j).map Pr.name).map fun s=> [Pc.wd s])))∧i= .int .i64 j∧j≤n∧(((⟨#[67,82,69,65,84,69,32,77,65,84,69,82,73,65,76,73,90,69,68,32,86,73,69,87,32]⟩:ah)++x.name++(⟨#[32,65,83,32,83,69,76,69,67,84,32]⟩:ah)++aF (fZ x.aI)++(⟨#[32,70,82,79,77,32]⟩:ah)++x.bT++(⟨#[32,87,72,69,82,69,32]⟩:ah)++x.on++(⟨#[32,73,83,32,78,79,84,32,78,85,76,76,32,80,82,73,77,65,82,89,32,75,69,89,32,40]⟩:ah))++aF (eB bA ((x.on::(x.aH.take j).map Pr.name).map fun s=> [Pc.wd s]))).size≤220000000+j*2000014∧Below w1.heap.size w1 wr) (fun _ i _=>n - (intOf i).toNat)
 case atStart=>exact ⟨0,by rw [Zl.out],rfl,Nat.zero_le _,by rw [←Zl.out];omega,hBa⟩
 case round=>
  obtain ⟨j,rfl,rfl,hj,hsz,hBr⟩:=hrel;obtain ⟨T,hT⟩:∃T,((⟨#[67,82,69,65,84,69,32,77,65,84,69,82,73,65,76,73,90,69,68,32,86,73,69,87,32]⟩:ah)++x.name++(⟨#[32,65,83,32,83,69,76,69,67,84,32]⟩:ah)++aF (fZ x.aI)++(⟨#[32,70,82,79,77,32]⟩:ah)++x.bT++(⟨#[32,87,72,69,82,69,32]⟩:ah)++x.on++(⟨#[32,73,83,32,78,79,84,32,78,85,76,76,32,80,82,73,77,65,82,89,32,75,69,89,32,40]⟩:ah))++aF (eB bA ((x.on::(x.aH.take j).map Pr.name).map fun s=> [Pc.wd s]))=T:=⟨_,rfl⟩;have HT:=Lib.hid hT.symm;rw [hT]at hsz⊢;clear hT;have m13:=aJ hBr k13;have Eb:=Lib.hid hBr;clear k0 k1 k2 k3 k11 k13 hBr hBa Zl;by_cases hlt:j<n
  · have q0:(j:Int)<(n:Int):=by omega
    have q1:(0:Int)≤(j:Int):=by omega
    have HJ:=Lib.hid (show j+1≤n from hlt);obtain ⟨g,off,hgs,hc⟩:=HC.out (by omega);subst hgs;obtain ⟨q,hq⟩:∃q,x.aH[j]? =some q:=⟨_,List.getElem?_eq_getElem (by have:=HL.out;omega)⟩;have zw:=Lib.hid (HB1.out.trans (Eb.out.mono HB1.out.size));have c0:wr.cell? ⟨g,off+j*4,none⟩=some (.string q.name):=aJ zw.out (hc (j*4) _ (by have:=bF hq 0 (by omega);rw [Nat.add_zero]at this;rw [this];rfl));have hle:=hQ.out q (List.mem_of_getElem? hq);have HSN:=Lib.hid (Wh x.on x.aH j q hq);obtain ⟨A1,Te⟩:∃r,T++(⟨#[44,32]⟩:ah)=r:=⟨_,rfl⟩;have zA1:A1.size=T.size+2:=by rw [←Te,ByteArray.size_append];rfl
    obtain ⟨A2,Tf⟩:∃r,A1++q.name=r:=⟨_,rfl⟩;have zA2:A2.size=A1.size+q.name.size:=by rw [←Tf,ByteArray.size_append]
    have ZL:j*2000014≤90*2000014:=Nat.mul_le_mul_right _ (by omega);have ha1:=cZ T (⟨#[44,32]⟩:ah) (by show _+2≤_;omega);have ha2:=cZ A1 q.name (by omega);rw [Te]at ha1;rw [Tf]at ha2
    have HA2:Hid (A2=((⟨#[67,82,69,65,84,69,32,77,65,84,69,82,73,65,76,73,90,69,68,32,86,73,69,87,32]⟩:ah)++x.name++(⟨#[32,65,83,32,83,69,76,69,67,84,32]⟩:ah)++aF (fZ x.aI)++(⟨#[32,70,82,79,77,32]⟩:ah)++x.bT++(⟨#[32,87,72,69,82,69,32]⟩:ah)++x.on++(⟨#[32,73,83,32,78,79,84,32,78,85,76,76,32,80,82,73,77,65,82,89,32,75,69,89,32,40]⟩:ah))++aF (eB bA ((x.on::(x.aH.take (j+1)).map Pr.name).map fun s=> [Pc.wd s]))∧A2.size≤220000000+(j+1)*2000014):=by
     refine ⟨?_,by rw [Nat.succ_mul];omega⟩;rw [←Tf,←Te,HT.out,HSN.out];generalize x.name++(⟨#[32,65,83,32,83,69,76,69,67,84,32]⟩:ah)=y;simp only [fV]
    clear hq hc hle HSN Te Tf zA1 zA2 ZL hsz;go_wp2_with fail;go_roundw
    case rel=>exact ⟨j+1,by rw [HA2.out.1],by go_num,HJ.out,by rw [←HA2.out.1];exact HA2.out.2,Eb.out⟩
    case measure=>have hjj:=HJ.out;simp [intOf];omega
  · have mF:j=n:=by omega
    subst mF;have ZL:j*2000014≤90*2000014:=Nat.mul_le_mul_right _ (by omega);have ha:=cZ T (⟨#[41]⟩:ah) (by show _+1≤_;omega);rw [show T++(⟨#[41]⟩:ah)=aF (uH x)from by rw [HT.out];exact HE.out]at ha;clear hsz ZL;go_wp2_with fail;go_ret;exact ⟨rfl,HB1.out.trans (Eb.out.mono HB1.out.size)⟩
theorem ZN {w:World}{x:Sx}{tc c s wv pv:Value}{J:ByteArray}(h1:x.kind≠1) (h2:x.kind≠2) (h3:x.kind≠3) (h4:x.kind≠4)
 (hc:∀w',Below w.heap.size w w' →Calls prog 48 #[.agg (aG x tc c s wv pv)] w' fun e w'' =>e= .returned (.string J)∧Below w'.heap.size w' w''):
 Calls prog 16 #[.agg (aG x tc c s wv pv)] w fun e w' =>e= .returned (.string J)∧Below w.heap.size w w' :=by
 have hB1:=(Below.refl w.heap.size w).alloc (Nat.le_refl _) (.cells (aG x tc c s wv pv) 31);have hV:=aA w (.cells (aG x tc c s wv pv) 31);have q1:(x.kind==1)=false:=beq_eq_false_iff_ne.2 h1;have q2:(x.kind==2)=false:=beq_eq_false_iff_ne.2 h2;have q3:(x.kind==3)=false:=beq_eq_false_iff_ne.2 h3;have q4:(x.kind==4)=false:=beq_eq_false_iff_ne.2 h4;have hc1:=hc _ hB1;have k0:(w.alloc (.cells (aG x tc c s wv pv) 31)).cell? ⟨w.heap.size,0,none⟩=some (.int .i64 x.kind):=(aK hV).1;clear hc h1 h2 h3 h4;go_enter func16,ntmps16;go_upto_region 2 with fail
 generalize w.alloc (.cells (aG x tc c s wv pv) 31)=w1 at *;go_wp2_with (refine aT rfl _ rfl rfl rfl hV ?_);refine hc1.mono ?_;rintro e w2 ⟨rfl,hb2⟩;go_wp2_with fail;go_ret;exact ⟨rfl,hB1.trans (hb2.mono hB1.size)⟩
def Ti (z:kD):List Pc:=if 1≤z.x.kind∧z.x.kind≤4 then stP z.x else dxP z
theorem Ec {w:World}{p:Pw}{L:List Pw}(h:zB w p) (hb:p.x.kind=9→L.length≤100∧Rd w p.pv L.length (jP L)∧∀q∈L,zB w q∧Rd w q.pv 0 []):
 Calls prog 16 #[.agg p.arr] w fun e w' =>e= .returned (.string (aF (Ti ⟨p.x,L.map Pw.x⟩)))∧Below w.heap.size w w' :=by
 have hch:=fun w' hb' =>O6 (w:=w') (L:=L) (h.below hb') fun h9=>⟨(hb h9).1,(hb h9).2.1.below hb',fun q hq=>⟨((hb h9).2.2 q hq).1.below hb',((hb h9).2.2 q hq).2.below hb'⟩⟩
 obtain ⟨hok,hin,hpv⟩:=h;obtain ⟨x,tc,c,s,wv,pv⟩:=p;unfold Ti;show Calls prog 16 #[.agg (aG x tc c s wv pv)] w fun e w' =>e= .returned (.string (aF (if 1≤x.kind∧x.kind≤4 then stP x else dxP ⟨x,L.map Pw.x⟩)))∧_
 by_cases h1:x.kind=1
 · rw [if_pos (by omega),show stP x=tJ x from by unfold stP;rw [if_pos h1]];exact Wd h1 hok hin
 by_cases h2:x.kind=2
 · rw [if_pos (by omega),show stP x=uH x from by unfold stP;rw [if_neg h1,if_pos h2]];exact ZM h2 hok hin
 by_cases h3:x.kind=3
 · rw [if_pos (by omega),show stP x=tK x from by unfold stP;rw [if_neg h1,if_neg h2,if_pos h3]];exact V9 h3 hok
 by_cases h4:x.kind=4
 · rw [if_pos (by omega),show stP x=zF x from by unfold stP;rw [if_neg h1,if_neg h2,if_neg h3,if_pos h4]];exact ZK h4 hok
 rw [if_neg (by omega)];exact ZN h1 h2 h3 h4 hch
end Go.Proofs.YtcgadodckoalnaaGreatDoor
