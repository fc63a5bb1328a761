/- Parts of a proof. -/
import Derived.Deep.RegionLaw
import Derived.Deep.Cut
import Derived.BigQuiet
import Derived.Lib.QuietBelow
import Derived.Deep.CutBlock
import Derived.Test.YtnngbhpeeakfaaaGreatDoorB08
import Derived.Test.YtnngbhpeeakfaaaGreatDoorB29
import Derived.Test.YtnngbhpeeakfaaaGreatDoorB44
set_option maxHeartbeats 8000000
set_option maxRecDepth 100000
namespace Go.Proofs.YtnngbhpeeakfaaaGreatDoor
open Go.Proofs.Tryz
open Go.RowKit
open aK
def B62:Int:=4611686018427387904
def LP (n:Int):Int:=min (max n (-4611686018427387904)) 4611686018427387904
theorem PG (n:Int): -B62≤LP n∧LP n≤B62:=by
 unfold LP B62;omega
def abU (t:Tm):Tm:=⟨t.ty,t.s,LP t.n⟩
def Y8 (p:Pr):Pr:=⟨p.name,abU p.t⟩
theorem xY (q:Cl) (w:World) (hs:q.name.size≤2000000):Calls prog 162 #[.agg #[.string q.name, .int .i64 q.ty]] w fun e w' =>e= .returned (.string (aW (dB q)))∧Below w.heap.size w w' :=by
 have hB:=(Below.refl w.heap.size w).alloc (Nat.le_refl _) (.cells #[.string q.name, .int .i64 q.ty] 24);by_cases ht:q.ty=1
 · have ha:=fU q.name (⟨#[32,84,69,88,84]⟩:ah) (by show _+5≤_;omega);have h1:(q.ty==1)=true:=by rw [ht];rfl
   have HE:Hid (q.name++(⟨#[32,84,69,88,84]⟩:ah)=aW (dB q)):=by
    show _=_;unfold dB;rw [if_pos ht];apply ByteArray.ext;apply Array.ext';simp [aW,Pc.text]
   clear ht;go_enter func162,ntmps162;go_wp2_with fail;go_ret;rw [←HE.out];exact ⟨rfl,hB⟩
 · have ha:=fU q.name (⟨#[32,73,78,84]⟩:ah) (by show _+4≤_;omega);have h1:(q.ty==1)=false:=by rw [beq_eq_false_iff_ne];exact ht
   have HE:Hid (q.name++(⟨#[32,73,78,84]⟩:ah)=aW (dB q)):=by
    show _=_;unfold dB;rw [if_neg ht];apply ByteArray.ext;apply Array.ext';simp [aW,Pc.text]
   clear ht;go_enter func162,ntmps162;go_wp2_with fail;go_ret;rw [←HE.out];exact ⟨rfl,hB⟩
theorem SL (sep:List Pc) (l:List (List Pc)) (a:List Pc):gG sep (l++ [a])=if l= []then a else gG sep l++(sep++a):=by
 cases l with
 |nil=>simp [gG]
 |cons b l=>simp [gG]
def upto {α:Type}(sep:List Pc) (P:α→List Pc) (l:List α) (j:Nat):ByteArray:=aW (gG sep ((l.take j).map P))
theorem Y9 (t:Tm) (h:Fh t):Fh (abU t):=by
 have hc:=PG t.n;obtain ⟨h1,h2,h3⟩:=h;exact ⟨h1,by unfold Jr abU;unfold B62 at hc;simp only;omega,h3⟩
def agA (x:Sx):Sx:={x with sets:=x.sets.map Y8,aO:=x.aO.map Y8,stamp:=LP x.stamp,ttl:=LP x.ttl,limit:=LP x.limit}
theorem ET (n:Int):Jr (LP n):=by have h:=PG n;unfold Jr;unfold B62 at h;omega
structure IE (w1 W:World) (va vb:Value) (na nb:Nat) (xa xb:List Value):Prop where
 below:Below w1.heap.size w1 W
 ra:W.ownsRow w1.heap.size 9 1 va na xa
 rb:W.ownsRow w1.heap.size 9 1 vb nb xb
 ap:Apart va vb
section
variable {w1 W W' :World}{va vb:Value}{na nb:Nat}{xa xb:List Value}
theorem IE.alloc (h:IE w1 W va vb na nb xa xb) (o:Obj):IE w1 (W.alloc o) va vb na nb xa xb:=⟨h.below.alloc h.below.size o,h.ra.alloc o,h.rb.alloc o,h.ap⟩
theorem IE.drew (h:IE w1 W va vb na nb xa xb):IE w1 W.drew va vb na nb xa xb:=⟨h.below.drew,h.ra.drew,h.rb.drew,h.ap⟩
theorem IE.symm (h:IE w1 W va vb na nb xa xb):IE w1 W vb va nb na xb xa:=⟨h.below,h.rb,h.ra,h.ap.symm⟩
theorem IE.call (h:IE w1 W va vb na nb xa xb) (hb:Below W.heap.size W W'):IE w1 W' va vb na nb xa xb:=⟨h.below.trans (hb.mono h.below.size),bP h.ra hb,bP h.rb hb,h.ap⟩
theorem IE.cell {a:Addr}{v:Value}(h:IE w1 W va vb na nb xa xb) (hc:w1.cell? a=some v):W.cell? a=some v:=aI h.below hc
end
theorem rD.cut {L:List Pr}(h:rD L):rD (L.map Y8):=⟨by rw [List.length_map];exact h.1,fun q hq=>by
 obtain ⟨p,hp,rfl⟩:=List.mem_map.1 hq;exact ⟨Y9 _ (h.2 p hp).1,(h.2 p hp).2⟩⟩
theorem iG.cut {x:Sx}(h:iG x):iG (agA x):=
 ⟨h.name,h.dA,h.on,h.part,h.aY,h.aF,h.aD,h.sets.cut,h.aO.cut,by show (x.aO.map Y8).length≤90;rw [List.length_map];exact h.IY,ET _,ET _,ET _⟩
theorem LQ (a b:Cl) (l:List Cl) (j:Nat) (q:Cl) (h:l[j]? =some q):aW (gG dx ((a::b::l.take (j+1)).map dB))=(aW (gG dx ((a::b::l.take j).map dB))++(⟨#[44,32]⟩:ah))++aW (dB q):=by
 obtain ⟨h1,rfl⟩:=List.getElem?_eq_some_iff.1 h;rw [List.take_succ_eq_append_getElem h1];have e:(a::b::(l.take j++ [l[j]])).map dB=(a::b::l.take j).map dB++ [dB l[j]]:=by simp only [List.map_cons,List.map_append,List.map_nil,List.cons_append]
 rw [e,SL,if_neg (by simp),bM,bM,jy,jZ]
theorem SN {w:World}{x:Sx}{tc c s wv pv:Value}(hk:x.kind=1) (hok:iG x) (hin:kL w x tc c s wv):
 Calls prog 91 #[.agg (aP x tc c s wv pv)] w fun e w' =>e= .returned (.string (aW (qw x)))∧Below w.heap.size w w' :=by
 have hn:=hok.aF.1;have hQ:=Lib.hid hok.aF.2;obtain ⟨cA,cC,hce,hcg⟩:=hin.tc;subst hce;obtain ⟨Jp,eJp⟩:∃r,aW (dB x.part)=r:=⟨_,rfl⟩;obtain ⟨Jc,YB⟩:∃r,aW (dB x.aY)=r:=⟨_,rfl⟩;have zJp:Jp.size≤2000010:=by rw [←eJp];exact rG _ hok.part
 have zJc:Jc.size≤2000010:=by rw [←YB];exact rG _ hok.aY
 have tJp:=fun w=>xY x.part w hok.part
 have tJc:=fun w=>xY x.aY w hok.aY
 rw [eJp]at tJp;rw [YB]at tJc;have wO:((⟨#[67,82,69,65,84,69,32,84,65,66,76,69,32]⟩:ah)).size≤13:=by decide
 obtain ⟨A1,wP,WH,xP⟩:=bE wO (show (x.name).size≤2000000 from hok.name) (by decide);obtain ⟨A2,zG,Yv,zH⟩:=bE xP (show ((⟨#[32,40]⟩:ah)).size≤2 from by decide) (by decide);obtain ⟨A3,zI,Yw,zJ⟩:=bE zH (show (Jp).size≤2000010 from zJp) (by decide);obtain ⟨A4,zK,Yx,zL⟩:=bE zJ (show ((⟨#[44,32]⟩:ah)).size≤2 from by decide) (by decide);obtain ⟨A5,zM,Yy,Ez⟩:=bE zL (show (Jc).size≤2000010 from zJc) (by decide)
 have YR:Hid (A5=(⟨#[67,82,69,65,84,69,32,84,65,66,76,69,32]⟩:ah)++x.name++(⟨#[32,40]⟩:ah)++aW (gG dx ((x.part::x.aY::x.aF.take 0).map dB))):=by
  show _=_;rw [←zM,←zK,←zI,←zG,←wP,←eJp,←YB];simp only [List.take_zero,List.map_cons,List.map_nil,gG,List.flatMap_cons,List.flatMap_nil,List.append_nil,bM,jy,jZ]
 have zA0:(A5).size≤6000100:=by omega
 obtain ⟨S,hS⟩:∃r,(⟨#[67,82,69,65,84,69,32,84,65,66,76,69,32]⟩:ah)++x.name++(⟨#[32,40]⟩:ah)++aW (gG dx ((x.part::x.aY::x.aF.take x.aF.length).map dB))=r:=⟨_,rfl⟩
 have zS:S.size≤100*2000014+6000000:=by
  rw [←hS,List.take_length,ByteArray.size_append,ByteArray.size_append,ByteArray.size_append];have h1:=Gr hok;have h2:=hok.name;show 13+_+2+_≤_;omega
 have Bz0:(S).size≤206001400:=zS;obtain ⟨B1,Be1,Bh1,Bz1⟩:=bE Bz0 (show ((⟨#[44,32,80,82,73,77,65,82,89,32,75,69,89,32,40]⟩:ah)).size≤15 from by decide) (by decide);obtain ⟨B2,Be2,Bh2,Bz2⟩:=bE Bz1 (show (x.part.name).size≤2000000 from hok.part) (by decide);obtain ⟨B3,Be3,Bh3,Bz3⟩:=bE Bz2 (show ((⟨#[44,32]⟩:ah)).size≤2 from by decide) (by decide);obtain ⟨B4,Be4,Bh4,Bz4⟩:=bE Bz3 (show (x.aY.name).size≤2000000 from hok.aY) (by decide);obtain ⟨B5,Be5,Bh5,Bz5⟩:=bE Bz4 (show ((⟨#[41,41]⟩:ah)).size≤2 from by decide) (by decide)
 have HE:Hid (B5=aW (qw x)):=by
  show _=_;rw [←Be5,←Be4,←Be3,←Be2,←Be1,←hS,List.take_length];unfold qw;apply ByteArray.ext;apply Array.ext';simp [bM,aW,Pc.text]
 clear wP zG zI zK zM;clear wO xP zH zJ zL Ez;clear Be1 Be2 Be3 Be4 Be5;clear Bz0 Bz1 Bz2 Bz3 Bz4 Bz5;clear eJp YB zJp zJc zS;have HS:=Lib.hid hS;clear hS hok hin;have hB1:=(Below.refl w.heap.size w).alloc (Nat.le_refl _) (.cells (aP x (.slice cA x.aF.length cC) c s wv pv) 39);have hV:=aB w (.cells (aP x (.slice cA x.aF.length cC) c s wv pv) 39);go_enter func91,ntmps91;go_upto_region 2 with fail
 generalize w.alloc (.cells (aP x (.slice cA x.aF.length cC) c s wv pv) 39)=w1 at *;have k0:w1.cell? ⟨w.heap.size,0,none⟩=some (.int .i64 1):=by rw [(bn hV).1,hk]
 have k1:w1.cell? ⟨w.heap.size,1,none⟩=some (.string x.name):=(bn hV).2.1;have k6:w1.cell? ⟨w.heap.size,6,none⟩=some (.string x.part.name):=(bn hV).2.2.2.2.2.2.1;have k7:w1.cell? ⟨w.heap.size,7,none⟩=some (.int .i64 x.part.ty):=(bn hV).2.2.2.2.2.2.2.1;have k8:w1.cell? ⟨w.heap.size,8,none⟩=some (.string x.aY.name):=(bn hV).2.2.2.2.2.2.2.2.1;have k9:w1.cell? ⟨w.heap.size,9,none⟩=some (.int .i64 x.aY.ty):=(bn hV).2.2.2.2.2.2.2.2.2.1;have k10:w1.cell? ⟨w.heap.size,10,none⟩=some ((.slice cA x.aF.length cC)):=(bn hV).2.2.2.2.2.2.2.2.2.2.1;have HB1:=Lib.hid hB1;clear hV hk hB1;have HN:Hid (x.aF.length≤90):=hn;have HC:=Lib.hid hcg;clear hn hcg;go_upto_region 3 with fail
 have r1:=fun d os=>cell_regrown k1 d os
 have r6:=fun d os=>cell_regrown k6 d os
 have r7:=fun d os=>cell_regrown k7 d os
 have r8:=fun d os=>cell_regrown k8 d os
 have r9:=fun d os=>cell_regrown k9 d os
 refine wp_region_quiet_below (by kernel_rfl) (by kernel_rfl) ?_
 iterate 7 (go_big_quiet_step (fail))
 go_big_quiet_step (exact Calls.regrown_of (tJp _))
 iterate 5 (go_big_quiet_step (fail))
 go_big_quiet_step (exact Calls.regrown_of (tJc _))
 iterate 2 (go_big_quiet_step (fail))
 refine wpQuiet_nil ?_
 first|(intro w9 Ej;obtain ⟨⟨dq,osq⟩,rfl⟩:=Ej)|(intro pq;obtain ⟨dq,osq⟩:=pq)
 have hBa:=below_regrown w1 dq osq;clear r1 r6 r7 r8 r9 tJp tJc;generalize Sort.grow (redrawn w1 dq) osq=w2 at *;obtain ⟨n,hn⟩:∃n,x.aF.length=n:=⟨_,rfl⟩;have HL:=Lib.hid hn;rw [hn]at HC HN HS k10;clear hn;have akn:n≤90:=HN.out;go_wp2_with fail
 go_loopw [3,4] (fun t i wr=>∃(j:Nat),t= .string ((⟨#[67,82,69,65,84,69,32,84,65,66,76,69,32]⟩:ah)++x.name++(⟨#[32,40]⟩:ah)++aW (gG dx ((x.part::x.aY::x.aF.take j).map dB)))∧i= .int .i64 j∧j≤n∧((⟨#[67,82,69,65,84,69,32,84,65,66,76,69,32]⟩:ah)++x.name++(⟨#[32,40]⟩:ah)++aW (gG dx ((x.part::x.aY::x.aF.take j).map dB))).size≤6000100+j*2000014∧Below w1.heap.size w1 wr) (fun _ i _=>n - (intOf i).toNat)
 case atStart=>exact ⟨0,by rw [YR.out],rfl,Nat.zero_le _,by rw [←YR.out];omega,hBa⟩
 case round=>
  obtain ⟨j,rfl,rfl,hj,hsz,hBr⟩:=hrel;obtain ⟨T,hT⟩:∃T,(⟨#[67,82,69,65,84,69,32,84,65,66,76,69,32]⟩:ah)++x.name++(⟨#[32,40]⟩:ah)++aW (gG dx ((x.part::x.aY::x.aF.take j).map dB))=T:=⟨_,rfl⟩;have HT:=Lib.hid hT.symm;rw [hT]at hsz⊢;clear hT;have m6:=aI hBr k6;have m8:=aI hBr k8;have m10:=aI hBr k10;have HBr:=Lib.hid hBr;clear k0 k1 k6 k7 k8 k9 k10 hBr hBa YR;by_cases hlt:j<n
  · have q0:(j:Int)<(n:Int):=by omega
    have q1:(0:Int)≤(j:Int):=by omega
    have HJ:=Lib.hid (show j+1≤n from hlt);obtain ⟨g,off,hgs,hc⟩:=HC.out (by omega);subst hgs;obtain ⟨q,hq⟩:∃q,x.aF[j]? =some q:=⟨_,List.getElem?_eq_getElem (by have:=HL.out;omega)⟩;have HBw:=Lib.hid (HB1.out.trans (HBr.out.mono HB1.out.size));have c0:wr.cell? ⟨g,off+j*2,none⟩=some (.string q.name):=aI HBw.out (hc (j*2) _ (by have:=iH hq 0 (by omega);rw [Nat.add_zero]at this;rw [this];rfl));have c1:wr.cell? ⟨g,off+j*2+1,none⟩=some (.int .i64 q.ty):=by rw [Nat.add_assoc];exact aI HBw.out (hc (j*2+1) _ (by rw [iH hq 1 (by omega)];rfl))
    have hqz:=hQ.out q (List.mem_of_getElem? hq);have hty:=fun w=>xY q w hqz
    have hle:=rG q hqz;have HSN:=Lib.hid (LQ x.part x.aY x.aF j q hq);obtain ⟨J,eJ⟩:∃r,aW (dB q)=r:=⟨_,rfl⟩;rw [eJ]at hty hle HSN;obtain ⟨A1,eA1⟩:∃r,T++(⟨#[44,32]⟩:ah)=r:=⟨_,rfl⟩;have zA1:A1.size=T.size+2:=by rw [←eA1,ByteArray.size_append];rfl
    obtain ⟨A2,eA2⟩:∃r,A1++J=r:=⟨_,rfl⟩;have zA2:A2.size=A1.size+J.size:=by rw [←eA2,ByteArray.size_append]
    have agE:j*2000014≤90*2000014:=Nat.mul_le_mul_right _ (by omega);have ha1:=fU T (⟨#[44,32]⟩:ah) (by show _+2≤_;omega);have ha2:=fU A1 J (by omega);rw [eA1]at ha1;rw [eA2]at ha2
    have HA2:Hid (A2=(⟨#[67,82,69,65,84,69,32,84,65,66,76,69,32]⟩:ah)++x.name++(⟨#[32,40]⟩:ah)++aW (gG dx ((x.part::x.aY::x.aF.take (j+1)).map dB))∧A2.size≤6000100+(j+1)*2000014):=by
     refine ⟨?_,by rw [Nat.succ_mul];omega⟩;rw [←eA2,←eA1,HT.out,HSN.out];simp only [jZ]
    clear hq hc hqz hle HSN eJ eA1 eA2 zA1 zA2 agE hsz m6 m8;go_wp2_with fail;refine (hty _).mono ?_;rintro e w3 ⟨rfl,hb3⟩;have hB3:=HBr.out.trans (hb3.mono HBr.out.size);go_wp2_with fail;go_roundw
    case rel=>exact ⟨j+1,by rw [HA2.out.1],by go_num,HJ.out,by rw [←HA2.out.1];exact HA2.out.2,hB3⟩
    case measure=>have hjj:=HJ.out;simp [intOf];omega
  · have jV:j=n:=by omega
    subst jV;have hTS:T=S:=HT.out.trans HS.out;subst hTS;clear hsz;go_wp2_with fail;go_ret;rw [HE.out];exact ⟨rfl,HB1.out.trans (HBr.out.mono HB1.out.size)⟩
end Go.Proofs.YtnngbhpeeakfaaaGreatDoor
