/- Parts of a proof. -/
import Derived.Test.YtnngbhpeeakfaaaGreatDoorB08
import Derived.Test.YtnngbhpeeakfaaaGreatDoorB35
set_option maxHeartbeats 2000000
set_option maxRecDepth 100000
namespace Go.Proofs.YtnngbhpeeakfaaaGreatDoor
open Go.Proofs.Tryz
open Go.RowKit
open aK
theorem R4 (s:ByteArray) (f:Int) (w:World) (hs:s.size≤1000000):
 Calls prog 292 #[.string s, .int .i64 f] w fun e w' =>e= .returned (.tuple #[.string (Ah s f), .int .i64 (tT s f), .bool (BS s f)])∧w' =w:=by
 rw [←Oe];exact (Ii s f w (by omega)).mono fun e w' h=>⟨h.1,h.2.symm⟩
theorem Gx (c:Nat) (hc:c<256) (W:World) (k:Nat) (h:W.cell? ⟨k,0,none⟩=some (.int .u8 c)):
 (convert 186 9 (.slice (some ⟨k,0,none⟩) 1 1)).run prog W= .ok (.string ⟨#[UInt8.ofNat c]⟩) W:=by
 have:=run_convert_bytes_back (P:=prog) W 186 9 5 ⟨k,0,none⟩ 1 [UInt8.ofNat c] underlying186 underlying5 underlying9 (fun j hj=>by
  obtain rfl:j=0:=by simpa using hj
  rw [jO,h];simp only [List.getElem_cons_zero,UInt8.toNat_ofNat'];rw [Nat.mod_eq_of_lt (by omega)])
 exact this
theorem R5 {L:Nat}(w:World) (b:Nat) (s:ByteArray) (P:List Pt) (i:Nat) (h:SR L w b s P i) (hs:s.size≤100000) (rO:uq s P) (hi:i<P.length):
 Calls prog 229 #[.pointer (some ⟨b,0,none⟩)] w (RTP L w b s P (jm s P i)):=by
 have hS:=RB.start h;have hPl:=rO.1;obtain ⟨a,cap,c0,c1,c2,f2,h2⟩:=hS.1.1.cells;obtain ⟨g,rfl,hc⟩:=h2 (by omega)
 have c3:(w.alloc (.cells #[.int .i64 0, .string ⟨#[]⟩, .int .i64 0, .int .i64 0] 236)).cell? ⟨g,i*4+1,none⟩=some (.int .i64 (aL s P i)):=by
  rw [hc _ _ (by rw [lG P i 1 hi (by omega)];rfl)];unfold aL;rw [List.getElem?_eq_getElem hi]
 have hlow:=h.lt;clear hc h2 h rO;have h4:(0:Int)≤(i:Int):=by omega
 have h5:(i:Int)<(P.length:Int):=by omega
 have hu:=Lib.hid (fun w=>R4 s (aL s P i) w (by omega));have HT:=Lib.hid (qG s P i);have hU:=FP s (aL s P i);have hN:=G6 s (aL s P i);generalize Ah s (aL s P i)=U at *;generalize tT s (aL s P i)=N at *;generalize BS s (aL s P i)=O at *;generalize aL s P i=OW at *;generalize hk0:w.alloc (.cells #[.int .i64 0, .string ⟨#[]⟩, .int .i64 0, .int .i64 0] 236)=w0 at *;go_enter func229,ntmps229;go_wp2_with fail;go_quiet ((go_at_call 292;with_reducible exact Calls.quiet_of_same (hu.out _)));replace hS:=hS.drew nq;generalize w0.drewN nq=w1 at *;clear c0 c1 c2 c3 f2 hk0 hu;obtain ⟨c2,f2,t0,t1,t2,t3,u0,u1,u2,u3⟩:=hS.cells;go_wp2_with fail
 go_loopw [] (fun wr=>∃k,RB L w wr b s P k∧Hid (bF P N i=bF P N k)∧k≤P.length) (fun wr=>P.length - l7 wr b)
 case atStart=>exact ⟨i,hS,rfl,by omega⟩
 case round=>
  clear hS c2 f2 t0 t1 t2 t3 u0 u1 u2 u3;obtain ⟨k,hS,HE,hk⟩:=hrel;have HK:=Lib.hid hS.scan;obtain ⟨a,cap,c0,c1,c2,f2,h2⟩:=hS.1.1.cells;by_cases hlk:k<P.length
  · obtain ⟨g,rfl,hc⟩:=h2 (by omega);have c4:wr.cell? ⟨g,k*4+1,none⟩=some (.int .i64 P[k].at_):=hc _ _ (by rw [lG P k 1 hlk (by omega)];rfl);have HP:=Lib.hid (List.getElem?_eq_getElem hlk);have q5:(k:Int)<(P.length:Int):=by omega
    have q6:(0:Int)≤(k:Int):=by omega
    have hd:decide ((k:Int)<(P.length:Int))=true:=decide_eq_true q5;clear h2 hc;generalize P[k]=p at *;cases hq:decide ((p.at_:Int)<N)
    case false=>
     have HF:Hid (bF P N i=k):=by show _=_;rw [HE.out];unfold bF;exact eu (by rw [HP.out];exact hq)
     go_wp2_with fail;go_quiet (fail);replace hS:=hS.drew nq;generalize wr.drewN nq=w2 at *;clear c0 c1 c2 f2 c4 hd q5 q6 hq HP;obtain ⟨c2,f2,t0,t1,t2,t3,u0,u1,u2,u3⟩:=hS.cells;have hV:=fun w=>DF U w (by omega)
     cases O
     · have HZ:Hid ((false&&(decide (U.size≤100)&&valid U))=false):=rfl;go_wp2_with fail;obtain ⟨r0,r1,r2,r3,hR⟩:=hS.fin (.int .i64 3) (.string U) (.int .i64 0) (.int .i64 i) _ rfl;refine bodyPost_ret (v:= .tuple #[.agg #[.int .i64 3, .string U, .int .i64 0, .int .i64 i], .bool false]) (by simp [results,results229,go_sem,r0,r1,r2,r3]) rfl ?_;refine ⟨?_, ?_⟩
       · rw [HT.out,HZ.out];rfl
       · rw [HT.out];show RG L w _ b s P (bF P N i);rw [HF.out];exact hR
     · by_cases hz:(U.size:Int)≤100
       · have HZ:Hid ((true&&(decide (U.size≤100)&&valid U))=valid U):=by show _=_;rw [decide_eq_true (by omega),Bool.true_and,Bool.true_and]
         go_wp2_with (go_at_call 293;refine (hV _).mono ?_;rintro e w3 ⟨rfl,hb⟩;replace hS:=hS.below hb;clear hb;obtain ⟨c2,f2,t0,t1,t2,t3,u0,u1,u2,u3⟩:=hS.cells);obtain ⟨r0,r1,r2,r3,hR⟩:=hS.fin (.int .i64 3) (.string U) (.int .i64 0) (.int .i64 i) _ rfl;refine bodyPost_ret (v:= .tuple #[.agg #[.int .i64 3, .string U, .int .i64 0, .int .i64 i], .bool (valid U)]) (by simp [results,results229,go_sem,r0,r1,r2,r3]) rfl ?_;refine ⟨?_, ?_⟩
         · rw [HT.out,HZ.out];rfl
         · rw [HT.out];show RG L w _ b s P (bF P N i);rw [HF.out];exact hR
       · have HZ:Hid ((true&&(decide (U.size≤100)&&valid U))=false):=by show _=_;rw [decide_eq_false (by omega),Bool.false_and,Bool.and_false]
         go_wp2_with fail;obtain ⟨r0,r1,r2,r3,hR⟩:=hS.fin (.int .i64 3) (.string U) (.int .i64 0) (.int .i64 i) _ rfl;refine bodyPost_ret (v:= .tuple #[.agg #[.int .i64 3, .string U, .int .i64 0, .int .i64 i], .bool false]) (by simp [results,results229,go_sem,r0,r1,r2,r3]) rfl ?_;refine ⟨?_, ?_⟩
         · rw [HT.out,HZ.out];rfl
         · rw [HT.out];show RG L w _ b s P (bF P N i);rw [HF.out];exact hR
    case true=>
     have HX:Hid (bF P N i=bF P N (k+1)):=by show _=_;rw [HE.out];unfold bF;exact fF hlk (by rw [HP.out];exact hq)
     go_wp2_with fail;go_quiet (fail);replace hS:=hS.drew nq;generalize wr.drewN nq=w2 at *;clear c0 c1 c2 f2 c4 hd q5 q6 hq HP;obtain ⟨c2,f2,t0,t1,t2,t3,u0,u1,u2,u3⟩:=hS.cells;go_wp2_with fail;go_roundw
     case rel=>exact ⟨k+1,hS.set (k+1) _ (by omega),HX,by omega⟩
     case measure=>rw [HK.out,(hS.set (k+1) _ (by omega)).scan];omega
  · have HF:Hid (bF P N i=k):=by show _=_;rw [HE.out];unfold bF;exact oz (by omega)
    have hd:decide ((k:Int)<(P.length:Int))=false:=decide_eq_false (by omega);go_wp2_with fail;go_quiet (fail);replace hS:=hS.drew nq;generalize wr.drewN nq=w2 at *;clear c0 c1 c2 f2 h2 hd;obtain ⟨c2,f2,t0,t1,t2,t3,u0,u1,u2,u3⟩:=hS.cells;have hV:=fun w=>DF U w (by omega)
    cases O
    · have HZ:Hid ((false&&(decide (U.size≤100)&&valid U))=false):=rfl;go_wp2_with fail;obtain ⟨r0,r1,r2,r3,hR⟩:=hS.fin (.int .i64 3) (.string U) (.int .i64 0) (.int .i64 i) _ rfl;refine bodyPost_ret (v:= .tuple #[.agg #[.int .i64 3, .string U, .int .i64 0, .int .i64 i], .bool false]) (by simp [results,results229,go_sem,r0,r1,r2,r3]) rfl ?_;refine ⟨?_, ?_⟩
      · rw [HT.out,HZ.out];rfl
      · rw [HT.out];show RG L w _ b s P (bF P N i);rw [HF.out];exact hR
    · by_cases hz:(U.size:Int)≤100
      · have HZ:Hid ((true&&(decide (U.size≤100)&&valid U))=valid U):=by show _=_;rw [decide_eq_true (by omega),Bool.true_and,Bool.true_and]
        go_wp2_with (go_at_call 293;refine (hV _).mono ?_;rintro e w3 ⟨rfl,hb⟩;replace hS:=hS.below hb;clear hb;obtain ⟨c2,f2,t0,t1,t2,t3,u0,u1,u2,u3⟩:=hS.cells);obtain ⟨r0,r1,r2,r3,hR⟩:=hS.fin (.int .i64 3) (.string U) (.int .i64 0) (.int .i64 i) _ rfl;refine bodyPost_ret (v:= .tuple #[.agg #[.int .i64 3, .string U, .int .i64 0, .int .i64 i], .bool (valid U)]) (by simp [results,results229,go_sem,r0,r1,r2,r3]) rfl ?_;refine ⟨?_, ?_⟩
        · rw [HT.out,HZ.out];rfl
        · rw [HT.out];show RG L w _ b s P (bF P N i);rw [HF.out];exact hR
      · have HZ:Hid ((true&&(decide (U.size≤100)&&valid U))=false):=by show _=_;rw [decide_eq_false (by omega),Bool.false_and,Bool.and_false]
        go_wp2_with fail;obtain ⟨r0,r1,r2,r3,hR⟩:=hS.fin (.int .i64 3) (.string U) (.int .i64 0) (.int .i64 i) _ rfl;refine bodyPost_ret (v:= .tuple #[.agg #[.int .i64 3, .string U, .int .i64 0, .int .i64 i], .bool false]) (by simp [results,results229,go_sem,r0,r1,r2,r3]) rfl ?_;refine ⟨?_, ?_⟩
        · rw [HT.out,HZ.out];rfl
        · rw [HT.out];show RG L w _ b s P (bF P N i);rw [HF.out];exact hR
theorem NH {L:Nat}(w:World) (b:Nat) (s:ByteArray) (P:List Pt) (i:Nat) (h:SR L w b s P i) (hs:s.size≤100000) (rO:uq s P) (hi:i<P.length):
 Calls prog 152 #[.pointer (some ⟨b,0,none⟩)] w (RTP L w b s P (dw s P i)):=by
 have hS:=RB.start h;have hPl:=rO.1;have HB:Hid (∀wx,RB L w wx b s P i→SR L wx b s P i):=fun wx h=>h.1.1
 clear h;have hl:=fun wx hx=>Cx (L:=L) (w:=w) wx b s P i hx
 have hr:=fun wx hx=>RZ (L:=L) (w:=w) wx b s P i hx (by omega) (by omega)
 have hdg:=fun v hv=>xU P i v hv
 have Aa:=Lib.hid (wS P i 45 (by decide));have H39:=Lib.hid (wS P i 39 (by decide));have HT0:Hid (dw s P i=if dn P i then jD s P i else if bT P i||fE P i 45 then bR P i else if fE P i 39 then jm s P i else if uo (jl P i)then (⟨4,⟨#[UInt8.ofNat (jl P i).toNat]⟩,0,i⟩,true,i+1)else (⟨0,⟨#[]⟩,0,0⟩,false,i)):=rfl;have HSG:Hid (uo (jl P i)=(jl P i==40||jl P i==41||jl P i==44||jl P i==59||jl P i==61||jl P i==42)):=rfl;obtain ⟨r,ZC⟩:∃r,jl P i=r:=⟨_,rfl⟩;rw [ZC]at Aa H39 HT0 hdg hr HSG;clear ZC;go_enter func152,ntmps152;go_wp2_with fail;refine (hr _ hS).mono ?_;rintro e w1 ⟨rfl,hS⟩;clear hr;obtain ⟨c2,f2,t0,t1,t2,t3,u0,u1,u2,u3⟩:=hS.cells;cases hL:dn P i
 case true=>
  rw [hL]at hl;have HT:Hid (dw s P i=jD s P i):=by show _=_;rw [HT0.out,hL];rfl
  obtain ⟨⟨⟨K,S,N,A⟩,ok,nx⟩,hX⟩:∃X,jD s P i=X:=⟨_,rfl⟩
  have hc:∀wx,RB L w wx b s P i→Calls prog 226 #[.pointer (some ⟨b,0,none⟩)] wx fun e w' =>e= .returned (.tuple #[.agg #[.int .i64 K, .string S, .int .i64 N, .int .i64 A], .bool ok])∧RB L w w' b s P nx:=fun wx hx=>(R3 wx b s P i (HB.out _ hx) hs rO hi hL).mono fun e w' h=>by
   rw [hX]at h;exact ⟨h.1,pI hx h.2⟩
  rw [hX]at HT;clear hL
  go_wp2_with (first
   |(go_at_call 225;refine (hl _ hS).mono ?_;rintro e w4 ⟨rfl,hS⟩;obtain ⟨c2,f2,t0,t1,t2,t3,u0,u1,u2,u3⟩:=hS.cells)
   |(go_at_call 226;refine (hc _ hS).mono ?_;rintro e w5 ⟨rfl,hS⟩;obtain ⟨c2,f2,t0,t1,t2,t3,u0,u1,u2,u3⟩:=hS.cells))
  obtain ⟨r0,r1,r2,r3,hR⟩:=hS.fin (.int .i64 K) (.string S) (.int .i64 N) (.int .i64 A) _ rfl;refine bodyPost_ret (v:= .tuple #[.agg #[.int .i64 K, .string S, .int .i64 N, .int .i64 A], .bool ok]) (by simp [results,results152,go_sem,r0,r1,r2,r3]) rfl ?_;rw [HT.out];exact ⟨rfl,hR⟩
 case false=>
  rw [hL]at hl;have WC:=Lib.hid hL;clear hL;cases hD:bT P i
  case true=>
   replace hdg:=hdg true hD;have HT:Hid (dw s P i=bR P i):=by show _=_;rw [HT0.out,WC.out,hD];rfl
   clear hD;obtain ⟨⟨⟨K,S,N,A⟩,ok,nx⟩,hX⟩:∃X,bR P i=X:=⟨_,rfl⟩
   have hc:∀wx,RB L w wx b s P i→Calls prog 228 #[.pointer (some ⟨b,0,none⟩)] wx fun e w' =>e= .returned (.tuple #[.agg #[.int .i64 K, .string S, .int .i64 N, .int .i64 A], .bool ok])∧RB L w w' b s P nx:=fun wx hx=>(BQ wx b s P i (HB.out _ hx) hs rO hi).mono fun e w' h=>by
    rw [hX]at h;exact ⟨h.1,pI hx h.2⟩
   rw [hX]at HT
   go_wp2_with (first
    |(go_at_call 225;refine (hl _ hS).mono ?_;rintro e w4 ⟨rfl,hS⟩;obtain ⟨c2,f2,t0,t1,t2,t3,u0,u1,u2,u3⟩:=hS.cells)
    |(go_at_call 227;refine (hdg _).mono ?_;rintro e w6 ⟨rfl,rfl⟩)
    |(go_at_call 228;refine (hc _ hS).mono ?_;rintro e w5 ⟨rfl,hS⟩;obtain ⟨c2,f2,t0,t1,t2,t3,u0,u1,u2,u3⟩:=hS.cells))
   obtain ⟨r0,r1,r2,r3,hR⟩:=hS.fin (.int .i64 K) (.string S) (.int .i64 N) (.int .i64 A) _ rfl;refine bodyPost_ret (v:= .tuple #[.agg #[.int .i64 K, .string S, .int .i64 N, .int .i64 A], .bool ok]) (by simp [results,results152,go_sem,r0,r1,r2,r3]) rfl ?_;rw [HT.out];exact ⟨rfl,hR⟩
  case false=>
   replace hdg:=hdg false hD;have HD:=Lib.hid hD;clear hD;cases q1:(r==45)
   case true=>
    have HT:Hid (dw s P i=bR P i):=by show _=_;rw [HT0.out,WC.out,HD.out,Aa.out,q1];rfl
    obtain ⟨⟨⟨K,S,N,A⟩,ok,nx⟩,hX⟩:∃X,bR P i=X:=⟨_,rfl⟩
    have hc:∀wx,RB L w wx b s P i→Calls prog 228 #[.pointer (some ⟨b,0,none⟩)] wx fun e w' =>e= .returned (.tuple #[.agg #[.int .i64 K, .string S, .int .i64 N, .int .i64 A], .bool ok])∧RB L w w' b s P nx:=fun wx hx=>(BQ wx b s P i (HB.out _ hx) hs rO hi).mono fun e w' h=>by
     rw [hX]at h;exact ⟨h.1,pI hx h.2⟩
    rw [hX]at HT
    go_wp2_with (first
     |(go_at_call 225;refine (hl _ hS).mono ?_;rintro e w4 ⟨rfl,hS⟩;obtain ⟨c2,f2,t0,t1,t2,t3,u0,u1,u2,u3⟩:=hS.cells)
     |(go_at_call 227;refine (hdg _).mono ?_;rintro e w6 ⟨rfl,rfl⟩)
     |(go_at_call 228;refine (hc _ hS).mono ?_;rintro e w5 ⟨rfl,hS⟩;obtain ⟨c2,f2,t0,t1,t2,t3,u0,u1,u2,u3⟩:=hS.cells))
    obtain ⟨r0,r1,r2,r3,hR⟩:=hS.fin (.int .i64 K) (.string S) (.int .i64 N) (.int .i64 A) _ rfl;refine bodyPost_ret (v:= .tuple #[.agg #[.int .i64 K, .string S, .int .i64 N, .int .i64 A], .bool ok]) (by simp [results,results152,go_sem,r0,r1,r2,r3]) rfl ?_;rw [HT.out];exact ⟨rfl,hR⟩
   case false=>
    cases q2:(r==39)
    case true=>
     have HT:Hid (dw s P i=jm s P i):=by show _=_;rw [HT0.out,WC.out,HD.out,Aa.out,q1,H39.out,q2];rfl
     obtain ⟨⟨⟨K,S,N,A⟩,ok,nx⟩,hX⟩:∃X,jm s P i=X:=⟨_,rfl⟩
     have hc:∀wx,RB L w wx b s P i→Calls prog 229 #[.pointer (some ⟨b,0,none⟩)] wx fun e w' =>e= .returned (.tuple #[.agg #[.int .i64 K, .string S, .int .i64 N, .int .i64 A], .bool ok])∧RB L w w' b s P nx:=fun wx hx=>(R5 wx b s P i (HB.out _ hx) hs rO hi).mono fun e w' h=>by
      rw [hX]at h;exact ⟨h.1,pI hx h.2⟩
     rw [hX]at HT
     go_wp2_with (first
      |(go_at_call 225;refine (hl _ hS).mono ?_;rintro e w4 ⟨rfl,hS⟩;obtain ⟨c2,f2,t0,t1,t2,t3,u0,u1,u2,u3⟩:=hS.cells)
      |(go_at_call 227;refine (hdg _).mono ?_;rintro e w6 ⟨rfl,rfl⟩)
      |(go_at_call 229;refine (hc _ hS).mono ?_;rintro e w5 ⟨rfl,hS⟩;obtain ⟨c2,f2,t0,t1,t2,t3,u0,u1,u2,u3⟩:=hS.cells))
     obtain ⟨r0,r1,r2,r3,hR⟩:=hS.fin (.int .i64 K) (.string S) (.int .i64 N) (.int .i64 A) _ rfl;refine bodyPost_ret (v:= .tuple #[.agg #[.int .i64 K, .string S, .int .i64 N, .int .i64 A], .bool ok]) (by simp [results,results152,go_sem,r0,r1,r2,r3]) rfl ?_;rw [HT.out];exact ⟨rfl,hR⟩
    case false=>
     have HT1:Hid (dw s P i=if uo r then (⟨4,⟨#[UInt8.ofNat r.toNat]⟩,0,i⟩,true,i+1)else (⟨0,⟨#[]⟩,0,0⟩,false,i)):=by show _=_;rw [HT0.out,WC.out,HD.out,Aa.out,q1,H39.out,q2];rfl
     cases q3:(r==40||r==41||r==44||r==59||r==61||r==42)
     case false=>
      have HT:Hid (dw s P i=(⟨0,⟨#[]⟩,0,0⟩,false,i)):=by show _=_;rw [HT1.out,HSG.out,q3];rfl
      simp only [Bool.or_eq_false_iff]at q3;obtain ⟨⟨⟨⟨⟨g1,g2⟩,g3⟩,g4⟩,g5⟩,g6⟩:=q3
      go_wp2_with (first
       |(go_at_call 225;refine (hl _ hS).mono ?_;rintro e w4 ⟨rfl,hS⟩;obtain ⟨c2,f2,t0,t1,t2,t3,u0,u1,u2,u3⟩:=hS.cells)
       |(go_at_call 227;refine (hdg _).mono ?_;rintro e w6 ⟨rfl,rfl⟩)
       |fail)
      obtain ⟨r0,r1,r2,r3,hR⟩:=hS.fin (.int .i64 0) (.string ⟨#[]⟩) (.int .i64 0) (.int .i64 0) _ rfl;refine bodyPost_ret (v:= .tuple #[.agg #[.int .i64 0, .string ⟨#[]⟩, .int .i64 0, .int .i64 0], .bool false]) (by simp [results,results152,go_sem,r0,r1,r2,r3]) rfl ?_;rw [HT.out];exact ⟨rfl,hR⟩
     case true=>
      have HT:Hid (dw s P i=(⟨4,⟨#[UInt8.ofNat r.toNat]⟩,0,i⟩,true,i+1)):=by show _=_;rw [HT1.out,HSG.out,q3];rfl
      simp only [Bool.or_eq_true,beq_iff_eq]at q3;clear HT1 HSG Aa H39 HT0 q1 q2;rcases q3 with ((((q3|q3)|q3)|q3)|q3)|q3
      · subst q3
        go_wp2_with (first
         |(go_at_call 225;refine (hl _ hS).mono ?_;rintro e w4 ⟨rfl,hS⟩;obtain ⟨c2,f2,t0,t1,t2,t3,u0,u1,u2,u3⟩:=hS.cells)
         |(go_at_call 227;refine (hdg _).mono ?_;rintro e w6 ⟨rfl,rfl⟩)
         |fail)
        have hcv:=Gx 40 (by decide);have n1:=aG hS.2.2;have n2:=hS.1.1.lt;have n3:b<w.heap.size:=Nat.lt_of_lt_of_le hS.1.1.2.1 hS.2.1;go_region;obtain ⟨r0,r1,r2,r3,hR⟩:=(hS.set (i+1) ((i:Int)+1) (by omega)).fin (.int .i64 4) (.string ⟨#[40]⟩) (.int .i64 0) (.int .i64 i) _ rfl;replace hR:=(hR.alloc (.cells #[.int .u8 40] 5)).drew 1;go_wp2_with fail;refine bodyPost_ret (v:= .tuple #[.agg #[.int .i64 4, .string ⟨#[40]⟩, .int .i64 0, .int .i64 i], .bool true]) (by simp [results,results152,go_sem,r0,r1,r2,r3,n1]) rfl ?_;rw [HT.out];exact ⟨rfl,hR⟩
      · subst q3
        go_wp2_with (first
         |(go_at_call 225;refine (hl _ hS).mono ?_;rintro e w4 ⟨rfl,hS⟩;obtain ⟨c2,f2,t0,t1,t2,t3,u0,u1,u2,u3⟩:=hS.cells)
         |(go_at_call 227;refine (hdg _).mono ?_;rintro e w6 ⟨rfl,rfl⟩)
         |fail)
        have hcv:=Gx 41 (by decide);have n1:=aG hS.2.2;have n2:=hS.1.1.lt;have n3:b<w.heap.size:=Nat.lt_of_lt_of_le hS.1.1.2.1 hS.2.1;go_region;obtain ⟨r0,r1,r2,r3,hR⟩:=(hS.set (i+1) ((i:Int)+1) (by omega)).fin (.int .i64 4) (.string ⟨#[41]⟩) (.int .i64 0) (.int .i64 i) _ rfl;replace hR:=(hR.alloc (.cells #[.int .u8 41] 5)).drew 1;go_wp2_with fail;refine bodyPost_ret (v:= .tuple #[.agg #[.int .i64 4, .string ⟨#[41]⟩, .int .i64 0, .int .i64 i], .bool true]) (by simp [results,results152,go_sem,r0,r1,r2,r3,n1]) rfl ?_;rw [HT.out];exact ⟨rfl,hR⟩
      · subst q3
        go_wp2_with (first
         |(go_at_call 225;refine (hl _ hS).mono ?_;rintro e w4 ⟨rfl,hS⟩;obtain ⟨c2,f2,t0,t1,t2,t3,u0,u1,u2,u3⟩:=hS.cells)
         |(go_at_call 227;refine (hdg _).mono ?_;rintro e w6 ⟨rfl,rfl⟩)
         |fail)
        have hcv:=Gx 44 (by decide);have n1:=aG hS.2.2;have n2:=hS.1.1.lt;have n3:b<w.heap.size:=Nat.lt_of_lt_of_le hS.1.1.2.1 hS.2.1;go_region;obtain ⟨r0,r1,r2,r3,hR⟩:=(hS.set (i+1) ((i:Int)+1) (by omega)).fin (.int .i64 4) (.string ⟨#[44]⟩) (.int .i64 0) (.int .i64 i) _ rfl;replace hR:=(hR.alloc (.cells #[.int .u8 44] 5)).drew 1;go_wp2_with fail;refine bodyPost_ret (v:= .tuple #[.agg #[.int .i64 4, .string ⟨#[44]⟩, .int .i64 0, .int .i64 i], .bool true]) (by simp [results,results152,go_sem,r0,r1,r2,r3,n1]) rfl ?_;rw [HT.out];exact ⟨rfl,hR⟩
      · subst q3
        go_wp2_with (first
         |(go_at_call 225;refine (hl _ hS).mono ?_;rintro e w4 ⟨rfl,hS⟩;obtain ⟨c2,f2,t0,t1,t2,t3,u0,u1,u2,u3⟩:=hS.cells)
         |(go_at_call 227;refine (hdg _).mono ?_;rintro e w6 ⟨rfl,rfl⟩)
         |fail)
        have hcv:=Gx 59 (by decide);have n1:=aG hS.2.2;have n2:=hS.1.1.lt;have n3:b<w.heap.size:=Nat.lt_of_lt_of_le hS.1.1.2.1 hS.2.1;go_region;obtain ⟨r0,r1,r2,r3,hR⟩:=(hS.set (i+1) ((i:Int)+1) (by omega)).fin (.int .i64 4) (.string ⟨#[59]⟩) (.int .i64 0) (.int .i64 i) _ rfl;replace hR:=(hR.alloc (.cells #[.int .u8 59] 5)).drew 1;go_wp2_with fail;refine bodyPost_ret (v:= .tuple #[.agg #[.int .i64 4, .string ⟨#[59]⟩, .int .i64 0, .int .i64 i], .bool true]) (by simp [results,results152,go_sem,r0,r1,r2,r3,n1]) rfl ?_;rw [HT.out];exact ⟨rfl,hR⟩
      · subst q3
        go_wp2_with (first
         |(go_at_call 225;refine (hl _ hS).mono ?_;rintro e w4 ⟨rfl,hS⟩;obtain ⟨c2,f2,t0,t1,t2,t3,u0,u1,u2,u3⟩:=hS.cells)
         |(go_at_call 227;refine (hdg _).mono ?_;rintro e w6 ⟨rfl,rfl⟩)
         |fail)
        have hcv:=Gx 61 (by decide);have n1:=aG hS.2.2;have n2:=hS.1.1.lt;have n3:b<w.heap.size:=Nat.lt_of_lt_of_le hS.1.1.2.1 hS.2.1;go_region;obtain ⟨r0,r1,r2,r3,hR⟩:=(hS.set (i+1) ((i:Int)+1) (by omega)).fin (.int .i64 4) (.string ⟨#[61]⟩) (.int .i64 0) (.int .i64 i) _ rfl;replace hR:=(hR.alloc (.cells #[.int .u8 61] 5)).drew 1;go_wp2_with fail;refine bodyPost_ret (v:= .tuple #[.agg #[.int .i64 4, .string ⟨#[61]⟩, .int .i64 0, .int .i64 i], .bool true]) (by simp [results,results152,go_sem,r0,r1,r2,r3,n1]) rfl ?_;rw [HT.out];exact ⟨rfl,hR⟩
      · subst q3
        go_wp2_with (first
         |(go_at_call 225;refine (hl _ hS).mono ?_;rintro e w4 ⟨rfl,hS⟩;obtain ⟨c2,f2,t0,t1,t2,t3,u0,u1,u2,u3⟩:=hS.cells)
         |(go_at_call 227;refine (hdg _).mono ?_;rintro e w6 ⟨rfl,rfl⟩)
         |fail)
        have hcv:=Gx 42 (by decide);have n1:=aG hS.2.2;have n2:=hS.1.1.lt;have n3:b<w.heap.size:=Nat.lt_of_lt_of_le hS.1.1.2.1 hS.2.1;go_region;obtain ⟨r0,r1,r2,r3,hR⟩:=(hS.set (i+1) ((i:Int)+1) (by omega)).fin (.int .i64 4) (.string ⟨#[42]⟩) (.int .i64 0) (.int .i64 i) _ rfl;replace hR:=(hR.alloc (.cells #[.int .u8 42] 5)).drew 1;go_wp2_with fail;refine bodyPost_ret (v:= .tuple #[.agg #[.int .i64 4, .string ⟨#[42]⟩, .int .i64 0, .int .i64 i], .bool true]) (by simp [results,results152,go_sem,r0,r1,r2,r3,n1]) rfl ?_;rw [HT.out];exact ⟨rfl,hR⟩
theorem Tryz.abz:(prog.info? 236).map (fun i=>(i.zero,i.size,i.bytes))=some (some (.agg #[.int .i64 0, .string ⟨#[]⟩, .int .i64 0, .int .i64 0]),4,40):=by kernel_rfl
theorem Li (s:ByteArray) (w:World) (hs:s.size≤100000):
 Calls prog 85 #[.string s] w fun e w' =>(∃v,e= .returned (.tuple #[v, .int .i64 (aX s).2.1, .int .i64 (aX s).2.2])∧w'.ownsRow w.heap.size 236 4 v (aX s).1.length (lK (aX s).1))∧Below w.heap.size w w' :=by
 obtain ⟨i0,hi,hz0,hz1,hz2⟩:=info_parts Tryz.abz;by_cases hbig:(1000:Int)<s.size
 · have HE:Hid (aX s=([],0,2)):=by show _=_;unfold aX;rw [if_pos (by omega)]
   go_enter func85,ntmps85;go_wp2_with fail;go_ret3;rw [HE.out];exact ⟨⟨_,rfl,World.ownsRow_nil _ _ _ _⟩,Below.refl _ _⟩
 have ho:=DC s w (by omega);have rO:=Ag s;have hpl:(pts s).length≤100000:=Nat.le_trans rO.1 hs;have HL:Hid (aX s=match dP s (pts s) ((pts s).length+1) 0 with| .ok l=>(l,0,0)| .error a=>([],(a:Nat),3)):=by show _=_;unfold aX;rw [if_neg (by omega)];cases dP s (pts s) ((pts s).length+1) 0<;>rfl
 obtain ⟨P,hP⟩:∃P,pts s=P:=⟨_,rfl⟩;rw [hP]at ho rO hpl HL;clear hP;go_enter func85,ntmps85;go_wp2_with fail;refine ho.mono ?_;rintro e w1 ⟨⟨v,rfl,hown⟩,hb1⟩;obtain ⟨a0,cap0,rfl,hrd⟩:=aN hown
 have YR:Hid (SR (w1.heap.size+1) (w1.alloc (.cells #[.string s, .slice a0 P.length cap0, .int .i64 0] 234)) w1.heap.size s P 0):=by
  refine ⟨by simp,by omega,a0,cap0,aB w1 _,fun h0=> ?_⟩;obtain ⟨g,e1,e2,e3,e4⟩:=hrd h0;exact ⟨g,e1,by omega,by omega,fun j u hj=>by rw [←e4 j u hj];unfold World.cell?;rw [Below.heap_alloc _ _ _ e3]⟩
 have HB0:Hid (Below w.heap.size w (w1.alloc (.cells #[.string s, .slice a0 P.length cap0, .int .i64 0] 234))):=hb1.alloc hb1.size _;have hsz1:=hb1.size;clear hrd hown hb1 ho;go_wp2_with fail;obtain ⟨b,hb⟩:∃b,w1.heap.size=b:=⟨_,rfl⟩;rw [hb]at YR hsz1⊢;generalize w1.alloc (.cells #[.string s, .slice a0 P.length cap0, .int .i64 0] 234)=w2 at *;clear hb;have hS:=YR.out;have hbw:=HB0.out;clear YR HB0
 go_loopw [6] (fun a wr=>∃(j n:Nat) (done:List Tk),SR (b+1) wr b s P j∧wr.ownsRow (b+1) 236 4 a done.length (lK done)∧Below w.heap.size w wr∧Hid (dP s P (P.length+1) 0=(dP s P (n+1) j).map (done++ ·))∧done.length≤j∧j≤P.length∧P.length≤n+j) (fun _ wr=>P.length - l7 wr b)
 case atStart=>exact ⟨0,P.length, [],hS,World.ownsRow_nil _ _ _ _,hbw,by (show _=_;cases dP s P (P.length+1) 0<;>rfl),by simp,by omega,by omega⟩
 case round=>
  clear hS hbw;obtain ⟨j,n,done,hS,hown,hbw,HR,hdj,hjP,hn⟩:=hrel;have HK:=Lib.hid (dX hS);have hk:=uy P (P.length - j) j hjP;rw [show iL P (P.length - j) j=skip P j from rfl]at hk;have hkj:=jY P j;obtain ⟨i,hi0⟩:∃i,skip P j=i:=⟨_,rfl⟩;rw [hi0]at hk hkj;have Hi:=Lib.hid hi0;have hSB:=RG.start hS;have hcb:=NG wr b s P j hSB hjP hpl;rw [hi0]at hcb;clear hi0 hSB;go_wp2_with fail;refine hcb.mono ?_;rintro e w3 ⟨rfl,EU⟩;have hown3:=mF hown EU.2 (Nat.lt_succ_self b);have uR:Below w.heap.size w w3:=hbw.trans (jC EU.2 (by omega) hbw.size);clear hcb hown hbw hS;obtain ⟨a,cap,c0,c1,c2,f2,_⟩:=EU.1.cells;by_cases hend:P.length≤i
  · have HX:Hid (aX s=(done,0,0)):=by
     show _=_;rw [HL.out,HR.out,uw (by rw [Hi.out];exact hend)];simp [Except.map]
    have hd:decide (P.length≤i)=true:=decide_eq_true hend;go_wp2_with fail;go_quiet (fail);go_wp2_with fail;go_ret3;rw [HX.out];exact ⟨⟨_,rfl,bH (mW hown3 _) (by omega)⟩,aK.below_drewN uR _⟩
  · have hd:decide (P.length≤i)=false:=decide_eq_false hend;go_wp2_with fail;go_quiet (fail);replace EU:=EU.drew nq;replace hown3:=mW hown3 nq;replace uR:=aK.below_drewN uR nq;generalize w3.drewN nq=w5 at *;clear c0 c1 c2 f2;obtain ⟨_,_,_,_,c2,f2,_⟩:=EU.1.cells;obtain ⟨⟨⟨K,S,N,A⟩,ok,nx⟩,hX⟩:∃X,X=dw s P i:=⟨_,rfl⟩;have hc:=NH w5 b s P i EU.1 hs rO (by omega);rw [←hX]at hc;change Calls _ _ _ _ (fun e w' =>e= .returned (.tuple #[.agg #[.int .i64 K, .string S, .int .i64 N, .int .i64 A], .bool ok])∧RG (b+1) w5 w' b s P nx)at hc;have hL3:=EU.1.le;go_wp2_with fail;refine hc.mono ?_;rintro e w4 ⟨rfl,pO⟩;have jd:w4.ownsRow (b+1) 236 4 u6 done.length (lK done):=mF hown3 pO.2 (by omega);have xE:Below w.heap.size w w4:=uR.trans (jC pO.2 (by omega) uR.size);clear hc hown3 uR;replace pO:=pO.1;clear EU;cases ok
    · have HX:Hid (aX s=([],i,3)):=by
       have hb:(dw s P (skip P j)).2.1=false:=by rw [Hi.out,←hX]
       show _=_;rw [HL.out,HR.out,CO (by rw [Hi.out];omega) hb,Hi.out];rfl
      go_wp2_with fail;go_ret3;rw [HX.out];exact ⟨⟨_,rfl,World.ownsRow_nil _ _ _ _⟩,xE.alloc xE.size _⟩
    · have hg:=yA (s:=s) (i:=i) (P:=P) (by omega) (by rw [←hX]);rw [←hX]at hg;obtain ⟨hg1,hg2⟩:i<nx∧nx≤P.length:=hg;have hR2:=CP HR.out (m:=nx) (by rw [Hi.out];omega) (by rw [Hi.out,←hX]) (by rw [Hi.out,←hX]);rw [Hi.out,←hX]at hR2;have HR2:=Lib.hid hR2;clear hR2;have hL4:=pO.le;have hb4:=xE.size
      go_wp2_with (at_builtin;refine wpList_append_own _ rfl _ _ 150 rfl (b+1) 236 i0 (.agg #[.int .i64 0, .string ⟨#[]⟩, .int .i64 0, .int .i64 0]) 4 40 underlying150 hi hz0 hz1 hz2 rfl (by decide) _ _ _ rfl ((jd.alloc _).alloc _) ⟨w4.heap.size+1,0,none⟩ 1 1 (j5 ⟨K,S,N,A⟩) rfl rfl (OT _ _ ⟨K,S,N,A⟩ _) (BG _) (by unfold maxLen;omega) (by omega) (by simp;omega) ?_;intro v' w5 hown5 hg5 _;rw [DR]at hown5
                   have UM:Below w.heap.size w w5:=((xE.alloc (by omega) _).alloc (by simp;omega) _).grown hg5 (by simp;omega) (fun k hk=>by have:=(jd.lt _ hk).1;omega)
                   have hS5:SR (b+1) w5 b s P nx:=pO.keep (by have:=hg5.size;simp at this;omega) (fun k hk=>by
                    rw [hg5.block k (by simp;omega) (fun e=>by have:=(jd.lt _ e.symm).1;omega)];rw [Below.heap_alloc _ _ _ (by simp;omega),Below.heap_alloc _ _ _ (by omega)])
                   clear jd xE hg5 pO)
      have hl2:(done++ [(⟨K,S,N,A⟩:Tk)]).length=done.length+1:=by simp
      go_roundw
      case rel=>exact ⟨nx,n - 1,done++ [⟨K,S,N,A⟩],hS5,by rw [hl2];exact hown5,UM,by rw [Nat.sub_add_cancel (by omega)];exact HR2,by rw [hl2];omega,by omega,by omega⟩
      case measure=>rw [dX hS5,HK.out];omega
end Go.Proofs.YtnngbhpeeakfaaaGreatDoor
