/- Parts of a proof. -/
import Derived.Test.YtcgadodckoalnaaGreatDoorB09
import Derived.Test.YtcgadodckoalnaaGreatDoorB36
set_option maxHeartbeats 2000000
set_option maxRecDepth 100000
namespace Go.Proofs.YtcgadodckoalnaaGreatDoor
open Go.Proofs.Tryz
open Go.RowKit
open aN
theorem VL (s:ByteArray) (f:Int) (w:World) (hs:s.size≤1000000):
 Calls prog 157 #[.string s, .int .i64 f] w fun e w' =>e= .returned (.tuple #[.string (Dg s f), .int .i64 (wQ s f), .bool (ER s f)])∧w' =w:=by
 rw [←RO];exact (Ll s f w (by omega)).mono fun e w' h=>⟨h.1,h.2.symm⟩
theorem Kw (c:Nat) (hc:c<256) (W:World) (k:Nat) (h:W.cell? ⟨k,0,none⟩=some (.int .u8 c)):
 (convert 142 9 (.slice (some ⟨k,0,none⟩) 1 1)).run prog W= .ok (.string ⟨#[UInt8.ofNat c]⟩) W:=by
 have:=run_convert_bytes_back (P:=prog) W 142 9 5 ⟨k,0,none⟩ 1 [UInt8.ofNat c] underlying142 underlying5 underlying9 (fun j hj=>by
  obtain rfl:j=0:=by simpa using hj
  rw [iG,h];simp only [List.getElem_cons_zero,UInt8.toNat_ofNat'];rw [Nat.mod_eq_of_lt (by omega)])
 exact this
theorem VN {L:Nat}(w:World) (b:Nat) (s:ByteArray) (P:List Pt) (i:Nat) (h:SR L w b s P i) (hs:s.size≤100000) (vk:xq s P) (hi:i<P.length):
 Calls prog 128 #[.pointer (some ⟨b,0,none⟩)] w (RTP L w b s P (j5 s P i)):=by
 have hS:=RB.start h;have hPl:=vk.1;obtain ⟨a,cap,c0,c1,c2,f2,h2⟩:=hS.1.1.cells;obtain ⟨g,rfl,hc⟩:=h2 (by omega)
 have c3:(w.alloc (.cells #[.int .i64 0, .string ⟨#[]⟩, .int .i64 0, .int .i64 0] 112)).cell? ⟨g,i*4+1,none⟩=some (.int .i64 (aQ s P i)):=by
  rw [hc _ _ (by rw [ny P i 1 hi (by omega)];rfl)];unfold aQ;rw [List.getElem?_eq_getElem hi]
 have hlow:=h.lt;clear hc h2 h vk;have h4:(0:Int)≤(i:Int):=by omega
 have h5:(i:Int)<(P.length:Int):=by omega
 have hu:=Lib.hid (fun w=>VL s (aQ s P i) w (by omega));have HT:=Lib.hid (uj s P i);have hU:=JK s (aQ s P i);have hN:=KU s (aQ s P i);generalize Dg s (aQ s P i)=U at *;generalize wQ s (aQ s P i)=N at *;generalize ER s (aQ s P i)=O at *;generalize aQ s P i=zH at *;generalize hk0:w.alloc (.cells #[.int .i64 0, .string ⟨#[]⟩, .int .i64 0, .int .i64 0] 112)=w0 at *;go_enter func128,ntmps128;go_wp2_with fail;go_quiet ((go_at_call 157;with_reducible exact Calls.quiet_of_same (hu.out _)));replace hS:=hS.drew nq;generalize w0.drewN nq=w1 at *;clear c0 c1 c2 c3 f2 hk0 hu;obtain ⟨c2,f2,t0,t1,t2,t3,u0,u1,u2,u3⟩:=hS.cells;go_wp2_with fail
 go_loopw [] (fun wr=>∃k,RB L w wr b s P k∧Hid (bP P N i=bP P N k)∧k≤P.length) (fun wr=>P.length - nR wr b)
 case atStart=>exact ⟨i,hS,rfl,by omega⟩
 case round=>
  clear hS c2 f2 t0 t1 t2 t3 u0 u1 u2 u3;obtain ⟨k,hS,HE,hk⟩:=hrel;have HK:=Lib.hid hS.scan;obtain ⟨a,cap,c0,c1,c2,f2,h2⟩:=hS.1.1.cells;by_cases hlk:k<P.length
  · obtain ⟨g,rfl,hc⟩:=h2 (by omega);have c4:wr.cell? ⟨g,k*4+1,none⟩=some (.int .i64 P[k].at_):=hc _ _ (by rw [ny P k 1 hlk (by omega)];rfl);have HP:=Lib.hid (List.getElem?_eq_getElem hlk);have q5:(k:Int)<(P.length:Int):=by omega
    have q6:(0:Int)≤(k:Int):=by omega
    have hd:decide ((k:Int)<(P.length:Int))=true:=decide_eq_true q5;clear h2 hc;generalize P[k]=p at *;cases hq:decide ((p.at_:Int)<N)
    case false=>
     have HF:Hid (bP P N i=k):=by show _=_;rw [HE.out];unfold bP;exact fE (by rw [HP.out];exact hq)
     go_wp2_with fail;go_quiet (fail);replace hS:=hS.drew nq;generalize wr.drewN nq=w2 at *;clear c0 c1 c2 f2 c4 hd q5 q6 hq HP;obtain ⟨c2,f2,t0,t1,t2,t3,u0,u1,u2,u3⟩:=hS.cells;have hV:=fun w=>GK U w (by omega)
     cases O
     · have HZ:Hid ((false&&(decide (U.size≤100)&&valid U))=false):=rfl;go_wp2_with fail;obtain ⟨r0,r1,r2,r3,hR⟩:=hS.fin (.int .i64 3) (.string U) (.int .i64 0) (.int .i64 i) _ rfl;refine bodyPost_ret (v:= .tuple #[.agg #[.int .i64 3, .string U, .int .i64 0, .int .i64 i], .bool false]) (by simp [results,results128,go_sem,r0,r1,r2,r3]) rfl ?_;refine ⟨?_, ?_⟩
       · rw [HT.out,HZ.out];rfl
       · rw [HT.out];show RG L w _ b s P (bP P N i);rw [HF.out];exact hR
     · by_cases hz:(U.size:Int)≤100
       · have HZ:Hid ((true&&(decide (U.size≤100)&&valid U))=valid U):=by show _=_;rw [decide_eq_true (by omega),Bool.true_and,Bool.true_and]
         go_wp2_with (go_at_call 158;refine (hV _).mono ?_;rintro e w3 ⟨rfl,hb⟩;replace hS:=hS.below hb;clear hb;obtain ⟨c2,f2,t0,t1,t2,t3,u0,u1,u2,u3⟩:=hS.cells);obtain ⟨r0,r1,r2,r3,hR⟩:=hS.fin (.int .i64 3) (.string U) (.int .i64 0) (.int .i64 i) _ rfl;refine bodyPost_ret (v:= .tuple #[.agg #[.int .i64 3, .string U, .int .i64 0, .int .i64 i], .bool (valid U)]) (by simp [results,results128,go_sem,r0,r1,r2,r3]) rfl ?_;refine ⟨?_, ?_⟩
         · rw [HT.out,HZ.out];rfl
         · rw [HT.out];show RG L w _ b s P (bP P N i);rw [HF.out];exact hR
       · have HZ:Hid ((true&&(decide (U.size≤100)&&valid U))=false):=by show _=_;rw [decide_eq_false (by omega),Bool.false_and,Bool.and_false]
         go_wp2_with fail;obtain ⟨r0,r1,r2,r3,hR⟩:=hS.fin (.int .i64 3) (.string U) (.int .i64 0) (.int .i64 i) _ rfl;refine bodyPost_ret (v:= .tuple #[.agg #[.int .i64 3, .string U, .int .i64 0, .int .i64 i], .bool false]) (by simp [results,results128,go_sem,r0,r1,r2,r3]) rfl ?_;refine ⟨?_, ?_⟩
         · rw [HT.out,HZ.out];rfl
         · rw [HT.out];show RG L w _ b s P (bP P N i);rw [HF.out];exact hR
    case true=>
     have HX:Hid (bP P N i=bP P N (k+1)):=by show _=_;rw [HE.out];unfold bP;exact gH hlk (by rw [HP.out];exact hq)
     go_wp2_with fail;go_quiet (fail);replace hS:=hS.drew nq;generalize wr.drewN nq=w2 at *;clear c0 c1 c2 f2 c4 hd q5 q6 hq HP;obtain ⟨c2,f2,t0,t1,t2,t3,u0,u1,u2,u3⟩:=hS.cells;go_wp2_with fail;go_roundw
     case rel=>exact ⟨k+1,hS.set (k+1) _ (by omega),HX,by omega⟩
     case measure=>rw [HK.out,(hS.set (k+1) _ (by omega)).scan];omega
  · have HF:Hid (bP P N i=k):=by show _=_;rw [HE.out];unfold bP;exact qM (by omega)
    have hd:decide ((k:Int)<(P.length:Int))=false:=decide_eq_false (by omega);go_wp2_with fail;go_quiet (fail);replace hS:=hS.drew nq;generalize wr.drewN nq=w2 at *;clear c0 c1 c2 f2 h2 hd;obtain ⟨c2,f2,t0,t1,t2,t3,u0,u1,u2,u3⟩:=hS.cells;have hV:=fun w=>GK U w (by omega)
    cases O
    · have HZ:Hid ((false&&(decide (U.size≤100)&&valid U))=false):=rfl;go_wp2_with fail;obtain ⟨r0,r1,r2,r3,hR⟩:=hS.fin (.int .i64 3) (.string U) (.int .i64 0) (.int .i64 i) _ rfl;refine bodyPost_ret (v:= .tuple #[.agg #[.int .i64 3, .string U, .int .i64 0, .int .i64 i], .bool false]) (by simp [results,results128,go_sem,r0,r1,r2,r3]) rfl ?_;refine ⟨?_, ?_⟩
      · rw [HT.out,HZ.out];rfl
      · rw [HT.out];show RG L w _ b s P (bP P N i);rw [HF.out];exact hR
    · by_cases hz:(U.size:Int)≤100
      · have HZ:Hid ((true&&(decide (U.size≤100)&&valid U))=valid U):=by show _=_;rw [decide_eq_true (by omega),Bool.true_and,Bool.true_and]
        go_wp2_with (go_at_call 158;refine (hV _).mono ?_;rintro e w3 ⟨rfl,hb⟩;replace hS:=hS.below hb;clear hb;obtain ⟨c2,f2,t0,t1,t2,t3,u0,u1,u2,u3⟩:=hS.cells);obtain ⟨r0,r1,r2,r3,hR⟩:=hS.fin (.int .i64 3) (.string U) (.int .i64 0) (.int .i64 i) _ rfl;refine bodyPost_ret (v:= .tuple #[.agg #[.int .i64 3, .string U, .int .i64 0, .int .i64 i], .bool (valid U)]) (by simp [results,results128,go_sem,r0,r1,r2,r3]) rfl ?_;refine ⟨?_, ?_⟩
        · rw [HT.out,HZ.out];rfl
        · rw [HT.out];show RG L w _ b s P (bP P N i);rw [HF.out];exact hR
      · have HZ:Hid ((true&&(decide (U.size≤100)&&valid U))=false):=by show _=_;rw [decide_eq_false (by omega),Bool.false_and,Bool.and_false]
        go_wp2_with fail;obtain ⟨r0,r1,r2,r3,hR⟩:=hS.fin (.int .i64 3) (.string U) (.int .i64 0) (.int .i64 i) _ rfl;refine bodyPost_ret (v:= .tuple #[.agg #[.int .i64 3, .string U, .int .i64 0, .int .i64 i], .bool false]) (by simp [results,results128,go_sem,r0,r1,r2,r3]) rfl ?_;refine ⟨?_, ?_⟩
        · rw [HT.out,HZ.out];rfl
        · rw [HT.out];show RG L w _ b s P (bP P N i);rw [HF.out];exact hR
theorem Rh {L:Nat}(w:World) (b:Nat) (s:ByteArray) (P:List Pt) (i:Nat) (h:SR L w b s P i) (hs:s.size≤100000) (vk:xq s P) (hi:i<P.length):
 Calls prog 86 #[.pointer (some ⟨b,0,none⟩)] w (RTP L w b s P (dK s P i)):=by
 have hS:=RB.start h;have hPl:=vk.1;have HB:Hid (∀wx,RB L w wx b s P i→SR L wx b s P i):=fun wx h=>h.1.1
 clear h;have hl:=fun wx hx=>FJ (L:=L) (w:=w) wx b s P i hx
 have hr:=fun wx hx=>VJ (L:=L) (w:=w) wx b s P i hx (by omega) (by omega)
 have hdg:=fun v hv=>AQ P i v hv
 have Da:=Lib.hid (zU P i 45 (by decide));have H39:=Lib.hid (zU P i 39 (by decide));have HT0:Hid (dK s P i=if dJ P i then kJ s P i else if dh P i||gG P i 45 then cO P i else if gG P i 39 then j5 s P i else if xk (j4 P i)then (⟨4,⟨#[UInt8.ofNat (j4 P i).toNat]⟩,0,i⟩,true,i+1)else (⟨0,⟨#[]⟩,0,0⟩,false,i)):=rfl;have HSG:Hid (xk (j4 P i)=(j4 P i==40||j4 P i==41||j4 P i==44||j4 P i==59||j4 P i==61||j4 P i==42)):=rfl;obtain ⟨r,EM⟩:∃r,j4 P i=r:=⟨_,rfl⟩;rw [EM]at Da H39 HT0 hdg hr HSG;clear EM;go_enter func86,ntmps86;go_wp2_with fail;refine (hr _ hS).mono ?_;rintro e w1 ⟨rfl,hS⟩;clear hr;obtain ⟨c2,f2,t0,t1,t2,t3,u0,u1,u2,u3⟩:=hS.cells;cases hL:dJ P i
 case true=>
  rw [hL]at hl;have HT:Hid (dK s P i=kJ s P i):=by show _=_;rw [HT0.out,hL];rfl
  obtain ⟨⟨⟨K,S,N,A⟩,ok,nx⟩,hX⟩:∃X,kJ s P i=X:=⟨_,rfl⟩
  have hc:∀wx,RB L w wx b s P i→Calls prog 125 #[.pointer (some ⟨b,0,none⟩)] wx fun e w' =>e= .returned (.tuple #[.agg #[.int .i64 K, .string S, .int .i64 N, .int .i64 A], .bool ok])∧RB L w w' b s P nx:=fun wx hx=>(VK wx b s P i (HB.out _ hx) hs vk hi hL).mono fun e w' h=>by
   rw [hX]at h;exact ⟨h.1,rU hx h.2⟩
  rw [hX]at HT;clear hL
  go_wp2_with (first
   |(go_at_call 124;refine (hl _ hS).mono ?_;rintro e w4 ⟨rfl,hS⟩;obtain ⟨c2,f2,t0,t1,t2,t3,u0,u1,u2,u3⟩:=hS.cells)
   |(go_at_call 125;refine (hc _ hS).mono ?_;rintro e w5 ⟨rfl,hS⟩;obtain ⟨c2,f2,t0,t1,t2,t3,u0,u1,u2,u3⟩:=hS.cells))
  obtain ⟨r0,r1,r2,r3,hR⟩:=hS.fin (.int .i64 K) (.string S) (.int .i64 N) (.int .i64 A) _ rfl;refine bodyPost_ret (v:= .tuple #[.agg #[.int .i64 K, .string S, .int .i64 N, .int .i64 A], .bool ok]) (by simp [results,results86,go_sem,r0,r1,r2,r3]) rfl ?_;rw [HT.out];exact ⟨rfl,hR⟩
 case false=>
  rw [hL]at hl;have ZV:=Lib.hid hL;clear hL;cases hD:dh P i
  case true=>
   replace hdg:=hdg true hD;have HT:Hid (dK s P i=cO P i):=by show _=_;rw [HT0.out,ZV.out,hD];rfl
   clear hD;obtain ⟨⟨⟨K,S,N,A⟩,ok,nx⟩,hX⟩:∃X,cO P i=X:=⟨_,rfl⟩
   have hc:∀wx,RB L w wx b s P i→Calls prog 127 #[.pointer (some ⟨b,0,none⟩)] wx fun e w' =>e= .returned (.tuple #[.agg #[.int .i64 K, .string S, .int .i64 N, .int .i64 A], .bool ok])∧RB L w w' b s P nx:=fun wx hx=>(EN wx b s P i (HB.out _ hx) hs vk hi).mono fun e w' h=>by
    rw [hX]at h;exact ⟨h.1,rU hx h.2⟩
   rw [hX]at HT
   go_wp2_with (first
    |(go_at_call 124;refine (hl _ hS).mono ?_;rintro e w4 ⟨rfl,hS⟩;obtain ⟨c2,f2,t0,t1,t2,t3,u0,u1,u2,u3⟩:=hS.cells)
    |(go_at_call 126;refine (hdg _).mono ?_;rintro e w6 ⟨rfl,rfl⟩)
    |(go_at_call 127;refine (hc _ hS).mono ?_;rintro e w5 ⟨rfl,hS⟩;obtain ⟨c2,f2,t0,t1,t2,t3,u0,u1,u2,u3⟩:=hS.cells))
   obtain ⟨r0,r1,r2,r3,hR⟩:=hS.fin (.int .i64 K) (.string S) (.int .i64 N) (.int .i64 A) _ rfl;refine bodyPost_ret (v:= .tuple #[.agg #[.int .i64 K, .string S, .int .i64 N, .int .i64 A], .bool ok]) (by simp [results,results86,go_sem,r0,r1,r2,r3]) rfl ?_;rw [HT.out];exact ⟨rfl,hR⟩
  case false=>
   replace hdg:=hdg false hD;have HD:=Lib.hid hD;clear hD;cases q1:(r==45)
   case true=>
    have HT:Hid (dK s P i=cO P i):=by show _=_;rw [HT0.out,ZV.out,HD.out,Da.out,q1];rfl
    obtain ⟨⟨⟨K,S,N,A⟩,ok,nx⟩,hX⟩:∃X,cO P i=X:=⟨_,rfl⟩
    have hc:∀wx,RB L w wx b s P i→Calls prog 127 #[.pointer (some ⟨b,0,none⟩)] wx fun e w' =>e= .returned (.tuple #[.agg #[.int .i64 K, .string S, .int .i64 N, .int .i64 A], .bool ok])∧RB L w w' b s P nx:=fun wx hx=>(EN wx b s P i (HB.out _ hx) hs vk hi).mono fun e w' h=>by
     rw [hX]at h;exact ⟨h.1,rU hx h.2⟩
    rw [hX]at HT
    go_wp2_with (first
     |(go_at_call 124;refine (hl _ hS).mono ?_;rintro e w4 ⟨rfl,hS⟩;obtain ⟨c2,f2,t0,t1,t2,t3,u0,u1,u2,u3⟩:=hS.cells)
     |(go_at_call 126;refine (hdg _).mono ?_;rintro e w6 ⟨rfl,rfl⟩)
     |(go_at_call 127;refine (hc _ hS).mono ?_;rintro e w5 ⟨rfl,hS⟩;obtain ⟨c2,f2,t0,t1,t2,t3,u0,u1,u2,u3⟩:=hS.cells))
    obtain ⟨r0,r1,r2,r3,hR⟩:=hS.fin (.int .i64 K) (.string S) (.int .i64 N) (.int .i64 A) _ rfl;refine bodyPost_ret (v:= .tuple #[.agg #[.int .i64 K, .string S, .int .i64 N, .int .i64 A], .bool ok]) (by simp [results,results86,go_sem,r0,r1,r2,r3]) rfl ?_;rw [HT.out];exact ⟨rfl,hR⟩
   case false=>
    cases q2:(r==39)
    case true=>
     have HT:Hid (dK s P i=j5 s P i):=by show _=_;rw [HT0.out,ZV.out,HD.out,Da.out,q1,H39.out,q2];rfl
     obtain ⟨⟨⟨K,S,N,A⟩,ok,nx⟩,hX⟩:∃X,j5 s P i=X:=⟨_,rfl⟩
     have hc:∀wx,RB L w wx b s P i→Calls prog 128 #[.pointer (some ⟨b,0,none⟩)] wx fun e w' =>e= .returned (.tuple #[.agg #[.int .i64 K, .string S, .int .i64 N, .int .i64 A], .bool ok])∧RB L w w' b s P nx:=fun wx hx=>(VN wx b s P i (HB.out _ hx) hs vk hi).mono fun e w' h=>by
      rw [hX]at h;exact ⟨h.1,rU hx h.2⟩
     rw [hX]at HT
     go_wp2_with (first
      |(go_at_call 124;refine (hl _ hS).mono ?_;rintro e w4 ⟨rfl,hS⟩;obtain ⟨c2,f2,t0,t1,t2,t3,u0,u1,u2,u3⟩:=hS.cells)
      |(go_at_call 126;refine (hdg _).mono ?_;rintro e w6 ⟨rfl,rfl⟩)
      |(go_at_call 128;refine (hc _ hS).mono ?_;rintro e w5 ⟨rfl,hS⟩;obtain ⟨c2,f2,t0,t1,t2,t3,u0,u1,u2,u3⟩:=hS.cells))
     obtain ⟨r0,r1,r2,r3,hR⟩:=hS.fin (.int .i64 K) (.string S) (.int .i64 N) (.int .i64 A) _ rfl;refine bodyPost_ret (v:= .tuple #[.agg #[.int .i64 K, .string S, .int .i64 N, .int .i64 A], .bool ok]) (by simp [results,results86,go_sem,r0,r1,r2,r3]) rfl ?_;rw [HT.out];exact ⟨rfl,hR⟩
    case false=>
     have HT1:Hid (dK s P i=if xk r then (⟨4,⟨#[UInt8.ofNat r.toNat]⟩,0,i⟩,true,i+1)else (⟨0,⟨#[]⟩,0,0⟩,false,i)):=by show _=_;rw [HT0.out,ZV.out,HD.out,Da.out,q1,H39.out,q2];rfl
     cases q3:(r==40||r==41||r==44||r==59||r==61||r==42)
     case false=>
      have HT:Hid (dK s P i=(⟨0,⟨#[]⟩,0,0⟩,false,i)):=by show _=_;rw [HT1.out,HSG.out,q3];rfl
      simp only [Bool.or_eq_false_iff]at q3;obtain ⟨⟨⟨⟨⟨g1,g2⟩,g3⟩,g4⟩,g5⟩,g6⟩:=q3
      go_wp2_with (first
       |(go_at_call 124;refine (hl _ hS).mono ?_;rintro e w4 ⟨rfl,hS⟩;obtain ⟨c2,f2,t0,t1,t2,t3,u0,u1,u2,u3⟩:=hS.cells)
       |(go_at_call 126;refine (hdg _).mono ?_;rintro e w6 ⟨rfl,rfl⟩)
       |fail)
      obtain ⟨r0,r1,r2,r3,hR⟩:=hS.fin (.int .i64 0) (.string ⟨#[]⟩) (.int .i64 0) (.int .i64 0) _ rfl;refine bodyPost_ret (v:= .tuple #[.agg #[.int .i64 0, .string ⟨#[]⟩, .int .i64 0, .int .i64 0], .bool false]) (by simp [results,results86,go_sem,r0,r1,r2,r3]) rfl ?_;rw [HT.out];exact ⟨rfl,hR⟩
     case true=>
      have HT:Hid (dK s P i=(⟨4,⟨#[UInt8.ofNat r.toNat]⟩,0,i⟩,true,i+1)):=by show _=_;rw [HT1.out,HSG.out,q3];rfl
      simp only [Bool.or_eq_true,beq_iff_eq]at q3;clear HT1 HSG Da H39 HT0 q1 q2;rcases q3 with ((((q3|q3)|q3)|q3)|q3)|q3
      · subst q3
        go_wp2_with (first
         |(go_at_call 124;refine (hl _ hS).mono ?_;rintro e w4 ⟨rfl,hS⟩;obtain ⟨c2,f2,t0,t1,t2,t3,u0,u1,u2,u3⟩:=hS.cells)
         |(go_at_call 126;refine (hdg _).mono ?_;rintro e w6 ⟨rfl,rfl⟩)
         |fail)
        have hcv:=Kw 40 (by decide);have n1:=aD hS.2.2;have n2:=hS.1.1.lt;have n3:b<w.heap.size:=Nat.lt_of_lt_of_le hS.1.1.2.1 hS.2.1;go_region;obtain ⟨r0,r1,r2,r3,hR⟩:=(hS.set (i+1) ((i:Int)+1) (by omega)).fin (.int .i64 4) (.string ⟨#[40]⟩) (.int .i64 0) (.int .i64 i) _ rfl;replace hR:=(hR.alloc (.cells #[.int .u8 40] 5)).drew 1;go_wp2_with fail;refine bodyPost_ret (v:= .tuple #[.agg #[.int .i64 4, .string ⟨#[40]⟩, .int .i64 0, .int .i64 i], .bool true]) (by simp [results,results86,go_sem,r0,r1,r2,r3,n1]) rfl ?_;rw [HT.out];exact ⟨rfl,hR⟩
      · subst q3
        go_wp2_with (first
         |(go_at_call 124;refine (hl _ hS).mono ?_;rintro e w4 ⟨rfl,hS⟩;obtain ⟨c2,f2,t0,t1,t2,t3,u0,u1,u2,u3⟩:=hS.cells)
         |(go_at_call 126;refine (hdg _).mono ?_;rintro e w6 ⟨rfl,rfl⟩)
         |fail)
        have hcv:=Kw 41 (by decide);have n1:=aD hS.2.2;have n2:=hS.1.1.lt;have n3:b<w.heap.size:=Nat.lt_of_lt_of_le hS.1.1.2.1 hS.2.1;go_region;obtain ⟨r0,r1,r2,r3,hR⟩:=(hS.set (i+1) ((i:Int)+1) (by omega)).fin (.int .i64 4) (.string ⟨#[41]⟩) (.int .i64 0) (.int .i64 i) _ rfl;replace hR:=(hR.alloc (.cells #[.int .u8 41] 5)).drew 1;go_wp2_with fail;refine bodyPost_ret (v:= .tuple #[.agg #[.int .i64 4, .string ⟨#[41]⟩, .int .i64 0, .int .i64 i], .bool true]) (by simp [results,results86,go_sem,r0,r1,r2,r3,n1]) rfl ?_;rw [HT.out];exact ⟨rfl,hR⟩
      · subst q3
        go_wp2_with (first
         |(go_at_call 124;refine (hl _ hS).mono ?_;rintro e w4 ⟨rfl,hS⟩;obtain ⟨c2,f2,t0,t1,t2,t3,u0,u1,u2,u3⟩:=hS.cells)
         |(go_at_call 126;refine (hdg _).mono ?_;rintro e w6 ⟨rfl,rfl⟩)
         |fail)
        have hcv:=Kw 44 (by decide);have n1:=aD hS.2.2;have n2:=hS.1.1.lt;have n3:b<w.heap.size:=Nat.lt_of_lt_of_le hS.1.1.2.1 hS.2.1;go_region;obtain ⟨r0,r1,r2,r3,hR⟩:=(hS.set (i+1) ((i:Int)+1) (by omega)).fin (.int .i64 4) (.string ⟨#[44]⟩) (.int .i64 0) (.int .i64 i) _ rfl;replace hR:=(hR.alloc (.cells #[.int .u8 44] 5)).drew 1;go_wp2_with fail;refine bodyPost_ret (v:= .tuple #[.agg #[.int .i64 4, .string ⟨#[44]⟩, .int .i64 0, .int .i64 i], .bool true]) (by simp [results,results86,go_sem,r0,r1,r2,r3,n1]) rfl ?_;rw [HT.out];exact ⟨rfl,hR⟩
      · subst q3
        go_wp2_with (first
         |(go_at_call 124;refine (hl _ hS).mono ?_;rintro e w4 ⟨rfl,hS⟩;obtain ⟨c2,f2,t0,t1,t2,t3,u0,u1,u2,u3⟩:=hS.cells)
         |(go_at_call 126;refine (hdg _).mono ?_;rintro e w6 ⟨rfl,rfl⟩)
         |fail)
        have hcv:=Kw 59 (by decide);have n1:=aD hS.2.2;have n2:=hS.1.1.lt;have n3:b<w.heap.size:=Nat.lt_of_lt_of_le hS.1.1.2.1 hS.2.1;go_region;obtain ⟨r0,r1,r2,r3,hR⟩:=(hS.set (i+1) ((i:Int)+1) (by omega)).fin (.int .i64 4) (.string ⟨#[59]⟩) (.int .i64 0) (.int .i64 i) _ rfl;replace hR:=(hR.alloc (.cells #[.int .u8 59] 5)).drew 1;go_wp2_with fail;refine bodyPost_ret (v:= .tuple #[.agg #[.int .i64 4, .string ⟨#[59]⟩, .int .i64 0, .int .i64 i], .bool true]) (by simp [results,results86,go_sem,r0,r1,r2,r3,n1]) rfl ?_;rw [HT.out];exact ⟨rfl,hR⟩
      · subst q3
        go_wp2_with (first
         |(go_at_call 124;refine (hl _ hS).mono ?_;rintro e w4 ⟨rfl,hS⟩;obtain ⟨c2,f2,t0,t1,t2,t3,u0,u1,u2,u3⟩:=hS.cells)
         |(go_at_call 126;refine (hdg _).mono ?_;rintro e w6 ⟨rfl,rfl⟩)
         |fail)
        have hcv:=Kw 61 (by decide);have n1:=aD hS.2.2;have n2:=hS.1.1.lt;have n3:b<w.heap.size:=Nat.lt_of_lt_of_le hS.1.1.2.1 hS.2.1;go_region;obtain ⟨r0,r1,r2,r3,hR⟩:=(hS.set (i+1) ((i:Int)+1) (by omega)).fin (.int .i64 4) (.string ⟨#[61]⟩) (.int .i64 0) (.int .i64 i) _ rfl;replace hR:=(hR.alloc (.cells #[.int .u8 61] 5)).drew 1;go_wp2_with fail;refine bodyPost_ret (v:= .tuple #[.agg #[.int .i64 4, .string ⟨#[61]⟩, .int .i64 0, .int .i64 i], .bool true]) (by simp [results,results86,go_sem,r0,r1,r2,r3,n1]) rfl ?_;rw [HT.out];exact ⟨rfl,hR⟩
      · subst q3
        go_wp2_with (first
         |(go_at_call 124;refine (hl _ hS).mono ?_;rintro e w4 ⟨rfl,hS⟩;obtain ⟨c2,f2,t0,t1,t2,t3,u0,u1,u2,u3⟩:=hS.cells)
         |(go_at_call 126;refine (hdg _).mono ?_;rintro e w6 ⟨rfl,rfl⟩)
         |fail)
        have hcv:=Kw 42 (by decide);have n1:=aD hS.2.2;have n2:=hS.1.1.lt;have n3:b<w.heap.size:=Nat.lt_of_lt_of_le hS.1.1.2.1 hS.2.1;go_region;obtain ⟨r0,r1,r2,r3,hR⟩:=(hS.set (i+1) ((i:Int)+1) (by omega)).fin (.int .i64 4) (.string ⟨#[42]⟩) (.int .i64 0) (.int .i64 i) _ rfl;replace hR:=(hR.alloc (.cells #[.int .u8 42] 5)).drew 1;go_wp2_with fail;refine bodyPost_ret (v:= .tuple #[.agg #[.int .i64 4, .string ⟨#[42]⟩, .int .i64 0, .int .i64 i], .bool true]) (by simp [results,results86,go_sem,r0,r1,r2,r3,n1]) rfl ?_;rw [HT.out];exact ⟨rfl,hR⟩
theorem Tryz.aec:(prog.info? 112).map (fun i=>(i.zero,i.size,i.bytes))=some (some (.agg #[.int .i64 0, .string ⟨#[]⟩, .int .i64 0, .int .i64 0]),4,40):=by kernel_rfl
theorem tu (s:ByteArray) (w:World) (hs:s.size≤100000):
 Calls prog 49 #[.string s] w fun e w' =>(∃v,e= .returned (.tuple #[v, .int .i64 (aP s).2.1, .int .i64 (aP s).2.2])∧w'.ownsRow w.heap.size 112 4 v (aP s).1.length (nE (aP s).1))∧Below w.heap.size w w' :=by
 obtain ⟨i0,hi,hz0,hz1,hz2⟩:=info_parts Tryz.aec;by_cases hbig:(1000:Int)<s.size
 · have HE:Hid (aP s=([],0,2)):=by show _=_;unfold aP;rw [if_pos (by omega)]
   go_enter func49,ntmps49;go_wp2_with fail;go_ret3;rw [HE.out];exact ⟨⟨_,rfl,World.ownsRow_nil _ _ _ _⟩,Below.refl _ _⟩
 have ho:=GJ s w (by omega);have vk:=Df s;have hpl:(pts s).length≤100000:=Nat.le_trans vk.1 hs;have HL:Hid (aP s=match eU s (pts s) ((pts s).length+1) 0 with| .ok l=>(l,0,0)| .error a=>([],(a:Nat),3)):=by show _=_;unfold aP;rw [if_neg (by omega)];cases eU s (pts s) ((pts s).length+1) 0<;>rfl
 obtain ⟨P,hP⟩:∃P,pts s=P:=⟨_,rfl⟩;rw [hP]at ho vk hpl HL;clear hP;go_enter func49,ntmps49;go_wp2_with fail;refine ho.mono ?_;rintro e w1 ⟨⟨v,rfl,hown⟩,hb1⟩;obtain ⟨a0,cap0,rfl,hrd⟩:=aY hown
 have Zl:Hid (SR (w1.heap.size+1) (w1.alloc (.cells #[.string s, .slice a0 P.length cap0, .int .i64 0] 111)) w1.heap.size s P 0):=by
  refine ⟨by simp,by omega,a0,cap0,aA w1 _,fun h0=> ?_⟩;obtain ⟨g,e1,e2,e3,e4⟩:=hrd h0;exact ⟨g,e1,by omega,by omega,fun j u hj=>by rw [←e4 j u hj];unfold World.cell?;rw [Below.heap_alloc _ _ _ e3]⟩
 have HB0:Hid (Below w.heap.size w (w1.alloc (.cells #[.string s, .slice a0 P.length cap0, .int .i64 0] 111))):=hb1.alloc hb1.size _;have hsz1:=hb1.size;clear hrd hown hb1 ho;go_wp2_with fail;obtain ⟨b,hb⟩:∃b,w1.heap.size=b:=⟨_,rfl⟩;rw [hb]at Zl hsz1⊢;generalize w1.alloc (.cells #[.string s, .slice a0 P.length cap0, .int .i64 0] 111)=w2 at *;clear hb;have hS:=Zl.out;have hbw:=HB0.out;clear Zl HB0
 go_loopw [6] (fun a wr=>∃(j n:Nat) (done:List Tk),SR (b+1) wr b s P j∧wr.ownsRow (b+1) 112 4 a done.length (nE done)∧Below w.heap.size w wr∧Hid (eU s P (P.length+1) 0=(eU s P (n+1) j).map (done++ ·))∧done.length≤j∧j≤P.length∧P.length≤n+j) (fun _ wr=>P.length - nR wr b)
 case atStart=>exact ⟨0,P.length, [],hS,World.ownsRow_nil _ _ _ _,hbw,by (show _=_;cases eU s P (P.length+1) 0<;>rfl),by simp,by omega,by omega⟩
 case round=>
  clear hS hbw;obtain ⟨j,n,done,hS,hown,hbw,HR,hdj,hjP,hn⟩:=hrel;have HK:=Lib.hid (fu hS);have hk:=xA P (P.length - j) j hjP;rw [show jD P (P.length - j) j=skip P j from rfl]at hk;have hkj:=lM P j;obtain ⟨i,hi0⟩:∃i,skip P j=i:=⟨_,rfl⟩;rw [hi0]at hk hkj;have Hi:=Lib.hid hi0;have hSB:=RG.start hS;have hcb:=Rf wr b s P j hSB hjP hpl;rw [hi0]at hcb;clear hi0 hSB;go_wp2_with fail;refine hcb.mono ?_;rintro e w3 ⟨rfl,Fy⟩;have hown3:=nZ hown Fy.2 (Nat.lt_succ_self b);have xZ:Below w.heap.size w w3:=hbw.trans (kE Fy.2 (by omega) hbw.size);clear hcb hown hbw hS;obtain ⟨a,cap,c0,c1,c2,f2,_⟩:=Fy.1.cells;by_cases hend:P.length≤i
  · have HX:Hid (aP s=(done,0,0)):=by
     show _=_;rw [HL.out,HR.out,xw (by rw [Hi.out];exact hend)];simp [Except.map]
    have hd:decide (P.length≤i)=true:=decide_eq_true hend;go_wp2_with fail;go_quiet (fail);go_wp2_with fail;go_ret3;rw [HX.out];exact ⟨⟨_,rfl,aR (oI hown3 _) (by omega)⟩,aN.below_drewN xZ _⟩
  · have hd:decide (P.length≤i)=false:=decide_eq_false hend;go_wp2_with fail;go_quiet (fail);replace Fy:=Fy.drew nq;replace hown3:=oI hown3 nq;replace xZ:=aN.below_drewN xZ nq;generalize w3.drewN nq=w5 at *;clear c0 c1 c2 f2;obtain ⟨_,_,_,_,c2,f2,_⟩:=Fy.1.cells;obtain ⟨⟨⟨K,S,N,A⟩,ok,nx⟩,hX⟩:∃X,X=dK s P i:=⟨_,rfl⟩;have hc:=Rh w5 b s P i Fy.1 hs vk (by omega);rw [←hX]at hc;change Calls _ _ _ _ (fun e w' =>e= .returned (.tuple #[.agg #[.int .i64 K, .string S, .int .i64 N, .int .i64 A], .bool ok])∧RG (b+1) w5 w' b s P nx)at hc;have hL3:=Fy.1.le;go_wp2_with fail;refine hc.mono ?_;rintro e w4 ⟨rfl,qJ⟩;have nD:w4.ownsRow (b+1) 112 4 u6 done.length (nE done):=nZ hown3 qJ.2 (by omega);have Ap:Below w.heap.size w w4:=xZ.trans (kE qJ.2 (by omega) xZ.size);clear hc hown3 xZ;replace qJ:=qJ.1;clear Fy;cases ok
    · have HX:Hid (aP s=([],i,3)):=by
       have hb:(dK s P (skip P j)).2.1=false:=by rw [Hi.out,←hX]
       show _=_;rw [HL.out,HR.out,FV (by rw [Hi.out];omega) hb,Hi.out];rfl
      go_wp2_with fail;go_ret3;rw [HX.out];exact ⟨⟨_,rfl,World.ownsRow_nil _ _ _ _⟩,Ap.alloc Ap.size _⟩
    · have hg:=Bn (s:=s) (i:=i) (P:=P) (by omega) (by rw [←hX]);rw [←hX]at hg;obtain ⟨hg1,hg2⟩:i<nx∧nx≤P.length:=hg;have hR2:=FW HR.out (m:=nx) (by rw [Hi.out];omega) (by rw [Hi.out,←hX]) (by rw [Hi.out,←hX]);rw [Hi.out,←hX]at hR2;have HR2:=Lib.hid hR2;clear hR2;have hL4:=qJ.le;have hb4:=Ap.size
      go_wp2_with (at_builtin;refine wpList_append_own _ rfl _ _ 82 rfl (b+1) 112 i0 (.agg #[.int .i64 0, .string ⟨#[]⟩, .int .i64 0, .int .i64 0]) 4 40 underlying82 hi hz0 hz1 hz2 rfl (by decide) _ _ _ rfl ((nD.alloc _).alloc _) ⟨w4.heap.size+1,0,none⟩ 1 1 (lS ⟨K,S,N,A⟩) rfl rfl (Sw _ _ ⟨K,S,N,A⟩ _) (ED _) (by unfold maxLen;omega) (by omega) (by simp;omega) ?_;intro v' w5 hown5 hg5 _;rw [GR]at hown5
                   have XZ:Below w.heap.size w w5:=((Ap.alloc (by omega) _).alloc (by simp;omega) _).grown hg5 (by simp;omega) (fun k hk=>by have:=(nD.lt _ hk).1;omega)
                   have hS5:SR (b+1) w5 b s P nx:=qJ.keep (by have:=hg5.size;simp at this;omega) (fun k hk=>by
                    rw [hg5.block k (by simp;omega) (fun e=>by have:=(nD.lt _ e.symm).1;omega)];rw [Below.heap_alloc _ _ _ (by simp;omega),Below.heap_alloc _ _ _ (by omega)])
                   clear nD Ap hg5 qJ)
      have hl2:(done++ [(⟨K,S,N,A⟩:Tk)]).length=done.length+1:=by simp
      go_roundw
      case rel=>exact ⟨nx,n - 1,done++ [⟨K,S,N,A⟩],hS5,by rw [hl2];exact hown5,XZ,by rw [Nat.sub_add_cancel (by omega)];exact HR2,by rw [hl2];omega,by omega,by omega⟩
      case measure=>rw [fu hS5,HK.out];omega
end Go.Proofs.YtcgadodckoalnaaGreatDoor
