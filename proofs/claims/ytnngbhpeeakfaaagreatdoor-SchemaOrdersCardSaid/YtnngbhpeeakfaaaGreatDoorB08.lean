/- Parts of a proof. -/
import Derived.Deep.QuietTactic
import Derived.BigQuiet
import Derived.ProofKit
import Derived.LaidMore
import Derived.OpenShut
import Derived.Stop.Joined
import Derived.HandedShaped
import Derived.Lib.LaidIn
import Derived.Lib.LaidU8T
import Derived.Deep.DeepWitnessRowRef
import Derived.ChangeSame
import Derived.JoinedOf
import Derived.RowKit
import Derived.SevenTiedAt
import Derived.Test.YtnngbhpeeakfaaaGreatDoorB01
import Derived.Test.YtnngbhpeeakfaaaGreatDoorB07
import Derived.Test.YtnngbhpeeakfaaaGreatDoorCards
set_option maxHeartbeats 1000000
set_option maxRecDepth 100000
namespace Go.Proofs.YtnngbhpeeakfaaaGreatDoor
open Go.Proofs.Tryz
open Go.RowKit
open aK
theorem sG (s:ByteArray) (a k:Nat):jG s a (k+1)=(jG s a k&&decide (a+k<s.size∧bY s (a+k) / 64=2)):=rfl
theorem ME (s:ByteArray) (a:Nat):∀n k,k≤n→jG s a n=true→jG s a k=true:=by
 intro n
 induction n with
 |zero=>intro k hk h;have:k=0:=by omega
        subst this;exact h
 |succ n ih=>
  intro k hk h;rw [sG,Bool.and_eq_true]at h;by_cases e:k=n+1
  · subst e;rw [sG,Bool.and_eq_true];exact h
  · exact ih k (by omega) h.1
theorem Dz (s:ByteArray) (a n:Nat) (w:World) (hs:s.size≤2000000) (ha:a≤2000000) (hn:1≤n) (OI:n≤3):
 Calls prog 288 #[.string s, .int .i64 a, .int .i64 n] w fun e w' =>e= .returned (.bool (jG s a n))∧w=w' :=by
 by_cases hb:s.size<a+n
 · have HF:Hid (jG s a n=false):=by
    obtain ⟨n,rfl⟩:∃m,n=m+1:=⟨n - 1,by omega⟩;show _=_;rw [sG,decide_eq_false (by omega),Bool.and_false]
   have hb1:(s.size:Int)<(a:Int)+(n:Int):=by omega
   clear hb;go_enter func288,ntmps288;go_wp2_with fail;go_ret;exact ⟨aR HF.out.symm,rfl⟩
 · have hb1:¬(s.size:Int)<(a:Int)+(n:Int):=by omega
   have hb2:a+n≤s.size:=by omega
   clear hb;go_enter func288,ntmps288;go_wp2_with fail
   go_loop [7] (fun v=>∃k:Nat,k≤n∧v= .int .i64 (a+k:Nat)∧Hid (jG s a k=true)) (fun v=>a+n - (intOf v).toNat)
   case atStart=>exact ⟨0,by omega,by go_num,rfl⟩
   case round=>
    obtain ⟨k,hk,rfl,HS⟩:=hrel;by_cases hlt:k<n
    · have hlt1:((a+k:Nat):Int)<(a:Int)+(n:Int):=by omega
      have hix:a+k<s.size:=by omega
      obtain ⟨c,hc⟩:∃c,s[a+k].toNat=c:=⟨_,rfl⟩;have hcb:bY s (a+k)=c:=by rw [←jk s _ hix];exact hc
      have hc2:c<256:=by rw [←hcb];exact pV _ _
      have hand:bits .and .u8 (c:Int) 192=((c&&&192:Nat):Int):=u8_and_nat c 192 hc2 (by omega)
      have hS:Hid (jG s a (k+1)=decide (c / 64=2)):=by
       show _=_;rw [sG,HS.out,Bool.true_and,hcb];exact decide_eq_decide.2 ⟨fun h=>h.2,fun h=>⟨hix,h⟩⟩
      have hwi:((a+k:Nat):Int).toNat=a+k:=by omega
      have HN:Hid (jG s a (k+1)=false→jG s a n=false):=fun h=>by
       cases hh:jG s a n with
       |false=>rfl
       |true=>rw [ME s a n (k+1) (by omega) hh]at h;cases h
      have XR:=ZP c hc2;by_cases hq:c / 64=2
      · have hq1:(((c&&&192:Nat):Int) !=128)=false:=by rw [XR.2 hq];rfl
        have HT:Hid (jG s a (k+1)=true):=by show _=_;rw [hS.out];exact decide_eq_true hq
        have Hc:Hid (s[a+k].toNat=c):=hc;clear XR hcb hq hS;go_wp2_with fail;go_round
        case rel=>exact ⟨k+1,by omega,by go_num,HT⟩
        case measure=>simp [intOf];omega
      · have hq1:(((c&&&192:Nat):Int) !=128)=true:=by
         have:(c&&&192:Nat)≠128:=fun e=>hq (XR.1 e)
         exact bne_iff_ne.2 (by omega)
        have HT:Hid (jG s a n=false):=HN.out (by rw [hS.out];exact decide_eq_false hq);clear XR hcb hq hS;go_wp2_with fail;go_ret;exact ⟨aR HT.out.symm,rfl⟩
    · have hkn:k=n:=by omega
      have HF:Hid (jG s a n=true):=by rw [←hkn];exact HS.out
      clear hkn HS;go_wp2_with fail;go_ret;exact ⟨aR HF.out.symm,rfl⟩
def QC (p:Pt):Value:= .agg #[.int .i32 p.r, .int .i64 p.at_, .int .i64 p.n, .bool p.ok]
def jA (s:ByteArray) (a:Nat):Pt:=⟨(Utf8.decode s a).1,a,(Utf8.decode s a).2⟩
theorem qA {fn:Func}{R:Ending→World→Prop}{a:Act}{w:World}{q:Pt}{v:Value}(hr:(results fn a.tmps).run prog w= .ok v w) (hd:a.defers= []) (hv:v=QC q) (hR:R (.returned (QC q)) w):bodyPost prog fn R .ret a w:=by
 subst hv;exact bodyPost_ret hr hd hR
theorem QD (s:ByteArray) (a:Nat) (w:World) (_hs:s.size≤2000000) (h:a<s.size) (h0:bY s a<128):
 Calls prog 223 #[.string s, .int .i64 a] w fun e w' =>e= .returned (QC (jA s a))∧Below w.heap.size w w' :=by
 obtain ⟨c,hc⟩:∃c,s[a].toNat=c:=⟨_,rfl⟩;have hcb:bY s a=c:=by rw [←jk s _ h];exact hc
 have HD:Hid (jA s a=⟨c,a,1⟩):=by show _=_;unfold jA;rw [vO s a h h0,hcb]
 rw [hcb]at h0;clear hcb;go_enter func223,ntmps223;go_wp2_with fail;refine qA (q:=jA s a) (v:= .agg #[.int .i32 c, .int .i64 a, .int .i64 1, .bool true]) (by simp [results,results223,go_sem]) rfl ?_ ⟨rfl,((Below.refl _ _).alloc (Nat.le_refl _) _).alloc (by simp) _⟩;rw [HD.out];have:(⟨c,a,1⟩:Pt).ok=true:=by simp [Pt.ok];omega
 unfold QC;rw [this];rfl
theorem XT (s:ByteArray) (a:Nat) (w:World) (_hs:s.size≤2000000) (h:a<s.size) (h0:128≤bY s a) (h1:bY s a<194∨245≤bY s a):
 Calls prog 223 #[.string s, .int .i64 a] w fun e w' =>e= .returned (QC (jA s a))∧Below w.heap.size w w' :=by
 have HD:Hid (jA s a=⟨65533,a,1⟩):=by show _=_;unfold jA;rw [WT s a h h0 (by omega)]
 obtain ⟨c,hc⟩:∃c,s[a].toNat=c:=⟨_,rfl⟩;have hcb:bY s a=c:=by rw [←jk s _ h];exact hc
 rw [hcb]at h0 h1;have hc256:c<256:=by rw [←hcb];exact pV _ _
 clear hcb;rcases h1 with h1|h1
 all_goals
  go_enter func223,ntmps223;go_wp2_with fail;refine qA (q:=jA s a) (v:= .agg #[.int .i32 65533, .int .i64 a, .int .i64 1, .bool false]) (by simp [results,results223,go_sem]) rfl ?_ ⟨rfl,(((Below.refl _ _).alloc (Nat.le_refl _) _).alloc (by simp) _)⟩;rw [HD.out];rfl
theorem XU (s:ByteArray) (a:Nat) (w:World) (hs:s.size≤2000000) (h:a<s.size) (h0:194≤bY s a∧bY s a<224):
 Calls prog 223 #[.string s, .int .i64 a] w fun e w' =>e= .returned (QC (jA s a))∧Below w.heap.size w w' :=by
 obtain ⟨r,hr⟩:∃r,r=bY s a % 32*64+bY s (a+1) % 64:=⟨_,rfl⟩;have HD:=Lib.hid (WU s a h h0);have hcc:=fun w=>Dz s (a+1) 1 w hs (by omega) (by omega) (by omega)
 obtain ⟨c,hc⟩:∃c,s[a].toNat=c:=⟨_,rfl⟩;have hcb:bY s a=c:=by rw [←jk s _ h];exact hc
 rw [hcb]at h0;obtain ⟨h01,h02⟩:=h0;have HR:Hid (r=bY s a % 32*64+bY s (a+1) % 64):=hr;have HB:Hid (bY s a=c):=hcb;clear hr hcb;have Zi:decide ((c:Int)<128)=false:=decide_eq_false (by omega)
 have hand:bits .and .i32 (c:Int) 31=((c % 32:Nat):Int):=by
  have:=bits_mask .i32 31 (by decide) (fun n h0 h1=>wraps_i32 n h0 h1) 5 (by decide) (c:Int) (by omega) (by omega);simpa using this
 cases hcont:jG s (a+1) 1
 · have HE:Hid (jA s a=⟨65533,a,1⟩):=by
    have:=HD.out;rw [hcont]at this;show _=_;unfold jA;rw [this];rfl
   rw [hcont]at hcc;clear hcont HD;go_enter func223,ntmps223;go_wp2_with (go_at_call 288;refine (hcc _).mono ?_;rintro e w' ⟨rfl,rfl⟩);refine qA (q:=jA s a) (v:= .agg #[.int .i32 65533, .int .i64 a, .int .i64 1, .bool false]) (by simp [results,results223,go_sem]) rfl ?_ ⟨rfl,(((Below.refl _ _).alloc (Nat.le_refl _) _).alloc (by simp) _)⟩;rw [HE.out];rfl
 have MF:Hid (Utf8.decode s a=if true then (r,2)else (65533,1)):=by
  have:=HD.out;rw [hcont]at this;rw [←HR.out]at this;exact this
 rw [hcont]at hcc
 have HC:Hid (a+1<s.size):=by
  rw [FM]at hcont;exact (of_decide_eq_true hcont).1
 clear hcont HD;go_enter func223,ntmps223;go_wp2_with (go_at_call 288;refine (hcc _).mono ?_;rintro e w' ⟨rfl,rfl⟩)
 go_loop [8,9] (fun r i=>∃k:Nat,k≤1∧i= .int .i64 (k+1:Nat)∧r= .int .i32 (lC s a (c % 32) k:Nat)) (fun _ i=>8 - (intOf i).toNat)
 case atStart=>exact ⟨0,by omega,rfl,by show Value.int _ _=Value.int _ (((c % 32:Nat)):Int);go_num⟩
 case round=>
  obtain ⟨k,hk,rfl,rfl⟩:=hrel;by_cases hlt:k<1
  · have hix:a+(k+1)<s.size:=by have:=HC.out;omega
    have hacc:=GU s a (c % 32) (by omega) k (by omega);obtain ⟨A,hA⟩:∃A,lC s a (c % 32) k=A:=⟨_,rfl⟩;have HA:Hid (lC s a (c % 32) (k+1)=A*64+bY s (a+(k+1)) % 64):=by show _=_;rw [←hA];rfl
    rw [hA]at hacc⊢;clear hA;obtain ⟨b,hb⟩:∃b,s[a+(k+1)].toNat=b:=⟨_,rfl⟩;have Zj:Hid (bY s (a+(k+1))=b):=by rw [←jk s _ hix];exact hb
    have hb2:b<256:=by rw [←Zj.out];exact pV _ _
    go_wp2_with fail;go_round
    case rel=>exact ⟨k+1,by omega,by go_num,by rw [HA.out,Zj.out];go_num⟩
    case measure=>simp [intOf];omega
  · have hk2:k=1:=by omega
    subst hk2;have hRl:=GR s a (c % 32) (by omega) 1 (by omega);obtain ⟨R,hR⟩:∃R,lC s a (c % 32) 1=R:=⟨_,rfl⟩;rw [hR]at hRl⊢;have hRr:R=r:=by rw [HR.out,←hR,HB.out];simp only [lC,Nat.add_zero]
    rw [←hRr]at MF;clear hR hRr;by_cases hg:True
    · have HE:Hid (jA s a=⟨R,a,2⟩):=by
       show _=_;unfold jA;rw [MF.out,if_pos (by simp)]
      clear MF
      skip
      all_goals
       go_wp2_with fail
      all_goals
       refine qA (q:=jA s a) (v:= .agg #[.int .i32 R, .int .i64 a, .int .i64 2, .bool true]) (by simp [results,results223,go_sem]) rfl ?_ ⟨rfl,(((Below.refl _ _).alloc (Nat.le_refl _) _).alloc (by simp) _)⟩;rw [HE.out];have:(⟨R,a,2⟩:Pt).ok=true:=by simp [Pt.ok]
       unfold QC;rw [this];rfl
    · exact absurd trivial hg
theorem QE (s:ByteArray) (a:Nat) (w:World) (hs:s.size≤2000000) (h:a<s.size) (h0:224≤bY s a∧bY s a<240):
 Calls prog 223 #[.string s, .int .i64 a] w fun e w' =>e= .returned (QC (jA s a))∧Below w.heap.size w w' :=by
 obtain ⟨r,hr⟩:∃r,r=bY s a % 16*4096+bY s (a+1) % 64*64+bY s (a+2) % 64:=⟨_,rfl⟩;have HD:=Lib.hid (PL s a h h0 r hr);have hcc:=fun w=>Dz s (a+1) 2 w hs (by omega) (by omega) (by omega)
 obtain ⟨c,hc⟩:∃c,s[a].toNat=c:=⟨_,rfl⟩;have hcb:bY s a=c:=by rw [←jk s _ h];exact hc
 rw [hcb]at h0;obtain ⟨h01,h02⟩:=h0;have HR:Hid (r=bY s a % 16*4096+bY s (a+1) % 64*64+bY s (a+2) % 64):=hr;have HB:Hid (bY s a=c):=hcb;clear hr hcb;have Zi:decide ((c:Int)<128)=false:=decide_eq_false (by omega);have acB:decide ((c:Int)<224)=false:=decide_eq_false (by omega)
 have hand:bits .and .i32 (c:Int) 15=((c % 16:Nat):Int):=by
  have:=bits_mask .i32 31 (by decide) (fun n h0 h1=>wraps_i32 n h0 h1) 4 (by decide) (c:Int) (by omega) (by omega);simpa using this
 cases hcont:jG s (a+1) 2
 · have HE:Hid (jA s a=⟨65533,a,1⟩):=by
    have:=HD.out;rw [hcont]at this;show _=_;unfold jA;rw [this];rfl
   rw [hcont]at hcc;clear hcont HD;go_enter func223,ntmps223;go_wp2_with (go_at_call 288;refine (hcc _).mono ?_;rintro e w' ⟨rfl,rfl⟩);refine qA (q:=jA s a) (v:= .agg #[.int .i32 65533, .int .i64 a, .int .i64 1, .bool false]) (by simp [results,results223,go_sem]) rfl ?_ ⟨rfl,(((Below.refl _ _).alloc (Nat.le_refl _) _).alloc (by simp) _)⟩;rw [HE.out];rfl
 have MF:Hid (Utf8.decode s a=if (true&& !(decide (r<2048)||(decide (55296≤r)&&decide (r<57344))))then (r,3)else (65533,1)):=by
  have:=HD.out;rw [hcont]at this
  skip
  exact this
 rw [hcont]at hcc
 have HC:Hid (a+2<s.size):=by
  rw [FN,Bool.and_eq_true]at hcont;exact (of_decide_eq_true hcont.2).1
 clear hcont HD;go_enter func223,ntmps223;go_wp2_with (go_at_call 288;refine (hcc _).mono ?_;rintro e w' ⟨rfl,rfl⟩)
 go_loop [8,9] (fun r i=>∃k:Nat,k≤2∧i= .int .i64 (k+1:Nat)∧r= .int .i32 (lC s a (c % 16) k:Nat)) (fun _ i=>8 - (intOf i).toNat)
 case atStart=>exact ⟨0,by omega,rfl,by show Value.int _ _=Value.int _ (((c % 16:Nat)):Int);go_num⟩
 case round=>
  obtain ⟨k,hk,rfl,rfl⟩:=hrel;by_cases hlt:k<2
  · have hix:a+(k+1)<s.size:=by have:=HC.out;omega
    have hacc:=GU s a (c % 16) (by omega) k (by omega);obtain ⟨A,hA⟩:∃A,lC s a (c % 16) k=A:=⟨_,rfl⟩;have HA:Hid (lC s a (c % 16) (k+1)=A*64+bY s (a+(k+1)) % 64):=by show _=_;rw [←hA];rfl
    rw [hA]at hacc⊢;clear hA;obtain ⟨b,hb⟩:∃b,s[a+(k+1)].toNat=b:=⟨_,rfl⟩;have Zj:Hid (bY s (a+(k+1))=b):=by rw [←jk s _ hix];exact hb
    have hb2:b<256:=by rw [←Zj.out];exact pV _ _
    go_wp2_with fail;go_round
    case rel=>exact ⟨k+1,by omega,by go_num,by rw [HA.out,Zj.out];go_num⟩
    case measure=>simp [intOf];omega
  · have hk2:k=2:=by omega
    subst hk2;have hRl:=GR s a (c % 16) (by omega) 2 (by omega);obtain ⟨R,hR⟩:∃R,lC s a (c % 16) 2=R:=⟨_,rfl⟩;rw [hR]at hRl⊢;have hRr:R=r:=by rw [HR.out,←hR,HB.out];simp only [lC,Nat.add_zero,Nat.add_assoc,Nat.reduceAdd];omega
    rw [←hRr]at MF;clear hR hRr;by_cases hg:(2048≤R∧(R<55296∨57344≤R))
    · have HE:Hid (jA s a=⟨R,a,3⟩):=by
       show _=_;unfold jA;rw [MF.out,if_pos (by simp;omega)]
      clear MF;rcases hg with ⟨hg1,hg2|hg2⟩
      all_goals
       go_wp2_with fail
      all_goals
       refine qA (q:=jA s a) (v:= .agg #[.int .i32 R, .int .i64 a, .int .i64 3, .bool true]) (by simp [results,results223,go_sem]) rfl ?_ ⟨rfl,(((Below.refl _ _).alloc (Nat.le_refl _) _).alloc (by simp) _)⟩;rw [HE.out];have:(⟨R,a,3⟩:Pt).ok=true:=by simp [Pt.ok]
       unfold QC;rw [this];rfl
    · have HE:Hid (jA s a=⟨65533,a,1⟩):=by
       show _=_;unfold jA;rw [MF.out,if_neg (by simp;omega)]
      clear MF;have hg2:(R<2048)∨(55296≤R∧R<57344):=by omega
      clear hg;rcases hg2 with hg|⟨hg1,hg3⟩
      all_goals
       go_wp2_with fail
      all_goals
       refine qA (q:=jA s a) (v:= .agg #[.int .i32 65533, .int .i64 a, .int .i64 1, .bool false]) (by simp [results,results223,go_sem]) rfl ?_ ⟨rfl,(((Below.refl _ _).alloc (Nat.le_refl _) _).alloc (by simp) _)⟩;rw [HE.out];rfl
theorem Ux (s:ByteArray) (a:Nat) (w:World) (hs:s.size≤2000000) (h:a<s.size) (h0:240≤bY s a∧bY s a<245):
 Calls prog 223 #[.string s, .int .i64 a] w fun e w' =>e= .returned (QC (jA s a))∧Below w.heap.size w w' :=by
 obtain ⟨r,hr⟩:∃r,r=bY s a % 8*262144+bY s (a+1) % 64*4096+bY s (a+2) % 64*64+bY s (a+3) % 64:=⟨_,rfl⟩;have HD:=Lib.hid (Tc s a h h0 r hr);have hcc:=fun w=>Dz s (a+1) 3 w hs (by omega) (by omega) (by omega)
 obtain ⟨c,hc⟩:∃c,s[a].toNat=c:=⟨_,rfl⟩;have hcb:bY s a=c:=by rw [←jk s _ h];exact hc
 rw [hcb]at h0;obtain ⟨h01,h02⟩:=h0;have HR:Hid (r=bY s a % 8*262144+bY s (a+1) % 64*4096+bY s (a+2) % 64*64+bY s (a+3) % 64):=hr;have HB:Hid (bY s a=c):=hcb;clear hr hcb;have Zi:decide ((c:Int)<128)=false:=decide_eq_false (by omega);have acB:decide ((c:Int)<224)=false:=decide_eq_false (by omega);have agS:decide ((c:Int)<240)=false:=decide_eq_false (by omega)
 have hand:bits .and .i32 (c:Int) 7=((c % 8:Nat):Int):=by
  have:=bits_mask .i32 31 (by decide) (fun n h0 h1=>wraps_i32 n h0 h1) 3 (by decide) (c:Int) (by omega) (by omega);simpa using this
 cases hcont:jG s (a+1) 3
 · have HE:Hid (jA s a=⟨65533,a,1⟩):=by
    have:=HD.out;rw [hcont]at this;show _=_;unfold jA;rw [this];rfl
   rw [hcont]at hcc;clear hcont HD;go_enter func223,ntmps223;go_wp2_with (go_at_call 288;refine (hcc _).mono ?_;rintro e w' ⟨rfl,rfl⟩);refine qA (q:=jA s a) (v:= .agg #[.int .i32 65533, .int .i64 a, .int .i64 1, .bool false]) (by simp [results,results223,go_sem]) rfl ?_ ⟨rfl,(((Below.refl _ _).alloc (Nat.le_refl _) _).alloc (by simp) _)⟩;rw [HE.out];rfl
 have MF:Hid (Utf8.decode s a=if (true&& !(decide (r<65536)||decide (1114111<r)))then (r,4)else (65533,1)):=by
  have:=HD.out;rw [hcont]at this
  skip
  exact this
 rw [hcont]at hcc
 have HC:Hid (a+3<s.size):=by
  rw [Bg,Bool.and_eq_true,Bool.and_eq_true]at hcont;exact (of_decide_eq_true hcont.2).1
 clear hcont HD;go_enter func223,ntmps223;go_wp2_with (go_at_call 288;refine (hcc _).mono ?_;rintro e w' ⟨rfl,rfl⟩)
 go_loop [8,9] (fun r i=>∃k:Nat,k≤3∧i= .int .i64 (k+1:Nat)∧r= .int .i32 (lC s a (c % 8) k:Nat)) (fun _ i=>8 - (intOf i).toNat)
 case atStart=>exact ⟨0,by omega,rfl,by show Value.int _ _=Value.int _ (((c % 8:Nat)):Int);go_num⟩
 case round=>
  obtain ⟨k,hk,rfl,rfl⟩:=hrel;by_cases hlt:k<3
  · have hix:a+(k+1)<s.size:=by have:=HC.out;omega
    have hacc:=GU s a (c % 8) (by omega) k (by omega);obtain ⟨A,hA⟩:∃A,lC s a (c % 8) k=A:=⟨_,rfl⟩;have HA:Hid (lC s a (c % 8) (k+1)=A*64+bY s (a+(k+1)) % 64):=by show _=_;rw [←hA];rfl
    rw [hA]at hacc⊢;clear hA;obtain ⟨b,hb⟩:∃b,s[a+(k+1)].toNat=b:=⟨_,rfl⟩;have Zj:Hid (bY s (a+(k+1))=b):=by rw [←jk s _ hix];exact hb
    have hb2:b<256:=by rw [←Zj.out];exact pV _ _
    go_wp2_with fail;go_round
    case rel=>exact ⟨k+1,by omega,by go_num,by rw [HA.out,Zj.out];go_num⟩
    case measure=>simp [intOf];omega
  · have hk2:k=3:=by omega
    subst hk2;have hRl:=GR s a (c % 8) (by omega) 3 (by omega);obtain ⟨R,hR⟩:∃R,lC s a (c % 8) 3=R:=⟨_,rfl⟩;rw [hR]at hRl⊢;have hRr:R=r:=by rw [HR.out,←hR,HB.out];simp only [lC,Nat.add_zero,Nat.add_assoc,Nat.reduceAdd];omega
    rw [←hRr]at MF;clear hR hRr;by_cases hg:(65536≤R∧R≤1114111)
    · have HE:Hid (jA s a=⟨R,a,4⟩):=by
       show _=_;unfold jA;rw [MF.out,if_pos (by simp;omega)]
      clear MF;obtain ⟨hg1,hg2⟩:=hg
      all_goals
       go_wp2_with fail
      all_goals
       refine qA (q:=jA s a) (v:= .agg #[.int .i32 R, .int .i64 a, .int .i64 4, .bool true]) (by simp [results,results223,go_sem]) rfl ?_ ⟨rfl,(((Below.refl _ _).alloc (Nat.le_refl _) _).alloc (by simp) _)⟩;rw [HE.out];have:(⟨R,a,4⟩:Pt).ok=true:=by simp [Pt.ok]
       unfold QC;rw [this];rfl
    · have HE:Hid (jA s a=⟨65533,a,1⟩):=by
       show _=_;unfold jA;rw [MF.out,if_neg (by simp;omega)]
      clear MF;have hg2:(R<65536)∨(1114111<R):=by omega
      clear hg;rcases hg2 with hg|hg
      all_goals
       go_wp2_with fail
      all_goals
       refine qA (q:=jA s a) (v:= .agg #[.int .i32 65533, .int .i64 a, .int .i64 1, .bool false]) (by simp [results,results223,go_sem]) rfl ?_ ⟨rfl,(((Below.refl _ _).alloc (Nat.le_refl _) _).alloc (by simp) _)⟩;rw [HE.out];rfl
theorem Uy (s:ByteArray) (a:Nat) (w:World) (hs:s.size≤2000000) (h:a<s.size):
 Calls prog 223 #[.string s, .int .i64 a] w fun e w' =>e= .returned (QC (jA s a))∧Below w.heap.size w w' :=by
 by_cases h1:bY s a<128
 · exact QD s a w hs h h1
 · by_cases h2:bY s a<194∨245≤bY s a
   · exact XT s a w hs h (by omega) h2
   · by_cases h3:bY s a<224
     · exact XU s a w hs h (by omega)
     · by_cases h4:bY s a<240
       · exact QE s a w hs h (by omega)
       · exact Ux s a w hs h (by omega)
def kQ (p:Pt):List Value:= [.int .i32 p.r, .int .i64 p.at_, .int .i64 p.n, .bool p.ok]
def sH (l:List Pt):List Value:=l.flatMap kQ
theorem MG (l:List Pt) (p:Pt):sH l++kQ p=sH (l++ [p]):=by simp [sH]
theorem lG:∀(l:List Pt) (k j:Nat) (h:k<l.length) (_:j<4),(sH l)[k*4+j]? =(kQ l[k])[j]?
 |p::l,0,j,_,hj=>by
  simp only [sH,List.flatMap_cons,Nat.zero_mul,Nat.zero_add,List.getElem_cons_zero];rw [List.getElem?_append_left (by simp [kQ];omega)]
 |p::l,k+1,j,h,hj=>by
  have:=lG l k j (by simp at h;omega) hj;simp only [sH,List.flatMap_cons,List.getElem_cons_succ]at this⊢;rw [List.getElem?_append_right (by simp [kQ];omega)];have e:(k+1)*4+j - (kQ p).length=k*4+j:=by simp [kQ];omega
  rw [e];exact this
theorem Tryz.acC:(prog.info? 300).map (fun i=>(i.zero,i.size,i.bytes))=some (some (.agg #[.int .i32 0, .int .i64 0, .int .i64 0, .bool false]),4,32):=by kernel_rfl
theorem XV (w1:World) (X:Obj) (q:Pt) (t:TypeId):∀j u,(kQ q)[j]? =some u→((w1.alloc X).alloc (.cells #[.int .i32 q.r, .int .i64 q.at_, .int .i64 q.n, .bool q.ok] t)).cell? ((⟨w1.heap.size+1,0,none⟩:Addr).add j)=some u:=by
 have:=vV (w1.alloc X) (kQ q) t;have e:(w1.alloc X).heap.size=w1.heap.size+1:=by simp
 rw [e]at this;exact this
theorem Ku (q:Pt):∀u∈kQ q,u.oneCell' =true:=by
 intro u hu;simp [kQ]at hu;rcases hu with rfl|rfl|rfl|rfl<;>rfl
theorem QF (s:ByteArray):∀n pos,s.size - pos≤n→(dD s pos).length≤s.size - pos:=by
 intro n
 induction n with
 |zero=>intro pos h;rw [bI s pos (by omega)];simp
 |succ n ih=>
  intro pos h;by_cases hp:pos<s.size
  · have:=width_pos s pos hp;have:=ih (pos+(Utf8.decode s pos).2) (by omega);rw [bq s pos hp];simp;omega
  · rw [bI s pos hp];simp
theorem XW (s:ByteArray):(pts s).length≤s.size:=by have:=QF s s.size 0 (by omega);rw [iD];omega
theorem DC (s:ByteArray) (w:World) (hs:s.size≤2000000):
 Calls prog 150 #[.string s] w fun e w' =>(∃v,e= .returned v∧w'.ownsRow w.heap.size 300 4 v (pts s).length (sH (pts s)))∧Below w.heap.size w w' :=by
 obtain ⟨i0,hi,hz0,hz1,hz2⟩:=info_parts Tryz.acC;go_enter func150,ntmps150;go_wp2_with fail
 go_loopw [3,4] (fun v a wr=>∃(pos:Nat) (done:List Pt),a= .int .i64 pos∧wr.ownsRow w.heap.size 300 4 v done.length (sH done)∧Below w.heap.size w wr∧Hid (pts s=done++dD s pos)∧done.length≤pos∧pos≤s.size) (fun _ a _=>s.size - (intOf a).toNat)
 case atStart=>exact ⟨0, [],rfl,World.ownsRow_nil _ _ _ _,Below.refl _ _,rfl,by simp,by omega⟩
 case round=>
  obtain ⟨pos,done,rfl,hown,hbw,HS,hd,hpos⟩:=hrel;by_cases hp:pos<s.size
  · have hone:=Uy s pos wr hs hp;have hwd:=width_pos s pos hp;have hwl:=width_le s pos hp;have hsz:=hbw.size;have HPt:Hid (jA s pos=⟨(Utf8.decode s pos).1,pos,(Utf8.decode s pos).2⟩):=rfl
    have HS2:Hid (pts s=(done++ [jA s pos])++dD s (pos+(Utf8.decode s pos).2)):=by
     show _=_;rw [HS.out,bq s pos hp];simp [jA]
    obtain ⟨q,hq⟩:∃q,jA s pos=q:=⟨_,rfl⟩;have hq3:(Utf8.decode s pos).2=q.n:=by rw [←hq];rfl
    rw [hq]at hone HS2;rw [hq3]at hwd hwl HS2;clear hq hq3 HPt HS;unfold QC at hone
    go_wp2_with (first
     |(go_at_call 223;refine hone.mono ?_;rintro e w1 ⟨rfl,hb1⟩;have hown1:=ownsRow_below hown hb1;have acD:=hbw.trans (hb1.mono hsz);have hsz1:=hb1.size;clear hb1 hown hbw hone)
     |(at_builtin;refine wpList_append_own _ rfl _ _ 231 rfl w.heap.size 300 i0 (.agg #[.int .i32 0, .int .i64 0, .int .i64 0, .bool false]) 4 32 underlying231 hi hz0 hz1 hz2 rfl (by decide) _ _ _ rfl ((hown1.alloc _).alloc _) ⟨w1.heap.size+1,0,none⟩ 1 1 (kQ q) rfl rfl (XV _ _ _ _) (Ku q) (by unfold maxLen;omega) (by omega) (by simp;omega) ?_;intro v' w2 hown2 hg2 _;
       rw [MG]at hown2
       have hx2:w2.cell? ⟨w1.heap.size,2,none⟩=some (.int .i64 q.n):=by
        refine hg2.cell ?_ ?_
        · rw [aj (ay (aB w1 _) _)];rfl
        · intro h;have:=hown1.lt _ h.symm;simp at this
       have hbw2:Below w.heap.size w w2:=((acD.alloc (by omega) _).alloc (by simp;omega) _).grown hg2 (by simp;omega) (fun k hk=>(hown1.lt _ hk).1);clear hown1 hg2 acD hi hz0 hz1 hz2))
    have hl2:(done++ [q]).length=done.length+1:=by simp
    go_roundw
    case rel=>
     refine ⟨pos+q.n,done++ [q], ?_, ?_,hbw2,HS2, ?_,hwl⟩
     · go_num
     · rw [hl2];exact hown2
     · rw [hl2];omega
    case measure=>simp [intOf];omega
  · have HF:Hid (pts s=done):=by show _=_;rw [HS.out,bI s pos hp];simp
    clear HS;go_wp2_with fail;go_ret;exact ⟨⟨_,rfl,by rw [HF.out];exact hown⟩,hbw⟩
namespace aK
theorem aN {w:World}{B:Nat}{e:TypeId}{sz:Nat}{v:Value}{n:Nat}{xs:List Value}(h:w.ownsRow B e sz v n xs):
 ∃a cap,v= .slice a n cap∧(0<n→∃g,a=some ⟨g,0,none⟩∧B≤g∧g<w.heap.size∧∀j u,xs[j]? =some u→w.cell? ⟨g,j,none⟩=some u):=by
 obtain ⟨h1,h2⟩:=h;rcases h2 with ⟨rfl,rfl⟩|⟨g,cap,cur,rfl,hg,hh,hn,hc,hs,ht⟩
 · exact ⟨none,0,rfl,fun h=>absurd h (by omega)⟩
 · refine ⟨_,cap,rfl,fun _=>⟨g,rfl,hg,aG hh,fun j u hj=> ?_⟩⟩;exact aM ⟨h1, .inr ⟨g,cap,cur,rfl,hg,hh,hn,hc,hs,ht⟩⟩ j u hj
end aK
theorem MH (s:ByteArray) (w:World) (hs:s.size≤2000000):
 Calls prog 86 #[.string s] w fun e w' =>e= .returned (.int .i64 (pts s).length)∧Below w.heap.size w w' :=by
 have ha:=DC s w hs;go_enter func86,ntmps86;go_wp2_with fail;refine ha.mono ?_;rintro e w1 ⟨⟨v,rfl,hown⟩,hb⟩;obtain ⟨a,cap,rfl,_⟩:=aN hown;go_wp2_with fail;go_ret;exact ⟨rfl,hb⟩
theorem DF (s:ByteArray) (w:World) (hs:s.size≤2000000):
 Calls prog 293 #[.string s] w fun e w' =>e= .returned (.bool (valid s))∧Below w.heap.size w w' :=by
 have ha:=DC s w hs;have hpl:=XW s;go_enter func293,ntmps293;go_wp2_with fail;refine ha.mono ?_;rintro e w1 ⟨⟨v,rfl,hown⟩,hb⟩;obtain ⟨a,cap,rfl,hr⟩:=aN hown;have Hr:=Lib.hid hr;clear ha hown hr;go_wp2_with fail
 go_loop [4] (fun v=>∃k:Nat,k≤(pts s).length∧v= .int .i64 k∧Hid (valid s=((pts s).drop k).all Pt.ok)) (fun v=>(pts s).length - (intOf v).toNat)
 case atStart=>exact ⟨0,by omega,rfl,rfl⟩
 case round=>
  obtain ⟨k,hk,rfl,HS⟩:=hrel;by_cases hlt:k<(pts s).length
  · obtain ⟨g,rfl,_,hg,hc⟩:=Hr.out (by omega);have hcell:w1.cell? ⟨g,k*4+3,none⟩=some (.bool (pts s)[k].ok):=hc _ _ (by rw [lG _ _ _ hlt (by omega)];rfl)
    have HS2:Hid (valid s=((pts s)[k].ok&&((pts s).drop (k+1)).all Pt.ok)):=by
     show _=_;rw [HS.out,List.drop_eq_getElem_cons hlt,List.all_cons]
    clear hc HS;cases hok:(pts s)[k].ok
    all_goals
     rw [hok]at hcell HS2;clear hok;go_wp2_with fail
    · go_ret;exact ⟨aR (by rw [HS2.out];rfl),hb⟩
    · go_round
      case rel=>exact ⟨k+1,by omega,by go_num,by show _=_;rw [HS2.out];simp⟩
      case measure=>simp [intOf];omega
  · have HF:Hid (valid s=true):=by show _=_;rw [HS.out,List.drop_eq_nil_of_le (by omega)];rfl
    clear HS;go_wp2_with fail;go_ret;exact ⟨aR HF.out.symm,hb⟩
theorem Bz (p:Pt) (w:World) (v:Value) (hv:v= .agg #[.int .i32 p.r, .int .i64 p.at_, .int .i64 p.n, .bool p.ok]):
 Calls prog 289 #[v] w fun e w' =>e= .returned (.bool (dV p.r&&p.ok))∧Below w.heap.size w w' :=by
 subst hv;obtain ⟨r,hr⟩:∃r:Nat,p.r=r:=⟨_,rfl⟩;rw [hr];obtain ⟨ok,hok⟩:∃ok,p.ok=ok:=⟨_,rfl⟩;rw [hok];clear hr hok;cases ok
 all_goals
  go_enter func289,ntmps289;go_wp2_with fail
 all_goals go_ret
 all_goals refine ⟨aR ?_,(Below.refl _ _).alloc (Nat.le_refl _) _⟩
 all_goals (unfold dV;rw [Bool.eq_iff_iff];simp;try omega)
theorem QG (s:ByteArray) (w:World) (hs:s.size≤2000000):
 Calls prog 291 #[.string s] w fun e w' =>e= .returned (.string (fold s))∧Below w.heap.size w w' :=by
 have Kl:=run_bytes_of_string (P:=prog) w 9 186 5 s underlying9 underlying186 underlying5;obtain ⟨cap,hcap⟩:∃cap,grownCap w s.size 0 5=cap:=⟨_,rfl⟩;rw [hcap]at Kl;have hce:s.size≤cap:=by rw [←hcap];exact grownCap_ge w s.size 0 5
 clear hcap;obtain ⟨C,hC⟩:∃C,bytesRow s cap=C:=⟨_,rfl⟩;rw [hC]at Kl;have hCs:s.size≤C.size:=by rw [←hC];simp [bytesRow]
 have HC:Hid (∀j (hj:j<s.data.size),C[j]? =some (.int .u8 (s.data[j].toNat:Int))):=fun j hj=>by rw [←hC];exact bytesRow_at s cap j hj
 clear hC;go_enter func291,ntmps291
 go_wp2
 go_loopw [4] (fun v wr=>∃(k:Nat) (D:Array Value),k≤s.size∧v= .int .i64 k∧Below w.heap.size w wr∧wr.heap[w.heap.size]? =some (.cells D 5 (C.size,C.size+1))∧D.size=C.size∧Hid (∀j (hj:j<s.data.size),D[j]? =some (.int .u8 (if j<k then ((pQ s.data[j]).toNat:Int)else (s.data[j].toNat:Int))))) (fun v _=>s.size - (intOf v).toNat)
 case atStart=>exact ⟨0,C,by omega,rfl,((Below.refl _ _).alloc (Nat.le_refl _) _).drew,aB w _,rfl,fun j hj=>by rw [HC.out j hj];simp⟩
 case round=>
  obtain ⟨k,D,hk,rfl,hbw,hblk,hDs,HD⟩:=hrel;by_cases hlt:k<s.size
  · have hc0:wr.cell? ⟨w.heap.size,k,none⟩=some (.int .u8 (s.data[k].toNat:Int)):=by rw [aj hblk,HD.out k hlt];simp
    have hf0:wr.frozen? ⟨w.heap.size,k,none⟩=false:=Dx hblk k (by omega);have hlow:=yg s.data[k];obtain ⟨c,hc⟩:∃c,s.data[k]=c:=⟨_,rfl⟩;rw [hc]at hc0 hlow;have hb:=c.toNat_lt;have HL:Hid ((pQ c).toNat=if 65≤c.toNat∧c.toNat≤90 then c.toNat+32 else c.toNat):=hlow;have HCe:Hid (s.data[k]=c):=hc;clear hlow hc
    go_wp2
    all_goals (
     go_roundw
     case measure=>simp [intOf];omega)
    case rel=>
     refine ⟨k+1,_,by omega,by go_num,hbw.setCell (by simp) _,bG hblk _ _,by simp [hDs],fun j hj=> ?_⟩;have h1:=HD.out j hj;by_cases hjk:j=k
     · subst hjk;rw [Array.getElem?_setIfInBounds_self_of_lt (by omega),if_pos (by omega),HCe.out,HL.out,if_pos ⟨by omega,by omega⟩];simp
     · rw [Array.getElem?_setIfInBounds_ne (Ne.symm hjk),h1];by_cases h2:j<k
       · rw [if_pos h2,if_pos (by omega)]
       · rw [if_neg h2,if_neg (by omega)]
    all_goals
     refine ⟨k+1,D,by omega,by go_num,hbw,hblk,hDs,fun j hj=> ?_⟩;have h1:=HD.out j hj;by_cases hjk:j=k
     · subst hjk;rw [h1,if_neg (by omega),if_pos (by omega),HCe.out,HL.out,if_neg (by omega)]
     · rw [h1];by_cases h2:j<k
       · rw [if_pos h2,if_pos (by omega)]
       · rw [if_neg h2,if_neg (by omega)]
  · have hc0:∀j (hj:j<(s.data.map pQ).toList.length),wr.cell? ((⟨w.heap.size,0,none⟩:Addr).add j)=some (.int .u8 ((s.data.map pQ).toList[j].toNat:Int)):=fun j hj=>by
     simp at hj;rw [jO,Nat.zero_add];rw [aj hblk,HD.out j hj,if_pos (by have:s.data.size=s.size:=rfl;omega)];simp
    have hback:=run_convert_bytes_back (P:=prog) wr 186 9 5 ⟨w.heap.size,0,none⟩ cap (s.data.map pQ).toList underlying186 underlying5 underlying9 hc0;have hl:(s.data.map pQ).toList.length=s.size:=by simp
    rw [hl]at hback;clear hc0 hl
    go_wp2
    go_ret;exact ⟨Ib (by unfold fold;congr 1;apply Array.ext';simp),hbw⟩
theorem E9 (s:ByteArray) (f:Int) (w:World) (_hs:s.size≤2000000) (h:¬(0≤f∧f<s.size∧s.data.toList[f.toNat]? =some 39)):
 Calls prog 292 #[.string s, .int .i64 f] w fun e w' =>e= .returned (LZ (bV s f))∧w=w' :=by
 have HE:Hid (bV s f=none):=by show _=_;unfold bV;rw [if_neg h]
 have HH:Hid (¬(0≤f∧f<s.size∧s.data.toList[f.toNat]? =some 39)):=h;clear h;by_cases h1:f<0
 · go_enter func292,ntmps292;go_wp2_with fail;go_ret3;exact ⟨by rw [HE.out];rfl,rfl⟩
 · by_cases h2:(s.size:Int)≤f
   · go_enter func292,ntmps292;go_wp2_with fail;go_ret3;exact ⟨by rw [HE.out];rfl,rfl⟩
   · obtain ⟨n,rfl⟩:=Int.eq_ofNat_of_zero_le (show 0≤f by omega);have hn:n<s.size:=by omega
     have hn2:n<s.data.toList.length:=by simp;exact hn
     have h3:((s[n].toNat:Int) !=39)=true:=by
      have:=HH.out;rw [Int.toNat_natCast,List.getElem?_eq_getElem hn2]at this;have h4:¬s.data.toList[n]=39:=fun e=>this ⟨by omega,by omega,by rw [e]⟩
      have h5:s[n]=s.data.toList[n]:=by simp;rfl
      rw [h5];have:s.data.toList[n].toNat≠39:=fun e=>h4 (UInt8.toNat_inj.1 e)
      exact bne_iff_ne.2 (by omega)
     clear HH;go_enter func292,ntmps292;go_wp2_with fail;go_ret3;exact ⟨by rw [HE.out];rfl,rfl⟩
theorem Fa (s:ByteArray) (n:Nat) (w:World) (hs:s.size≤2000000) (hn:n<s.size) (h3:s.data.toList[n]? =some 39):
 Calls prog 292 #[.string s, .int .i64 n] w fun e w' =>e= .returned (LZ (bV s n))∧w=w' :=by
 have hl:s.data.toList.length=s.size:=by simp
 have HE:Hid (bV s n=(lW (s.data.toList.drop (n+1))).map fun x=>(⟨x.1.toArray⟩,(n:Int)+1+x.2)):=by
  show _=_;unfold bV;rw [if_pos ⟨by omega,by omega,by rw [Int.toNat_natCast];exact h3⟩];rfl
 have h4:((s[n].toNat:Int) !=39)=false:=by
  rw [List.getElem?_eq_getElem (by omega)]at h3;rw [←kJ s n hn (by omega),Option.some.inj h3];rfl
 have Hl:Hid (s.data.toList.length=s.size):=hl;clear h3 hl;have h5:decide (s.size≤n)=false:=decide_eq_false (by omega);have h6:decide ((n:Int)<0)=false:=decide_eq_false (by omega);go_enter func292,ntmps292;go_wp2_with fail
 go_loop [7,8] (fun q v=>∃(k:Nat) (done:List UInt8) (X:ByteArray),v= .int .i64 k∧q= .string X∧n+1≤k∧k≤s.size∧X.size≤k∧Hid (X=⟨done.toArray⟩)∧Hid (lW (s.data.toList.drop (n+1))=(lW (s.data.toList.drop k)).map fun x=>(done++x.1,x.2+(k - (n+1))))) (fun _ v=>s.size+1 - (intOf v).toNat)
 case atStart=>exact ⟨n+1, [],⟨#[]⟩,by go_num,rfl,by omega,by omega,by show 0≤n+1;omega,rfl,by show _=_;simp⟩
 case round=>
  obtain ⟨k,done,X,rfl,rfl,hk1,hk2,hX,HX,HS⟩:=hrel;by_cases hlt:k<s.size
  · have hlt2:k<s.data.toList.length:=by have:=Hl.out;omega
    by_cases hq:s[k]=39
    · have hq1:((s[k].toNat:Int) !=39)=false:=by rw [hq];rfl
      have Hq:Hid (s.data.toList[k]=39):=by show _=_;rw [kJ s k hlt];exact hq
      clear hq;by_cases hend:(s.size:Int)≤(k:Int)+1
      · have HF:Hid (bV s n=some (⟨done.toArray⟩,(k:Int)+1)):=by
         show _=_;rw [HE.out,HS.out,Jy hlt2 Hq.out (by have:=Hl.out;omega)];simp;omega
        go_wp2_with fail;go_ret3;exact ⟨by rw [HF.out,HX.out];rfl,rfl⟩
      · have Kq:k+1<s.size:=by omega
        have Kr:k+1<s.data.toList.length:=by have:=Hl.out;omega
        by_cases hq2:s[k+1]=39
        · have aak:((s[k+1].toNat:Int) !=39)=false:=by rw [hq2];rfl
          have HF:Hid (lW (s.data.toList.drop (n+1))=(lW (s.data.toList.drop (k+2))).map fun x=>((done++ [39])++x.1,x.2+(k+2 - (n+1)))):=by
           show _=_;rw [HS.out,Ob hlt2 Hq.out Kr (by rw [kJ s (k+1) Kq];exact hq2)];cases lW (s.data.toList.drop (k+2))with
           |none=>rfl
           |some x=>simp;omega
          clear hq2 HS;go_wp2_with fail;go_round
          case rel=>
           refine ⟨k+2,done++ [39],_,by go_num,rfl,by omega,by omega,by simp only [ByteArray.size_append',ByteArray.size_mk',List.size_toArray,List.length_cons,List.length_nil];omega, ?_,HF⟩;show _=_;rw [HX.out];apply ByteArray.ext;apply Array.ext';simp
          case measure=>simp [intOf];omega
        · have aak:((s[k+1].toNat:Int) !=39)=true:=by
           have:s[k+1].toNat≠39:=fun e=>hq2 (UInt8.toNat_inj.1 e)
           exact bne_iff_ne.2 (by omega)
          have HF:Hid (bV s n=some (⟨done.toArray⟩,(k:Int)+1)):=by
           show _=_;rw [HE.out,HS.out,Jz hlt2 Hq.out Kr (by rw [kJ s (k+1) Kq];exact hq2)];simp;omega
          clear hq2;go_wp2_with fail;go_ret3;exact ⟨by rw [HF.out,HX.out];rfl,rfl⟩
    · have hq1:((s[k].toNat:Int) !=39)=true:=by
       have:s[k].toNat≠39:=fun e=>hq (UInt8.toNat_inj.1 e)
       exact bne_iff_ne.2 (by omega)
      have HF:Hid (lW (s.data.toList.drop (n+1))=(lW (s.data.toList.drop (k+1))).map fun x=>((done++ [s[k]])++x.1,x.2+(k+1 - (n+1)))):=by
       show _=_;rw [HS.out,FK hlt2 (by rw [kJ s k hlt];exact hq)];cases lW (s.data.toList.drop (k+1))with
       |none=>rfl
       |some x=>simp;exact ⟨rfl,by omega⟩
      have hex:s.extract k (k+1)=⟨#[s[k]]⟩:=JA s k hlt;clear hq HS;go_wp2_with fail;go_round
      case rel=>
       refine ⟨k+1,done++ [s[k]],_,by go_num,rfl,by omega,by omega,by simp only [ByteArray.size_append',ByteArray.size_mk',List.size_toArray,List.length_cons,List.length_nil];omega, ?_,HF⟩;show _=_;rw [HX.out];apply ByteArray.ext;apply Array.ext';simp
      case measure=>simp [intOf];omega
  · have HF:Hid (bV s n=none):=by
     show _=_;rw [HE.out,HS.out,Oa (by have:=Hl.out;omega)];rfl
    go_wp2_with fail;go_ret3;exact ⟨by rw [HF.out];rfl,rfl⟩
theorem Ii (s:ByteArray) (f:Int) (w:World) (hs:s.size≤2000000):
 Calls prog 292 #[.string s, .int .i64 f] w fun e w' =>e= .returned (LZ (bV s f))∧w=w' :=by
 by_cases h:0≤f∧f<s.size∧s.data.toList[f.toNat]? =some 39
 · obtain ⟨h1,h2,h3⟩:=h;obtain ⟨n,rfl⟩:=Int.eq_ofNat_of_zero_le h1;rw [Int.toNat_natCast]at h3;exact Fa s n w hs (by omega) h3
 · exact E9 s f w hs h
def St (w0 w:World):Prop:=Below w0.heap.size w0 w∧Glob w
theorem St.refl {w:World}(h:Glob w):St w w:=⟨Below.refl _ _,h⟩
theorem St.step {w0 w w' :World}(h:St w0 w) (hb:Below w.heap.size w w'):St w0 w' :=⟨h.1.trans (hb.mono h.1.size),h.2.below hb⟩
theorem St.same {w0 w w' :World}(h:St w0 w) (hb:w=w'):St w0 w' :=hb▸h
theorem St.trans {w0 w w' :World}(h:St w0 w) (hb:St w w'):St w0 w' :=⟨h.1.trans (hb.1.mono h.1.size),hb.2⟩
theorem St.drew {w0 w:World}(h:St w0 w):St w0 w.drew:=h.step (Below.refl _ _).drew
theorem St.glob {w0 w:World}(h:St w0 w):Glob w:=h.2
theorem MI (v n:Int) (hn:1≤n):(if v.tmod n<0 then v.tmod n+n else v.tmod n)=v % n:=by
 have h1:=Int.tmod_eq_emod (a:=v) (b:=n);have h2:=Int.emod_nonneg v (show n≠0 by omega);have h3:=Int.emod_lt_of_pos v (show 0<n by omega);rw [h1];split<;>split at * <;>omega
theorem Gd (v n:Int) (w:World) (hn:1≤n) (hn2:n≤1000000000000) (hv0: -9223372036854775808≤v) (hv1:v≤9223372036854775807):
 Calls prog 10 #[.int .i64 v, .int .i64 n] w fun e w' =>e= .returned (.int .i64 (v % n))∧w=w' :=by
 have hp:=Lib.hid (MI v n hn);by_cases h0:0≤v
 · have h2:=Int.emod_nonneg v (show n≠0 by omega);have h3:=Int.emod_lt_of_pos v (show 0<n by omega);clear hv0;go_enter func10,ntmps10;go_wp2_with fail;go_ret;exact ⟨rfl,rfl⟩
 · have hm:v.tmod n≤0:=by have:=Int.tmod_nonneg n (show 0≤ -v by omega);rw [Int.neg_tmod]at this;omega
   have hm2: -n<v.tmod n:=by
    have:=Int.tmod_lt_of_pos (-v) (show 0<n by omega);rw [Int.neg_tmod]at this;omega
   clear hv0 hv1;by_cases hz:v.tmod n<0
   · have HE:Hid (v.tmod n+n=v % n):=by have:=hp.out;rw [if_pos hz]at this;exact this
     go_enter func10,ntmps10;go_wp2_with fail;go_ret;exact ⟨j4 HE.out,rfl⟩
   · have HE:Hid (v.tmod n=v % n):=by have:=hp.out;rw [if_neg hz]at this;exact this
     go_enter func10,ntmps10;go_wp2_with fail;go_ret;exact ⟨j4 HE.out,rfl⟩
open Go.ChangeShapes Go.WideShapes Go.ChangeAt Go.RowKit Go.Shelf
open Go.ChangeMaps (open_string shut_string)
theorem Tryz.own:ownKnob prog.godebug=none:=by kernel_rfl
section
variable {H:Type}{enc:TypeId×Value→H}
theorem Ij {a:Assume}{C:Checked}{os:Os}{f:FuncId}{fn:Func}{s:ChangeSpec}{conds:List PathCond}{apart fresh handsOn again:Bool}{X:World→Array Value→Prop}
 (hX:∀(w w' :World) (args:Array Value),w.heap=w'.heap→X w args→X w' args)
 (own:ownKnob C.prog.godebug=none) (started:os.Started) (noInit:C.prog.inits.idxOf? f=none) (hfn:C.prog.funcs[f]? =some fn)
 (witness:∃(w:World) (tape:Tape) (i:Input),w.os=os∧(w.forCall tape i).Shaped C.prog∧i.vars= []∧Input.okWide C.prog (w.forCall tape i) .any w.heap.size f i∧
  ((s.pre enc C.prog fn conds apart (w.forCall tape i).memory i.args∧X (w.forCall tape i).memory i.args)∧sizedMet enc C.prog fn (OpenSpec.ofChange s) apart (w.forCall tape i).memory i.args)∧a.holds C.prog (lone (Frame.enter C.prog f i.args .normal) [] (w.forCall tape i)))
 (contract:∀(W:World) (base:Nat) (args:Array Value) (ds gs:List (DataW H)) (before:List MemPlace),
  (∀(j:Nat) t v,fn.params[j]? =some t→args[j]? =some v→Value.okWide C.prog W .any base t v)→
  DataW.Whole enc C.prog fn.params.toList s.vars apart W args.toList ds gs before→
  (DataW.weightsEach C.prog (fn.params.toList++s.plain.varTypes C.prog) (ds++gs)).all (· ≤reachBytes)=true→X W args→
  W.ShapedOpen C.prog→
  Calls C.prog f args W fun e W' =>∃v,e= .returned v∧s.post enc C.prog fn apart fresh handsOn again W args v W'):
 ReturnsInHanded a C os f .any (fun w args=>(s.pre enc C.prog fn conds apart w args∧X w args)∧sizedMet enc C.prog fn (OpenSpec.ofChange s) apart w args) (s.post enc C.prog fn apart fresh handsOn again):=by
 refine returnsInHanded_of_calls own started noInit witness ?_;intro w tape i _ hsh _ hok hpre _;obtain ⟨_,_,_,fn',hfn',_,_,_,_,hval⟩:=hok;have e:fn' =fn:=Option.some.inj (hfn'.symm.trans hfn);subst e;obtain ⟨⟨⟨ds,gs,before,hw,_⟩,hx⟩,hz⟩:=hpre;have hw' :=DataW.Whole.of_heap (w' :=w.forCall tape i) (by rfl) hw;refine (contract (w.forCall tape i) w.heap.size i.args ds gs before hval hw' (hz.weights hw) (hX _ _ _ (by rfl) hx) hsh).mono fun e W' ⟨v,he,hp⟩=> ?_
 subst he;exact ChangeSpec.post_blind hp
end
theorem MJ:Rows.laid_unicode_utf8_first=Lib.firstData:=by kernel_rfl
theorem Kv:(Rows.laid_unicode_utf8_acceptRanges:DataW Unit)=Lib.acceptData:=by kernel_rfl
namespace aK
structure QH (P:Program) (t e:TypeId) (z:Value) (size bytes:Nat):Prop where
 und:P.underlying t=some (.slice e)
 info:∃i,P.info? e=some i∧i.zero=some z∧i.size=size∧i.bytes=bytes
 zs:z.cells.size=size
 pos:0<size
theorem uN {P:Program}{t e:TypeId}{z:Value}{size bytes:Nat}(h1:P.underlying t=some (.slice e)) (h2:(P.info? e).map (fun i=>(i.zero,i.size,i.bytes))=some (some z,size,bytes)) (h3:z.cells.size=size) (h4:0<size):QH P t e z size bytes:=by
 refine ⟨h1, ?_,h3,h4⟩;cases hi:P.info? e with
 |none=>rw [hi]at h2;cases h2
 |some i=>
  rw [hi]at h2;simp only [Option.map_some,Option.some.injEq,Prod.mk.injEq]at h2;exact ⟨i,rfl,h2.1,h2.2.1,h2.2.2⟩
def MK (w:World) (v v' :Value):Prop:=∀g,v'.ownBlock=some g→v.ownBlock=some g∨w.heap.size≤g
theorem OJ {P:Program}{w:World}{base:Nat}{t ty e:TypeId}{z:Value}{size bytes:Nat}(E:QH P t e z size bytes) (v:Value) (n:Nat) (xs:List Value) (hown:w.ownsRow base e size v n xs)
 (a:Addr) (m c:Nat) (news:List Value) (hl:news.length=m*size) (hnews:∀j u,news[j]? =some u→w.cell? (a.add j)=some u) (h1:∀u∈news,u.oneCell' =true)
 (h63:n+m≤maxLen) (hbytes:(n+m)*bytes≤140737488355328) (hbase:base≤w.heap.size) (_hm:0<m):
 ∃v' w',(Builtin.append_ #[t,t] ty #[v, .slice (some a) m c]).run P w= .ok v' w' ∧w'.ownsRow base e size v' (n+m) (xs++news)∧w.grownBy w' v.ownBlock∧MK w v v' :=by
 obtain ⟨i,hi,hz,hsize,hby⟩:=E.info;have hmax:n+m≤9223372036854775807:=Nat.le_trans h63 (by decide);have hold:=hown;rcases hown.2 with ⟨rfl,hn0⟩|⟨g,cap,cur,rfl,hbg,hg,hnc,hcm,hcs,htake⟩
 · obtain ⟨v',w',hr,h2,h3,_⟩:=run_append_own (P:=P) w base t ty e i z size bytes E.und hi hz hsize hby E.zs E.pos _ n xs hold a m c news hl hnews h1 h63 hbytes hbase;refine ⟨v',w',hr,h2,h3, ?_⟩;obtain ⟨v2,w2,hr2,h22,_,_⟩:=run_append_own (P:=P) w w.heap.size t ty e i z size bytes E.und hi hz hsize hby E.zs E.pos (.slice none 0 0) n xs ⟨hold.1, .inl ⟨rfl,hn0⟩⟩ a m c news hl hnews h1 h63 hbytes (Nat.le_refl _);rw [hr]at hr2;cases hr2;exact fun k hk=> .inr (h22.lt k hk).1
 · obtain ⟨v',w',hr,h2,h3,_⟩:=run_append_own (P:=P) w base t ty e i z size bytes E.und hi hz hsize hby E.zs E.pos _ n xs hold a m c news hl hnews h1 h63 hbytes hbase;refine ⟨v',w',hr,h2,h3, ?_⟩;by_cases hroom:n+m≤cap
   · have hfit:n*i.size+news.length≤cur.size:=by rw [hl,hcs,hsize,←Nat.add_mul];exact Nat.mul_le_mul_right _ hroom
     have hr2:=run_append_room (P:=P) w t ty e i E.und hi g n cap cur hg a m c news (by rw [hsize];exact hl) hnews h1 hroom hfit;rw [hr]at hr2;cases hr2;exact fun k hk=> .inl hk
   · have holds:∀j u,xs[j]? =some u→w.cell? ((⟨g,0,none⟩:Addr).add j)=some u:=hold.cells (g:=g) rfl;have hr2:=run_append_grow (P:=P) w t ty e i z E.und hi hz ⟨g,0,none⟩ n cap xs (by rw [hsize];exact hold.1) holds a m c news (by rw [hsize];exact hl) hnews (by omega) (by omega) (growslice_fits (by omega) (by rw [hby];exact hbytes));rw [hr]at hr2;cases hr2;intro k hk;right;cases hk;exact Nat.le_refl _
theorem app1 {P:Program}{t e:TypeId}{z:Value}{size bytes:Nat}(E:QH P t e z size bytes) {w:World}{ops:Array Oper}{rest:List Oper}{o:Oper}{a:Act}{Q:Exit→Act→World→Prop}(hgd:o.guard=none) (s x:Operand)
 (ho:o.op= .call {callee:= .builtin .append,args:= #[s,x],argTypes:= #[t,t]})
 (base:Nat) (v:Value) (n:Nat) (xs:List Value) (hs:a.eval s=v) (hown:w.ownsRow base e size v n xs)
 (k c:Nat) (news:List Value) (hx:a.eval x= .slice (some ⟨k,0,none⟩) 1 c) (hl:news.length=size) (hnews:∀j u,news[j]? =some u→w.cell? ⟨k,j,none⟩=some u) (h1:∀u∈news,u.oneCell' =true)
 (hn:(n+1)*bytes≤140737488355328∧n<140737488355328) (hbase:base≤w.heap.size)
 (h:∀a' cap' w',w'.ownsRow base e size (.slice a' (n+1) cap') (n+1) (xs++news)→w.grownBy w' v.ownBlock→MK w v (.slice a' (n+1) cap')→wpList P ops Q rest (a.put o.dst (.slice a' (n+1) cap')) w'):wpList P ops Q (o::rest) a w:=by
 refine wpList_plain hgd fun K hK=> ?_
 obtain ⟨v',w',hr,h2,h3,h4⟩:=OJ (P:=P) (ty:=o.type) E v n xs hown ⟨k,0,none⟩ 1 c news (by rw [Nat.one_mul];exact hl) (fun j u hj=>by rw [jO,Nat.zero_add];exact hnews j u hj) h1 (by have:=hn.2;unfold maxLen;omega) hn.1 hbase (by omega);obtain ⟨a',cap',rfl,_⟩:=aN h2;unfold Oper.wp execOp;simp only [ho,resolve,invoke,builtin,Sem.run_bind,Sem.run_pure,Result.andThen_ok,List.map_toArray,List.map_cons,List.map_nil,hs,hx,hr];exact hK _ _ (h a' cap' w' h2 h3 h4)
def Apart (v u:Value):Prop:=∀g,v.ownBlock=some g→u.ownBlock≠some g
theorem Apart.symm {v u:Value}(h:Apart v u):Apart u v:=fun g hu hv=>h g hv hu
theorem AB {u:Value}{n c:Nat}:Apart (.slice none n c) u:=fun g h=>by cases h
theorem Apart.keep {w w' :World}{v u:Value}(h:Apart v u) {base:Nat}{e:TypeId}{size n:Nat}{xs:List Value}(hu:w.ownsRow base e size u n xs) (hg:w.grownBy w' v.ownBlock):w'.ownsRow base e size u n xs:=
 hu.kept hg (by
  cases hx:u.ownBlock with
  |none=>exact .inl rfl
  |some g=>exact .inr fun e=>h g e.symm hx)
theorem Apart.near {w:World}{v v' u:Value}(h:Apart v u) (hn:MK w v v') {base:Nat}{e:TypeId}{size n:Nat}{xs:List Value}(hu:w.ownsRow base e size u n xs):Apart v' u:=by
 intro g hv hg;rcases hn g hv with h1|h1
 · exact h g h1 hg
 · have:=(hu.lt g hg).2;omega
theorem Apart.blk {w:World}{v:Value}{base:Nat}{e:TypeId}{size n:Nat}{xs:List Value}(hv:w.ownsRow base e size v n xs) {k:Nat}(hk:k<base):v.ownBlock≠some k:=fun h=>by have:=(hv.lt k h).1;omega
theorem below_app {w0 w w' :World}{B:Nat}{v:Value}(hb:Below B w0 w) (hB:B≤w.heap.size) (hg:w.grownBy w' v.ownBlock) (hv:∀g,v.ownBlock=some g→B≤g):Below B w0 w' :=
 hb.grown hg hB hv
theorem bA (w:World) (L:List Value) (t:TypeId):∀j u,L[j]? =some u→(w.alloc (.cells L.toArray t)).cell? ⟨w.heap.size,j,none⟩=some u:=by
 intro j u hj;rw [aj (aB w _)];simpa using hj
end aK
end Go.Proofs.YtnngbhpeeakfaaaGreatDoor
