/- Parts of a proof. -/
import Derived.Deep.RegionLaw
import Derived.Deep.Cut
import Derived.Test.YtcgadodckoalnaaGreatDoorB09
import Derived.Test.YtcgadodckoalnaaGreatDoorB41
set_option maxHeartbeats 8000000
set_option maxRecDepth 100000
namespace Go.Proofs.YtcgadodckoalnaaGreatDoor
open Go.Proofs.Tryz
open Go.RowKit
open aN
theorem Zy {r:Nat}(h:r<10):((⟨#[48,49,50,51,52,53,54,55,56,57]⟩:ah):ByteArray).extract r (r+1)=⟨#[UInt8.ofNat (48+r)]⟩:=by
 have:r=0∨r=1∨r=2∨r=3∨r=4∨r=5∨r=6∨r=7∨r=8∨r=9:=by omega
 rcases this with rfl|rfl|rfl|rfl|rfl|rfl|rfl|rfl|rfl|rfl<;>decide+kernel
def Mj:Int:=4611686018427387904
def lV (n:Int):Int:=min (max n (-4611686018427387904)) 4611686018427387904
theorem lW (n:Int): -Mj≤lV n∧lV n≤Mj:=by
 unfold lV Mj;omega
theorem wrap64_in {n:Int}(h: -9223372036854775808≤n∧n≤9223372036854775807):wrap64 n=n:=by unfold wrap64;omega
theorem Zz {n:Nat}(h:(n:Int)≤Mj):n≤9223372036854775808:=by unfold Mj at h;omega
theorem OW:∀(n:Nat),(n:Int)≤Mj→∀w:World,Calls prog 82 #[.int .i64 n] w fun e w' =>e= .returned (.string ⟨(dec n).toArray⟩)∧w' =w:=by
 intro n
 induction n using Nat.strongRecOn with
 |ind n ih=>
  intro hn w;obtain ⟨r,hr⟩:∃r:Nat,(n:Int) % 10=r:=⟨n % 10,by omega⟩;have ai0:r<10:=by omega
  have hrn:r=n % 10:=by omega
  obtain ⟨s,hs⟩:∃s,((⟨#[48,49,50,51,52,53,54,55,56,57]⟩:ah):ByteArray).extract r (r+1)=s:=⟨_,rfl⟩;have hsd:s=⟨#[UInt8.ofNat (48+r)]⟩:=by rw [←hs];exact Zy ai0
  have q0:¬(n:Int)<0:=by omega
  by_cases h10:n<10
  · have q1:(n:Int)<10:=by omega
    have HE:Hid (s=⟨(dec n).toArray⟩):=by show _=_;rw [hsd,yU h10,hrn,Nat.mod_eq_of_lt h10]
    clear hsd hrn ih hn h10;go_enter func82,ntmps82;go_wp2_with fail;go_ret;rw [HE.out];exact ⟨rfl,rfl⟩
  · have q1:¬(n:Int)<10:=by omega
    obtain ⟨m,hm⟩:∃m:Nat,(n:Int) / 10=m:=⟨n / 10,by omega⟩;have hmn:m=n / 10:=by omega
    have hc:=ih m (by omega) (by omega) w;have hl:=DT m (Zz (show (m:Int)≤Mj by omega));have ha:=cZ ⟨(dec m).toArray⟩ s (by rw [hsd];show (dec m).toArray.size+1≤_;rw [List.size_toArray];omega)
    have HE:Hid ((⟨(dec m).toArray⟩:ah)++s=⟨(dec n).toArray⟩):=by
     show _=_;rw [hsd,xJ (show 10≤n by omega),hrn,hmn];apply ByteArray.ext;apply Array.ext';simp
    have hwm:wrap64 (m:Int)=(m:Int):=wrap64_in (by unfold Mj at hn;omega);clear hsd hrn ih hn h10 hmn hl;generalize (⟨(dec m).toArray⟩:ah)=t at *;go_enter func82,ntmps82;go_wp2_with fail;refine hc.mono ?_;rintro e w2 ⟨rfl,rfl⟩;go_wp2_with fail;go_ret;rw [HE.out];exact ⟨rfl,rfl⟩
theorem CV (n:Int) (h0: -Mj≤n) (h1:n≤Mj) (w:World):Calls prog 82 #[.int .i64 n] w fun e w' =>e= .returned (.string (gY n))∧w' =w:=by
 by_cases hn:n<0
 · obtain ⟨m,hm⟩:∃m:Nat, -n=m:=⟨n.natAbs,by omega⟩;have hc:=OW m (by omega) w;have hl:=DT m (Zz (show (m:Int)≤Mj by omega));have ha:=cZ (⟨#[45]⟩:ah) ⟨(dec m).toArray⟩ (by show 1+(dec m).toArray.size≤_;rw [List.size_toArray];omega);have hw:IntKind.i64.wrap (-n)=(m:Int):=by rw [IntWalk.i64_in _ (by unfold Mj at h0 h1;omega)];exact hm
   have HE:Hid ((⟨#[45]⟩:ah)++(⟨(dec m).toArray⟩:ah)=gY n):=by
    show _=_;unfold gY gJ;rw [decide_eq_true hn,show n.natAbs=m by omega];apply ByteArray.ext;apply Array.ext';simp
   have hwm:wrap64 (-n)=(m:Int):=by rw [wrap64_in (by unfold Mj at h0 h1;omega)];exact hm
   have hwn:wrap64 (m:Int)=(m:Int):=wrap64_in (by unfold Mj at h0 h1;omega);clear hl h0 h1;generalize (⟨(dec m).toArray⟩:ah)=t at *;go_enter func82,ntmps82;go_wp2_with fail;refine hc.mono ?_;rintro e w2 ⟨rfl,rfl⟩;go_wp2_with fail;go_ret;rw [HE.out];exact ⟨rfl,rfl⟩
 · obtain ⟨m,rfl⟩:∃m:Nat,n=m:=⟨n.toNat,by omega⟩
   have e:gY (m:Int)=⟨(dec m).toArray⟩:=by
    unfold gY gJ;rw [decide_eq_false hn];rfl
   rw [e];exact OW m h1 w
theorem II (n:Int) (w:World):Calls prog 83 #[.int .i64 n] w fun e w' =>e= .returned (.int .i64 (lV n))∧w' =w:=by
 go_enter func83,ntmps83;go_wp2_with fail;go_ret;exact ⟨rfl,rfl⟩
def oz (t:Tm):Tm:=⟨t.ty,t.s,lV t.n⟩
def jy (p:Pr):Pr:=⟨p.name,oz p.t⟩
theorem AV (q:Cl) (w:World) (hs:q.name.size≤2000000):Calls prog 46 #[.agg #[.string q.name, .int .i64 q.ty]] w fun e w' =>e= .returned (.string (aF (dN q)))∧Below w.heap.size w w' :=by
 have hB:=(Below.refl w.heap.size w).alloc (Nat.le_refl _) (.cells #[.string q.name, .int .i64 q.ty] 23);by_cases ht:q.ty=1
 · have ha:=cZ q.name (⟨#[32,84,69,88,84]⟩:ah) (by show _+5≤_;omega);have h1:(q.ty==1)=true:=by rw [ht];rfl
   have HE:Hid (q.name++(⟨#[32,84,69,88,84]⟩:ah)=aF (dN q)):=by
    show _=_;unfold dN;rw [if_pos ht];apply ByteArray.ext;apply Array.ext';simp [aF,Pc.text]
   clear ht;go_enter func46,ntmps46;go_wp2_with fail;go_ret;rw [←HE.out];exact ⟨rfl,hB⟩
 · have ha:=cZ q.name (⟨#[32,73,78,84]⟩:ah) (by show _+4≤_;omega);have h1:(q.ty==1)=false:=by rw [beq_eq_false_iff_ne];exact ht
   have HE:Hid (q.name++(⟨#[32,73,78,84]⟩:ah)=aF (dN q)):=by
    show _=_;unfold dN;rw [if_neg ht];apply ByteArray.ext;apply Array.ext';simp [aF,Pc.text]
   clear ht;go_enter func46,ntmps46;go_wp2_with fail;go_ret;rw [←HE.out];exact ⟨rfl,hB⟩
theorem KD (t:Tm) (w:World) (hs:DR t):Calls prog 79 #[.agg #[.int .i64 t.ty, .string t.s, .int .i64 t.n]] w fun e w' =>e= .returned (.string (dM (oz t)).text)∧Below w.heap.size w w' :=by
 have hB:=(Below.refl w.heap.size w).alloc (Nat.le_refl _) (.cells #[.int .i64 t.ty, .string t.s, .int .i64 t.n] 60);obtain ⟨_,_,hz⟩:=hs;have hq:=fun w=>Ql t.s w hz
 have hi:=fun w=>CV (lV t.n) (lW t.n).1 (lW t.n).2 w
 by_cases ht:t.ty=1
 · have h1:(t.ty==1)=true:=by rw [ht];rfl
   have HE:Hid ((dM (oz t)).text=quote t.s):=by show _=_;unfold dM oz;rw [if_pos ht];rfl
   clear ht hi;go_enter func79,ntmps79;go_wp2_with fail;refine (hq _).mono ?_;rintro e w2 ⟨rfl,rfl⟩;go_wp2_with fail;go_ret;rw [HE.out];exact ⟨rfl,hB⟩
 · have h1:(t.ty==1)=false:=by rw [beq_eq_false_iff_ne];exact ht
   have HE:Hid ((dM (oz t)).text=gY (lV t.n)):=by show _=_;unfold dM oz;rw [if_neg ht];rfl
   clear ht hq;go_enter func79,ntmps79;go_wp2_with fail;refine (hi _).mono ?_;rintro e w2 ⟨rfl,rfl⟩;go_wp2_with fail;go_ret;rw [HE.out];exact ⟨rfl,hB⟩
theorem zo (sep:List Pc) (l:List (List Pc)) (a:List Pc):eB sep (l++ [a])=if l= []then a else eB sep l++(sep++a):=by
 cases l with
 |nil=>simp [eB]
 |cons b l=>simp [eB]
def upto {α:Type}(sep:List Pc) (P:α→List Pc) (l:List α) (j:Nat):ByteArray:=aF (eB sep ((l.take j).map P))
theorem KE {α:Type}(sep:List Pc) (P:α→List Pc) (l:List α):upto sep P l 0=⟨#[]⟩:=rfl
theorem OX {α:Type}(sep:List Pc) (P:α→List Pc) (l:List α) (h:0<l.length):upto sep P l 1=aF (P l[0]):=by
 unfold upto;rw [List.take_succ_eq_append_getElem h,List.map_append,List.map_singleton,zo,if_pos (by simp)]
theorem KF {α:Type}(sep:List Pc) (P:α→List Pc) (l:List α) (j:Nat) (h0:0<j) (h:j<l.length):upto sep P l (j+1)=(upto sep P l j++aF sep)++aF (P l[j]):=by
 unfold upto
 rw [List.take_succ_eq_append_getElem h,List.map_append,List.map_singleton,zo,if_neg (by
  intro e;have:=congrArg List.length e;rw [List.length_map,List.length_take]at this;simp only [List.length_nil]at this;omega),bq,bq,fV]
theorem CW {α:Type}(sep:List Pc) (P:α→List Pc) (l:List α):upto sep P l l.length=aF (eB sep (l.map P)):=by
 unfold upto;rw [List.take_length]
theorem FK {α:Type}(sep:List Pc) (P:α→List Pc) (l:List α) (j M:Nat) (h:∀x∈l,(aF (P x)).size≤M):(upto sep P l j).size≤j*(M+(aF sep).size):=by
 unfold upto;have e:aF (eB sep ((l.take j).map P))=dF (aF sep) (((l.take j).map P).map aF):=(iQ sep _).symm;rw [e];refine Nat.le_trans (iB _ _ M ?_) ?_
 · intro x hx;obtain ⟨y,hy,rfl⟩:=List.mem_map.1 hx;obtain ⟨z,hz,rfl⟩:=List.mem_map.1 hy;exact h z (List.mem_of_mem_take hz)
 · rw [List.length_map,List.length_map,List.length_take];exact Nat.mul_le_mul_right _ (Nat.min_le_left _ _)
theorem D6 (s:ByteArray):aF [.wd s]=s:=by show s++⟨#[]⟩=s;rw [Bo]
theorem SY (s:ByteArray):(⟨#[]⟩:ah)++s=s:=by apply ByteArray.ext;simp
theorem zq {w:World}{u:Value}{L:List ByteArray}(hl:L.length≤100) (hr:Rd w u L.length (L.map Value.string)) (hs:∀x∈L,x.size≤8000000):
 Calls prog 78 #[u] w fun e w' =>e= .returned (.string (aF (eB bA (L.map fun s=> [.wd s]))))∧w' =w:=by
 obtain ⟨a,cap,rfl,hg⟩:=hr;have HU:=Lib.hid (CW bA (fun s=> [.wd s]) L);have HL:Hid (∀j,(upto bA (fun s=> [.wd s]) L j).size≤j*(8000000+(aF bA).size)):=fun j=>FK bA (fun s=> [.wd s]) L j 8000000 (fun x hx=>by rw [D6];exact hs x hx)
 go_enter func78,ntmps78;go_wp2_with fail
 go_loop [3,4] (fun s i=>∃j:Nat,i= .int .i64 j∧j≤L.length∧s= .string (upto bA (fun s=> [.wd s]) L j)) (fun _ i=>L.length - (intOf i).toNat)
 case atStart=>exact ⟨0,rfl,by omega,rfl⟩
 case round=>
  obtain ⟨j,rfl,hj,rfl⟩:=hrel;by_cases hlt:j<L.length
  · obtain ⟨g,off,rfl,hc⟩:=hg (by omega);have q0:(j:Int)<(L.length:Int):=by omega
    have q1:(0:Int)≤(j:Int):=by omega
    have c0:w.cell? ⟨g,off+j,none⟩=some (.string L[j]):=hc j _ (by simp [hlt]);have hz:=hs L[j] (List.getElem_mem _);have hu:=HL.out j;have hcm:(aF bA).size=2:=by decide+kernel
    rw [hcm]at hu
    have hu2:(upto bA (fun s=> [.wd s]) L j).size≤900000000:=by
     refine Nat.le_trans hu ?_;have:j≤100:=by omega
     exact Nat.le_trans (Nat.mul_le_mul_right _ this) (by decide)
    by_cases h0:j=0
    · have q2:¬(0:Int)<(j:Int):=by omega
      have HX:Hid (upto bA (fun s=> [.wd s]) L j++L[j]=upto bA (fun s=> [.wd s]) L (j+1)):=by
       subst h0;show _=_;rw [KE,OX _ _ _ hlt,D6,SY]
      have ha:=cZ (upto bA (fun s=> [.wd s]) L j) L[j] (by omega);clear hg hc hcm hu hu2 hz h0;generalize upto bA (fun s=> [.wd s]) L j=t at *;obtain ⟨t2,ht2⟩:∃t,upto bA (fun s=> [.wd s]) L (j+1)=t:=⟨_,rfl⟩;rw [ht2]at HX;have HT2:=Lib.hid ht2;clear ht2;generalize L[j]=x at *;go_wp2_with fail;go_round
      case rel=>exact ⟨j+1,by go_num,by omega,by rw [HX.out,HT2.out]⟩
      case measure=>simp [intOf];omega
    · have q2:(0:Int)<(j:Int):=by omega
      have HX:Hid ((upto bA (fun s=> [.wd s]) L j++(⟨#[44,32]⟩:ah))++L[j]=upto bA (fun s=> [.wd s]) L (j+1)):=by
       show _=_;rw [KF _ _ _ j (by omega) hlt,D6,iI]
      have ha1:=cZ (upto bA (fun s=> [.wd s]) L j) (⟨#[44,32]⟩:ah) (by show _+2≤_;omega);have ha2:=cZ (upto bA (fun s=> [.wd s]) L j++(⟨#[44,32]⟩:ah)) L[j] (by rw [ByteArray.size_append];show _+2+_≤_;omega);clear hg hc hcm hu hu2 hz h0;generalize upto bA (fun s=> [.wd s]) L j=t at *;obtain ⟨t2,ht2⟩:∃t,upto bA (fun s=> [.wd s]) L (j+1)=t:=⟨_,rfl⟩;rw [ht2]at HX;have HT2:=Lib.hid ht2;clear ht2;generalize L[j]=x at *;go_wp2_with fail;go_round
      case rel=>exact ⟨j+1,by go_num,by omega,by rw [HX.out,HT2.out]⟩
      case measure=>simp [intOf];omega
  · have mF:j=L.length:=by omega
    subst mF;go_wp2_with fail;go_ret;rw [HU.out];exact ⟨rfl,rfl⟩
theorem ZA {L:List ByteArray}(h:L≠ []):fZ L=eB bA (L.map fun s=> [.wd s]):=by unfold fZ;rw [if_neg h]
theorem D7 {w:World}{u:Value}{L:List ByteArray}(hl:L.length≤100) (hr:Rd w u L.length (L.map Value.string)) (hs:∀x∈L,x.size≤2000000):
 Calls prog 47 #[u] w fun e w' =>e= .returned (.string (aF (fZ L)))∧w' =w:=by
 have hc:=zq hl hr fun x hx=>Nat.le_trans (hs x hx) (by decide)
 obtain ⟨a,cap,rfl,_⟩:=hr;by_cases h0:L= []
 · subst h0;have HE:Hid (aF (fZ [])=(⟨#[42]⟩:ah)):=by show _=_;decide+kernel
   clear hc;go_enter func47,ntmps47;go_wp2_with fail;go_ret;rw [HE.out];exact ⟨rfl,rfl⟩
 · have hn:L.length≠0:=fun h=>h0 (List.eq_nil_of_length_eq_zero h)
   have q0:((L.length:Int)==0)=false:=beq_eq_false_iff_ne.2 (by omega);have q1:(L.length==0)=false:=beq_eq_false_iff_ne.2 hn;have HE:=Lib.hid (ZA h0);clear h0 hn;go_enter func47,ntmps47;go_wp2_with fail;refine hc.mono ?_;rintro e w2 ⟨rfl,rfl⟩;go_wp2_with fail;go_ret;rw [HE.out];exact ⟨rfl,rfl⟩
theorem Mk (t:Tm) (h:DR t):DR (oz t):=by
 have hc:=lW t.n;obtain ⟨h1,h2,h3⟩:=h;exact ⟨h1,by unfold Ba oz;unfold Mj at hc;simp only;omega,h3⟩
theorem Ml {q:Pr}(h:DR q.t∧q.name.size≤2000000):(aF (bJ (jy q))).size≤8000000:=oU (jy q) ⟨Mk _ h.1,h.2⟩
theorem D8 (q:Pr):aF (bJ q)=(q.name++(⟨#[32,61,32]⟩:ah))++(dM q.t).text:=by
 unfold bJ;apply ByteArray.ext;apply Array.ext';simp [aF,Pc.text]
theorem oC {w:World}{u:Value}{L:List Pr}(sep:List Pc) (hsep:(aF sep).size≤100) (hl:L.length≤100) (hr:Rd w u L.length (dI L)) (hs:qD L):
 Calls prog 81 #[u, .string (aF sep)] w fun e w' =>e= .returned (.string (aF (eB sep (L.map fun p=>bJ (jy p)))))∧Below w.heap.size w w' :=by
 obtain ⟨a,cap,rfl,hg⟩:=hr;have HU:=Lib.hid (CW sep (fun p=>bJ (jy p)) L);have HL:Hid (∀j,(upto sep (fun p=>bJ (jy p)) L j).size≤j*(8000000+(aF sep).size)):=fun j=>FK sep (fun p=>bJ (jy p)) L j 8000000 (fun x hx=>Ml (hs.2 x hx))
 have HM:=Lib.hid (fun j (h0:0<j) (h:j<L.length)=>KF sep (fun p=>bJ (jy p)) L j h0 h);have HO:=Lib.hid (fun (h:0<L.length)=>OX sep (fun p=>bJ (jy p)) L h);obtain ⟨SP,hSP⟩:∃s,aF sep=s:=⟨_,rfl⟩;rw [hSP]at HL HM hsep⊢;clear hSP;go_enter func81,ntmps81;go_wp2_with fail
 go_loopw [5,6] (fun s i wr=>∃j:Nat,i= .int .i64 j∧j≤L.length∧s= .string (upto sep (fun p=>bJ (jy p)) L j)∧Below w.heap.size w wr) (fun _ i _=>L.length - (intOf i).toNat)
 case atStart=>exact ⟨0,rfl,by omega,rfl,Below.refl _ _⟩
 case round=>
  obtain ⟨j,rfl,hj,rfl,hB⟩:=hrel;by_cases hlt:j<L.length
  · obtain ⟨g,off,rfl,hc⟩:=hg (by omega);have q0:(j:Int)<(L.length:Int):=by omega
    have q1:(0:Int)≤(j:Int):=by omega
    have hlow:∀k v,(dI L)[k]? =some v→wr.cell? ⟨g,off+k,none⟩=some v:=fun k v hk=>by
     have h:=hc k v hk;rw [←h];exact hB.cell (p:=⟨g,off+k,none⟩) (dZ h)
    have c0:=hlow (j*4) (.string L[j].name) (by have:=bF (List.getElem?_eq_getElem hlt) 0 (by omega);rw [Nat.add_zero]at this;rw [this];rfl);have c1:=hlow (j*4+1) (.int .i64 L[j].t.ty) (by rw [bF (List.getElem?_eq_getElem hlt) 1 (by omega)];rfl);have c2:=hlow (j*4+2) (.string L[j].t.s) (by rw [bF (List.getElem?_eq_getElem hlt) 2 (by omega)];rfl);have c3:=hlow (j*4+3) (.int .i64 L[j].t.n) (by rw [bF (List.getElem?_eq_getElem hlt) 3 (by omega)];rfl);have e1:wr.cell? ⟨g,off+j*4+1,none⟩=some (.int .i64 L[j].t.ty):=c1;have e2:wr.cell? ⟨g,off+j*4+2,none⟩=some (.string L[j].t.s):=c2;have e3:wr.cell? ⟨g,off+j*4+3,none⟩=some (.int .i64 L[j].t.n):=c3;have e4:wr.cell? ⟨g,off+j*4+1+1,none⟩=some (.string L[j].t.s):=c2;have e5:wr.cell? ⟨g,off+j*4+1+2,none⟩=some (.int .i64 L[j].t.n):=c3;clear c1 c2 c3;obtain ⟨hok,hnm⟩:=hs.2 L[j] (List.getElem_mem _);have hz:=HL.out j
    have hu2:(upto sep (fun p=>bJ (jy p)) L j).size≤820020000:=by
     refine Nat.le_trans hz ?_;have h1:j≤100:=by omega
     have h2:8000000+SP.size≤8200200:=by omega
     exact Nat.le_trans (Nat.mul_le_mul h1 h2) (by decide)
    have htm:=fun w=>KD L[j].t w hok
    have htl:(dM (oz L[j].t)).text.size≤8000000:=by
     have:=Ml (hs.2 L[j] (List.getElem_mem _));rw [D8,ByteArray.size_append]at this;show (dM (oz L[j].t)).text.size≤_;exact Nat.le_trans (Nat.le_add_left _ _) this
    have hbw:=hB.size;have z0:=dZ c0;by_cases h0:j=0
    · have q2:¬(0:Int)<(j:Int):=by omega
      have HX:Hid (((upto sep (fun p=>bJ (jy p)) L j++L[j].name)++(⟨#[32,61,32]⟩:ah))++(dM (oz L[j].t)).text=upto sep (fun p=>bJ (jy p)) L (j+1)):=by
       subst h0;show _=_;rw [HO.out hlt,D8,KE,SY];rfl
      have ha1:=cZ (upto sep (fun p=>bJ (jy p)) L j) L[j].name (by omega);have ha2:=cZ (upto sep (fun p=>bJ (jy p)) L j++L[j].name) (⟨#[32,61,32]⟩:ah) (by rw [ByteArray.size_append];show _+_+3≤_;omega);have ha3:=cZ ((upto sep (fun p=>bJ (jy p)) L j++L[j].name)++(⟨#[32,61,32]⟩:ah)) (dM (oz L[j].t)).text (by rw [ByteArray.size_append,ByteArray.size_append];show _+_+3+_≤_;omega);clear hg hc hz hu2 htl hnm hok h0 hlow;generalize upto sep (fun p=>bJ (jy p)) L j=t at *;obtain ⟨t2,ht2⟩:∃t,upto sep (fun p=>bJ (jy p)) L (j+1)=t:=⟨_,rfl⟩;rw [ht2]at HX;have HT2:=Lib.hid ht2;clear ht2;generalize (dM (oz L[j].t)).text=tt at *;generalize L[j]=x at *;go_upto_block 1 with fail
      go_cut [5]from 7 to 32 (fun s5 wx=>s5= .string t2∧Below w.heap.size w wx)
      case first=>
       go_wp2_with fail
       go_region_law (first|(go_simp;go_at_call 79;refine (htm _).mono ?_;rintro e EU ⟨rfl,kK⟩;have aeF:=hB.trans (Below.mono (show Below wr.heap.size wr EU from ⟨kK.os,kK.tape,kK.output,kK.size,kK.block⟩) hbw);have k30:EU.cell? ⟨g,off+j*4,none⟩=some (.string x.name):=(by rw [←c0];exact kK.cell (p:=⟨g,off+j*4,none⟩) z0)))
       all_goals
        (try go_wp2_with fail)
        go_meet
        case rel=>exact ⟨by rw [HX.out],aeF⟩
      clear hB;obtain ⟨rfl,hB⟩:=hcut;go_wp2_with fail;go_roundw
      case rel=>exact ⟨j+1,by go_num,by omega,by rw [HT2.out],hB⟩
      case measure=>simp [intOf];omega
    · have q2:(0:Int)<(j:Int):=by omega
      have HX:Hid ((((upto sep (fun p=>bJ (jy p)) L j++SP)++L[j].name)++(⟨#[32,61,32]⟩:ah))++(dM (oz L[j].t)).text=upto sep (fun p=>bJ (jy p)) L (j+1)):=by
       show _=_;rw [HM.out j (by omega) hlt,D8];simp only [fV];rfl
      have ha0:=cZ (upto sep (fun p=>bJ (jy p)) L j) SP (by omega);have ha1:=cZ (upto sep (fun p=>bJ (jy p)) L j++SP) L[j].name (by rw [ByteArray.size_append];omega);have ha2:=cZ ((upto sep (fun p=>bJ (jy p)) L j++SP)++L[j].name) (⟨#[32,61,32]⟩:ah) (by rw [ByteArray.size_append,ByteArray.size_append];show _+_+_+3≤_;omega);have ha3:=cZ (((upto sep (fun p=>bJ (jy p)) L j++SP)++L[j].name)++(⟨#[32,61,32]⟩:ah)) (dM (oz L[j].t)).text (by rw [ByteArray.size_append,ByteArray.size_append,ByteArray.size_append];show _+_+_+3+_≤_;omega);clear hg hc hz hu2 htl hnm hok h0 hlow;generalize upto sep (fun p=>bJ (jy p)) L j=t at *;obtain ⟨t2,ht2⟩:∃t,upto sep (fun p=>bJ (jy p)) L (j+1)=t:=⟨_,rfl⟩;rw [ht2]at HX;have HT2:=Lib.hid ht2;clear ht2;generalize (dM (oz L[j].t)).text=tt at *;generalize L[j]=x at *;go_upto_block 1 with fail
      go_cut [5]from 7 to 32 (fun s5 wx=>s5= .string t2∧Below w.heap.size w wx)
      case first=>
       go_wp2_with fail
       go_region_law (first|(go_simp;go_at_call 79;refine (htm _).mono ?_;rintro e EU ⟨rfl,kK⟩;have aeF:=hB.trans (Below.mono (show Below wr.heap.size wr EU from ⟨kK.os,kK.tape,kK.output,kK.size,kK.block⟩) hbw);have k30:EU.cell? ⟨g,off+j*4,none⟩=some (.string x.name):=(by rw [←c0];exact kK.cell (p:=⟨g,off+j*4,none⟩) z0)))
       all_goals
        (try go_wp2_with fail)
        go_meet
        case rel=>exact ⟨by rw [HX.out],aeF⟩
      clear hB;obtain ⟨rfl,hB⟩:=hcut;go_wp2_with fail;go_roundw
      case rel=>exact ⟨j+1,by go_num,by omega,by rw [HT2.out],hB⟩
      case measure=>simp [intOf];omega
  · have mF:j=L.length:=by omega
    subst mF;go_wp2_with fail;go_ret;rw [HU.out];exact ⟨rfl,hB⟩
theorem zu (n:Int):lV n=0 ↔ n=0:=by unfold lV;omega
theorem D9 {n:Int}(h: -Mj≤n∧n≤Mj):(gY n).size≤22:=Nat.le_succ_of_le (o9 n (by unfold Ba;unfold Mj at h;omega))
theorem wG {w:World}(x:Sx) (tc c s wv pv:Value):
 Calls prog 80 #[.agg (aG x tc c s wv pv)] w fun e w' =>e= .returned (.string (aF (dA (lV x.stamp) (lV x.ttl))))∧Below w.heap.size w w' :=by
 have hB:=(Below.refl w.heap.size w).alloc (Nat.le_refl _) (.cells (aG x tc c s wv pv) 31);have hb:=aA w (.cells (aG x tc c s wv pv) 31);obtain ⟨_,_,_,_,_,_,_,_,_,_,_,_,_,_,k14,k15,_,_⟩:=aK hb;clear hb;have h1:=fun w=>II x.stamp w
 have h2:=fun w=>II x.ttl w
 have d1:=fun w=>CV (lV x.stamp) (lW _).1 (lW _).2 w
 have d2:=fun w=>CV (lV x.ttl) (lW _).1 (lW _).2 w
 have y1:=zu x.stamp;have y2:=zu x.ttl;have s1:=D9 (lW x.stamp);have s2:=D9 (lW x.ttl);generalize lV x.stamp=cs at *;generalize lV x.ttl=ct at *;by_cases n1:x.stamp=0
 · have z1:=y1.2 n1;have b1:(x.stamp !=0)=false:=by rw [n1];rfl
   clear y1 n1;by_cases n2:x.ttl=0
   · have z2:=y2.2 n2;have b2:(x.ttl !=0)=false:=by rw [n2];rfl
     clear y2 n2
     have HE:Hid (aF (dA cs ct)=⟨#[]⟩):=by
      show _=_;unfold dA;rw [if_pos z1,if_pos z2];rfl
     clear z1 z2 s1 s2;go_enter func80,ntmps80;go_wp2_with fail;go_ret;rw [HE.out];exact ⟨rfl,hB⟩
   · have z2:=fun h=>n2 (y2.1 h)
     have b2:(x.ttl !=0)=true:=bne_iff_ne.2 n2;clear y2 n2
     have HE:Hid (aF (dA cs ct)=(⟨#[32,85,83,73,78,71,32,84,84,76,32]⟩:ah)++gY ct):=by
      show _=_;unfold dA;rw [if_pos z1,if_neg z2];apply ByteArray.ext;apply Array.ext';simp [aF,Pc.text]
     have a1:=cZ (⟨#[32,85,83,73,78,71,32,84,84,76,32]⟩:ah) (gY ct) (by show 11+_≤_;omega);clear z1 z2 s1 s2;generalize gY ct=t2 at *;go_enter func80,ntmps80;go_wp2_with (first|(go_at_call 83;refine (h2 _).mono ?_;rintro e w2 ⟨rfl,rfl⟩)|(go_at_call 82;refine (d2 _).mono ?_;rintro e w2 ⟨rfl,rfl⟩));go_ret;rw [HE.out];exact ⟨rfl,hB⟩
 · have z1:=fun h=>n1 (y1.1 h)
   have b1:(x.stamp !=0)=true:=bne_iff_ne.2 n1;clear y1 n1;by_cases n2:x.ttl=0
   · have z2:=y2.2 n2;have b2:(x.ttl !=0)=false:=by rw [n2];rfl
     clear y2 n2
     have HE:Hid (aF (dA cs ct)=(⟨#[32,85,83,73,78,71,32,84,73,77,69,83,84,65,77,80,32]⟩:ah)++gY cs):=by
      show _=_;unfold dA;rw [if_neg z1,if_pos z2];apply ByteArray.ext;apply Array.ext';simp [aF,Pc.text]
     have a1:=cZ (⟨#[32,85,83,73,78,71,32,84,73,77,69,83,84,65,77,80,32]⟩:ah) (gY cs) (by show 17+_≤_;omega);clear z1 z2 s1 s2;generalize gY cs=t1 at *;go_enter func80,ntmps80;go_wp2_with (first|(go_at_call 83;refine (h1 _).mono ?_;rintro e w2 ⟨rfl,rfl⟩)|(go_at_call 82;refine (d1 _).mono ?_;rintro e w2 ⟨rfl,rfl⟩));go_ret;rw [HE.out];exact ⟨rfl,hB⟩
   · have z2:=fun h=>n2 (y2.1 h)
     have b2:(x.ttl !=0)=true:=bne_iff_ne.2 n2;clear y2 n2
     have HE:Hid (aF (dA cs ct)=(((⟨#[32,85,83,73,78,71,32,84,73,77,69,83,84,65,77,80,32]⟩:ah)++gY cs)++(⟨#[32,65,78,68,32,84,84,76,32]⟩:ah))++gY ct):=by
      show _=_;unfold dA;rw [if_neg z1,if_neg z2];apply ByteArray.ext;apply Array.ext';simp [aF,Pc.text]
     have a1:=cZ (⟨#[32,85,83,73,78,71,32,84,73,77,69,83,84,65,77,80,32]⟩:ah) (gY cs) (by show 17+_≤_;omega);have a2:=cZ ((⟨#[32,85,83,73,78,71,32,84,73,77,69,83,84,65,77,80,32]⟩:ah)++gY cs) (⟨#[32,65,78,68,32,84,84,76,32]⟩:ah) (by rw [ByteArray.size_append];show 17+_+9≤_;omega);have a3:=cZ (((⟨#[32,85,83,73,78,71,32,84,73,77,69,83,84,65,77,80,32]⟩:ah)++gY cs)++(⟨#[32,65,78,68,32,84,84,76,32]⟩:ah)) (gY ct) (by rw [ByteArray.size_append,ByteArray.size_append];show 17+_+9+_≤_;omega);clear z1 z2 s1 s2;generalize gY cs=t1 at *;generalize gY ct=t2 at *;go_enter func80,ntmps80;go_upto_region 2 with fail
     generalize w.alloc (.cells (aG x tc c s wv pv) 31)=w1 at *;go_quiet ((first|(go_at_call 83;first|with_reducible exact Calls.quiet_of_same (h1 _)|with_reducible exact Calls.quiet_of_same (h2 _))|(go_at_call 82;first|with_reducible exact Calls.quiet_of_same (d1 _)|with_reducible exact Calls.quiet_of_same (d2 _))));go_wp2_with fail;go_ret;rw [HE.out];exact ⟨rfl,aN.below_drewN hB _⟩
end Go.Proofs.YtcgadodckoalnaaGreatDoor
