/- Parts of a proof. -/
import Derived.Deep.QuietTactic
import Derived.BigQuiet
import Derived.ProofKit
import Derived.LaidMore
import Derived.OpenShut
import Derived.Stop.Joined
import Derived.HandedShaped
import Derived.Lib.LaidIn
import Derived.Lib.LaidU8T
import Derived.Deep.DeepWitnessRowRef
import Derived.ChangeSame
import Derived.JoinedOf
import Derived.RowKit
import Derived.SevenTiedAt
import Derived.Deep.RegionHeld3
import Derived.Test.YtcgadodckoalnaaGreatDoorB01
import Derived.Test.YtcgadodckoalnaaGreatDoorB08
import Derived.Test.YtcgadodckoalnaaGreatDoorCards
set_option maxHeartbeats 2000000
set_option maxRecDepth 100000
namespace Go.Proofs.YtcgadodckoalnaaGreatDoor
open Go.Proofs.Tryz
open Go.RowKit
open aN
def mH (p:Pt):List Value:= [.int .i32 p.r, .int .i64 p.at_, .int .i64 p.n, .bool p.ok]
def vQ (l:List Pt):List Value:=l.flatMap mH
theorem Qk (l:List Pt) (p:Pt):vQ l++mH p=vQ (l++ [p]):=by simp [vQ]
theorem ny:∀(l:List Pt) (k j:Nat) (h:k<l.length) (_:j<4),(vQ l)[k*4+j]? =(mH l[k])[j]?
 |p::l,0,j,_,hj=>by
  simp only [vQ,List.flatMap_cons,Nat.zero_mul,Nat.zero_add,List.getElem_cons_zero];rw [List.getElem?_append_left (by simp [mH];omega)]
 |p::l,k+1,j,h,hj=>by
  have:=ny l k j (by simp at h;omega) hj;simp only [vQ,List.flatMap_cons,List.getElem_cons_succ]at this⊢;rw [List.getElem?_append_right (by simp [mH];omega)];have e:(k+1)*4+j - (mH p).length=k*4+j:=by simp [mH];omega
  rw [e];exact this
theorem Tryz.afl:(prog.info? 152).map (fun i=>(i.zero,i.size,i.bytes))=some (some (.agg #[.int .i32 0, .int .i64 0, .int .i64 0, .bool false]),4,32):=by kernel_rfl
theorem aaY (w1:World) (X:Obj) (q:Pt) (t:TypeId):∀j u,(mH q)[j]? =some u→((w1.alloc X).alloc (.cells #[.int .i32 q.r, .int .i64 q.at_, .int .i64 q.n, .bool q.ok] t)).cell? ((⟨w1.heap.size+1,0,none⟩:Addr).add j)=some u:=by
 have:=yY (w1.alloc X) (mH q) t;have e:(w1.alloc X).heap.size=w1.heap.size+1:=by simp
 rw [e]at this;exact this
theorem NH (q:Pt):∀u∈mH q,u.oneCell' =true:=by
 intro u hu;simp [mH]at hu;rcases hu with rfl|rfl|rfl|rfl<;>rfl
theorem Uw (s:ByteArray):∀n pos,s.size - pos≤n→(dS s pos).length≤s.size - pos:=by
 intro n
 induction n with
 |zero=>intro pos h;rw [bR s pos (by omega)];simp
 |succ n ih=>
  intro pos h;by_cases hp:pos<s.size
  · have:=width_pos s pos hp;have:=ih (pos+(Utf8.decode s pos).2) (by omega);rw [bM s pos hp];simp;omega
  · rw [bR s pos hp];simp
theorem aaZ (s:ByteArray):(pts s).length≤s.size:=by have:=Uw s s.size 0 (by omega);rw [ji];omega
theorem GJ (s:ByteArray) (w:World) (hs:s.size≤2000000):
 Calls prog 84 #[.string s] w fun e w' =>(∃v,e= .returned v∧w'.ownsRow w.heap.size 152 4 v (pts s).length (vQ (pts s)))∧Below w.heap.size w w' :=by
 obtain ⟨i0,hi,hz0,hz1,hz2⟩:=info_parts Tryz.afl;go_enter func84,ntmps84;go_wp2_with fail
 go_loopw [3,4] (fun v a wr=>∃(pos:Nat) (done:List Pt),a= .int .i64 pos∧wr.ownsRow w.heap.size 152 4 v done.length (vQ done)∧Below w.heap.size w wr∧Hid (pts s=done++dS s pos)∧done.length≤pos∧pos≤s.size) (fun _ a _=>s.size - (intOf a).toNat)
 case atStart=>exact ⟨0, [],rfl,World.ownsRow_nil _ _ _ _,Below.refl _ _,rfl,by simp,by omega⟩
 case round=>
  obtain ⟨pos,done,rfl,hown,hbw,HS,hd,hpos⟩:=hrel;by_cases hp:pos<s.size
  · have hone:=XL s pos wr hs hp;have hwd:=width_pos s pos hp;have hwl:=width_le s pos hp;have hsz:=hbw.size;have HPt:Hid (ku s pos=⟨(Utf8.decode s pos).1,pos,(Utf8.decode s pos).2⟩):=rfl
    have HS2:Hid (pts s=(done++ [ku s pos])++dS s (pos+(Utf8.decode s pos).2)):=by
     show _=_;rw [HS.out,bM s pos hp];simp [ku]
    obtain ⟨q,hq⟩:∃q,ku s pos=q:=⟨_,rfl⟩;have hq3:(Utf8.decode s pos).2=q.n:=by rw [←hq];rfl
    rw [hq]at hone HS2;rw [hq3]at hwd hwl HS2;clear hq hq3 HPt HS;unfold Ut at hone
    go_wp2_with (first
     |(go_at_call 122;refine hone.mono ?_;rintro e w1 ⟨rfl,hb1⟩;have hown1:=ownsRow_below hown hb1;have afm:=hbw.trans (hb1.mono hsz);have hsz1:=hb1.size;clear hb1 hown hbw hone)
     |(at_builtin;refine wpList_append_own _ rfl _ _ 108 rfl w.heap.size 152 i0 (.agg #[.int .i32 0, .int .i64 0, .int .i64 0, .bool false]) 4 32 underlying108 hi hz0 hz1 hz2 rfl (by decide) _ _ _ rfl ((hown1.alloc _).alloc _) ⟨w1.heap.size+1,0,none⟩ 1 1 (mH q) rfl rfl (aaY _ _ _ _) (NH q) (by unfold maxLen;omega) (by omega) (by simp;omega) ?_;intro v' w2 hown2 hg2 _;
       rw [Qk]at hown2
       have hx2:w2.cell? ⟨w1.heap.size,2,none⟩=some (.int .i64 q.n):=by
        refine hg2.cell ?_ ?_
        · rw [au (aC (aA w1 _) _)];rfl
        · intro h;have:=hown1.lt _ h.symm;simp at this
       have hbw2:Below w.heap.size w w2:=((afm.alloc (by omega) _).alloc (by simp;omega) _).grown hg2 (by simp;omega) (fun k hk=>(hown1.lt _ hk).1);clear hown1 hg2 afm hi hz0 hz1 hz2))
    have hl2:(done++ [q]).length=done.length+1:=by simp
    go_roundw
    case rel=>
     refine ⟨pos+q.n,done++ [q], ?_, ?_,hbw2,HS2, ?_,hwl⟩
     · go_num
     · rw [hl2];exact hown2
     · rw [hl2];omega
    case measure=>simp [intOf];omega
  · have HF:Hid (pts s=done):=by show _=_;rw [HS.out,bR s pos hp];simp
    clear HS;go_wp2_with fail;go_ret;exact ⟨⟨_,rfl,by rw [HF.out];exact hown⟩,hbw⟩
namespace aN
theorem aY {w:World}{B:Nat}{e:TypeId}{sz:Nat}{v:Value}{n:Nat}{xs:List Value}(h:w.ownsRow B e sz v n xs):
 ∃a cap,v= .slice a n cap∧(0<n→∃g,a=some ⟨g,0,none⟩∧B≤g∧g<w.heap.size∧∀j u,xs[j]? =some u→w.cell? ⟨g,j,none⟩=some u):=by
 obtain ⟨h1,h2⟩:=h;rcases h2 with ⟨rfl,rfl⟩|⟨g,cap,cur,rfl,hg,hh,hn,hc,hs,ht⟩
 · exact ⟨none,0,rfl,fun h=>absurd h (by omega)⟩
 · refine ⟨_,cap,rfl,fun _=>⟨g,rfl,hg,aD hh,fun j u hj=> ?_⟩⟩;exact aS ⟨h1, .inr ⟨g,cap,cur,rfl,hg,hh,hn,hc,hs,ht⟩⟩ j u hj
end aN
theorem Al (s:ByteArray) (w:World) (hs:s.size≤2000000):
 Calls prog 50 #[.string s] w fun e w' =>e= .returned (.int .i64 (pts s).length)∧Below w.heap.size w w' :=by
 have ha:=GJ s w hs;go_enter func50,ntmps50;go_wp2_with fail;refine ha.mono ?_;rintro e w1 ⟨⟨v,rfl,hown⟩,hb⟩;obtain ⟨a,cap,rfl,_⟩:=aY hown;go_wp2_with fail;go_ret;exact ⟨rfl,hb⟩
theorem GK (s:ByteArray) (w:World) (hs:s.size≤2000000):
 Calls prog 158 #[.string s] w fun e w' =>e= .returned (.bool (valid s))∧Below w.heap.size w w' :=by
 have ha:=GJ s w hs;have hpl:=aaZ s;go_enter func158,ntmps158;go_wp2_with fail;refine ha.mono ?_;rintro e w1 ⟨⟨v,rfl,hown⟩,hb⟩;obtain ⟨a,cap,rfl,hr⟩:=aY hown;have Hr:=Lib.hid hr;clear ha hown hr;go_wp2_with fail
 go_loop [4] (fun v=>∃k:Nat,k≤(pts s).length∧v= .int .i64 k∧Hid (valid s=((pts s).drop k).all Pt.ok)) (fun v=>(pts s).length - (intOf v).toNat)
 case atStart=>exact ⟨0,by omega,rfl,rfl⟩
 case round=>
  obtain ⟨k,hk,rfl,HS⟩:=hrel;by_cases hlt:k<(pts s).length
  · obtain ⟨g,rfl,_,hg,hc⟩:=Hr.out (by omega);have hcell:w1.cell? ⟨g,k*4+3,none⟩=some (.bool (pts s)[k].ok):=hc _ _ (by rw [ny _ _ _ hlt (by omega)];rfl)
    have HS2:Hid (valid s=((pts s)[k].ok&&((pts s).drop (k+1)).all Pt.ok)):=by
     show _=_;rw [HS.out,List.drop_eq_getElem_cons hlt,List.all_cons]
    clear hc HS;cases hok:(pts s)[k].ok
    all_goals
     rw [hok]at hcell HS2;clear hok;go_wp2_with fail
    · go_ret;exact ⟨cB (by rw [HS2.out];rfl),hb⟩
    · go_round
      case rel=>exact ⟨k+1,by omega,by go_num,by show _=_;rw [HS2.out];simp⟩
      case measure=>simp [intOf];omega
  · have HF:Hid (valid s=true):=by show _=_;rw [HS.out,List.drop_eq_nil_of_le (by omega)];rfl
    clear HS;go_wp2_with fail;go_ret;exact ⟨cB HF.out.symm,hb⟩
theorem EA (p:Pt) (w:World) (v:Value) (hv:v= .agg #[.int .i32 p.r, .int .i64 p.at_, .int .i64 p.n, .bool p.ok]):
 Calls prog 154 #[v] w fun e w' =>e= .returned (.bool (gD p.r&&p.ok))∧Below w.heap.size w w' :=by
 subst hv;obtain ⟨r,hr⟩:∃r:Nat,p.r=r:=⟨_,rfl⟩;rw [hr];obtain ⟨ok,hok⟩:∃ok,p.ok=ok:=⟨_,rfl⟩;rw [hok];clear hr hok;cases ok
 all_goals
  go_enter func154,ntmps154;go_wp2_with fail
 all_goals go_ret
 all_goals refine ⟨cB ?_,(Below.refl _ _).alloc (Nat.le_refl _) _⟩
 all_goals (unfold gD;rw [Bool.eq_iff_iff];simp;try omega)
theorem Ql (s:ByteArray) (w:World) (hs:s.size≤2000000):
 Calls prog 121 #[.string s] w fun e w' =>e= .returned (.string (quote s))∧w=w' :=by
 have Hl:Hid (s.data.toList.length=s.size):=by show _=_;simp
 have HQ:Hid (quote s=⟨(39::(s.data.toList.flatMap rW++ [39])).toArray⟩):=yO s;go_enter func121,ntmps121;go_wp2_with fail
 go_loop [3,4] (fun q v=>∃(k:Nat) (X:ByteArray),k≤s.size∧v= .int .i64 k∧q= .string X∧X.size≤1+2*k∧Hid (X=⟨(39::(s.data.toList.take k).flatMap rW).toArray⟩)) (fun _ v=>s.size - (intOf v).toNat)
 case atStart=>exact ⟨0,⟨#[39]⟩,by omega,rfl,rfl,by decide,by show _=_;simp⟩
 case round=>
  obtain ⟨k,X,hk,rfl,rfl,hX,HS⟩:=hrel;by_cases hlt:k<s.size
  · have hlt2:k<s.data.toList.length:=by have:=Hl.out;omega
    have hex:s.extract k (k+1)=⟨#[s[k]]⟩:=FQ s k hlt
    have HT:Hid ((⟨(39::(s.data.toList.take (k+1)).flatMap rW).toArray⟩:ah)=⟨(39::((s.data.toList.take k).flatMap rW++rW s[k])).toArray⟩):=by
     show _=_;rw [List.take_succ_eq_append_getElem hlt2,List.flatMap_append,lq s k hlt];simp
    by_cases hq:s[k]=39
    · have hq1:((s[k].toNat:Int)==39)=true:=by rw [hq];rfl
      have HT2:Hid (rW s[k]= [39,39]):=by show _=_;rw [hq];rfl
      have Hq:=Lib.hid hq;clear hq;obtain ⟨c,hc⟩:∃c,s[k]=c:=⟨_,rfl⟩;rw [hc]at hex hq1 HT HT2 Hq;go_wp2_with fail;go_round
      case rel=>
       refine ⟨k+1,_,by omega,by go_num,rfl,by simp only [ByteArray.size_append',ByteArray.size_mk',List.size_toArray,List.length_cons,List.length_nil];omega, ?_⟩;show _=_;rw [HT.out,HT2.out,HS.out];apply ByteArray.ext;apply Array.ext';simp [Hq.out]
      case measure=>simp [intOf];omega
    · have hq1:((s[k].toNat:Int)==39)=false:=by
       have:s[k].toNat≠39:=fun e=>hq (UInt8.toNat_inj.1 e)
       exact beq_eq_false_iff_ne.2 (by omega)
      have HT2:Hid (rW s[k]= [s[k]]):=by show _=_;unfold rW;rw [if_neg hq]
      clear hq;obtain ⟨c,hc⟩:∃c,s[k]=c:=⟨_,rfl⟩;rw [hc]at hex hq1 HT HT2;go_wp2_with fail;go_round
      case rel=>
       refine ⟨k+1,_,by omega,by go_num,rfl,by simp only [ByteArray.size_append',ByteArray.size_mk',List.size_toArray,List.length_cons,List.length_nil];omega, ?_⟩;show _=_;rw [HT.out,HT2.out,HS.out];apply ByteArray.ext;apply Array.ext';simp
      case measure=>simp [intOf];omega
  · have hk2:k=s.size:=by omega
    have HF:Hid (X=⟨(39::s.data.toList.flatMap rW).toArray⟩):=by
     show _=_;rw [HS.out,List.take_of_length_le (by have:=Hl.out;omega)]
    clear hk2 HS;go_wp2_with fail;go_ret;refine ⟨Fw ?_,rfl⟩;rw [HQ.out,HF.out];apply ByteArray.ext;apply Array.ext';simp
theorem Ux (s:ByteArray) (w:World) (hs:s.size≤2000000):
 Calls prog 156 #[.string s] w fun e w' =>e= .returned (.string (fold s))∧Below w.heap.size w w' :=by
 have Ny:=run_bytes_of_string (P:=prog) w 9 142 5 s underlying9 underlying142 underlying5;obtain ⟨cap,hcap⟩:∃cap,grownCap w s.size 0 5=cap:=⟨_,rfl⟩;rw [hcap]at Ny;have hce:s.size≤cap:=by rw [←hcap];exact grownCap_ge w s.size 0 5
 clear hcap;obtain ⟨C,hC⟩:∃C,bytesRow s cap=C:=⟨_,rfl⟩;rw [hC]at Ny;have hCs:s.size≤C.size:=by rw [←hC];simp [bytesRow]
 have HC:Hid (∀j (hj:j<s.data.size),C[j]? =some (.int .u8 (s.data[j].toNat:Int))):=fun j hj=>by rw [←hC];exact bytesRow_at s cap j hj
 clear hC;go_enter func156,ntmps156
 go_wp2
 go_loopw [4] (fun v wr=>∃(k:Nat) (D:Array Value),k≤s.size∧v= .int .i64 k∧Below w.heap.size w wr∧wr.heap[w.heap.size]? =some (.cells D 5 (C.size,C.size+1))∧D.size=C.size∧Hid (∀j (hj:j<s.data.size),D[j]? =some (.int .u8 (if j<k then ((rX s.data[j]).toNat:Int)else (s.data[j].toNat:Int))))) (fun v _=>s.size - (intOf v).toNat)
 case atStart=>exact ⟨0,C,by omega,rfl,((Below.refl _ _).alloc (Nat.le_refl _) _).drew,aA w _,rfl,fun j hj=>by rw [HC.out j hj];simp⟩
 case round=>
  obtain ⟨k,D,hk,rfl,hbw,hblk,hDs,HD⟩:=hrel;by_cases hlt:k<s.size
  · have hc0:wr.cell? ⟨w.heap.size,k,none⟩=some (.int .u8 (s.data[k].toNat:Int)):=by rw [au hblk,HD.out k hlt];simp
    have hf0:wr.frozen? ⟨w.heap.size,k,none⟩=false:=GH hblk k (by omega);have hlow:=Bc s.data[k];obtain ⟨c,hc⟩:∃c,s.data[k]=c:=⟨_,rfl⟩;rw [hc]at hc0 hlow;have hb:=c.toNat_lt;have HL:Hid ((rX c).toNat=if 65≤c.toNat∧c.toNat≤90 then c.toNat+32 else c.toNat):=hlow;have HCe:Hid (s.data[k]=c):=hc;clear hlow hc
    go_wp2
    all_goals (
     go_roundw
     case measure=>simp [intOf];omega)
    case rel=>
     refine ⟨k+1,_,by omega,by go_num,hbw.setCell (by simp) _,dB hblk _ _,by simp [hDs],fun j hj=> ?_⟩;have h1:=HD.out j hj;by_cases hjk:j=k
     · subst hjk;rw [Array.getElem?_setIfInBounds_self_of_lt (by omega),if_pos (by omega),HCe.out,HL.out,if_pos ⟨by omega,by omega⟩];simp
     · rw [Array.getElem?_setIfInBounds_ne (Ne.symm hjk),h1];by_cases h2:j<k
       · rw [if_pos h2,if_pos (by omega)]
       · rw [if_neg h2,if_neg (by omega)]
    all_goals
     refine ⟨k+1,D,by omega,by go_num,hbw,hblk,hDs,fun j hj=> ?_⟩;have h1:=HD.out j hj;by_cases hjk:j=k
     · subst hjk;rw [h1,if_neg (by omega),if_pos (by omega),HCe.out,HL.out,if_neg (by omega)]
     · rw [h1];by_cases h2:j<k
       · rw [if_pos h2,if_pos (by omega)]
       · rw [if_neg h2,if_neg (by omega)]
  · have hc0:∀j (hj:j<(s.data.map rX).toList.length),wr.cell? ((⟨w.heap.size,0,none⟩:Addr).add j)=some (.int .u8 ((s.data.map rX).toList[j].toNat:Int)):=fun j hj=>by
     simp at hj;rw [iG,Nat.zero_add];rw [au hblk,HD.out j hj,if_pos (by have:s.data.size=s.size:=rfl;omega)];simp
    have hback:=run_convert_bytes_back (P:=prog) wr 142 9 5 ⟨w.heap.size,0,none⟩ cap (s.data.map rX).toList underlying142 underlying5 underlying9 hc0;have hl:(s.data.map rX).toList.length=s.size:=by simp
    rw [hl]at hback;clear hc0 hl
    go_wp2
    go_ret;exact ⟨Fw (by unfold fold;congr 1;apply Array.ext';simp),hbw⟩
theorem Jf (s:ByteArray) (f:Int) (w:World) (_hs:s.size≤2000000) (h:¬(0≤f∧f<s.size∧s.data.toList[f.toNat]? =some 39)):
 Calls prog 157 #[.string s, .int .i64 f] w fun e w' =>e= .returned (Pp (dn s f))∧w=w' :=by
 have HE:Hid (dn s f=none):=by show _=_;unfold dn;rw [if_neg h]
 have HH:Hid (¬(0≤f∧f<s.size∧s.data.toList[f.toNat]? =some 39)):=h;clear h;by_cases h1:f<0
 · go_enter func157,ntmps157;go_wp2_with fail;go_ret3;exact ⟨by rw [HE.out];rfl,rfl⟩
 · by_cases h2:(s.size:Int)≤f
   · go_enter func157,ntmps157;go_wp2_with fail;go_ret3;exact ⟨by rw [HE.out];rfl,rfl⟩
   · obtain ⟨n,rfl⟩:=Int.eq_ofNat_of_zero_le (show 0≤f by omega);have hn:n<s.size:=by omega
     have hn2:n<s.data.toList.length:=by simp;exact hn
     have h3:((s[n].toNat:Int) !=39)=true:=by
      have:=HH.out;rw [Int.toNat_natCast,List.getElem?_eq_getElem hn2]at this;have h4:¬s.data.toList[n]=39:=fun e=>this ⟨by omega,by omega,by rw [e]⟩
      have h5:s[n]=s.data.toList[n]:=by simp;rfl
      rw [h5];have:s.data.toList[n].toNat≠39:=fun e=>h4 (UInt8.toNat_inj.1 e)
      exact bne_iff_ne.2 (by omega)
     clear HH;go_enter func157,ntmps157;go_wp2_with fail;go_ret3;exact ⟨by rw [HE.out];rfl,rfl⟩
theorem Jg (s:ByteArray) (n:Nat) (w:World) (hs:s.size≤2000000) (hn:n<s.size) (h3:s.data.toList[n]? =some 39):
 Calls prog 157 #[.string s, .int .i64 n] w fun e w' =>e= .returned (Pp (dn s n))∧w=w' :=by
 have hl:s.data.toList.length=s.size:=by simp
 have HE:Hid (dn s n=(nM (s.data.toList.drop (n+1))).map fun x=>(⟨x.1.toArray⟩,(n:Int)+1+x.2)):=by
  show _=_;unfold dn;rw [if_pos ⟨by omega,by omega,by rw [Int.toNat_natCast];exact h3⟩];rfl
 have h4:((s[n].toNat:Int) !=39)=false:=by
  rw [List.getElem?_eq_getElem (by omega)]at h3;rw [←lq s n hn (by omega),Option.some.inj h3];rfl
 have Hl:Hid (s.data.toList.length=s.size):=hl;clear h3 hl;have h5:decide (s.size≤n)=false:=decide_eq_false (by omega);have h6:decide ((n:Int)<0)=false:=decide_eq_false (by omega);go_enter func157,ntmps157;go_wp2_with fail
 go_loop [7,8] (fun q v=>∃(k:Nat) (done:List UInt8) (X:ByteArray),v= .int .i64 k∧q= .string X∧n+1≤k∧k≤s.size∧X.size≤k∧Hid (X=⟨done.toArray⟩)∧Hid (nM (s.data.toList.drop (n+1))=(nM (s.data.toList.drop k)).map fun x=>(done++x.1,x.2+(k - (n+1))))) (fun _ v=>s.size+1 - (intOf v).toNat)
 case atStart=>exact ⟨n+1, [],⟨#[]⟩,by go_num,rfl,by omega,by omega,by show 0≤n+1;omega,rfl,by show _=_;simp⟩
 case round=>
  obtain ⟨k,done,X,rfl,rfl,hk1,hk2,hX,HX,HS⟩:=hrel;by_cases hlt:k<s.size
  · have hlt2:k<s.data.toList.length:=by have:=Hl.out;omega
    by_cases hq:s[k]=39
    · have hq1:((s[k].toNat:Int) !=39)=false:=by rw [hq];rfl
      have Hq:Hid (s.data.toList[k]=39):=by show _=_;rw [lq s k hlt];exact hq
      clear hq;by_cases hend:(s.size:Int)≤(k:Int)+1
      · have HF:Hid (dn s n=some (⟨done.toArray⟩,(k:Int)+1)):=by
         show _=_;rw [HE.out,HS.out,MH hlt2 Hq.out (by have:=Hl.out;omega)];simp;omega
        go_wp2_with fail;go_ret3;exact ⟨by rw [HF.out,HX.out];rfl,rfl⟩
      · have NC:k+1<s.size:=by omega
        have ND:k+1<s.data.toList.length:=by have:=Hl.out;omega
        by_cases hq2:s[k+1]=39
        · have acX:((s[k+1].toNat:Int) !=39)=false:=by rw [hq2];rfl
          have HF:Hid (nM (s.data.toList.drop (n+1))=(nM (s.data.toList.drop (k+2))).map fun x=>((done++ [39])++x.1,x.2+(k+2 - (n+1)))):=by
           show _=_;rw [HS.out,RJ hlt2 Hq.out ND (by rw [lq s (k+1) NC];exact hq2)];cases nM (s.data.toList.drop (k+2))with
           |none=>rfl
           |some x=>simp;omega
          clear hq2 HS;go_wp2_with fail;go_round
          case rel=>
           refine ⟨k+2,done++ [39],_,by go_num,rfl,by omega,by omega,by simp only [ByteArray.size_append',ByteArray.size_mk',List.size_toArray,List.length_cons,List.length_nil];omega, ?_,HF⟩;show _=_;rw [HX.out];apply ByteArray.ext;apply Array.ext';simp
          case measure=>simp [intOf];omega
        · have acX:((s[k+1].toNat:Int) !=39)=true:=by
           have:s[k+1].toNat≠39:=fun e=>hq2 (UInt8.toNat_inj.1 e)
           exact bne_iff_ne.2 (by omega)
          have HF:Hid (dn s n=some (⟨done.toArray⟩,(k:Int)+1)):=by
           show _=_;rw [HE.out,HS.out,MI hlt2 Hq.out ND (by rw [lq s (k+1) NC];exact hq2)];simp;omega
          clear hq2;go_wp2_with fail;go_ret3;exact ⟨by rw [HF.out,HX.out];rfl,rfl⟩
    · have hq1:((s[k].toNat:Int) !=39)=true:=by
       have:s[k].toNat≠39:=fun e=>hq (UInt8.toNat_inj.1 e)
       exact bne_iff_ne.2 (by omega)
      have HF:Hid (nM (s.data.toList.drop (n+1))=(nM (s.data.toList.drop (k+1))).map fun x=>((done++ [s[k]])++x.1,x.2+(k+1 - (n+1)))):=by
       show _=_;rw [HS.out,JG hlt2 (by rw [lq s k hlt];exact hq)];cases nM (s.data.toList.drop (k+1))with
       |none=>rfl
       |some x=>simp;exact ⟨rfl,by omega⟩
      have hex:s.extract k (k+1)=⟨#[s[k]]⟩:=FQ s k hlt;clear hq HS;go_wp2_with fail;go_round
      case rel=>
       refine ⟨k+1,done++ [s[k]],_,by go_num,rfl,by omega,by omega,by simp only [ByteArray.size_append',ByteArray.size_mk',List.size_toArray,List.length_cons,List.length_nil];omega, ?_,HF⟩;show _=_;rw [HX.out];apply ByteArray.ext;apply Array.ext';simp
      case measure=>simp [intOf];omega
  · have HF:Hid (dn s n=none):=by
     show _=_;rw [HE.out,HS.out,RI (by have:=Hl.out;omega)];rfl
    go_wp2_with fail;go_ret3;exact ⟨by rw [HF.out];rfl,rfl⟩
theorem Ll (s:ByteArray) (f:Int) (w:World) (hs:s.size≤2000000):
 Calls prog 157 #[.string s, .int .i64 f] w fun e w' =>e= .returned (Pp (dn s f))∧w=w' :=by
 by_cases h:0≤f∧f<s.size∧s.data.toList[f.toNat]? =some 39
 · obtain ⟨h1,h2,h3⟩:=h;obtain ⟨n,rfl⟩:=Int.eq_ofNat_of_zero_le h1;rw [Int.toNat_natCast]at h3;exact Jg s n w hs (by omega) h3
 · exact Jf s f w hs h
def St (w0 w:World):Prop:=Below w0.heap.size w0 w∧Glob w
theorem St.refl {w:World}(h:Glob w):St w w:=⟨Below.refl _ _,h⟩
theorem St.step {w0 w w' :World}(h:St w0 w) (hb:Below w.heap.size w w'):St w0 w' :=⟨h.1.trans (hb.mono h.1.size),h.2.below hb⟩
theorem St.same {w0 w w' :World}(h:St w0 w) (hb:w=w'):St w0 w' :=hb▸h
theorem St.trans {w0 w w' :World}(h:St w0 w) (hb:St w w'):St w0 w' :=⟨h.1.trans (hb.1.mono h.1.size),hb.2⟩
theorem St.drew {w0 w:World}(h:St w0 w):St w0 w.drew:=h.step (Below.refl _ _).drew
theorem St.glob {w0 w:World}(h:St w0 w):Glob w:=h.2
open Go.ChangeShapes Go.WideShapes Go.ChangeAt Go.RowKit Go.Shelf
open Go.ChangeMaps (open_string shut_string)
theorem Tryz.own:ownKnob prog.godebug=none:=by kernel_rfl
section
variable {H:Type}{enc:TypeId×Value→H}
end
theorem Qm:Rows.laid_unicode_utf8_first=Lib.firstData:=by kernel_rfl
theorem NI:(Rows.laid_unicode_utf8_acceptRanges:DataW Unit)=Lib.acceptData:=by kernel_rfl
def Dz (T:TypeId) (flat:List Pt→List Value) (L:Nat) (w:World) (b:Nat) (s:ByteArray) (P:List Pt) (i:Nat):Prop:=
 L≤w.heap.size∧b<L∧∃a cap,w.heap[b]? =some (.cells #[.string s, .slice a P.length cap, .int .i64 i] T (0,0))∧
  (0<P.length→∃g,a=some ⟨g,0,none⟩∧g≠b∧g<L∧∀j u,(flat P)[j]? =some u→w.cell? ⟨g,j,none⟩=some u)
section
variable {T:TypeId}{flat:List Pt→List Value}{L:Nat}{w w' :World}{b:Nat}{s:ByteArray}{P:List Pt}{i:Nat}
theorem Dz.heap (h:Dz T flat L w b s P i) (hh:w'.heap=w.heap):Dz T flat L w' b s P i:=by
 obtain ⟨h0,h0',a,cap,h1,h2⟩:=h;refine ⟨by rw [hh];exact h0,h0',a,cap,by rw [hh];exact h1,fun hp=> ?_⟩;obtain ⟨g,e1,e2,e3,e4⟩:=h2 hp;refine ⟨g,e1,e2,e3,fun j u hj=> ?_⟩;rw [←e4 j u hj];unfold World.cell?;rw [hh]
theorem Dz.keep (h:Dz T flat L w b s P i) (hs:w.heap.size≤w'.heap.size) (hb:∀k,k<L→w'.heap[k]? =w.heap[k]?):Dz T flat L w' b s P i:=by
 obtain ⟨h0,h0',a,cap,h1,h2⟩:=h;refine ⟨Nat.le_trans h0 hs,h0',a,cap,by rw [hb b h0'];exact h1,fun hp=> ?_⟩;obtain ⟨g,e1,e2,e3,e4⟩:=h2 hp;refine ⟨g,e1,e2,e3,fun j u hj=> ?_⟩;rw [←e4 j u hj];unfold World.cell?;rw [hb g e3]
theorem Dz.below (h:Dz T flat L w b s P i) (hb:Below w.heap.size w w'):Dz T flat L w' b s P i:=
 h.keep hb.size (fun k hk=>hb.block k (Nat.lt_of_lt_of_le hk h.1))
theorem Dz.lt (h:Dz T flat L w b s P i):b<w.heap.size:=Nat.lt_of_lt_of_le h.2.1 h.1
theorem Dz.le (h:Dz T flat L w b s P i):L≤w.heap.size:=h.1
theorem Dz.set (h:Dz T flat L w b s P i) (j:Nat):Dz T flat L (w.setCell ⟨b,2,none⟩ (.int .i64 j)) b s P j:=by
 obtain ⟨h0,h0',a,cap,h1,h2⟩:=h;refine ⟨by simpa [World.setCell]using h0,h0',a,cap,dB h1 2 _,fun hp=> ?_⟩;obtain ⟨g,e1,e2,e3,e4⟩:=h2 hp;refine ⟨g,e1,e2,e3,fun k u hj=> ?_⟩;rw [←e4 k u hj];unfold World.cell?;rw [Below.heap_setCell _ _ _ _ e2]
theorem Dz.setOther (h:Dz T flat L w b s P i) {g:Nat}(hg:L≤g) (o:Nat) (u:Value):Dz T flat L (w.setCell ⟨g,o,none⟩ u) b s P i:=
 h.keep (by simp [World.setCell]) (fun k hk=>Below.heap_setCell _ _ _ _ (by show k≠g;omega))
end
theorem aO {a b c:World}{r:Option Nat}(h:a.grownBy b r) (k:b.grownBy c r):a.grownBy c r:=
 ⟨k.os.trans h.os,k.tape.trans h.tape,k.output.trans h.output,Nat.le_trans h.size k.size,fun i hi hr=>(k.block i (Nat.lt_of_lt_of_le hi h.size) hr).trans (h.block i hi hr)⟩
theorem vR (a:World) (r:Option Nat):a.grownBy a r:=⟨rfl,rfl,rfl,Nat.le_refl _,fun _ _ _=>rfl⟩
theorem bK (a:World) (n:Nat) (r:Option Nat):a.grownBy (a.drewN n) r:=⟨rfl,rfl,rfl,Nat.le_refl _,fun _ _ _=>rfl⟩
theorem lu {a b:World}(h:Below a.heap.size a b) (r:Option Nat):a.grownBy b r:=⟨h.os,h.tape,h.output,h.size,fun i hi _=>h.block i hi⟩
theorem j6 (a:World) (b:Nat) (o:Nat) (u:Value):a.grownBy (a.setCell ⟨b,o,none⟩ u) (some b):=
 ⟨rfl,rfl,rfl,by simp [World.setCell],fun i _ hr=>Below.heap_setCell _ _ _ _ (fun e=>hr (by rw [e]))⟩
theorem kE {a b:World}{B k:Nat}(h:a.grownBy b (some k)) (hB:B≤k) (hs:B≤a.heap.size):Below B a b:=
 ⟨h.os,h.tape,h.output,h.size,fun i hi=>h.block i (by omega) (fun e=>by cases e;omega)⟩
def lC (p:Pt):List Value:= [.int .i32 p.r, .int .i64 p.at_, .bool p.ok]
def EB (l:List Pt):List Value:=l.flatMap lC
theorem GL (l:List Pt) (p:Pt):EB l++lC p=EB (l++ [p]):=by simp [EB]
theorem nA:∀(l:List Pt) (k j:Nat) (h:k<l.length) (_:j<3),(EB l)[k*3+j]? =(lC l[k])[j]?
 |p::l,0,j,_,hj=>by
  simp only [EB,List.flatMap_cons,Nat.zero_mul,Nat.zero_add,List.getElem_cons_zero];rw [List.getElem?_append_left (by simp [lC];omega)]
 |p::l,k+1,j,h,hj=>by
  have:=nA l k j (by simp at h;omega) hj;simp only [EB,List.flatMap_cons,List.getElem_cons_succ]at this⊢;rw [List.getElem?_append_right (by simp [lC];omega)];have e:(k+1)*3+j - (lC p).length=k*3+j:=by simp [lC];omega
  rw [e];exact this
abbrev SQ:=Dz 93 EB
theorem aa0 {L:Nat}(w:World) (b:Nat) (s:ByteArray) (P:List Pt) (i:Nat) (h:SQ L w b s P i):
 Calls prog 60 #[.pointer (some ⟨b,0,none⟩)] w fun e w' =>e= .returned (.bool (decide (P.length≤i)))∧∃m,w' =w.drewN m:=by
 obtain ⟨_,_,a,cap,h1,_⟩:=h;have c1:w.cell? ⟨b,1,none⟩=some (.slice a P.length cap):=by rw [au h1];rfl
 have c2:w.cell? ⟨b,2,none⟩=some (.int .i64 i):=by rw [au h1];rfl
 clear h1;go_enter func60,ntmps60;go_wp2_with fail;go_quiet (fail);go_wp2_with fail;go_ret;exact ⟨cB (by simp),_,rfl⟩
theorem uK {L:Nat}(w:World) (b:Nat) (s:ByteArray) (P:List Pt) (i:Nat) (h:SQ L w b s P i) (v:Bool) (hv:decide (P.length≤i)=v):
 Calls prog 60 #[.pointer (some ⟨b,0,none⟩)] w fun e w' =>e= .returned (.bool v)∧∃m,w' =w.drewN m:=by
 rw [←hv];exact aa0 w b s P i h
theorem Dz.cells {T:TypeId}{flat:List Pt→List Value}{L:Nat}{w:World}{b:Nat}{s:ByteArray}{P:List Pt}{i:Nat}(h:Dz T flat L w b s P i):
 ∃a cap,w.cell? ⟨b,0,none⟩=some (.string s)∧w.cell? ⟨b,1,none⟩=some (.slice a P.length cap)∧w.cell? ⟨b,2,none⟩=some (.int .i64 i)∧w.frozen? ⟨b,2,none⟩=false∧
 (0<P.length→∃g,a=some ⟨g,0,none⟩∧∀j u,(flat P)[j]? =some u→w.cell? ⟨g,j,none⟩=some u):=by
 obtain ⟨_,_,a,cap,h1,h2⟩:=h;refine ⟨a,cap,by rw [au h1];rfl,by rw [au h1];rfl,by rw [au h1];rfl,aj h1 2,fun hp=> ?_⟩;obtain ⟨g,e1,_,_,e4⟩:=h2 hp;exact ⟨g,e1,e4⟩
theorem acY {L:Nat}(w:World) (b:Nat) (s:ByteArray) (P:List Pt) (i more:Nat) (r:Int) (h:SQ L w b s P i) (hi:i≤1000000) (hm:more≤1):
 Calls prog 98 #[.pointer (some ⟨b,0,none⟩), .int .i64 more, .int .i32 r] w fun e w' =>e= .returned (.bool (gG P (i+more) r))∧∃m,w' =w.drewN m:=by
 obtain ⟨a,cap,c0,c1,c2,_,h2⟩:=h.cells;have hw:IntKind.i64.wrap ((i:Int)+(more:Int))=(i:Int)+(more:Int):=IntWalk.i64_in _ (by omega);have hn:((i:Int)+(more:Int)).toNat=i+more:=by omega
 have h0:(0:Int)≤(i:Int)+(more:Int):=by omega
 by_cases hlt:i+more<P.length
 · obtain ⟨g,rfl,hc⟩:=h2 (by omega);have c3:w.cell? ⟨g,(i+more)*3,none⟩=some (.int .i32 P[i+more].r):=hc _ _ (by have:=nA P (i+more) 0 hlt (by omega);rw [Nat.add_zero]at this;rw [this];rfl);have HE:Hid (gG P (i+more) r=((P[i+more].r:Int)==r)):=by show _=_;unfold gG;rw [List.getElem?_eq_getElem hlt]
   have h3:(i:Int)+(more:Int)<(P.length:Int):=by omega
   have hd:decide ((i:Int)+(more:Int)<(P.length:Int))=true:=decide_eq_true h3;clear hc h2 c0;generalize P[i+more]=q at *;go_enter func98,ntmps98;go_wp2_with fail;go_quiet (fail);go_wp2_with fail;go_ret;exact ⟨cB (by rw [HE.out]),_,rfl⟩
 · have HE:Hid (gG P (i+more) r=false):=by show _=_;unfold gG;rw [List.getElem?_eq_none (by omega)]
   have hd:decide ((i:Int)+(more:Int)<(P.length:Int))=false:=decide_eq_false (by omega);clear h2 c0;go_enter func98,ntmps98;go_wp2_with fail;go_quiet (fail);go_wp2_with fail;go_ret;exact ⟨cB (by rw [HE.out]),_,rfl⟩
theorem Am {L:Nat}(w:World) (b:Nat) (s:ByteArray) (P:List Pt) (i k:Nat) (h:SQ L w b s P i):
 Calls prog 139 #[.pointer (some ⟨b,0,none⟩), .int .i64 k] w fun e w' =>e= .returned (.int .i64 (aQ s P k))∧w' =w:=by
 obtain ⟨a,cap,c0,c1,c2,_,h2⟩:=h.cells;by_cases hlt:k<P.length
 · obtain ⟨g,rfl,hc⟩:=h2 (by omega);have c3:w.cell? ⟨g,k*3+1,none⟩=some (.int .i64 P[k].at_):=hc _ _ (by rw [nA P k 1 hlt (by omega)];rfl);have HE:Hid (aQ s P k=P[k].at_):=by show _=_;unfold aQ;rw [List.getElem?_eq_getElem hlt]
   clear hc h2;generalize P[k]=q at *;go_enter func139,ntmps139;go_wp2_with fail;go_ret;exact ⟨qI (by rw [HE.out]),rfl⟩
 · have HE:Hid (aQ s P k=s.size):=by show _=_;unfold aQ;rw [List.getElem?_eq_none (by omega)]
   clear h2;go_enter func139,ntmps139;go_wp2_with fail;go_ret;exact ⟨qI (by rw [HE.out]),rfl⟩
theorem Lm {L:Nat}(w:World) (b:Nat) (s:ByteArray) (P:List Pt) (i:Nat) (h:SQ L w b s P i):
 Calls prog 99 #[.pointer (some ⟨b,0,none⟩)] w fun e w' =>e= .returned (.bool (dJ P i))∧∃m,w' =w.drewN m:=by
 obtain ⟨a,cap,c0,c1,c2,_,h2⟩:=h.cells;by_cases hlt:i<P.length
 · obtain ⟨g,rfl,hc⟩:=h2 (by omega);have c3:w.cell? ⟨g,i*3+2,none⟩=some (.bool P[i].ok):=hc _ _ (by rw [nA P i 2 hlt (by omega)];rfl);have c4:w.cell? ⟨g,i*3,none⟩=some (.int .i32 P[i].r):=hc _ _ (by have:=nA P i 0 hlt (by omega);rw [Nat.add_zero]at this;rw [this];rfl);have HE:Hid (dJ P i=(P[i].ok&&(gD P[i].r||(decide (65≤(P[i].r:Int))&&decide ((P[i].r:Int)≤90))))):=by show _=_;unfold dJ;rw [List.getElem?_eq_getElem hlt]
   have he:=Lib.hid (fun n=>uK (w.drewN n) b s P i (h.heap rfl) false (decide_eq_false (by omega)));have h3:(i:Int)<(P.length:Int):=by omega
   have h4:(0:Int)≤(i:Int):=by omega
   clear hc h2 c0 h;generalize P[i]=q at *;obtain ⟨ok,hok⟩:∃ok,q.ok=ok:=⟨_,rfl⟩;obtain ⟨r,hr⟩:∃r:Nat,q.r=r:=⟨_,rfl⟩;rw [hok,hr]at HE;rw [hok]at c3;rw [hr]at c4;clear hok hr;cases ok
   · go_enter func99,ntmps99;go_wp2_with fail;go_quiet ((go_at_call 60;exact Calls.quiet_of (he.out _)));go_wp2_with fail;go_ret;exact ⟨cB (by rw [HE.out];rfl),_,rfl⟩
   · go_enter func99,ntmps99;go_wp2_with fail;go_quiet ((go_at_call 60;exact Calls.quiet_of (he.out _)));go_wp2_with fail;go_quiet (fail);go_wp2_with fail;all_goals go_ret
     all_goals refine ⟨cB ?_,_,rfl⟩
     all_goals (rw [HE.out];unfold gD;rw [Bool.eq_iff_iff];simp;try omega)
 · have HE:Hid (dJ P i=false):=by show _=_;unfold dJ;rw [List.getElem?_eq_none (by omega)]
   have he:=Lib.hid (fun n=>uK (w.drewN n) b s P i (h.heap rfl) true (decide_eq_true (by omega)));clear h2 c0 h;go_enter func99,ntmps99;go_wp2_with fail;go_quiet ((go_at_call 60;exact Calls.quiet_of (he.out _)));go_wp2_with fail;go_ret;exact ⟨cB (by rw [HE.out]),_,rfl⟩
theorem Lp {L:Nat}(w:World) (b:Nat) (s:ByteArray) (P:List Pt) (i:Nat) (h:SQ L w b s P i):
 Calls prog 101 #[.pointer (some ⟨b,0,none⟩)] w fun e w' =>e= .returned (.bool (dh P i))∧∃m,w' =w.drewN m:=by
 obtain ⟨a,cap,c0,c1,c2,_,h2⟩:=h.cells;by_cases hlt:i<P.length
 · obtain ⟨g,rfl,hc⟩:=h2 (by omega);have c4:w.cell? ⟨g,i*3,none⟩=some (.int .i32 P[i].r):=hc _ _ (by have:=nA P i 0 hlt (by omega);rw [Nat.add_zero]at this;rw [this];rfl);have HE:Hid (dh P i=kG P[i].r):=by show _=_;unfold dh;rw [List.getElem?_eq_getElem hlt]
   have he:=Lib.hid (fun n=>uK (w.drewN n) b s P i (h.heap rfl) false (decide_eq_false (by omega)));have h3:(i:Int)<(P.length:Int):=by omega
   have h4:(0:Int)≤(i:Int):=by omega
   clear hc h2 c0 h;generalize P[i]=q at *;obtain ⟨r,hr⟩:∃r:Nat,q.r=r:=⟨_,rfl⟩;rw [hr]at HE;rw [hr]at c4;clear hr;by_cases h5:48≤r
   · have h5d:decide ((48:Int)≤(r:Int))=true:=decide_eq_true (by omega);go_enter func101,ntmps101;go_wp2_with fail;go_quiet ((go_at_call 60;exact Calls.quiet_of (he.out _)));go_wp2_with fail;go_ret;exact ⟨cB (by rw [HE.out];unfold kG;rw [h5d];simp),_,rfl⟩
   · have h5d:decide ((48:Int)≤(r:Int))=false:=decide_eq_false (by omega);go_enter func101,ntmps101;go_wp2_with fail;go_quiet ((go_at_call 60;exact Calls.quiet_of (he.out _)));go_wp2_with fail;go_ret;exact ⟨cB (by rw [HE.out];unfold kG;rw [h5d];simp),_,rfl⟩
 · have HE:Hid (dh P i=false):=by show _=_;unfold dh;rw [List.getElem?_eq_none (by omega)]
   have he:=Lib.hid (fun n=>uK (w.drewN n) b s P i (h.heap rfl) true (decide_eq_true (by omega)));clear h2 c0 h;go_enter func101,ntmps101;go_wp2_with fail;go_quiet ((go_at_call 60;exact Calls.quiet_of (he.out _)));go_wp2_with fail;go_ret;exact ⟨cB (by rw [HE.out]),_,rfl⟩
theorem Tryz.acZ:(prog.info? 125).map (fun i=>(i.zero,i.size,i.bytes))=some (some (.agg #[.int .i32 0, .int .i64 0, .bool false]),3,24):=by kernel_rfl
theorem nC {L:Nat}(w:World) (b:Nat) (s:ByteArray) (P:List Pt) (i more:Nat) (r:Int) (h:SQ L w b s P i) (hi:i≤1000000) (hm:more≤1) (v:Bool) (hv:gG P (i+more) r=v):
 Calls prog 98 #[.pointer (some ⟨b,0,none⟩), .int .i64 more, .int .i32 r] w fun e w' =>e= .returned (.bool v)∧∃m,w' =w.drewN m:=by
 rw [←hv];exact acY w b s P i more r h hi hm
def nR (w:World) (b:Nat):Nat:=match w.cell? ⟨b,2,none⟩with|some (.int _ n)=>n.toNat|_=>0
theorem fu {T:TypeId}{flat:List Pt→List Value}{L:Nat}{w:World}{b:Nat}{s:ByteArray}{P:List Pt}{i:Nat}(h:Dz T flat L w b s P i):nR w b=i:=by
 obtain ⟨_,_,_,_,c2,_⟩:=h.cells;unfold nR;rw [c2];exact Int.toNat_natCast i
theorem NJ {L:Nat}(w:World) (b:Nat) (s:ByteArray) (P:List Pt) (i:Nat) (h:SQ L w b s P i) (hi:i≤P.length) (hP:P.length≤100000):
 Calls prog 59 #[.pointer (some ⟨b,0,none⟩)] w fun e w' =>e= .returned (.tuple #[])∧SQ L w' b s P (skip P i)∧w.grownBy w' (some b):=by
 have H:=Lib.hid h;clear h;go_enter func59,ntmps59;go_wp2_with fail
 go_loopw [] (fun wr=>∃k,SQ L wr b s P k∧w.grownBy wr (some b)∧Hid (skip P i=skip P k)∧k≤P.length) (fun wr=>P.length - nR wr b)
 case atStart=>exact ⟨i,H.out,vR _ _,rfl,hi⟩
 case round=>
  obtain ⟨k,hS,hg,HE,hk⟩:=hrel;have hk0:=fu hS;have HK:=Lib.hid hk0;clear hk0;by_cases hlt:k<P.length
  · have HL:=Lib.hid hlt;go_wp2_with fail;refine (uK _ b s P k hS false (decide_eq_false (by omega))).mono ?_;rintro e w1 ⟨rfl,m,hm⟩;replace hS:=hS.heap (w' :=w1) (by rw [hm];rfl);replace hg:=aO hg (show _ from hm▸bK _ m (some b));clear hm;cases h32:gG P k 32
    case true=>
     go_wp2_with fail;refine (nC _ b s P k 0 32 hS (by omega) (by omega) _ h32).mono ?_;rintro e w1 ⟨rfl,m,hm⟩;replace hS:=hS.heap (w' :=w1) (by rw [hm];rfl);replace hg:=aO hg (show _ from hm▸bK _ m (some b));clear hm;obtain ⟨_,_,_,_,c2,f2,_⟩:=hS.cells;go_wp2_with fail;go_roundw
     case rel=>
      refine ⟨k+1,by have:=hS.set (k+1);push_cast at this;exact this,aO hg (j6 _ _ _ _), ?_,by omega⟩;show _=_;rw [HE.out,iE HL.out (by unfold eu;rw [h32];rfl)]
     case measure=>
      have h1:=fu (hS.set (k+1));push_cast at h1;rw [h1,HK.out];omega
    case false=>
     cases h9:gG P k 9
     case true=>
      go_wp2_with fail;refine (nC _ b s P k 0 32 hS (by omega) (by omega) _ h32).mono ?_;rintro e w1 ⟨rfl,m,hm⟩;replace hS:=hS.heap (w' :=w1) (by rw [hm];rfl);replace hg:=aO hg (show _ from hm▸bK _ m (some b));clear hm;go_wp2_with fail;refine (nC _ b s P k 0 9 hS (by omega) (by omega) _ h9).mono ?_;rintro e w1 ⟨rfl,m,hm⟩;replace hS:=hS.heap (w' :=w1) (by rw [hm];rfl);replace hg:=aO hg (show _ from hm▸bK _ m (some b));clear hm;obtain ⟨_,_,_,_,c2,f2,_⟩:=hS.cells;go_wp2_with fail;go_roundw
      case rel=>
       refine ⟨k+1,by have:=hS.set (k+1);push_cast at this;exact this,aO hg (j6 _ _ _ _), ?_,by omega⟩;show _=_;rw [HE.out,iE HL.out (by unfold eu;rw [h32,h9];rfl)]
      case measure=>
       have h1:=fu (hS.set (k+1));push_cast at h1;rw [h1,HK.out];omega
     case false=>
      cases h10:gG P k 10
      case true=>
       go_wp2_with fail;refine (nC _ b s P k 0 32 hS (by omega) (by omega) _ h32).mono ?_;rintro e w1 ⟨rfl,m,hm⟩;replace hS:=hS.heap (w' :=w1) (by rw [hm];rfl);replace hg:=aO hg (show _ from hm▸bK _ m (some b));clear hm;go_wp2_with fail;refine (nC _ b s P k 0 9 hS (by omega) (by omega) _ h9).mono ?_;rintro e w1 ⟨rfl,m,hm⟩;replace hS:=hS.heap (w' :=w1) (by rw [hm];rfl);replace hg:=aO hg (show _ from hm▸bK _ m (some b));clear hm;go_wp2_with fail;refine (nC _ b s P k 0 10 hS (by omega) (by omega) _ h10).mono ?_;rintro e w1 ⟨rfl,m,hm⟩;replace hS:=hS.heap (w' :=w1) (by rw [hm];rfl);replace hg:=aO hg (show _ from hm▸bK _ m (some b));clear hm;obtain ⟨_,_,_,_,c2,f2,_⟩:=hS.cells;go_wp2_with fail;go_roundw
       case rel=>
        refine ⟨k+1,by have:=hS.set (k+1);push_cast at this;exact this,aO hg (j6 _ _ _ _), ?_,by omega⟩;show _=_;rw [HE.out,iE HL.out (by unfold eu;rw [h32,h9,h10];rfl)]
       case measure=>
        have h1:=fu (hS.set (k+1));push_cast at h1;rw [h1,HK.out];omega
      case false=>
       cases K4:gG P k 13
       case true=>
        go_wp2_with fail;refine (nC _ b s P k 0 32 hS (by omega) (by omega) _ h32).mono ?_;rintro e w1 ⟨rfl,m,hm⟩;replace hS:=hS.heap (w' :=w1) (by rw [hm];rfl);replace hg:=aO hg (show _ from hm▸bK _ m (some b));clear hm;go_wp2_with fail;refine (nC _ b s P k 0 9 hS (by omega) (by omega) _ h9).mono ?_;rintro e w1 ⟨rfl,m,hm⟩;replace hS:=hS.heap (w' :=w1) (by rw [hm];rfl);replace hg:=aO hg (show _ from hm▸bK _ m (some b));clear hm;go_wp2_with fail;refine (nC _ b s P k 0 10 hS (by omega) (by omega) _ h10).mono ?_;rintro e w1 ⟨rfl,m,hm⟩;replace hS:=hS.heap (w' :=w1) (by rw [hm];rfl);replace hg:=aO hg (show _ from hm▸bK _ m (some b));clear hm;go_wp2_with fail;refine (nC _ b s P k 0 13 hS (by omega) (by omega) _ K4).mono ?_;rintro e w1 ⟨rfl,m,hm⟩;replace hS:=hS.heap (w' :=w1) (by rw [hm];rfl);replace hg:=aO hg (show _ from hm▸bK _ m (some b));clear hm;obtain ⟨_,_,_,_,c2,f2,_⟩:=hS.cells;go_wp2_with fail;go_roundw
        case rel=>
         refine ⟨k+1,by have:=hS.set (k+1);push_cast at this;exact this,aO hg (j6 _ _ _ _), ?_,by omega⟩;show _=_;rw [HE.out,iE HL.out (by unfold eu;rw [h32,h9,h10,K4];rfl)]
        case measure=>
         have h1:=fu (hS.set (k+1));push_cast at h1;rw [h1,HK.out];omega
       case false=>
        have HB:Hid (eu P k=false):=by show _=_;unfold eu;rw [h32,h9,h10,K4];rfl
        go_wp2_with fail;refine (nC _ b s P k 0 32 hS (by omega) (by omega) _ h32).mono ?_;rintro e w1 ⟨rfl,m,hm⟩;replace hS:=hS.heap (w' :=w1) (by rw [hm];rfl);replace hg:=aO hg (show _ from hm▸bK _ m (some b));clear hm;go_wp2_with fail;refine (nC _ b s P k 0 9 hS (by omega) (by omega) _ h9).mono ?_;rintro e w1 ⟨rfl,m,hm⟩;replace hS:=hS.heap (w' :=w1) (by rw [hm];rfl);replace hg:=aO hg (show _ from hm▸bK _ m (some b));clear hm;go_wp2_with fail;refine (nC _ b s P k 0 10 hS (by omega) (by omega) _ h10).mono ?_;rintro e w1 ⟨rfl,m,hm⟩;replace hS:=hS.heap (w' :=w1) (by rw [hm];rfl);replace hg:=aO hg (show _ from hm▸bK _ m (some b));clear hm;go_wp2_with fail;refine (nC _ b s P k 0 13 hS (by omega) (by omega) _ K4).mono ?_;rintro e w1 ⟨rfl,m,hm⟩;replace hS:=hS.heap (w' :=w1) (by rw [hm];rfl);replace hg:=aO hg (show _ from hm▸bK _ m (some b));clear hm;cases h45:gG P k 45
        case false=>
         go_wp2_with fail;refine (nC _ b s P k 0 45 hS (by omega) (by omega) _ h45).mono ?_;rintro e w1 ⟨rfl,m,hm⟩;replace hS:=hS.heap (w' :=w1) (by rw [hm];rfl);replace hg:=aO hg (show _ from hm▸bK _ m (some b));clear hm
         have HF:Hid (skip P i=k):=by
          show _=_;rw [HE.out,iL HB.out (by unfold jC;rw [h45];rfl)]
         clear h32 h9 h10 K4 h45;go_wp2_with fail
         ((try simp only [Exit.inBlock,Exit.then]);refine bodyPost_ret (results_none rfl _ _ _) rfl ?_)
         exact ⟨rfl,by rw [HF.out];exact hS,hg⟩
        case true=>
         cases h46:gG P (k+1) 45
         case false=>
          go_wp2_with fail;refine (nC _ b s P k 0 45 hS (by omega) (by omega) _ h45).mono ?_;rintro e w1 ⟨rfl,m,hm⟩;replace hS:=hS.heap (w' :=w1) (by rw [hm];rfl);replace hg:=aO hg (show _ from hm▸bK _ m (some b));clear hm;go_wp2_with fail;refine (nC _ b s P k 1 45 hS (by omega) (by omega) _ h46).mono ?_;rintro e w1 ⟨rfl,m,hm⟩;replace hS:=hS.heap (w' :=w1) (by rw [hm];rfl);replace hg:=aO hg (show _ from hm▸bK _ m (some b));clear hm
          have HF:Hid (skip P i=k):=by
           show _=_;rw [HE.out,iL HB.out (by unfold jC;rw [h45,h46];rfl)]
          clear h32 h9 h10 K4 h45 h46;go_wp2_with fail
          ((try simp only [Exit.inBlock,Exit.then]);refine bodyPost_ret (results_none rfl _ _ _) rfl ?_)
          exact ⟨rfl,by rw [HF.out];exact hS,hg⟩
         case true=>
          go_wp2_with fail;refine (nC _ b s P k 0 45 hS (by omega) (by omega) _ h45).mono ?_;rintro e w1 ⟨rfl,m,hm⟩;replace hS:=hS.heap (w' :=w1) (by rw [hm];rfl);replace hg:=aO hg (show _ from hm▸bK _ m (some b));clear hm;go_wp2_with fail;refine (nC _ b s P k 1 45 hS (by omega) (by omega) _ h46).mono ?_;rintro e w1 ⟨rfl,m,hm⟩;replace hS:=hS.heap (w' :=w1) (by rw [hm];rfl);replace hg:=aO hg (show _ from hm▸bK _ m (some b));clear hm;have HD:Hid (jC P k=true):=by show _=_;unfold jC;rw [h45,h46];rfl
          have HF:Hid (skip P i=skip P (lineEnd P k)):=by
           show _=_;rw [HE.out,nS HL.out HB.out HD.out]
          clear h32 h9 h10 K4 h45 h46;go_wp2_with fail
          go_loopw [] (fun wi=>∃j,SQ L wi b s P j∧w.grownBy wi (some b)∧Hid (lineEnd P k=dO (fun j=> !gG P j 10) P.length j)∧j≤P.length) (fun wi=>P.length - nR wi b)
          case atStart=>exact ⟨k,hS,hg,rfl,hk⟩
          case round=>
           obtain ⟨j,hS,hg,HJ,hj⟩:=hrel;have hj0:=fu hS;have HJ0:=Lib.hid hj0;clear hj0;by_cases hlj:j<P.length
           · cases h10:gG P j 10
             case false=>
              go_wp2_with fail;refine (uK _ b s P j hS false (decide_eq_false (by omega))).mono ?_;rintro e w1 ⟨rfl,m,hm⟩;replace hS:=hS.heap (w' :=w1) (by rw [hm];rfl);replace hg:=aO hg (show _ from hm▸bK _ m (some b));clear hm;go_wp2_with fail;refine (nC _ b s P j 0 10 hS (by omega) (by omega) _ h10).mono ?_;rintro e w1 ⟨rfl,m,hm⟩;replace hS:=hS.heap (w' :=w1) (by rw [hm];rfl);replace hg:=aO hg (show _ from hm▸bK _ m (some b));clear hm;obtain ⟨_,_,_,_,c2,f2,_⟩:=hS.cells;have HJ2:Hid (lineEnd P k=dO (fun j=> !gG P j 10) P.length (j+1)):=by show _=_;rw [HJ.out];exact gH hlj (by simp only [h10];rfl)
              clear h10;go_wp2_with fail;go_roundw
              case rel=>exact ⟨j+1,by have:=hS.set (j+1);push_cast at this;exact this,aO hg (j6 _ _ _ _),HJ2,by omega⟩
              case measure=>
               have h1:=fu (hS.set (j+1));push_cast at h1;rw [h1,HJ0.out];omega
             case true=>
              go_wp2_with fail;refine (uK _ b s P j hS false (decide_eq_false (by omega))).mono ?_;rintro e w1 ⟨rfl,m,hm⟩;replace hS:=hS.heap (w' :=w1) (by rw [hm];rfl);replace hg:=aO hg (show _ from hm▸bK _ m (some b));clear hm;go_wp2_with fail;refine (nC _ b s P j 0 10 hS (by omega) (by omega) _ h10).mono ?_;rintro e w1 ⟨rfl,m,hm⟩;replace hS:=hS.heap (w' :=w1) (by rw [hm];rfl);replace hg:=aO hg (show _ from hm▸bK _ m (some b));clear hm;have XM:=Lib.hid h10;clear h10;have HLE:Hid (lineEnd P k=j):=by show _=_;rw [HJ.out];exact fE (by simp only [XM.out];rfl)
              have hgt:=jM HD.out;have HGT:Hid (k<j):=by rw [←HLE.out];exact hgt.1
              clear hgt;go_wp2_with fail;go_roundw
              case rel=>exact ⟨j,hS,hg,(by show _=_;rw [HF.out,HLE.out]),hj⟩
              case measure=>rw [fu hS,HK.out];have:=HGT.out;have:=HL.out;omega
           · skip
             go_wp2_with fail;refine (uK _ b s P j hS true (decide_eq_true (by omega))).mono ?_;rintro e w1 ⟨rfl,m,hm⟩;replace hS:=hS.heap (w' :=w1) (by rw [hm];rfl);replace hg:=aO hg (show _ from hm▸bK _ m (some b));clear hm;have HLE:Hid (lineEnd P k=j):=by show _=_;rw [HJ.out];exact qM (by omega)
             have hgt:=jM HD.out;have HGT:Hid (k<j):=by rw [←HLE.out];exact hgt.1
             clear hgt;go_wp2_with fail;go_roundw
             case rel=>exact ⟨j,hS,hg,(by show _=_;rw [HF.out,HLE.out]),hj⟩
             case measure=>rw [fu hS,HK.out];have:=HGT.out;have:=HL.out;omega
  · have HF:Hid (skip P i=k):=by show _=_;rw [HE.out,xg (by omega)]
    go_wp2_with fail;refine (uK _ b s P k hS true (decide_eq_true (by omega))).mono ?_;rintro e w1 ⟨rfl,m,hm⟩;replace hS:=hS.heap (w' :=w1) (by rw [hm];rfl);replace hg:=aO hg (show _ from hm▸bK _ m (some b));clear hm;go_wp2_with fail
    go_end0
    exact ⟨rfl,by rw [HF.out];exact hS,hg⟩
theorem ownsRow_iterAt {w:World}{base:Nat}{e:TypeId}{size:Nat}{v:Value}{n:Nat}{xs:List Value}(h:w.ownsRow base e size v n xs) {k:Nat}(hk:k<base) (s:ByteArray) (p:Nat):(w.iterAt k s p).ownsRow base e size v n xs:=by
 obtain ⟨h1,h2⟩:=h;refine ⟨h1, ?_⟩;rcases h2 with h2|⟨g,cap,cur,a,b,c,d⟩
 · exact .inl h2
 · exact .inr ⟨g,cap,cur,a,b,by rw [Lib.iterAt_other _ _ _ _ _ (by omega)];exact c,d⟩
theorem xY {w:World}{base:Nat}{e:TypeId}{size:Nat}{v:Value}{n:Nat}{xs:List Value}(h:w.ownsRow base e size v n xs) {a:Addr}(ha:a.block<base) (u:Value):(w.setCell a u).ownsRow base e size v n xs:=ownsRow_setCell_below h ha u
theorem Sv (r a:Int) (x:Bool):∀u∈ [Value.int .i32 r,Value.int .i64 a,Value.bool x],u.oneCell' =true:=by
 intro u hu;simp at hu;rcases hu with rfl|rfl|rfl<;>rfl
theorem XO (s:ByteArray) (w:World) (hG:Glob w) (hs:s.size≤100000):
 Calls prog 58 #[.string s] w fun e w' =>e= .returned (.pointer (some ⟨w.heap.size,0,none⟩))∧SQ w'.heap.size w' w.heap.size s (pts s) 0∧Below w.heap.size w w' :=by
 obtain ⟨i0,hi,hz0,hz1,hz2⟩:=info_parts Tryz.acZ;have HG:=Lib.hid hG;clear hG;go_enter func58,ntmps58;go_wp2_with fail
 go_loopw [] (fun wr=>∃(pos:Nat) (done:List Pt) (v:Value),wr.heap[w.heap.size+1]? =some (.stringIter s pos)∧wr.heap[w.heap.size]? =some (.cells #[.string s,v, .int .i64 0] 93 (0,0))∧wr.ownsRow (w.heap.size+2) 125 3 v done.length (EB done)∧Below w.heap.size w wr∧Hid (pts s=done++dS s pos)∧done.length≤pos∧pos≤s.size) (fun wr=>s.size - wr.iterPos (w.heap.size+1))
 case atStart=>
  refine ⟨0, [], .slice none 0 0, ?_, ?_,World.ownsRow_nil _ _ _ _,((Below.refl _ _).alloc (Nat.le_refl _) _).alloc (by simp) _,rfl,by simp,by omega⟩
  · have:=World.iter_heap (w.alloc (.cells #[.string s, .slice none 0 0, .int .i64 0] 93)) s 0;simpa using this
  · exact aC (aA w _) _
 case round=>
  obtain ⟨pos,done,v,hit,hblk,hown,hbw,HS,hk,hpos⟩:=hrel;have Et:=iterPos_of hit;by_cases hp:pos<s.size
  · have hnx:∀ty,(Instr.next (.pointer (some ⟨w.heap.size+1,0,none⟩)) true ty).run prog wr=_:=fun ty=>Lib.run_next_any_at wr (w.heap.size+1) s pos ty hit hp
    have hwd:=width_pos s pos hp;have hwl:=width_le s pos hp;have hit2:=Lib.iterAt_heap wr (w.heap.size+1) s pos (pos+(Utf8.decode s pos).2) hit;have hbw2:=Lib.below_iterAt hbw (k:=w.heap.size+1) (by omega) s (pos+(Utf8.decode s pos).2);have hblk2:(wr.iterAt (w.heap.size+1) s (pos+(Utf8.decode s pos).2)).heap[w.heap.size]? =some (.cells #[.string s,v, .int .i64 0] 93 (0,0)):=by rw [Lib.iterAt_other _ _ _ _ _ (by omega)];exact hblk
    have hown2:=ownsRow_iterAt hown (k:=w.heap.size+1) (by omega) s (pos+(Utf8.decode s pos).2);obtain ⟨W1,hW1⟩:∃W1,W1=wr.iterAt (w.heap.size+1) s (pos+(Utf8.decode s pos).2):=⟨_,rfl⟩;rw [←hW1]at hnx hit2 hbw2 hblk2 hown2;have hlt:=aD hit2;clear hW1 hit hbw hblk hown;have hd:=Sr s pos W1 (HG.out.below (hbw2.mono (by omega))) hp
    have HS2:Hid (pts s=(done++ [⟨(Utf8.decode s pos).1,pos,(Utf8.decode s pos).2⟩])++dS s (pos+(Utf8.decode s pos).2)):=by
     show _=_;rw [HS.out,bM s pos hp];simp
    obtain ⟨q,hq⟩:∃q:Pt,q=⟨(Utf8.decode s pos).1,pos,(Utf8.decode s pos).2⟩:=⟨_,rfl⟩;have hq1:(Utf8.decode s pos).1=q.r:=by rw [hq]
    have hq2:(Utf8.decode s pos).2=q.n:=by rw [hq]
    have HQ:Hid (pos=q.at_):=by rw [hq];rfl
    rw [←hq]at HS2;rw [hq1,hq2]at hd;rw [hq1]at hnx;rw [hq2]at hwd hwl HS2 hit2;have Ao:Hid (q.ok=((q.r:Int) !=65533||decide (1<q.n))):=rfl;have Hd:=Lib.hid hd;clear hq hq1 hq2 HS hd;cases hr:((q.r:Int) !=65533)
    · rw [hr]at Ao;have HX:Hid (q.ok=decide (1<(q.n:Int))):=by show _=_;rw [Ao.out,Bool.false_or];exact decide_eq_decide.2 (by omega)
      go_wp2_with fail;refine Hd.out.mono ?_;rintro e w1 ⟨rfl,hb1⟩;have hblk3:=aZ hblk2 hb1 (by omega);have hit3:=aZ hit2 hb1 hlt;have hown3:=ownsRow_below hown2 hb1;have xZ:=hbw2.trans (hb1.mono (by omega));have hz1' :=hb1.size;have c1:w1.cell? ⟨w.heap.size,1,none⟩=some v:=by rw [au hblk3];rfl
      clear hblk2 hit2 hown2 hbw2 hb1 hnx
      go_wp2_with (at_builtin;refine wpList_append_own _ rfl _ _ 91 rfl (w.heap.size+2) 125 i0 (.agg #[.int .i32 0, .int .i64 0, .bool false]) 3 24 underlying91 hi hz0 hz1 hz2 rfl (by decide) _ _ _ rfl (hown3.alloc _) ⟨w1.heap.size,0,none⟩ 1 1 [.int .i32 q.r, .int .i64 pos, .bool (decide (1<(q.n:Int)))] rfl rfl (yY _ _ _) (Sv _ _ _) (by unfold maxLen;omega) (by omega) (by simp;omega) ?_;intro v' w2 nD hg2 _;obtain ⟨a',cap',hv',_⟩:=aY nD;rw [hv']at nD⊢;clear hv'
                   have hne:some w.heap.size≠v.ownBlock:=fun h=>by have:=(hown3.lt _ h.symm).1;omega
                   have hne2:some (w.heap.size+1)≠v.ownBlock:=fun h=>by have:=(hown3.lt _ h.symm).1;omega
                   have fK:w2.heap[w.heap.size]? =some (.cells #[.string s,v, .int .i64 0] 93 (0,0)):=by rw [hg2.block _ (by simp;omega) hne];exact aC hblk3 _
                   have ac0:w2.heap[w.heap.size+1]? =some (.stringIter s (pos+q.n)):=by rw [hg2.block _ (by simp;omega) hne2];exact aC hit3 _
                   have Ap:Below w.heap.size w w2:=(xZ.alloc (by omega) _).grown hg2 (by simp;omega) (fun k hk=>by have:=(hown3.lt _ hk).1;omega);have c4:w2.cell? ⟨w.heap.size,1,none⟩=some v:=by rw [au fK];rfl
                   have f4:w2.frozen? ⟨w.heap.size,1,none⟩=false:=aj fK 1;clear hown3 hblk3 hit3 xZ hg2 hne hne2)
      have h5:(w2.setCell ⟨w.heap.size,1,none⟩ (.slice a' (done.length+1) cap')).heap[w.heap.size+1]? =some (.stringIter s (pos+q.n)):=bN ac0 _ _ (by simp);go_roundw
      case rel=>
       refine ⟨pos+q.n,done++ [q],_,h5,dB fK 1 _, ?_,Ap.setCell (Nat.le_refl _) _,HS2,by simp;omega,hwl⟩;have e: [Value.int .i32 q.r,Value.int .i64 pos,Value.bool (decide (1<(q.n:Int)))]=lC q:=by unfold lC;rw [HX.out,←HQ.out]
       rw [e,GL]at nD;have e2:(done++ [q]).length=done.length+1:=by simp
       rw [e2];exact xY nD (by show _<_;simp) _
      case measure=>rw [iterPos_of h5,Et];omega
    · rw [hr]at Ao;have HX:Hid (q.ok=true):=by show _=_;rw [Ao.out];rfl
      go_wp2_with fail;refine Hd.out.mono ?_;rintro e w1 ⟨rfl,hb1⟩;have hblk3:=aZ hblk2 hb1 (by omega);have hit3:=aZ hit2 hb1 hlt;have hown3:=ownsRow_below hown2 hb1;have xZ:=hbw2.trans (hb1.mono (by omega));have hz1' :=hb1.size;have c1:w1.cell? ⟨w.heap.size,1,none⟩=some v:=by rw [au hblk3];rfl
      clear hblk2 hit2 hown2 hbw2 hb1 hnx
      go_wp2_with (at_builtin;refine wpList_append_own _ rfl _ _ 91 rfl (w.heap.size+2) 125 i0 (.agg #[.int .i32 0, .int .i64 0, .bool false]) 3 24 underlying91 hi hz0 hz1 hz2 rfl (by decide) _ _ _ rfl (hown3.alloc _) ⟨w1.heap.size,0,none⟩ 1 1 [.int .i32 q.r, .int .i64 pos, .bool (true)] rfl rfl (yY _ _ _) (Sv _ _ _) (by unfold maxLen;omega) (by omega) (by simp;omega) ?_;intro v' w2 nD hg2 _;obtain ⟨a',cap',hv',_⟩:=aY nD;rw [hv']at nD⊢;clear hv'
                   have hne:some w.heap.size≠v.ownBlock:=fun h=>by have:=(hown3.lt _ h.symm).1;omega
                   have hne2:some (w.heap.size+1)≠v.ownBlock:=fun h=>by have:=(hown3.lt _ h.symm).1;omega
                   have fK:w2.heap[w.heap.size]? =some (.cells #[.string s,v, .int .i64 0] 93 (0,0)):=by rw [hg2.block _ (by simp;omega) hne];exact aC hblk3 _
                   have ac0:w2.heap[w.heap.size+1]? =some (.stringIter s (pos+q.n)):=by rw [hg2.block _ (by simp;omega) hne2];exact aC hit3 _
                   have Ap:Below w.heap.size w w2:=(xZ.alloc (by omega) _).grown hg2 (by simp;omega) (fun k hk=>by have:=(hown3.lt _ hk).1;omega);have c4:w2.cell? ⟨w.heap.size,1,none⟩=some v:=by rw [au fK];rfl
                   have f4:w2.frozen? ⟨w.heap.size,1,none⟩=false:=aj fK 1;clear hown3 hblk3 hit3 xZ hg2 hne hne2)
      have h5:(w2.setCell ⟨w.heap.size,1,none⟩ (.slice a' (done.length+1) cap')).heap[w.heap.size+1]? =some (.stringIter s (pos+q.n)):=bN ac0 _ _ (by simp);go_roundw
      case rel=>
       refine ⟨pos+q.n,done++ [q],_,h5,dB fK 1 _, ?_,Ap.setCell (Nat.le_refl _) _,HS2,by simp;omega,hwl⟩;have e: [Value.int .i32 q.r,Value.int .i64 pos,Value.bool (true)]=lC q:=by unfold lC;rw [HX.out,←HQ.out]
       rw [e,GL]at nD;have e2:(done++ [q]).length=done.length+1:=by simp
       rw [e2];exact xY nD (by show _<_;simp) _
      case measure=>rw [iterPos_of h5,Et];omega
  · have hnx:∀ty,(Instr.next (.pointer (some ⟨w.heap.size+1,0,none⟩)) true ty).run prog wr=_:=fun ty=>Lib.run_next_end_at wr (w.heap.size+1) s pos ty hit hp
    have hE:Hid (pts s=done):=by show _=_;rw [HS.out,bR s pos hp,List.append_nil]
    clear HS;go_wp2_with fail;go_ret;refine ⟨rfl, ?_,hbw⟩;obtain ⟨a,cap,rfl,hr⟩:=aY hown;rw [hE.out];refine ⟨Nat.le_refl _,aD hblk,a,cap,hblk,fun h0=> ?_⟩;obtain ⟨g,e1,e2,e3,e4⟩:=hr h0;exact ⟨g,e1,by omega,e3,e4⟩
end Go.Proofs.YtcgadodckoalnaaGreatDoor
