/- Parts of a proof. -/
import Derived.Lib.DecodeNEq
import Derived.Laws.RangeAny
import Derived.Shelf.Unicode.DecodeSlow
import Derived.Lib.Replace
namespace Go.Proofs.YtcgadodckoalnaaGreatDoor
abbrev ah:=ByteArray
abbrev bf:Array Value:= #[.int .i64 0, .string ⟨#[]⟩, .string ⟨#[]⟩, .string ⟨#[]⟩, .string ⟨#[]⟩, .int .i64 0, .string ⟨#[]⟩, .int .i64 0, .string ⟨#[]⟩, .int .i64 0, .slice none 0 0, .slice none 0 0, .slice none 0 0, .slice none 0 0, .int .i64 0, .int .i64 0, .int .i64 0, .slice none 0 0]
namespace aN
structure Pt where
 r:Nat
 at_:Nat
 n:Nat
def Pt.ok (p:Pt):Bool:=(p.r:Int) !=65533||decide (1<p.n)
def KM (s:ByteArray):Nat→Nat→List Pt
 |0,_=> []
 |f+1,pos=>if pos<s.size then ⟨(Utf8.decode s pos).1,pos,(Utf8.decode s pos).2⟩::KM s f (pos+(Utf8.decode s pos).2)else []
def pts (s:ByteArray):List Pt:=KM s s.size 0
theorem width_pos (s:ByteArray) (pos:Nat) (h:pos<s.size):1≤(Utf8.decode s pos).2:=by
 by_cases ha:(s[pos]'h).toNat<128
 · rw [decode_ascii s pos h ha];exact Nat.le_refl 1
 · exact (decode_high s pos h (by omega)).2
theorem width_le (s:ByteArray) (pos:Nat) (h:pos<s.size):pos+(Utf8.decode s pos).2≤s.size:=by
 simp only [Utf8.decode]
 repeat' split
 all_goals simp_all
 all_goals omega
theorem wY (s:ByteArray) (f pos:Nat) (h:¬pos<s.size):KM s f pos= []:=by
 cases f<;>simp [KM,h]
theorem JF (s:ByteArray):∀f g pos,s.size≤pos+f→s.size≤pos+g→KM s f pos=KM s g pos:=by
 intro f
 induction f with
 |zero=>intro g pos h1 _;rw [wY s 0 pos (by omega),wY s g pos (by omega)]
 |succ f ih=>
  intro g pos h1 h2;by_cases h:pos<s.size
  · cases g with
    |zero=>omega
    |succ g=>
     have:=width_pos s pos h;simp only [KM,h,if_true];rw [ih g (pos+(Utf8.decode s pos).2) (by omega) (by omega)]
  · rw [wY s _ pos h,wY s _ pos h]
def dS (s:ByteArray) (pos:Nat):List Pt:=KM s s.size pos
theorem bR (s:ByteArray) (pos:Nat) (h:¬pos<s.size):dS s pos= []:=wY s _ pos h
theorem bM (s:ByteArray) (pos:Nat) (h:pos<s.size):
 dS s pos=⟨(Utf8.decode s pos).1,pos,(Utf8.decode s pos).2⟩::dS s (pos+(Utf8.decode s pos).2):=by
 have:=width_pos s pos h;unfold dS;rw [JF s s.size (s.size - pos+1) pos (by omega) (by omega)];simp only [KM,h,if_true];rw [JF s (s.size - pos) s.size _ (by omega) (by omega)]
def rX (c:UInt8):UInt8:=if 65≤c∧c≤90 then c|||32 else c
def fold (s:ByteArray):ByteArray:=⟨s.data.map rX⟩
theorem RF (c:UInt8):(rX c).toNat=if 65≤c.toNat∧c.toNat≤90 then c.toNat|||32 else c.toNat:=by
 unfold rX;simp only [UInt8.le_iff_toNat_le];have e1:(65:UInt8).toNat=65:=rfl;have e2:(90:UInt8).toNat=90:=rfl;rw [e1,e2];split
 · simp
 · rfl
theorem Bc (c:UInt8):(rX c).toNat=if 65≤c.toNat∧c.toNat≤90 then c.toNat+32 else c.toNat:=by
 rw [RF];split
 · rename_i h;have:∀k:Fin 26,(65+k.val)|||32=(65+k.val)+32:=by decide
   have h2:=this ⟨c.toNat - 65,by omega⟩;simp only at h2;have e:65+(c.toNat - 65)=c.toNat:=by omega
   rw [e]at h2;exact h2
 · rfl
theorem ji (s:ByteArray):pts s=dS s 0:=rfl
theorem FN (s:ByteArray) (k:Nat):s.get! k=s.data[k]! :=rfl
theorem RH (s:ByteArray) (a k:Nat):(s.extract a s.size).get! k=s.get! (a+k):=by
 rw [FN,FN];by_cases h:a+k<s.size
 · have h1:k<(s.extract a s.size).size:=by simp;omega
   have h2:k<(s.extract a s.size).data.size:=h1;have h3:a+k<s.data.size:=h;rw [getElem!_pos (s.extract a s.size).data k h2,getElem!_pos s.data (a+k) h3];simp [ByteArray.data_extract]
 · have h1:¬k<(s.extract a s.size).size:=by simp;omega
   have h2:¬k<(s.extract a s.size).data.size:=h1;have h3:¬a+k<s.data.size:=h;rw [getElem!_neg (s.extract a s.size).data k h2,getElem!_neg s.data (a+k) h3]
theorem Z6 (s:ByteArray) (a:Nat) (h:a<s.size):Lib.decodeGo (s.extract a s.size)=Utf8.decode s a:=by
 have h1:(s.extract a s.size).size=s.size - a:=by simp
 unfold Lib.decodeGo;rw [if_neg (by omega),Lib.decode_at,Lib.decode_at,h1];simp only [RH,Nat.add_zero,Nat.sub_zero,Nat.zero_add]
def gD (r:Int):Bool:=r==95||(decide (97≤r)&&decide (r≤122))||decide (128≤r)
def kG (r:Int):Bool:=decide (48≤r)&&decide (r≤57)
def Pt.named (p:Pt):Bool:=(gD p.r||(kG p.r&&decide (0<p.at_)))&&p.ok
def valid (s:ByteArray):Bool:=(pts s).all Pt.ok
def name (s:ByteArray):Bool:=(pts s).all Pt.named&&(decide (s.size≠0)&&decide (s.size≤100))
def nM:List UInt8→Option (List UInt8×Nat)
 | []=>none
 |c::t=>
  if c=39 then
   match t with
   | []=>some ([],1)
   |d::u=>if d=39 then (nM u).map fun x=>(39::x.1,x.2+2)else some ([],1)
  else (nM t).map fun x=>(c::x.1,x.2+1)
def dn (s:ByteArray) (f:Int):Option (ByteArray×Int):=
 if 0≤f∧f<s.size∧s.data.toList[f.toNat]? =some 39 then
  (nM (s.data.toList.drop (f.toNat+1))).map fun x=>(⟨x.1.toArray⟩,f+1+x.2)
 else none
theorem RI {l:List UInt8}{k:Nat}(h:l.length≤k):nM (l.drop k)=none:=by rw [List.drop_eq_nil_of_le h];rfl
theorem JG {l:List UInt8}{k:Nat}(h:k<l.length) (hc:l[k]≠39):nM (l.drop k)=(nM (l.drop (k+1))).map fun x=>(l[k]::x.1,x.2+1):=by
 rw [List.drop_eq_getElem_cons h,nM.eq_def];simp [hc]
theorem MH {l:List UInt8}{k:Nat}(h:k<l.length) (hc:l[k]=39) (h2:l.length≤k+1):nM (l.drop k)=some ([],1):=by
 rw [List.drop_eq_getElem_cons h,List.drop_eq_nil_of_le h2,nM.eq_def];simp [hc]
theorem MI {l:List UInt8}{k:Nat}(h:k<l.length) (hc:l[k]=39) (h2:k+1<l.length) (hd:l[k+1]≠39):nM (l.drop k)=some ([],1):=by
 rw [List.drop_eq_getElem_cons h,List.drop_eq_getElem_cons h2,nM.eq_def];simp [hc,hd]
theorem RJ {l:List UInt8}{k:Nat}(h:k<l.length) (hc:l[k]=39) (h2:k+1<l.length) (hd:l[k+1]=39):nM (l.drop k)=(nM (l.drop (k+2))).map fun x=>(39::x.1,x.2+2):=by
 rw [List.drop_eq_getElem_cons h,List.drop_eq_getElem_cons h2,nM.eq_def];simp [hc,hd]
def Pp:Option (ByteArray×Int)→Value
 |some x=> .tuple #[.string x.1, .int .i64 x.2, .bool true]
 |none=> .tuple #[.string ⟨#[]⟩, .int .i64 0, .bool false]
def acz (l:List UInt8):List UInt8:=39::(l.flatMap fun c=>if c=39 then [39,39]else [c])++ [39]
def quote (s:ByteArray):ByteArray:=⟨(acz s.data.toList).toArray⟩
open Lib
def rW (c:UInt8):List UInt8:=if c=39 then [39,39]else [c]
theorem Bd:∀l:List UInt8,replaceK [39] [39,39] (count l [39]) l=l.flatMap rW
 | []=>rfl
 |c::t=>by
  have ih:=Bd t;by_cases h:c=39
  · subst h;have hi:index (39::t) [39]=((0:Nat):Int):=by simp [index,List.isPrefixOf]
    rw [count_hit (by simp) hi,Nat.add_comm,replaceK_hit _ _ _ _ 0 hi];simp only [List.take_zero,List.nil_append,List.length_singleton,Nat.zero_add,List.drop_one,List.tail_cons];rw [ih];rfl
  · have hp:([39]:List UInt8).isPrefixOf (c::t)=false:=by
     simp [List.isPrefixOf,Ne.symm h]
    have hidx:index (c::t) [39]=if index t [39]== -1 then -1 else index t [39]+1:=by
     rw [index,hp];rfl
    have hd:(c::t).flatMap rW=c::t.flatMap rW:=by simp [rW,h]
    rw [hd,←ih];by_cases hm:index t [39]= -1
    · have h1:index (c::t) [39]= -1:=by rw [hidx];simp [hm]
      rw [count_miss h1,count_miss hm];rfl
    · have hge:=index_ge t [39];obtain ⟨i,hi⟩:∃i:Nat,index t [39]=i:=⟨(index t [39]).toNat,by omega⟩
      have h1:index (c::t) [39]=((i+1:Nat):Int):=by
       rw [hidx,hi];have:¬((i:Int)== -1)=true:=by simp
       rw [if_neg this];omega
      rw [count_hit (by simp) h1,count_hit (by simp) hi];have hdr:(c::t).drop (i+1+([39]:List UInt8).length)=t.drop (i+([39]:List UInt8).length):=by simp
      rw [hdr,Nat.add_comm 1,replaceK_hit _ _ _ _ (i+1) h1,replaceK_hit _ _ _ _ i hi,hdr];simp
theorem FP (l:List UInt8):replaceAll l [39] [39,39]=l.flatMap rW:=by
 unfold replaceAll replace replaceNum;rw [if_neg (by decide),if_pos (by left;decide)];exact Bd l
theorem JH (l:List UInt8):(l.flatMap rW).length≤2*l.length:=by
 induction l with
 |nil=>simp
 |cons c t ih=>
  simp only [List.flatMap_cons,List.length_append,List.length_cons];have:(rW c).length≤2:=by unfold rW;split<;>simp
  omega
theorem yO (s:ByteArray):quote s=⟨(39::(s.data.toList.flatMap rW++ [39])).toArray⟩:=rfl
def kP (s:ByteArray) (a:Nat):Nat→Bool
 |0=>true
 |n+1=>kP s a n&&decide (a+n<s.size∧(s.get! (a+n)).toNat / 64=2)
theorem acA (n:Nat) (h:n<256):((n&&&192:Nat)=128)↔ n / 64=2:=by
 have:∀k:Fin 256,((k.val&&&192:Nat)=128)↔ k.val / 64=2:=by decide+kernel
 exact this ⟨n,h⟩
theorem Z7 (s:ByteArray) (k:Nat) (h:k<s.size):s.get! k=s[k]:=by
 have:=Go.get_at s k h;simpa using this
def bY (s:ByteArray) (k:Nat):Nat:=(s.get! k).toNat
theorem sD (s:ByteArray) (k:Nat):bY s k<256:=(s.get! k).toNat_lt
theorem jZ (s:ByteArray) (k:Nat) (h:k<s.size):s[k].toNat=bY s k:=by unfold bY;rw [Z7 s k h]
theorem JI (s:ByteArray) (a:Nat):kP s a 1=decide (a<s.size∧bY s a / 64=2):=rfl
theorem JJ (s:ByteArray) (a:Nat):kP s a 2=(decide (a<s.size∧bY s a / 64=2)&&decide (a+1<s.size∧bY s (a+1) / 64=2)):=rfl
theorem Ee (s:ByteArray) (a:Nat):kP s a 3=((decide (a<s.size∧bY s a / 64=2)&&decide (a+1<s.size∧bY s (a+1) / 64=2))&&decide (a+2<s.size∧bY s (a+2) / 64=2)):=rfl
theorem yP (s:ByteArray) (a:Nat) (_h:a<s.size) (h0:bY s a<128):Utf8.decode s a=(bY s a,1):=by
 rw [Lib.decode_at];unfold Lib.decodeN;rw [if_pos (by exact h0)];rfl
theorem Z8 (s:ByteArray) (a:Nat) (h:a<s.size) (h0:128≤bY s a) (h1:¬(194≤bY s a∧bY s a<245)):Utf8.decode s a=(65533,1):=by
 rw [Lib.decode_at];unfold Lib.decodeN;have e:(s.get! a).toNat=bY s a:=rfl;have b1:=sD s (a+1);have e1:(s.get! (a+1)).toNat=bY s (a+1):=rfl;have b0:=sD s a;rw [e,e1]
 repeat' split
 all_goals first|rfl|(exfalso;omega)
theorem Z9 (s:ByteArray) (a:Nat) (h:a<s.size) (h0:194≤bY s a∧bY s a<224):
 Utf8.decode s a=if kP s (a+1) 1 then (bY s a % 32*64+bY s (a+1) % 64,2)else (65533,1):=by
 rw [Lib.decode_at,JI];unfold Lib.decodeN;have e:(s.get! a).toNat=bY s a:=rfl;have e1:(s.get! (a+1)).toNat=bY s (a+1):=rfl;rw [e,e1];by_cases hc:a+1<s.size∧bY s (a+1) / 64=2
 · rw [decide_eq_true hc,if_pos rfl,if_neg (by omega),if_pos ⟨by omega,by omega,hc.2⟩,if_pos (by omega)]
 · rw [decide_eq_false hc,if_neg (by omega),if_neg (by omega),if_neg (by omega),if_neg (by omega)];rfl
theorem Tp (s:ByteArray) (a:Nat) (h:a<s.size) (h0:224≤bY s a∧bY s a<240) (r:Nat) (hr:r=bY s a % 16*4096+bY s (a+1) % 64*64+bY s (a+2) % 64):
 Utf8.decode s a=if kP s (a+1) 2&& !(decide (r<2048)||(decide (55296≤r)&&decide (r<57344)))then (r,3)else (65533,1):=by
 rw [Lib.decode_at,JJ,show a+1+1=a+2 from rfl];unfold Lib.decodeN;have e:(s.get! a).toNat=bY s a:=rfl;have e1:(s.get! (a+1)).toNat=bY s (a+1):=rfl;have e2:(s.get! (a+2)).toNat=bY s (a+2):=rfl;have b0:=sD s a;have b1:=sD s (a+1);have b2:=sD s (a+2);rw [e,e1,e2,←hr,if_neg (by omega),if_neg (by omega)];by_cases hc:(a+1<s.size∧bY s (a+1) / 64=2)∧(a+2<s.size∧bY s (a+2) / 64=2)
 · rw [decide_eq_true hc.1,decide_eq_true hc.2,if_pos ⟨by omega,⟨by omega,hc.1.2⟩,⟨by omega,hc.2.2⟩⟩];by_cases hv:r≥2048∧(r<55296∨(57344≤r∧r≤1114111))
   · rw [if_pos hv,if_pos (by simp;omega)]
   · rw [if_neg hv,if_neg (by simp;omega)]
 · rw [if_neg (by omega),if_neg (by omega),if_neg (by simp;omega)]
theorem WC (s:ByteArray) (a:Nat) (h:a<s.size) (h0:240≤bY s a∧bY s a<245) (r:Nat) (hr:r=bY s a % 8*262144+bY s (a+1) % 64*4096+bY s (a+2) % 64*64+bY s (a+3) % 64):
 Utf8.decode s a=if kP s (a+1) 3&& !(decide (r<65536)||decide (1114111<r))then (r,4)else (65533,1):=by
 rw [Lib.decode_at,Ee,show a+1+1=a+2 from rfl,show a+1+2=a+3 from rfl];unfold Lib.decodeN;have e:(s.get! a).toNat=bY s a:=rfl;have e1:(s.get! (a+1)).toNat=bY s (a+1):=rfl;have e2:(s.get! (a+2)).toNat=bY s (a+2):=rfl;have e3:(s.get! (a+3)).toNat=bY s (a+3):=rfl;have b0:=sD s a;have b1:=sD s (a+1);have b2:=sD s (a+2);have b3:=sD s (a+3);rw [e,e1,e2,e3,←hr,if_neg (by omega),if_neg (by omega),if_neg (by omega)];by_cases hc:((a+1<s.size∧bY s (a+1) / 64=2)∧(a+2<s.size∧bY s (a+2) / 64=2))∧(a+3<s.size∧bY s (a+3) / 64=2)
 · rw [decide_eq_true hc.1.1,decide_eq_true hc.1.2,decide_eq_true hc.2,if_pos ⟨by omega,⟨by omega,hc.1.1.2⟩,⟨by omega,hc.1.2.2⟩,⟨by omega,hc.2.2⟩⟩];by_cases hv:r≥65536∧(r<55296∨(57344≤r∧r≤1114111))
   · rw [if_pos hv,if_pos (by simp;omega)]
   · rw [if_neg hv,if_neg (by simp;omega)]
 · rw [if_neg (by omega),if_neg (by simp;omega)]
def mZ (s:ByteArray) (a m:Nat):Nat→Nat
 |0=>m
 |k+1=>mZ s a m k*64+bY s (a+k+1) % 64
theorem RL (s:ByteArray) (a m:Nat) (hm:m<32):mZ s a m 0<32∧mZ s a m 1<2048∧mZ s a m 2<131072∧mZ s a m 3<8388608:=by
 have e0:mZ s a m 0=m:=rfl;have e1:mZ s a m 1=mZ s a m 0*64+bY s (a+0+1) % 64:=rfl;have e2:mZ s a m 2=mZ s a m 1*64+bY s (a+1+1) % 64:=rfl;have e3:mZ s a m 3=mZ s a m 2*64+bY s (a+2+1) % 64:=rfl;omega
theorem KN (s:ByteArray) (a m:Nat) (hm:m<32) (k:Nat) (hk:k≤3):mZ s a m k<8388608:=by
 have:=RL s a m hm
 match k,hk with
 |0,_=>omega
 |1,_=>omega
 |2,_=>omega
 |3,_=>omega
theorem KO (s:ByteArray) (a m:Nat) (hm:m<32) (k:Nat) (hk:k<3):mZ s a m k<131072:=by
 have:=RL s a m hm
 match k,hk with
 |0,_=>omega
 |1,_=>omega
 |2,_=>omega
theorem FQ (s:ByteArray) (k:Nat) (h:k<s.size):s.extract k (k+1)=⟨#[s[k]]⟩:=by
 apply ByteArray.ext;apply Array.ext';have hd:k<s.data.toList.length:=by simp;exact h
 rw [ByteArray.data_extract];simp only [Array.toList_extract,List.extract_eq_take_drop];rw [List.drop_eq_getElem_cons hd];have e:k+1 - k=1:=by omega
 rw [e];simp;rfl
theorem Bf (s:ByteArray) (k:Nat) (h:¬k<s.size):bY s k=0:=by
 unfold bY;rw [FN,getElem!_neg s.data k h];rfl
theorem lK (s t:ByteArray) (k:Nat) (h:k<s.size):bY (s++t) k=bY s k:=by
 have h2:k<(s++t).size:=by rw [ByteArray.size_append];omega
 rw [←jZ _ k h2,←jZ _ k h];rw [ByteArray.getElem_append_left h]
theorem tZ (s t:ByteArray) (k:Nat):bY (s++t) (s.size+k)=bY t k:=by
 by_cases h:k<t.size
 · have h2:s.size+k<(s++t).size:=by rw [ByteArray.size_append];omega
   rw [←jZ _ _ h2,←jZ _ k h,ByteArray.getElem_append_right (by omega)];congr 2;omega
 · rw [Bf _ _ h,Bf];rw [ByteArray.size_append];omega
theorem KP (s:ByteArray) (a k:Nat):bY (s.extract a s.size) k=bY s (a+k):=by unfold bY;rw [RH]
theorem jK (s:ByteArray) (a:Nat):Utf8.decode s a=Lib.decodeN (s.size - a) (bY s a) (bY s (a+1)) (bY s (a+2)) (bY s (a+3)):=Lib.decode_at s a
theorem acB (s t:ByteArray) (k:Nat):Utf8.decode (s++t) (s.size+k)=Utf8.decode t k:=by
 rw [jK,jK,Nat.add_assoc,Nat.add_assoc,Nat.add_assoc,tZ,tZ,tZ,tZ,ByteArray.size_append];congr 1;omega
theorem aac (s:ByteArray) (a k:Nat):Utf8.decode (s.extract a s.size) k=Utf8.decode s (a+k):=by
 rw [jK,jK,KP,KP,KP,KP];have e:(s.extract a s.size).size - k=s.size - (a+k):=by simp;omega
 rw [e];rfl
theorem Bg (n m b0 b1 b2 b3 c1 c2 c3:Nat) (_hn:1≤n) (hm:n≤m) (h1:1<n→c1=b1) (h2:2<n→c2=b2) (h3:3<n→c3=b3)
 (hok:(Lib.decodeN n b0 b1 b2 b3).1≠65533∨1<(Lib.decodeN n b0 b1 b2 b3).2):Lib.decodeN m b0 c1 c2 c3=Lib.decodeN n b0 b1 b2 b3:=by
 unfold Lib.decodeN at hok⊢;by_cases a1:b0<128
 · rw [if_pos a1,if_pos a1]
 · rw [if_neg a1]at hok;rw [if_neg a1,if_neg a1];by_cases a2:b0 / 32=6∧(1<n∧b1 / 64=2)
   · obtain rfl:=h1 a2.2.1;rw [if_pos a2,if_pos ⟨a2.1,by omega,a2.2.2⟩]
   · rw [if_neg a2]at hok;by_cases a3:b0 / 16=14∧(1<n∧b1 / 64=2)∧(2<n∧b2 / 64=2)
     · obtain rfl:=h1 a3.2.1.1;obtain rfl:=h2 a3.2.2.1;rw [if_neg a2,if_pos a3,if_neg (by omega),if_pos ⟨a3.1,⟨by omega,a3.2.1.2⟩,⟨by omega,a3.2.2.2⟩⟩]
     · rw [if_neg a3]at hok;by_cases a4:b0 / 8=30∧(1<n∧b1 / 64=2)∧(2<n∧b2 / 64=2)∧(3<n∧b3 / 64=2)
       · obtain rfl:=h1 a4.2.1.1;obtain rfl:=h2 a4.2.2.1.1;obtain rfl:=h3 a4.2.2.2.1;rw [if_neg a2,if_neg a3,if_pos a4,if_neg (by omega),if_neg (by omega),if_pos ⟨a4.1,⟨by omega,a4.2.1.2⟩,⟨by omega,a4.2.2.1.2⟩,⟨by omega,a4.2.2.2.2⟩⟩]
       · rw [if_neg a4]at hok;simp at hok
theorem WE (s:ByteArray) (a:Nat):((⟨(Utf8.decode s a).1,a,(Utf8.decode s a).2⟩:Pt).ok=true)↔ ((Utf8.decode s a).1≠65533∨1<(Utf8.decode s a).2):=by
 unfold Pt.ok;rw [Bool.or_eq_true,decide_eq_true_eq,bne_iff_ne];constructor
 · rintro (h|h)
   · exact .inl (fun e=>h (by rw [e];rfl))
   · exact .inr h
 · rintro (h|h)
   · exact .inl (fun e=>h (by simp only at e;omega))
   · exact .inr h
theorem acC (s t:ByteArray) (a:Nat) (h:a<s.size) (hok:(Utf8.decode s a).1≠65533∨1<(Utf8.decode s a).2):Utf8.decode (s++t) a=Utf8.decode s a:=by
 rw [jK]at hok;rw [jK,jK,lK s t a h];refine Bg _ _ _ _ _ _ _ _ _ (by omega) ?_ ?_ ?_ ?_ hok
 · rw [ByteArray.size_append];omega
 · intro h1;exact lK s t _ (by omega)
 · intro h1;exact lK s t _ (by omega)
 · intro h1;exact lK s t _ (by omega)
def Pt.shift (d:Nat) (p:Pt):Pt:=⟨p.r,p.at_+d,p.n⟩
theorem wZ (s t:ByteArray):∀n k,t.size - k≤n→dS (s++t) (s.size+k)=(dS t k).map (Pt.shift s.size):=by
 intro n
 induction n with
 |zero=>intro k h;rw [bR t k (by omega),bR];rfl;rw [ByteArray.size_append];omega
 |succ n ih=>
  intro k h;by_cases hk:k<t.size
  · have hw:=width_pos t k hk;rw [bM t k hk,bM (s++t) (s.size+k) (by rw [ByteArray.size_append];omega),acB,Nat.add_assoc,ih _ (by omega)];simp only [List.map_cons,Pt.shift];rw [Nat.add_comm s.size k]
  · rw [bR t k hk,bR];rfl;rw [ByteArray.size_append];omega
theorem Tq (s:ByteArray) (a:Nat):∀n k,s.size - (a+k)≤n→dS s (a+k)=(dS (s.extract a s.size) k).map (Pt.shift a):=by
 intro n;have e:(s.extract a s.size).size=s.size - a:=by simp
 induction n with
 |zero=>intro k h;rw [bR s _ (by omega),bR];rfl;omega
 |succ n ih=>
  intro k h;by_cases hk:a+k<s.size
  · have hw:=width_pos s (a+k) hk;rw [bM s _ hk,bM (s.extract a s.size) k (by omega),aac,Nat.add_assoc,ih _ (by omega)];simp only [List.map_cons,Pt.shift];rw [Nat.add_comm a k]
  · rw [bR s _ hk,bR];rfl;omega
theorem Tt (s t:ByteArray):∀n k,s.size - k≤n→k≤s.size→(dS s k).all Pt.ok=true→dS (s++t) k=dS s k++(pts t).map (Pt.shift s.size):=by
 intro n
 induction n with
 |zero=>
  intro k h hk _;have:k=s.size+0:=by omega
  rw [bR s k (by omega),this,wZ s t t.size 0 (by omega)];rfl
 |succ n ih=>
  intro k h hk hall;by_cases hlt:k<s.size
  · have hw:=width_pos s k hlt;have hl:=width_le s k hlt;rw [bM s k hlt,List.all_cons,Bool.and_eq_true]at hall;rw [bM s k hlt,bM (s++t) k (by rw [ByteArray.size_append];omega),acC s t k hlt ((WE s k).1 hall.1),ih _ (by omega) (by omega) hall.2];rfl
  · have:k=s.size+0:=by omega
    rw [bR s k hlt,this,wZ s t t.size 0 (by omega)];rfl
theorem KQ (s t:ByteArray) (h:valid s=true):pts (s++t)=pts s++(pts t).map (Pt.shift s.size):=Tt s t s.size 0 (by omega) (by omega) h
theorem uf (s t:ByteArray) (hs:valid s=true):valid (s++t)=valid t:=by
 unfold valid;rw [KQ s t hs,List.all_append];have:(pts s).all Pt.ok=true:=hs;rw [this,Bool.true_and,List.all_map];rfl
def place (v n:Int):Int:=v % n
theorem RN (rest:List UInt8) (hr:rest.head? ≠some 39):∀l:List UInt8,nM (l.flatMap rW++39::rest)=some (l,(l.flatMap rW).length+1)
 | []=>by
  rw [List.flatMap_nil,List.nil_append,nM.eq_def];cases rest with
  |nil=>simp
  |cons d u=>
   have:d≠39:=fun e=>hr (by rw [e];rfl)
   simp [this]
 |c::t=>by
  have ih:=RN rest hr t;by_cases hc:c=39
  · subst hc;have e:(39::t).flatMap rW++39::rest=39::39::(t.flatMap rW++39::rest):=by simp [rW]
    rw [e,nM.eq_def];simp [ih,rW]
  · have e:(c::t).flatMap rW++39::rest=c::(t.flatMap rW++39::rest):=by simp [rW,hc]
    rw [e,nM.eq_def];simp [ih,rW,hc]
theorem FR (s:ByteArray):(quote s).data.toList=39::(s.data.toList.flatMap rW++ [39]):=by rw [yO]
theorem zW (s:ByteArray):(quote s).size=(s.data.toList.flatMap rW).length+2:=by
 have:(quote s).data.toList.length=(quote s).size:=by simp
 rw [←this,FR];simp
theorem jL (n b0 b1 b2 b3:Nat) (_hn:1≤n):
 ((Lib.decodeN n b0 b1 b2 b3).2=1∧((Lib.decodeN n b0 b1 b2 b3).1=b0∧b0<128∨(Lib.decodeN n b0 b1 b2 b3).1=65533))∨
 (128≤b0∧1<(Lib.decodeN n b0 b1 b2 b3).2∧(Lib.decodeN n b0 b1 b2 b3).2≤n∧(Lib.decodeN n b0 b1 b2 b3).2≤4∧b1 / 64=2∧(2<(Lib.decodeN n b0 b1 b2 b3).2→b2 / 64=2)∧(3<(Lib.decodeN n b0 b1 b2 b3).2→b3 / 64=2)):=by
 unfold Lib.decodeN;by_cases a1:b0<128
 · rw [if_pos a1];exact .inl ⟨rfl, .inl ⟨rfl,a1⟩⟩
 · rw [if_neg a1];by_cases a2:b0 / 32=6∧(1<n∧b1 / 64=2)
   · rw [if_pos a2];split
     · exact .inr ⟨by omega,by simp,by simp;omega,by simp,a2.2.2,by simp,by simp⟩
     · exact .inl ⟨rfl, .inr rfl⟩
   · rw [if_neg a2];by_cases a3:b0 / 16=14∧(1<n∧b1 / 64=2)∧(2<n∧b2 / 64=2)
     · rw [if_pos a3];split
       · exact .inr ⟨by omega,by simp,by simp;omega,by simp,a3.2.1.2,fun _=>a3.2.2.2,by simp⟩
       · exact .inl ⟨rfl, .inr rfl⟩
     · rw [if_neg a3];by_cases a4:b0 / 8=30∧(1<n∧b1 / 64=2)∧(2<n∧b2 / 64=2)∧(3<n∧b3 / 64=2)
       · rw [if_pos a4];split
         · exact .inr ⟨by omega,by simp,by simp;omega,by simp,a4.2.1.2,fun _=>a4.2.2.1.2,fun _=>a4.2.2.2.2⟩
         · exact .inl ⟨rfl, .inr rfl⟩
       · rw [if_neg a4];exact .inl ⟨rfl, .inr rfl⟩
theorem Tv (s:ByteArray) (a:Nat) (h:a<s.size):
 ((Utf8.decode s a).2=1∧((Utf8.decode s a).1=bY s a∧bY s a<128∨(Utf8.decode s a).1=65533))∨
 (128≤bY s a∧1<(Utf8.decode s a).2∧∀j,0<j→j<(Utf8.decode s a).2→bY s (a+j) / 64=2):=by
 rw [jK];rcases jL (s.size - a) (bY s a) (bY s (a+1)) (bY s (a+2)) (bY s (a+3)) (by omega)with h1|⟨h1,h2,h3,h4,h5,h6,h7⟩
 · exact .inl h1
 · refine .inr ⟨h1,h2,fun j hj hj2=> ?_⟩
   match j,hj with
   |1,_=>exact h5
   |2,_=>exact h6 hj2
   |3,_=>exact h7 hj2
   |j+4,_=>omega
theorem Tw (c:UInt8):rX (rX c)=rX c:=by
 have h:=Bc c;have h2:=Bc (rX c);apply UInt8.toNat_inj.1;rw [h2];split
 · rename_i hh;rw [h]at hh;split at hh<;>omega
 · rfl
theorem Tz (s:ByteArray):fold (fold s)=fold s:=by
 unfold fold;apply ByteArray.ext;simp only [Array.map_map];congr 1;funext c;exact Tw c
theorem fold_size (s:ByteArray):(fold s).size=s.size:=by
 show (s.data.map rX).size=s.data.size;simp
def j4 (P:List Pt) (i:Nat):Int:=match P[i]? with|some p=>p.r|none=> -1
def gG (P:List Pt) (i:Nat) (r:Int):Bool:=match P[i]? with|some p=>(p.r:Int)==r|none=>false
def dJ (P:List Pt) (i:Nat):Bool:=match P[i]? with|some p=>p.ok&&(gD p.r||(decide (65≤(p.r:Int))&&decide ((p.r:Int)≤90)))|none=>false
def dh (P:List Pt) (i:Nat):Bool:=match P[i]? with|some p=>kG p.r|none=>false
def aQ (s:ByteArray) (P:List Pt) (i:Nat):Nat:=match P[i]? with|some p=>p.at_|none=>s.size
def Bh (f:Nat→Bool):Nat→Nat→Nat
 |0,i=>i
 |n+1,i=>if f i then Bh f n (i+1)else i
def dO (f:Nat→Bool) (len i:Nat):Nat:=Bh f (len - i) i
theorem gH {f:Nat→Bool}{len i:Nat}(h:i<len) (hf:f i=true):dO f len i=dO f len (i+1):=by
 unfold dO;rw [show len - i=(len - (i+1))+1 by omega,Bh,if_pos hf]
theorem fE {f:Nat→Bool}{len i:Nat}(hf:f i=false):dO f len i=i:=by
 unfold dO;cases len - i with
 |zero=>rfl
 |succ n=>rw [Bh,if_neg (by rw [hf];decide)]
theorem qM {f:Nat→Bool}{len i:Nat}(h:len≤i):dO f len i=i:=by
 unfold dO;rw [show len - i=0 by omega];rfl
theorem KR (f:Nat→Bool):∀n i,i≤Bh f n i∧Bh f n i≤i+n
 |0,i=>⟨Nat.le_refl _,Nat.le_refl _⟩
 |n+1,i=>by
  unfold Bh;split
  · have:=KR f n (i+1);omega
  · omega
theorem FT (f:Nat→Bool) (len i:Nat) (h:i≤len):i≤dO f len i∧dO f len i≤len:=by
 have:=KR f (len - i) i;unfold dO;omega
theorem oQ (f:Nat→Bool) (len i:Nat):i≤dO f len i:=(KR f (len - i) i).1
def eu (P:List Pt) (i:Nat):Bool:=gG P i 32||gG P i 9||gG P i 10||gG P i 13
def jC (P:List Pt) (i:Nat):Bool:=gG P i 45&&gG P (i+1) 45
def lineEnd (P:List Pt) (i:Nat):Nat:=dO (fun j=> !gG P j 10) P.length i
def jD (P:List Pt):Nat→Nat→Nat
 |0,i=>i
 |n+1,i=>if P.length≤i then i else if eu P i then jD P n (i+1)else if jC P i then jD P n (lineEnd P i)else i
def skip (P:List Pt) (i:Nat):Nat:=jD P (P.length - i) i
theorem WG {P:List Pt}{i:Nat}{r:Int}(h:gG P i r=true):i<P.length:=by
 unfold gG at h;split at h
 · rename_i p hp;exact (List.getElem?_eq_some_iff.1 hp).1
 · cases h
theorem Db {P:List Pt}{i:Nat}{r q:Int}(h:gG P i r=true) (hne:r≠q):gG P i q=false:=by
 unfold gG at h⊢;cases hp:P[i]? with
 |none=>simp [hp]at h
 |some p=>
  rw [hp]at h;simp only at h⊢;rw [beq_eq_false_iff_ne];intro e;exact hne (by rw [←beq_iff_eq.1 h,e])
theorem jM {P:List Pt}{i:Nat}(h:jC P i=true):i<lineEnd P i∧lineEnd P i≤P.length:=by
 unfold jC at h;rw [Bool.and_eq_true]at h;have hlt:=WG h.1;have h10:=Db h.1 (show (45:Int)≠10 by decide);unfold lineEnd;have e:=gH (f:=fun j=> !gG P j 10) hlt (by simp [h10]);have:=FT (fun j=> !gG P j 10) P.length (i+1) (by omega);omega
theorem Pq (P:List Pt):∀n m i,P.length≤i+n→P.length≤i+m→jD P n i=jD P m i:=by
 intro n
 induction n with
 |zero=>
  intro m i h1 h2;cases m with
  |zero=>rfl
  |succ m=>rw [jD,jD,if_pos (by omega)]
 |succ n ih=>
  intro m i h1 h2;by_cases hl:P.length≤i
  · cases m with
    |zero=>rw [jD,jD,if_pos hl]
    |succ m=>rw [jD,jD,if_pos hl,if_pos hl]
  · cases m with
    |zero=>omega
    |succ m=>
     rw [jD,jD,if_neg hl,if_neg hl];split
     · exact ih m (i+1) (by omega) (by omega)
     · split
       · rename_i hd;have:=jM hd;exact ih m _ (by omega) (by omega)
       · rfl
theorem xg {P:List Pt}{i:Nat}(h:P.length≤i):skip P i=i:=by
 unfold skip;rw [show P.length - i=0 by omega];rfl
theorem iE {P:List Pt}{i:Nat}(h:i<P.length) (hb:eu P i=true):skip P i=skip P (i+1):=by
 unfold skip;rw [show P.length - i=(P.length - (i+1))+1 by omega,jD,if_neg (by omega),if_pos hb]
theorem nS {P:List Pt}{i:Nat}(h:i<P.length) (hb:eu P i=false) (hd:jC P i=true):skip P i=skip P (lineEnd P i):=by
 have:=jM hd;unfold skip;rw [show P.length - i=(P.length - (i+1))+1 by omega,jD,if_neg (by omega),if_neg (by rw [hb];decide),if_pos hd];exact Pq P _ _ _ (by omega) (by omega)
theorem iL {P:List Pt}{i:Nat}(hb:eu P i=false) (hd:jC P i=false):skip P i=i:=by
 unfold skip;cases P.length - i with
 |zero=>rfl
 |succ n=>
  rw [jD];split
  · rfl
  · rw [if_neg (by rw [hb];decide),if_neg (by rw [hd];decide)]
theorem WH (P:List Pt):∀n i,i≤jD P n i:=by
 intro n
 induction n with
 |zero=>intro i;exact Nat.le_refl _
 |succ n ih=>
  intro i;rw [jD];split
  · exact Nat.le_refl _
  · split
    · have:=ih (i+1);omega
    · split
      · rename_i hd;have:=ih (lineEnd P i);have:=jM hd;omega
      · exact Nat.le_refl _
theorem lM (P:List Pt) (i:Nat):i≤skip P i:=WH P _ i
structure Tk where
 kind:Int
 s:ByteArray
 n:Int
 at_:Nat
def ug (P:List Pt):Nat→Nat→Int→Bool→Int×Bool×Nat
 |0,i,v,ok=>(v,ok,i)
 |n+1,i,v,ok=>if dh P i then ug P n (i+1) (min (v*10+(j4 P i - 48)) 1099511627776) (ok&&decide (v*10+(j4 P i - 48)≤1099511627776))else (v,ok,i)
def num (P:List Pt) (i:Nat) (v:Int) (ok:Bool):Int×Bool×Nat:=ug P (P.length - i) i v ok
theorem vv {P:List Pt}{i:Nat}(h:dh P i=true):i<P.length:=by
 unfold dh at h;split at h
 · rename_i p hp;exact (List.getElem?_eq_some_iff.1 hp).1
 · cases h
theorem Bj {P:List Pt}{i:Nat}(h:dJ P i=true):i<P.length:=by
 unfold dJ at h;split at h
 · rename_i p hp;exact (List.getElem?_eq_some_iff.1 hp).1
 · cases h
theorem qV {P:List Pt}{i:Nat}{v:Int}{ok:Bool}(h:dh P i=true):
 num P i v ok=num P (i+1) (min (v*10+(j4 P i - 48)) 1099511627776) (ok&&decide (v*10+(j4 P i - 48)≤1099511627776)):=by
 have hl:=vv h;unfold num;rw [show P.length - i=(P.length - (i+1))+1 by omega,ug,if_pos h]
theorem kS {P:List Pt}{i:Nat}{v:Int}{ok:Bool}(h:dh P i=false):num P i v ok=(v,ok,i):=by
 unfold num;cases P.length - i with
 |zero=>rfl
 |succ n=>rw [ug,if_neg (by rw [h];decide)]
theorem Fg (P:List Pt):∀n i v ok,i≤(ug P n i v ok).2.2∧(ug P n i v ok).2.2≤i+n:=by
 intro n
 induction n with
 |zero=>intro i v ok;exact ⟨Nat.le_refl _,Nat.le_refl _⟩
 |succ n ih=>
  intro i v ok;rw [ug];split
  · have:=ih (i+1) (min (v*10+(j4 P i - 48)) 1099511627776) (ok&&decide (v*10+(j4 P i - 48)≤1099511627776));omega
  · simp only;omega
def fq (P:List Pt) (i:Nat):Nat:=dO (fun k=>dJ P k||dh P k) P.length i
def ng (s:ByteArray) (P:List Pt) (i:Nat):ByteArray:=s.extract (aQ s P i) (aQ s P (fq P i))
def kJ (s:ByteArray) (P:List Pt) (i:Nat):Tk×Bool×Nat:=(⟨1,fold (ng s P i),0,i⟩,decide ((ng s P i).size≤100),fq P i)
def bS (P:List Pt) (i:Nat):Nat:=if gG P i 45 then i+1 else i
def iq (P:List Pt) (i:Nat):Int×Bool×Nat:=num P (bS P i) 0 (dh P (bS P i))
def cO (P:List Pt) (i:Nat):Tk×Bool×Nat:=(⟨2,⟨#[]⟩,if gG P i 45 then -(iq P i).1 else (iq P i).1,i⟩,(iq P i).2.1&& !dJ P (iq P i).2.2,(iq P i).2.2)
def bP (P:List Pt) (next:Int) (i:Nat):Nat:=dO (fun k=>match P[k]? with|some p=>decide ((p.at_:Int)<next)|none=>false) P.length i
def j5 (s:ByteArray) (P:List Pt) (i:Nat):Tk×Bool×Nat:=
 match dn s (aQ s P i)with
 |some x=>(⟨3,x.1,0,i⟩,decide (x.1.size≤100)&&valid x.1,bP P x.2 i)
 |none=>(⟨3,⟨#[]⟩,0,i⟩,false,i)
def xk (r:Int):Bool:=r==40||r==41||r==44||r==59||r==61||r==42
def dK (s:ByteArray) (P:List Pt) (i:Nat):Tk×Bool×Nat:=
 if dJ P i then kJ s P i
 else if dh P i||gG P i 45 then cO P i
 else if gG P i 39 then j5 s P i
 else if xk (j4 P i)then (⟨4,⟨#[UInt8.ofNat (j4 P i).toNat]⟩,0,i⟩,true,i+1)
 else (⟨0,⟨#[]⟩,0,0⟩,false,i)
def eU (s:ByteArray) (P:List Pt):Nat→Nat→Except Nat (List Tk)
 |0,_=> .ok []
 |n+1,i=>
  if P.length≤skip P i then .ok []
  else if (dK s P (skip P i)).2.1 then (eU s P n (dK s P (skip P i)).2.2).map ((dK s P (skip P i)).1:: ·)
  else .error (skip P i)
def aP (s:ByteArray):List Tk×Nat×Int:=
 if 1000<s.size then ([],0,2)
 else match eU s (pts s) ((pts s).length+1) 0 with
  | .ok l=>(l,0,0)
  | .error a=>([],a,3)
theorem kT (s:ByteArray) (pos:Nat) (h:pos≤s.size):aQ s (dS s pos) 0=pos:=by
 by_cases hp:pos<s.size
 · rw [bM s pos hp];rfl
 · rw [bR s pos hp];show s.size=pos;omega
theorem uh (s:ByteArray):∀k pos,pos≤s.size→pos≤aQ s (dS s pos) k∧aQ s (dS s pos) k≤s.size:=by
 intro k
 induction k with
 |zero=>intro pos h;rw [kT s pos h];omega
 |succ k ih=>
  intro pos h;by_cases hp:pos<s.size
  · have hw:=width_le s pos hp;have:=ih (pos+(Utf8.decode s pos).2) hw;rw [bM s pos hp];show pos≤aQ s (dS s (pos+(Utf8.decode s pos).2)) k∧aQ s (dS s (pos+(Utf8.decode s pos).2)) k≤s.size;omega
  · rw [bR s pos hp];show pos≤s.size∧s.size≤s.size;omega
theorem KS (s:ByteArray):∀k j pos,pos≤s.size→k≤j→aQ s (dS s pos) k≤aQ s (dS s pos) j:=by
 intro k
 induction k with
 |zero=>intro j pos h _;rw [kT s pos h];exact (uh s j pos h).1
 |succ k ih=>
  intro j pos h hj;obtain ⟨j,rfl⟩:∃m,j=m+1:=⟨j - 1,by omega⟩;by_cases hp:pos<s.size
  · have hw:=width_le s pos hp;rw [bM s pos hp];exact ih j (pos+(Utf8.decode s pos).2) hw (by omega)
  · rw [bR s pos hp];exact Nat.le_refl _
theorem sF (s:ByteArray) (k j:Nat) (h:k≤j):aQ s (pts s) k≤aQ s (pts s) j:=KS s k j 0 (by omega) h
theorem Dc (s:ByteArray) (k:Nat):aQ s (pts s) k≤s.size:=(uh s k 0 (by omega)).2
def xq (s:ByteArray) (P:List Pt):Prop:=P.length≤s.size∧(∀k j,k≤j→aQ s P k≤aQ s P j)∧(∀k,aQ s P k≤s.size)
theorem MJ (s:ByteArray):∀n pos,s.size - pos≤n→(dS s pos).length≤s.size - pos:=by
 intro n
 induction n with
 |zero=>intro pos h;rw [bR s pos (by omega)];simp
 |succ n ih=>
  intro pos h;by_cases hp:pos<s.size
  · have:=width_pos s pos hp;have:=ih (pos+(Utf8.decode s pos).2) (by omega);rw [bM s pos hp];simp;omega
  · rw [bR s pos hp];simp
theorem Df (s:ByteArray):xq s (pts s):=⟨by have:=MJ s s.size 0 (by omega);rw [ji];omega,sF s,Dc s⟩
def Dg (s:ByteArray) (f:Int):ByteArray:=match dn s f with|some x=>x.1|none=>⟨#[]⟩
def wQ (s:ByteArray) (f:Int):Int:=match dn s f with|some x=>x.2|none=>0
def ER (s:ByteArray) (f:Int):Bool:=(dn s f).isSome
theorem RO (s:ByteArray) (f:Int):Pp (dn s f)= .tuple #[.string (Dg s f), .int .i64 (wQ s f), .bool (ER s f)]:=by
 unfold Dg wQ ER;cases dn s f<;>rfl
theorem KT (P:List Pt) (i:Nat):bP P 0 i=i:=by
 unfold bP;refine fE ?_;cases P[i]? with
 |none=>rfl
 |some p=>exact decide_eq_false (by omega)
theorem uj (s:ByteArray) (P:List Pt) (i:Nat):
 j5 s P i=(⟨3,Dg s (aQ s P i),0,i⟩,ER s (aQ s P i)&&(decide ((Dg s (aQ s P i)).size≤100)&&valid (Dg s (aQ s P i))),bP P (wQ s (aQ s P i)) i):=by
 unfold j5 Dg wQ ER;cases dn s (aQ s P i)with
 |none=>simp [KT]
 |some x=>simp
theorem RP:∀(n:Nat) (l:List UInt8),l.length≤n→∀x,nM l=some x→x.1.length≤l.length∧x.2≤l.length:=by
 intro n
 induction n with
 |zero=>intro l hl x hx;cases l with|nil=>simp [nM]at hx|cons=>simp at hl
 |succ n ih=>
  intro l hl x hx
  match l with
  | []=>simp [nM]at hx
  |c::t=>
   rw [nM.eq_def]at hx;simp only at hx;by_cases hc:c=39
   · rw [if_pos hc]at hx
     match t with
     | []=>simp at hx;subst hx;simp
     |d::u=>
      simp only at hx;by_cases hd:d=39
      · rw [if_pos hd]at hx;obtain ⟨y,hy,rfl⟩:=Option.map_eq_some_iff.1 hx;have:=ih u (by simp at hl;omega) y hy;simp only [List.length_cons];omega
      · rw [if_neg hd]at hx;cases hx;simp
   · rw [if_neg hc]at hx;obtain ⟨y,hy,rfl⟩:=Option.map_eq_some_iff.1 hx;have:=ih t (by simp at hl;omega) y hy;simp only [List.length_cons];omega
theorem JK (s:ByteArray) (f:Int):(Dg s f).size≤s.size:=by
 unfold Dg dn;by_cases h:0≤f∧f<s.size∧s.data.toList[f.toNat]? =some 39
 · rw [if_pos h];cases hu:nM (s.data.toList.drop (f.toNat+1))with
   |none=>exact Nat.zero_le _
   |some x=>
    have:=(RP _ _ (Nat.le_refl _) x hu).1;simp only [Option.map_some,List.length_drop]at this⊢;show x.1.toArray.size≤s.data.size;rw [Array.length_toList]at this;rw [List.size_toArray];omega
 · rw [if_neg h];exact Nat.zero_le _
theorem KU (s:ByteArray) (f:Int):0≤wQ s f∧wQ s f≤s.size:=by
 unfold wQ dn;by_cases h:0≤f∧f<s.size∧s.data.toList[f.toNat]? =some 39
 · rw [if_pos h];cases hu:nM (s.data.toList.drop (f.toNat+1))with
   |none=>simp
   |some x=>
    have h2:=(RP _ _ (Nat.le_refl _) x hu).2;obtain ⟨h0,h1,_⟩:=h;have h3:s.data.toList.length=s.size:=rfl;simp only [Option.map_some,List.length_drop]at h2⊢;omega
 · rw [if_neg h];simp
def FU:ByteArray:=⟨#[40,41,44,59,61,42]⟩
def wR (q:Nat):Nat:= [40,41,44,59,61,42].getD q 0
theorem WI (q:Nat) (h:q<6):Utf8.decode FU q=(wR q,1):=by
 have:q=0∨q=1∨q=2∨q=3∨q=4∨q=5:=by omega
 rcases this with rfl|rfl|rfl|rfl|rfl|rfl<;>decide+kernel
theorem aad (q:Nat) (h:q<6):40≤wR q∧wR q<62:=by
 have:q=0∨q=1∨q=2∨q=3∨q=4∨q=5:=by omega
 rcases this with rfl|rfl|rfl|rfl|rfl|rfl<;>decide
theorem aae {P:List Pt}{i q:Nat}(h:q<6) (hb:gG P i (wR q)=true):j4 P i=wR q∧xk (j4 P i)=true:=by
 unfold gG at hb;unfold j4;cases hp:P[i]? with
 |none=>rw [hp]at hb;cases hb
 |some p=>
  rw [hp]at hb;have e:(p.r:Int)=wR q:=by simpa using hb
  refine ⟨e, ?_⟩;show xk (p.r:Int)=true;rw [e];have:q=0∨q=1∨q=2∨q=3∨q=4∨q=5:=by omega
  rcases this with rfl|rfl|rfl|rfl|rfl|rfl<;>decide
theorem acD {P:List Pt}{i:Nat}(h:∀q,q<6→gG P i (wR q)=false):xk (j4 P i)=false:=by
 have h0:=h 0 (by omega);have h1:=h 1 (by omega);have h2:=h 2 (by omega);have h3:=h 3 (by omega);have h4:=h 4 (by omega);have h5:=h 5 (by omega);unfold gG at h0 h1 h2 h3 h4 h5;unfold j4 xk;cases hp:P[i]? with
 |none=>rfl
 |some p=>
  rw [hp]at h0 h1 h2 h3 h4 h5;simp only [wR,List.getD_cons_zero,List.getD_cons_succ]at h0 h1 h2 h3 h4 h5;show (((((((p.r:Int)==40)||(p.r:Int)==41)||(p.r:Int)==44)||(p.r:Int)==59)||(p.r:Int)==61)||(p.r:Int)==42)=false;rw [show ((p.r:Int)==40)=false from h0,show ((p.r:Int)==41)=false from h1,show ((p.r:Int)==44)=false from h2,show ((p.r:Int)==59)=false from h3,show ((p.r:Int)==61)=false from h4,show ((p.r:Int)==42)=false from h5];rfl
theorem MK {f:Nat→Bool}{len i:Nat}(h:i<len) (hf:f i=true):i<dO f len i:=by
 rw [gH h hf];exact oQ f len (i+1)
theorem Bl {P:List Pt}{i:Nat}(h:dJ P i=true):i<fq P i∧fq P i≤P.length:=by
 have hl:=Bj h;exact ⟨MK hl (by simp [h]),(FT _ P.length i (by omega)).2⟩
theorem RS (P:List Pt):∀n i v,(ug P n i v false).2.1=false:=by
 intro n
 induction n with
 |zero=>intro i v;rfl
 |succ n ih=>intro i v;rw [ug];split<;>simp [ih]
theorem RU {P:List Pt}{i:Nat}(_hi:i<P.length) (h:(iq P i).2.1=true):i<(iq P i).2.2∧(iq P i).2.2≤P.length:=by
 unfold iq at h⊢;cases hd:dh P (bS P i)with
 |false=>rw [hd]at h;unfold num at h;rw [RS]at h;cases h
 |true=>
  have hl:=vv hd;have h1:i≤bS P i:=by unfold bS;split<;>omega
  rw [qV hd];have:=Fg P (P.length - (bS P i+1)) (bS P i+1) (min (0*10+(j4 P (bS P i) - 48)) 1099511627776) (true&&decide (0*10+(j4 P (bS P i) - 48)≤1099511627776));unfold num;omega
theorem aaf (s:ByteArray) (n:Nat) (h:ER s n=true):(n:Int)<wQ s n:=by
 unfold ER at h;unfold wQ;unfold dn at h⊢;split at h
 · rename_i hc;rw [if_pos hc];cases hu:nM (s.data.toList.drop ((n:Int).toNat+1))with
   |none=>rw [hu]at h;cases h
   |some x=>simp only [Option.map_some];omega
 · cases h
theorem Bn {s:ByteArray}{P:List Pt}{i:Nat}(hi:i<P.length) (h:(dK s P i).2.1=true):i<(dK s P i).2.2∧(dK s P i).2.2≤P.length:=by
 unfold dK at h⊢;split
 · rename_i hl;exact Bl hl
 · rename_i hl;rw [if_neg hl]at h;split
   · rename_i hd;rw [if_pos hd]at h
     have:(iq P i).2.1=true:=by
      have h' :((iq P i).2.1&& !dJ P (iq P i).2.2)=true:=h;rw [Bool.and_eq_true]at h';exact h'.1
     exact RU hi this
   · rename_i hd;rw [if_neg hd]at h;split
     · rename_i hq;rw [if_pos hq]at h;rw [uj]at h⊢;simp only [Bool.and_eq_true]at h;have hg:=aaf s (aQ s P i) h.1;unfold bP;refine ⟨MK hi ?_,(FT _ P.length i (by omega)).2⟩;have hb:aQ s P i=P[i].at_:=by unfold aQ;rw [List.getElem?_eq_getElem hi]
       simp only [List.getElem?_eq_getElem hi];exact decide_eq_true (by rw [←hb];exact hg)
     · rename_i hq;rw [if_neg hq]at h;split
       · show i<i+1∧i+1≤P.length;omega
       · rename_i hs;rw [if_neg hs]at h;cases h
theorem xw {s:ByteArray}{P:List Pt}{n j:Nat}(h:P.length≤skip P j):eU s P (n+1) j= .ok []:=by rw [eU,if_pos h]
theorem FV {s:ByteArray}{P:List Pt}{n j:Nat}(h:skip P j<P.length) (hb:(dK s P (skip P j)).2.1=false):eU s P (n+1) j= .error (skip P j):=by
 rw [eU,if_neg (by omega),if_neg (by rw [hb];decide)]
theorem KV {s:ByteArray}{P:List Pt}{n j:Nat}(h:skip P j<P.length) (hb:(dK s P (skip P j)).2.1=true):eU s P (n+1) j=(eU s P n (dK s P (skip P j)).2.2).map ((dK s P (skip P j)).1:: ·):=by
 rw [eU,if_neg (by omega),if_pos hb]
theorem xA (P:List Pt):∀n i,i≤P.length→jD P n i≤P.length:=by
 intro n
 induction n with
 |zero=>intro i h;exact h
 |succ n ih=>
  intro i h;rw [jD];split
  · exact h
  · split
    · exact ih (i+1) (by omega)
    · split
      · rename_i hd;exact ih _ (jM hd).2
      · exact h
theorem FW {s:ByteArray}{P:List Pt}{n m j:Nat}{done:List Tk}{R:Except Nat (List Tk)}(h:R=(eU s P (n+1) j).map (done++ ·)) (h1:skip P j<P.length) (hb:(dK s P (skip P j)).2.1=true) (hm:m=(dK s P (skip P j)).2.2):
 R=(eU s P n m).map ((done++ [(dK s P (skip P j)).1])++ ·):=by
 rw [h,KV h1 hb,hm];cases eU s P n (dK s P (skip P j)).2.2 with
 |error a=>rfl
 |ok l=>simp [Except.map]
theorem WJ (s:ByteArray) (P:List Pt):∀n i l,eU s P n i= .ok l→l.length≤n:=by
 intro n
 induction n with
 |zero=>intro i l h;rw [eU]at h;cases h;exact Nat.le_refl _
 |succ n ih=>
  intro i l h;rw [eU]at h;split at h
  · cases h;exact Nat.zero_le _
  · split at h
    · cases hx:eU s P n (dK s P (skip P i)).2.2 with
      |error a=>rw [hx]at h;cases h
      |ok m=>
       rw [hx]at h;have:=ih _ _ hx;have e:l=(dK s P (skip P i)).1::m:=by cases h;rfl
       rw [e,List.length_cons];omega
    · cases h
theorem ML (s:ByteArray):(aP s).1.length≤s.size+1:=by
 unfold aP;split
 · exact Nat.zero_le _
 · have hp:=(Df s).1;split
   · rename_i l h;have:=WJ s (pts s) _ _ _ h;show l.length≤_;omega
   · exact Nat.zero_le _
structure Tm where
 ty:Int
 s:ByteArray
 n:Int
structure Pr where
 name:ByteArray
 t:Tm
structure Cl where
 name:ByteArray
 ty:Int
structure Sx where
 kind:Int
 name:ByteArray
 bT:ByteArray
 on:ByteArray
 bG:ByteArray
 tid:Int
 part:Cl
 aX:Cl
 aB:List Cl
 aI:List ByteArray
 sets:List Pr
 aH:List Pr
 stamp:Int
 ttl:Int
 limit:Int
def Tm.zero:Tm:=⟨0,⟨#[]⟩,0⟩
def Cl.zero:Cl:=⟨⟨#[]⟩,0⟩
def Sx.zero:Sx:=⟨0,⟨#[]⟩,⟨#[]⟩,⟨#[]⟩,⟨#[]⟩,0,Cl.zero,Cl.zero, [], [], [], [],0,0,0⟩
def FX:List ByteArray:= [(⟨#[99,114,101,97,116,101]⟩:ah),(⟨#[116,97,98,108,101]⟩:ah),(⟨#[112,114,105,109,97,114,121]⟩:ah),(⟨#[107,101,121]⟩:ah),(⟨#[109,97,116,101,114,105,97,108,105,122,101,100]⟩:ah),(⟨#[118,105,101,119]⟩:ah),(⟨#[97,115]⟩:ah),(⟨#[115,101,108,101,99,116]⟩:ah),(⟨#[102,114,111,109]⟩:ah),(⟨#[119,104,101,114,101]⟩:ah),(⟨#[105,115]⟩:ah),(⟨#[110,111,116]⟩:ah),(⟨#[110,117,108,108]⟩:ah),(⟨#[105,110,100,101,120]⟩:ah),(⟨#[111,110]⟩:ah),(⟨#[100,114,111,112]⟩:ah),(⟨#[105,110,115,101,114,116]⟩:ah),(⟨#[105,110,116,111]⟩:ah),(⟨#[118,97,108,117,101,115]⟩:ah),(⟨#[117,115,105,110,103]⟩:ah),(⟨#[117,112,100,97,116,101]⟩:ah),(⟨#[115,101,116]⟩:ah),(⟨#[97,110,100]⟩:ah),(⟨#[100,101,108,101,116,101]⟩:ah),(⟨#[116,105,109,101,115,116,97,109,112]⟩:ah),(⟨#[108,105,109,105,116]⟩:ah),(⟨#[98,101,103,105,110]⟩:ah),(⟨#[98,97,116,99,104]⟩:ah),(⟨#[97,112,112,108,121]⟩:ah),(⟨#[116,116,108]⟩:ah),(⟨#[116,101,120,116]⟩:ah),(⟨#[105,110,116]⟩:ah)]
def jf (a b:ByteArray):Bool:=decide (a=b)
def pW (x:ByteArray) (l:List ByteArray):Bool:=l.any (jf x)
def zX (s:ByteArray):Bool:=pW s FX
structure Ps where
 i:Nat
 bad:Option Nat
def Ps.fT (σ:Ps):Int:=match σ.bad with|none=> -1|some a=>a
def Ps.wrong (σ:Ps) (a:Nat):Ps:=match σ.bad with|none=>⟨σ.i,some a⟩|some _=>σ
def Ps.step (σ:Ps):Ps:=⟨σ.i+1,σ.bad⟩
structure Tx where
 T:List Tk
 en:Nat
namespace Tx
variable (X:Tx)
def here (σ:Ps):Nat:=match X.T[σ.i]? with|some t=>t.at_|none=>X.en
def fail (σ:Ps):Ps:=σ.wrong (X.here σ)
def next (σ:Ps) (k:Int):Option Tk:=match σ.bad with|some _=>none|none=>match X.T[σ.i]? with|some t=>if t.kind=k then some t else none|none=>none
def sees (σ:Ps) (s:ByteArray):Bool:=(match X.next σ 1 with|some t=>jf t.s s|none=>false)||(match X.next σ 4 with|some t=>jf t.s s|none=>false)
def may (σ:Ps) (s:ByteArray):Ps:=if X.sees σ s then σ.step else σ
def bC (σ:Ps) (s:ByteArray):Ps:=if X.sees σ s then σ.step else X.fail σ
def must (σ:Ps) (l:List ByteArray):Ps:=l.foldl X.bC σ
def name (σ:Ps):ByteArray×Ps:=match X.next σ 1 with
 |some t=>if zX t.s then (⟨#[]⟩,X.fail σ)else (t.s,σ.step)
 |none=>(⟨#[]⟩,X.fail σ)
def value (σ:Ps):Tm×Ps:=match X.next σ 3 with
 |some t=>(⟨1,t.s,0⟩,σ.step)
 |none=>match X.next σ 2 with
  |some t=>(⟨2,⟨#[]⟩,t.n⟩,σ.step)
  |none=>(Tm.zero,X.fail σ)
def count (σ:Ps):Int×Ps:=
 let r:=X.value σ
 (r.1.n,if r.1.ty≠2∨r.1.n<1∨1099511627776<r.1.n then r.2.wrong (X.here σ)else r.2)
def column (σ:Ps) (l:List ByteArray) (most:Nat):List ByteArray×Ps:=
 let σ1:=if most≤l.length then σ.wrong (X.here σ)else σ
 let r:=X.name σ1
 (l++ [r.1],if pW r.1 l then r.2.wrong (X.here σ)else r.2)
def dD (most:Nat):Nat→Ps→List ByteArray→List ByteArray×Ps
 |0,σ,l=>(l,σ)
 |n+1,σ,l=>if X.sees σ (⟨#[44]⟩:ah)then let r:=X.column σ.step l most;dD most n r.2 r.1 else (l,σ)
def columns (σ:Ps) (most:Nat):List ByteArray×Ps:=
 let r:=X.column σ [] most
 X.dD most X.T.length r.2 r.1
def some_ (σ:Ps):List ByteArray×Ps:=if X.sees σ (⟨#[42]⟩:ah)then ([],σ.step)else X.columns σ 8
def equal (σ:Ps):Pr×Ps:=
 let r:=X.name σ
 let v:=X.value (X.must r.2 [(⟨#[61]⟩:ah)])
 (⟨r.1,v.1⟩,v.2)
def aH (σ:Ps) (both:Bool):List Pr×Ps:=
 let r:=X.equal (X.must σ [(⟨#[119,104,101,114,101]⟩:ah)])
 if both then
  let q:=X.equal (X.must r.2 [(⟨#[97,110,100]⟩:ah)])
  ([r.1,q.1],q.2)
 else if X.sees r.2 (⟨#[97,110,100]⟩:ah)then
  let q:=X.equal r.2.step
  ([r.1,q.1],q.2)
 else ([r.1],r.2)
def using_ (σ:Ps) (ttl:Bool) (x:Sx):Sx×Ps:=
 if X.sees σ (⟨#[117,115,105,110,103]⟩:ah)then
  let σ1:=σ.step
  if ttl&&X.sees σ1 (⟨#[116,116,108]⟩:ah)then
   let c:=X.count σ1.step
   ({x with ttl:=c.1},c.2)
  else
   let c:=X.count (X.must σ1 [(⟨#[116,105,109,101,115,116,97,109,112]⟩:ah)])
   if ttl&&X.sees c.2 (⟨#[97,110,100]⟩:ah)then
    let d:=X.count (X.must c.2.step [(⟨#[116,116,108]⟩:ah)])
    ({x with stamp:=c.1,ttl:=d.1},d.2)
   else ({x with stamp:=c.1},c.2)
 else (x,σ)
def one (σ:Ps) (l:List ByteArray) (but:ByteArray):ByteArray×Ps:=
 let r:=X.name σ
 (r.1,if !pW r.1 l||jf r.1 but then r.2.wrong (X.here σ)else r.2)
def kind (σ:Ps):Int×Ps:=if X.sees σ (⟨#[116,101,120,116]⟩:ah)then (1,σ.step)else (2,X.must σ [(⟨#[105,110,116]⟩:ah)])
def gI:Nat→Ps→List ByteArray→List Cl→List ByteArray×List Cl×Ps
 |0,σ,l,c=>(l,c,σ)
 |n+1,σ,l,c=>
  if σ.bad.isSome then (l,c,σ)
  else if X.sees σ (⟨#[112,114,105,109,97,114,121]⟩:ah)then (l,c,σ.step)
  else
   let r:=X.column σ l 10
   let k:=X.kind r.2
   gI n (X.must k.2 [(⟨#[44]⟩:ah)]) r.1 (c++ [⟨r.1.getLastD ⟨#[]⟩,k.1⟩])
def place (x:Sx) (part aX:ByteArray) (c:Cl):Sx:=
 if jf c.name part then {x with part:=c}else if jf c.name aX then {x with aX:=c}else {x with aB:=x.aB++ [c]}
def table (σ:Ps):Sx×Ps:=
 let r:=X.name σ
 let t:=X.gI (X.T.length+1) (X.must r.2 [(⟨#[40]⟩:ah)]) [] []
 let a:=X.one (X.must t.2.2 [(⟨#[107,101,121]⟩:ah),(⟨#[40]⟩:ah)]) t.1 ⟨#[]⟩
 let b:=X.one (X.must a.2 [(⟨#[44]⟩:ah)]) t.1 a.1
 (t.2.1.foldl (fun x c=>place x a.1 b.1 c) {Sx.zero with kind:=1,name:=r.1,bG:=r.1},X.must b.2 [(⟨#[41]⟩:ah),(⟨#[41]⟩:ah)])
def view (σ:Ps):Sx×Ps:=
 let r:=X.name (X.must σ [(⟨#[118,105,101,119]⟩:ah)])
 let c:=X.some_ (X.must r.2 [(⟨#[97,115]⟩:ah),(⟨#[115,101,108,101,99,116]⟩:ah)])
 let o:=X.name (X.must c.2 [(⟨#[102,114,111,109]⟩:ah)])
 let n:=X.name (X.must o.2 [(⟨#[119,104,101,114,101]⟩:ah)])
 let k:=X.one (X.must n.2 [(⟨#[105,115]⟩:ah),(⟨#[110,111,116]⟩:ah),(⟨#[110,117,108,108]⟩:ah),(⟨#[112,114,105,109,97,114,121]⟩:ah),(⟨#[107,101,121]⟩:ah),(⟨#[40]⟩:ah)]) [n.1] ⟨#[]⟩
 let p:=X.name (X.must k.2 [(⟨#[44]⟩:ah)])
 let q:=X.name (X.must p.2 [(⟨#[44]⟩:ah)])
 ({Sx.zero with kind:=2,name:=r.1,aI:=c.1,bT:=o.1,on:=n.1,aH:= [⟨p.1,Tm.zero⟩,⟨q.1,Tm.zero⟩]},X.must q.2 [(⟨#[41]⟩:ah)])
def index (σ:Ps):Sx×Ps:=
 let r:=X.name (X.must σ [(⟨#[105,110,100,101,120]⟩:ah)])
 let o:=X.name (X.must r.2 [(⟨#[111,110]⟩:ah)])
 let n:=X.name (X.must o.2 [(⟨#[40]⟩:ah)])
 ({Sx.zero with kind:=3,name:=r.1,bT:=o.1,on:=n.1},X.must n.2 [(⟨#[41]⟩:ah)])
def dY:Nat→Ps→List Tm→List Tm×Ps
 |0,σ,l=>(l,σ)
 |n+1,σ,l=>if X.sees σ (⟨#[44]⟩:ah)then let r:=X.value σ.step;dY n r.2 (l++ [r.1])else (l,σ)
def insert (σ:Ps):Sx×Ps:=
 let o:=X.name (X.must σ [(⟨#[105,110,116,111]⟩:ah)])
 let c:=X.columns (X.must o.2 [(⟨#[40]⟩:ah)]) 10
 let v0:=X.value (X.must c.2 [(⟨#[41]⟩:ah),(⟨#[118,97,108,117,101,115]⟩:ah),(⟨#[40]⟩:ah)])
 let v:=X.dY X.T.length v0.2 [v0.1]
 let σ1:=if X.sees v.2 (⟨#[41]⟩:ah)&&v.1.length !=c.1.length then X.fail v.2 else v.2
 X.using_ (X.must σ1 [(⟨#[41]⟩:ah)]) true {Sx.zero with kind:=5,bT:=o.1,sets:=List.zipWith Pr.mk c.1 v.1}
def kU:Nat→Ps→List ByteArray→List Pr→List Pr×Ps
 |0,σ,_,p=>(p,σ)
 |n+1,σ,l,p=>
  let r:=X.column σ l 8
  let v:=X.value (X.must r.2 [(⟨#[61]⟩:ah)])
  let p' :=p++ [⟨r.1.getLastD ⟨#[]⟩,v.1⟩]
  if X.sees v.2 (⟨#[44]⟩:ah)then kU n v.2.step r.1 p' else (p',v.2)
def update (σ:Ps):Sx×Ps:=
 let o:=X.name σ
 let u:=X.using_ o.2 true {Sx.zero with kind:=6,bT:=o.1}
 let s:=X.kU (X.T.length+1) (X.must u.2 [(⟨#[115,101,116]⟩:ah)]) [] []
 let w:=X.aH s.2 true
 ({u.1 with sets:=s.1,aH:=w.1},w.2)
def remove (σ:Ps):Sx×Ps:=
 let c:=if X.sees σ (⟨#[102,114,111,109]⟩:ah)then ([],σ)else X.columns σ 8
 let o:=X.name (X.must c.2 [(⟨#[102,114,111,109]⟩:ah)])
 let u:=X.using_ o.2 false {Sx.zero with kind:=7,aI:=c.1,bT:=o.1}
 let w:=X.aH u.2 false
 ({u.1 with aH:=w.1},w.2)
def ask (σ:Ps):Sx×Ps:=
 let c:=X.some_ σ
 let o:=X.name (X.must c.2 [(⟨#[102,114,111,109]⟩:ah)])
 let w:=X.aH o.2 false
 if X.sees w.2 (⟨#[108,105,109,105,116]⟩:ah)then
  let k:=X.count w.2.step
  ({Sx.zero with kind:=8,aI:=c.1,bT:=o.1,aH:=w.1,limit:=k.1},k.2)
 else ({Sx.zero with kind:=8,aI:=c.1,bT:=o.1,aH:=w.1},w.2)
inductive Nd where
 |plain (x:Sx)
 |change (x:Sx)
 |batch (l:List Sx)
def jk (st:Ps→Nd×Ps):Nat→Ps→List Sx→List Sx×Ps
 |0,σ,l=>(l,σ)
 |n+1,σ,l=>
  if σ.bad.isSome then (l,σ)
  else if !l.isEmpty&&X.sees σ (⟨#[97,112,112,108,121]⟩:ah)then (l,σ.step)
  else
   let a:=X.here σ
   let r:=st (if 8≤l.length then σ.wrong a else σ)
   match r.1 with
   | .change x=>jk st n (X.must r.2 [(⟨#[59]⟩:ah)]) (l++ [x])
   |_=>(l,⟨r.2.i,some a⟩)
def many (st:Ps→Nd×Ps) (σ:Ps):List Sx×Ps:=
 let r:=X.jk st 10 (X.must σ [(⟨#[98,97,116,99,104]⟩:ah)]) []
 (r.1,X.must r.2 [(⟨#[98,97,116,99,104]⟩:ah)])
def jh:Nat→Ps→Nd×Ps
 |0,σ=>(.plain Sx.zero,σ)
 |n+1,σ=>
  if X.sees σ (⟨#[105,110,115,101,114,116]⟩:ah)then let r:=X.insert σ.step;(.change r.1,r.2)
  else if X.sees σ (⟨#[117,112,100,97,116,101]⟩:ah)then let r:=X.update σ.step;(.change r.1,r.2)
  else if X.sees σ (⟨#[100,101,108,101,116,101]⟩:ah)then let r:=X.remove σ.step;(.change r.1,r.2)
  else if X.sees σ (⟨#[115,101,108,101,99,116]⟩:ah)then let r:=X.ask σ.step;(.plain r.1,r.2)
  else if X.sees σ (⟨#[98,101,103,105,110]⟩:ah)then let r:=X.many (jh n) σ.step;(.batch r.1,r.2)
  else if X.sees σ (⟨#[100,114,111,112]⟩:ah)then let r:=X.name σ.step;(.plain {Sx.zero with kind:=4,name:=r.1},r.2)
  else if X.sees σ (⟨#[99,114,101,97,116,101]⟩:ah)then
   if X.sees σ.step (⟨#[116,97,98,108,101]⟩:ah)then let r:=X.table σ.step.step;(.plain r.1,r.2)
   else if X.sees σ.step (⟨#[109,97,116,101,114,105,97,108,105,122,101,100]⟩:ah)then let r:=X.view σ.step.step;(.plain r.1,r.2)
   else let r:=X.index σ.step;(.plain r.1,r.2)
  else (.plain Sx.zero,X.fail σ)
end Tx
end aN
end Go.Proofs.YtcgadodckoalnaaGreatDoor
