/- Parts of a proof. -/
import Derived.Lib.DecodeNEq
import Derived.Laws.RangeAny
import Derived.Shelf.Unicode.DecodeSlow
import Derived.Lib.Replace
namespace Go.Proofs.YtnngbhpeeakfaaaGreatDoor
abbrev ah:=ByteArray
abbrev bC:Array Value:= #[.int .i64 0, .string ⟨#[]⟩, .string ⟨#[]⟩, .string ⟨#[]⟩, .string ⟨#[]⟩, .int .i64 0, .string ⟨#[]⟩, .int .i64 0, .string ⟨#[]⟩, .int .i64 0, .slice none 0 0, .slice none 0 0, .slice none 0 0, .slice none 0 0, .int .i64 0, .int .i64 0, .int .i64 0, .slice none 0 0]
namespace aK
structure Pt where
 r:Nat
 at_:Nat
 n:Nat
def Pt.ok (p:Pt):Bool:=(p.r:Int) !=65533||decide (1<p.n)
def GQ (s:ByteArray):Nat→Nat→List Pt
 |0,_=> []
 |f+1,pos=>if pos<s.size then ⟨(Utf8.decode s pos).1,pos,(Utf8.decode s pos).2⟩::GQ s f (pos+(Utf8.decode s pos).2)else []
def pts (s:ByteArray):List Pt:=GQ s s.size 0
theorem width_pos (s:ByteArray) (pos:Nat) (h:pos<s.size):1≤(Utf8.decode s pos).2:=by
 by_cases ha:(s[pos]'h).toNat<128
 · rw [decode_ascii s pos h ha];exact Nat.le_refl 1
 · exact (decode_high s pos h (by omega)).2
theorem width_le (s:ByteArray) (pos:Nat) (h:pos<s.size):pos+(Utf8.decode s pos).2≤s.size:=by
 simp only [Utf8.decode]
 repeat' split
 all_goals simp_all
 all_goals omega
theorem uh (s:ByteArray) (f pos:Nat) (h:¬pos<s.size):GQ s f pos= []:=by
 cases f<;>simp [GQ,h]
theorem FJ (s:ByteArray):∀f g pos,s.size≤pos+f→s.size≤pos+g→GQ s f pos=GQ s g pos:=by
 intro f
 induction f with
 |zero=>intro g pos h1 _;rw [uh s 0 pos (by omega),uh s g pos (by omega)]
 |succ f ih=>
  intro g pos h1 h2;by_cases h:pos<s.size
  · cases g with
    |zero=>omega
    |succ g=>
     have:=width_pos s pos h;simp only [GQ,h,if_true];rw [ih g (pos+(Utf8.decode s pos).2) (by omega) (by omega)]
  · rw [uh s _ pos h,uh s _ pos h]
def dD (s:ByteArray) (pos:Nat):List Pt:=GQ s s.size pos
theorem bI (s:ByteArray) (pos:Nat) (h:¬pos<s.size):dD s pos= []:=uh s _ pos h
theorem bq (s:ByteArray) (pos:Nat) (h:pos<s.size):
 dD s pos=⟨(Utf8.decode s pos).1,pos,(Utf8.decode s pos).2⟩::dD s (pos+(Utf8.decode s pos).2):=by
 have:=width_pos s pos h;unfold dD;rw [FJ s s.size (s.size - pos+1) pos (by omega) (by omega)];simp only [GQ,h,if_true];rw [FJ s (s.size - pos) s.size _ (by omega) (by omega)]
def pQ (c:UInt8):UInt8:=if 65≤c∧c≤90 then c|||32 else c
def fold (s:ByteArray):ByteArray:=⟨s.data.map pQ⟩
theorem N8 (c:UInt8):(pQ c).toNat=if 65≤c.toNat∧c.toNat≤90 then c.toNat|||32 else c.toNat:=by
 unfold pQ;simp only [UInt8.le_iff_toNat_le];have e1:(65:UInt8).toNat=65:=rfl;have e2:(90:UInt8).toNat=90:=rfl;rw [e1,e2];split
 · simp
 · rfl
theorem yg (c:UInt8):(pQ c).toNat=if 65≤c.toNat∧c.toNat≤90 then c.toNat+32 else c.toNat:=by
 rw [N8];split
 · rename_i h;have:∀k:Fin 26,(65+k.val)|||32=(65+k.val)+32:=by decide
   have h2:=this ⟨c.toNat - 65,by omega⟩;simp only at h2;have e:65+(c.toNat - 65)=c.toNat:=by omega
   rw [e]at h2;exact h2
 · rfl
theorem iD (s:ByteArray):pts s=dD s 0:=rfl
theorem CB (s:ByteArray) (k:Nat):s.get! k=s.data[k]! :=rfl
theorem N9 (s:ByteArray) (a k:Nat):(s.extract a s.size).get! k=s.get! (a+k):=by
 rw [CB,CB];by_cases h:a+k<s.size
 · have h1:k<(s.extract a s.size).size:=by simp;omega
   have h2:k<(s.extract a s.size).data.size:=h1;have h3:a+k<s.data.size:=h;rw [getElem!_pos (s.extract a s.size).data k h2,getElem!_pos s.data (a+k) h3];simp [ByteArray.data_extract]
 · have h1:¬k<(s.extract a s.size).size:=by simp;omega
   have h2:¬k<(s.extract a s.size).data.size:=h1;have h3:¬a+k<s.data.size:=h;rw [getElem!_neg (s.extract a s.size).data k h2,getElem!_neg s.data (a+k) h3]
theorem WR (s:ByteArray) (a:Nat) (h:a<s.size):Lib.decodeGo (s.extract a s.size)=Utf8.decode s a:=by
 have h1:(s.extract a s.size).size=s.size - a:=by simp
 unfold Lib.decodeGo;rw [if_neg (by omega),Lib.decode_at,Lib.decode_at,h1];simp only [N9,Nat.add_zero,Nat.sub_zero,Nat.zero_add]
def dV (r:Int):Bool:=r==95||(decide (97≤r)&&decide (r≤122))||decide (128≤r)
def iw (r:Int):Bool:=decide (48≤r)&&decide (r≤57)
def Pt.named (p:Pt):Bool:=(dV p.r||(iw p.r&&decide (0<p.at_)))&&p.ok
def valid (s:ByteArray):Bool:=(pts s).all Pt.ok
def name (s:ByteArray):Bool:=(pts s).all Pt.named&&(decide (s.size≠0)&&decide (s.size≤100))
def lW:List UInt8→Option (List UInt8×Nat)
 | []=>none
 |c::t=>
  if c=39 then
   match t with
   | []=>some ([],1)
   |d::u=>if d=39 then (lW u).map fun x=>(39::x.1,x.2+2)else some ([],1)
  else (lW t).map fun x=>(c::x.1,x.2+1)
def bV (s:ByteArray) (f:Int):Option (ByteArray×Int):=
 if 0≤f∧f<s.size∧s.data.toList[f.toNat]? =some 39 then
  (lW (s.data.toList.drop (f.toNat+1))).map fun x=>(⟨x.1.toArray⟩,f+1+x.2)
 else none
theorem Oa {l:List UInt8}{k:Nat}(h:l.length≤k):lW (l.drop k)=none:=by rw [List.drop_eq_nil_of_le h];rfl
theorem FK {l:List UInt8}{k:Nat}(h:k<l.length) (hc:l[k]≠39):lW (l.drop k)=(lW (l.drop (k+1))).map fun x=>(l[k]::x.1,x.2+1):=by
 rw [List.drop_eq_getElem_cons h,lW.eq_def];simp [hc]
theorem Jy {l:List UInt8}{k:Nat}(h:k<l.length) (hc:l[k]=39) (h2:l.length≤k+1):lW (l.drop k)=some ([],1):=by
 rw [List.drop_eq_getElem_cons h,List.drop_eq_nil_of_le h2,lW.eq_def];simp [hc]
theorem Jz {l:List UInt8}{k:Nat}(h:k<l.length) (hc:l[k]=39) (h2:k+1<l.length) (hd:l[k+1]≠39):lW (l.drop k)=some ([],1):=by
 rw [List.drop_eq_getElem_cons h,List.drop_eq_getElem_cons h2,lW.eq_def];simp [hc,hd]
theorem Ob {l:List UInt8}{k:Nat}(h:k<l.length) (hc:l[k]=39) (h2:k+1<l.length) (hd:l[k+1]=39):lW (l.drop k)=(lW (l.drop (k+2))).map fun x=>(39::x.1,x.2+2):=by
 rw [List.drop_eq_getElem_cons h,List.drop_eq_getElem_cons h2,lW.eq_def];simp [hc,hd]
def LZ:Option (ByteArray×Int)→Value
 |some x=> .tuple #[.string x.1, .int .i64 x.2, .bool true]
 |none=> .tuple #[.string ⟨#[]⟩, .int .i64 0, .bool false]
def ZO (l:List UInt8):List UInt8:=39::(l.flatMap fun c=>if c=39 then [39,39]else [c])++ [39]
def quote (s:ByteArray):ByteArray:=⟨(ZO s.data.toList).toArray⟩
open Lib
def tQ (c:UInt8):List UInt8:=if c=39 then [39,39]else [c]
theorem yh:∀l:List UInt8,replaceK [39] [39,39] (count l [39]) l=l.flatMap tQ
 | []=>rfl
 |c::t=>by
  have ih:=yh t;by_cases h:c=39
  · subst h;have hi:index (39::t) [39]=((0:Nat):Int):=by simp [index,List.isPrefixOf]
    rw [count_hit (by simp) hi,Nat.add_comm,replaceK_hit _ _ _ _ 0 hi];simp only [List.take_zero,List.nil_append,List.length_singleton,Nat.zero_add,List.drop_one,List.tail_cons];rw [ih];rfl
  · have hp:([39]:List UInt8).isPrefixOf (c::t)=false:=by
     simp [List.isPrefixOf,Ne.symm h]
    have hidx:index (c::t) [39]=if index t [39]== -1 then -1 else index t [39]+1:=by
     rw [index,hp];rfl
    have hd:(c::t).flatMap tQ=c::t.flatMap tQ:=by simp [tQ,h]
    rw [hd,←ih];by_cases hm:index t [39]= -1
    · have h1:index (c::t) [39]= -1:=by rw [hidx];simp [hm]
      rw [count_miss h1,count_miss hm];rfl
    · have hge:=index_ge t [39];obtain ⟨i,hi⟩:∃i:Nat,index t [39]=i:=⟨(index t [39]).toNat,by omega⟩
      have h1:index (c::t) [39]=((i+1:Nat):Int):=by
       rw [hidx,hi];have:¬((i:Int)== -1)=true:=by simp
       rw [if_neg this];omega
      rw [count_hit (by simp) h1,count_hit (by simp) hi];have hdr:(c::t).drop (i+1+([39]:List UInt8).length)=t.drop (i+([39]:List UInt8).length):=by simp
      rw [hdr,Nat.add_comm 1,replaceK_hit _ _ _ _ (i+1) h1,replaceK_hit _ _ _ _ i hi,hdr];simp
theorem CF (l:List UInt8):replaceAll l [39] [39,39]=l.flatMap tQ:=by
 unfold replaceAll replace replaceNum;rw [if_neg (by decide),if_pos (by left;decide)];exact yh l
theorem FL (l:List UInt8):(l.flatMap tQ).length≤2*l.length:=by
 induction l with
 |nil=>simp
 |cons c t ih=>
  simp only [List.flatMap_cons,List.length_append,List.length_cons];have:(tQ c).length≤2:=by unfold tQ;split<;>simp
  omega
theorem Ad (s:ByteArray):quote s=⟨(39::(s.data.toList.flatMap tQ++ [39])).toArray⟩:=rfl
def jG (s:ByteArray) (a:Nat):Nat→Bool
 |0=>true
 |n+1=>jG s a n&&decide (a+n<s.size∧(s.get! (a+n)).toNat / 64=2)
theorem ZP (n:Nat) (h:n<256):((n&&&192:Nat)=128)↔ n / 64=2:=by
 have:∀k:Fin 256,((k.val&&&192:Nat)=128)↔ k.val / 64=2:=by decide+kernel
 exact this ⟨n,h⟩
theorem WS (s:ByteArray) (k:Nat) (h:k<s.size):s.get! k=s[k]:=by
 have:=Go.get_at s k h;simpa using this
def bY (s:ByteArray) (k:Nat):Nat:=(s.get! k).toNat
theorem pV (s:ByteArray) (k:Nat):bY s k<256:=(s.get! k).toNat_lt
theorem jk (s:ByteArray) (k:Nat) (h:k<s.size):s[k].toNat=bY s k:=by unfold bY;rw [WS s k h]
theorem FM (s:ByteArray) (a:Nat):jG s a 1=decide (a<s.size∧bY s a / 64=2):=rfl
theorem FN (s:ByteArray) (a:Nat):jG s a 2=(decide (a<s.size∧bY s a / 64=2)&&decide (a+1<s.size∧bY s (a+1) / 64=2)):=rfl
theorem Bg (s:ByteArray) (a:Nat):jG s a 3=((decide (a<s.size∧bY s a / 64=2)&&decide (a+1<s.size∧bY s (a+1) / 64=2))&&decide (a+2<s.size∧bY s (a+2) / 64=2)):=rfl
theorem vO (s:ByteArray) (a:Nat) (_h:a<s.size) (h0:bY s a<128):Utf8.decode s a=(bY s a,1):=by
 rw [Lib.decode_at];unfold Lib.decodeN;rw [if_pos (by exact h0)];rfl
theorem WT (s:ByteArray) (a:Nat) (h:a<s.size) (h0:128≤bY s a) (h1:¬(194≤bY s a∧bY s a<245)):Utf8.decode s a=(65533,1):=by
 rw [Lib.decode_at];unfold Lib.decodeN;have e:(s.get! a).toNat=bY s a:=rfl;have b1:=pV s (a+1);have e1:(s.get! (a+1)).toNat=bY s (a+1):=rfl;have b0:=pV s a;rw [e,e1]
 repeat' split
 all_goals first|rfl|(exfalso;omega)
theorem WU (s:ByteArray) (a:Nat) (h:a<s.size) (h0:194≤bY s a∧bY s a<224):
 Utf8.decode s a=if jG s (a+1) 1 then (bY s a % 32*64+bY s (a+1) % 64,2)else (65533,1):=by
 rw [Lib.decode_at,FM];unfold Lib.decodeN;have e:(s.get! a).toNat=bY s a:=rfl;have e1:(s.get! (a+1)).toNat=bY s (a+1):=rfl;rw [e,e1];by_cases hc:a+1<s.size∧bY s (a+1) / 64=2
 · rw [decide_eq_true hc,if_pos rfl,if_neg (by omega),if_pos ⟨by omega,by omega,hc.2⟩,if_pos (by omega)]
 · rw [decide_eq_false hc,if_neg (by omega),if_neg (by omega),if_neg (by omega),if_neg (by omega)];rfl
theorem PL (s:ByteArray) (a:Nat) (h:a<s.size) (h0:224≤bY s a∧bY s a<240) (r:Nat) (hr:r=bY s a % 16*4096+bY s (a+1) % 64*64+bY s (a+2) % 64):
 Utf8.decode s a=if jG s (a+1) 2&& !(decide (r<2048)||(decide (55296≤r)&&decide (r<57344)))then (r,3)else (65533,1):=by
 rw [Lib.decode_at,FN,show a+1+1=a+2 from rfl];unfold Lib.decodeN;have e:(s.get! a).toNat=bY s a:=rfl;have e1:(s.get! (a+1)).toNat=bY s (a+1):=rfl;have e2:(s.get! (a+2)).toNat=bY s (a+2):=rfl;have b0:=pV s a;have b1:=pV s (a+1);have b2:=pV s (a+2);rw [e,e1,e2,←hr,if_neg (by omega),if_neg (by omega)];by_cases hc:(a+1<s.size∧bY s (a+1) / 64=2)∧(a+2<s.size∧bY s (a+2) / 64=2)
 · rw [decide_eq_true hc.1,decide_eq_true hc.2,if_pos ⟨by omega,⟨by omega,hc.1.2⟩,⟨by omega,hc.2.2⟩⟩];by_cases hv:r≥2048∧(r<55296∨(57344≤r∧r≤1114111))
   · rw [if_pos hv,if_pos (by simp;omega)]
   · rw [if_neg hv,if_neg (by simp;omega)]
 · rw [if_neg (by omega),if_neg (by omega),if_neg (by simp;omega)]
theorem Tc (s:ByteArray) (a:Nat) (h:a<s.size) (h0:240≤bY s a∧bY s a<245) (r:Nat) (hr:r=bY s a % 8*262144+bY s (a+1) % 64*4096+bY s (a+2) % 64*64+bY s (a+3) % 64):
 Utf8.decode s a=if jG s (a+1) 3&& !(decide (r<65536)||decide (1114111<r))then (r,4)else (65533,1):=by
 rw [Lib.decode_at,Bg,show a+1+1=a+2 from rfl,show a+1+2=a+3 from rfl];unfold Lib.decodeN;have e:(s.get! a).toNat=bY s a:=rfl;have e1:(s.get! (a+1)).toNat=bY s (a+1):=rfl;have e2:(s.get! (a+2)).toNat=bY s (a+2):=rfl;have e3:(s.get! (a+3)).toNat=bY s (a+3):=rfl;have b0:=pV s a;have b1:=pV s (a+1);have b2:=pV s (a+2);have b3:=pV s (a+3);rw [e,e1,e2,e3,←hr,if_neg (by omega),if_neg (by omega),if_neg (by omega)];by_cases hc:((a+1<s.size∧bY s (a+1) / 64=2)∧(a+2<s.size∧bY s (a+2) / 64=2))∧(a+3<s.size∧bY s (a+3) / 64=2)
 · rw [decide_eq_true hc.1.1,decide_eq_true hc.1.2,decide_eq_true hc.2,if_pos ⟨by omega,⟨by omega,hc.1.1.2⟩,⟨by omega,hc.1.2.2⟩,⟨by omega,hc.2.2⟩⟩];by_cases hv:r≥65536∧(r<55296∨(57344≤r∧r≤1114111))
   · rw [if_pos hv,if_pos (by simp;omega)]
   · rw [if_neg hv,if_neg (by simp;omega)]
 · rw [if_neg (by omega),if_neg (by simp;omega)]
def lC (s:ByteArray) (a m:Nat):Nat→Nat
 |0=>m
 |k+1=>lC s a m k*64+bY s (a+k+1) % 64
theorem Oc (s:ByteArray) (a m:Nat) (hm:m<32):lC s a m 0<32∧lC s a m 1<2048∧lC s a m 2<131072∧lC s a m 3<8388608:=by
 have e0:lC s a m 0=m:=rfl;have e1:lC s a m 1=lC s a m 0*64+bY s (a+0+1) % 64:=rfl;have e2:lC s a m 2=lC s a m 1*64+bY s (a+1+1) % 64:=rfl;have e3:lC s a m 3=lC s a m 2*64+bY s (a+2+1) % 64:=rfl;omega
theorem GR (s:ByteArray) (a m:Nat) (hm:m<32) (k:Nat) (hk:k≤3):lC s a m k<8388608:=by
 have:=Oc s a m hm
 match k,hk with
 |0,_=>omega
 |1,_=>omega
 |2,_=>omega
 |3,_=>omega
theorem GU (s:ByteArray) (a m:Nat) (hm:m<32) (k:Nat) (hk:k<3):lC s a m k<131072:=by
 have:=Oc s a m hm
 match k,hk with
 |0,_=>omega
 |1,_=>omega
 |2,_=>omega
theorem JA (s:ByteArray) (k:Nat) (h:k<s.size):s.extract k (k+1)=⟨#[s[k]]⟩:=by
 apply ByteArray.ext;apply Array.ext';have hd:k<s.data.toList.length:=by simp;exact h
 rw [ByteArray.data_extract];simp only [Array.toList_extract,List.extract_eq_take_drop];rw [List.drop_eq_getElem_cons hd];have e:k+1 - k=1:=by omega
 rw [e];simp;rfl
theorem yj (s:ByteArray) (k:Nat) (h:¬k<s.size):bY s k=0:=by
 unfold bY;rw [CB,getElem!_neg s.data k h];rfl
theorem jX (s t:ByteArray) (k:Nat) (h:k<s.size):bY (s++t) k=bY s k:=by
 have h2:k<(s++t).size:=by rw [ByteArray.size_append];omega
 rw [←jk _ k h2,←jk _ k h];rw [ByteArray.getElem_append_left h]
theorem qC (s t:ByteArray) (k:Nat):bY (s++t) (s.size+k)=bY t k:=by
 by_cases h:k<t.size
 · have h2:s.size+k<(s++t).size:=by rw [ByteArray.size_append];omega
   rw [←jk _ _ h2,←jk _ k h,ByteArray.getElem_append_right (by omega)];congr 2;omega
 · rw [yj _ _ h,yj];rw [ByteArray.size_append];omega
theorem GV (s:ByteArray) (a k:Nat):bY (s.extract a s.size) k=bY s (a+k):=by unfold bY;rw [N9]
theorem iV (s:ByteArray) (a:Nat):Utf8.decode s a=Lib.decodeN (s.size - a) (bY s a) (bY s (a+1)) (bY s (a+2)) (bY s (a+3)):=Lib.decode_at s a
theorem ZQ (s t:ByteArray) (k:Nat):Utf8.decode (s++t) (s.size+k)=Utf8.decode t k:=by
 rw [iV,iV,Nat.add_assoc,Nat.add_assoc,Nat.add_assoc,qC,qC,qC,qC,ByteArray.size_append];congr 1;omega
theorem WV (s:ByteArray) (a k:Nat):Utf8.decode (s.extract a s.size) k=Utf8.decode s (a+k):=by
 rw [iV,iV,GV,GV,GV,GV];have e:(s.extract a s.size).size - k=s.size - (a+k):=by simp;omega
 rw [e];rfl
theorem yt (n m b0 b1 b2 b3 c1 c2 c3:Nat) (_hn:1≤n) (hm:n≤m) (h1:1<n→c1=b1) (h2:2<n→c2=b2) (h3:3<n→c3=b3)
 (hok:(Lib.decodeN n b0 b1 b2 b3).1≠65533∨1<(Lib.decodeN n b0 b1 b2 b3).2):Lib.decodeN m b0 c1 c2 c3=Lib.decodeN n b0 b1 b2 b3:=by
 unfold Lib.decodeN at hok⊢;by_cases a1:b0<128
 · rw [if_pos a1,if_pos a1]
 · rw [if_neg a1]at hok;rw [if_neg a1,if_neg a1];by_cases a2:b0 / 32=6∧(1<n∧b1 / 64=2)
   · obtain rfl:=h1 a2.2.1;rw [if_pos a2,if_pos ⟨a2.1,by omega,a2.2.2⟩]
   · rw [if_neg a2]at hok;by_cases a3:b0 / 16=14∧(1<n∧b1 / 64=2)∧(2<n∧b2 / 64=2)
     · obtain rfl:=h1 a3.2.1.1;obtain rfl:=h2 a3.2.2.1;rw [if_neg a2,if_pos a3,if_neg (by omega),if_pos ⟨a3.1,⟨by omega,a3.2.1.2⟩,⟨by omega,a3.2.2.2⟩⟩]
     · rw [if_neg a3]at hok;by_cases a4:b0 / 8=30∧(1<n∧b1 / 64=2)∧(2<n∧b2 / 64=2)∧(3<n∧b3 / 64=2)
       · obtain rfl:=h1 a4.2.1.1;obtain rfl:=h2 a4.2.2.1.1;obtain rfl:=h3 a4.2.2.2.1;rw [if_neg a2,if_neg a3,if_pos a4,if_neg (by omega),if_neg (by omega),if_pos ⟨a4.1,⟨by omega,a4.2.1.2⟩,⟨by omega,a4.2.2.1.2⟩,⟨by omega,a4.2.2.2.2⟩⟩]
       · rw [if_neg a4]at hok;simp at hok
theorem Td (s:ByteArray) (a:Nat):((⟨(Utf8.decode s a).1,a,(Utf8.decode s a).2⟩:Pt).ok=true)↔ ((Utf8.decode s a).1≠65533∨1<(Utf8.decode s a).2):=by
 unfold Pt.ok;rw [Bool.or_eq_true,decide_eq_true_eq,bne_iff_ne];constructor
 · rintro (h|h)
   · exact .inl (fun e=>h (by rw [e];rfl))
   · exact .inr h
 · rintro (h|h)
   · exact .inl (fun e=>h (by simp only at e;omega))
   · exact .inr h
theorem ZR (s t:ByteArray) (a:Nat) (h:a<s.size) (hok:(Utf8.decode s a).1≠65533∨1<(Utf8.decode s a).2):Utf8.decode (s++t) a=Utf8.decode s a:=by
 rw [iV]at hok;rw [iV,iV,jX s t a h];refine yt _ _ _ _ _ _ _ _ _ (by omega) ?_ ?_ ?_ ?_ hok
 · rw [ByteArray.size_append];omega
 · intro h1;exact jX s t _ (by omega)
 · intro h1;exact jX s t _ (by omega)
 · intro h1;exact jX s t _ (by omega)
def Pt.shift (d:Nat) (p:Pt):Pt:=⟨p.r,p.at_+d,p.n⟩
theorem uj (s t:ByteArray):∀n k,t.size - k≤n→dD (s++t) (s.size+k)=(dD t k).map (Pt.shift s.size):=by
 intro n
 induction n with
 |zero=>intro k h;rw [bI t k (by omega),bI];rfl;rw [ByteArray.size_append];omega
 |succ n ih=>
  intro k h;by_cases hk:k<t.size
  · have hw:=width_pos t k hk;rw [bq t k hk,bq (s++t) (s.size+k) (by rw [ByteArray.size_append];omega),ZQ,Nat.add_assoc,ih _ (by omega)];simp only [List.map_cons,Pt.shift];rw [Nat.add_comm s.size k]
  · rw [bI t k hk,bI];rfl;rw [ByteArray.size_append];omega
theorem PN (s:ByteArray) (a:Nat):∀n k,s.size - (a+k)≤n→dD s (a+k)=(dD (s.extract a s.size) k).map (Pt.shift a):=by
 intro n;have e:(s.extract a s.size).size=s.size - a:=by simp
 induction n with
 |zero=>intro k h;rw [bI s _ (by omega),bI];rfl;omega
 |succ n ih=>
  intro k h;by_cases hk:a+k<s.size
  · have hw:=width_pos s (a+k) hk;rw [bq s _ hk,bq (s.extract a s.size) k (by omega),WV,Nat.add_assoc,ih _ (by omega)];simp only [List.map_cons,Pt.shift];rw [Nat.add_comm a k]
  · rw [bI s _ hk,bI];rfl;omega
theorem PO (s t:ByteArray):∀n k,s.size - k≤n→k≤s.size→(dD s k).all Pt.ok=true→dD (s++t) k=dD s k++(pts t).map (Pt.shift s.size):=by
 intro n
 induction n with
 |zero=>
  intro k h hk _;have:k=s.size+0:=by omega
  rw [bI s k (by omega),this,uj s t t.size 0 (by omega)];rfl
 |succ n ih=>
  intro k h hk hall;by_cases hlt:k<s.size
  · have hw:=width_pos s k hlt;have hl:=width_le s k hlt;rw [bq s k hlt,List.all_cons,Bool.and_eq_true]at hall;rw [bq s k hlt,bq (s++t) k (by rw [ByteArray.size_append];omega),ZR s t k hlt ((Td s k).1 hall.1),ih _ (by omega) (by omega) hall.2];rfl
  · have:k=s.size+0:=by omega
    rw [bI s k hlt,this,uj s t t.size 0 (by omega)];rfl
theorem GX (s t:ByteArray) (h:valid s=true):pts (s++t)=pts s++(pts t).map (Pt.shift s.size):=PO s t s.size 0 (by omega) (by omega) h
theorem qD (s t:ByteArray) (hs:valid s=true):valid (s++t)=valid t:=by
 unfold valid;rw [GX s t hs,List.all_append];have:(pts s).all Pt.ok=true:=hs;rw [this,Bool.true_and,List.all_map];rfl
def place (v n:Int):Int:=v % n
theorem Od (rest:List UInt8) (hr:rest.head? ≠some 39):∀l:List UInt8,lW (l.flatMap tQ++39::rest)=some (l,(l.flatMap tQ).length+1)
 | []=>by
  rw [List.flatMap_nil,List.nil_append,lW.eq_def];cases rest with
  |nil=>simp
  |cons d u=>
   have:d≠39:=fun e=>hr (by rw [e];rfl)
   simp [this]
 |c::t=>by
  have ih:=Od rest hr t;by_cases hc:c=39
  · subst hc;have e:(39::t).flatMap tQ++39::rest=39::39::(t.flatMap tQ++39::rest):=by simp [tQ]
    rw [e,lW.eq_def];simp [ih,tQ]
  · have e:(c::t).flatMap tQ++39::rest=c::(t.flatMap tQ++39::rest):=by simp [tQ,hc]
    rw [e,lW.eq_def];simp [ih,tQ,hc]
theorem CG (s:ByteArray):(quote s).data.toList=39::(s.data.toList.flatMap tQ++ [39]):=by rw [Ad]
theorem wU (s:ByteArray):(quote s).size=(s.data.toList.flatMap tQ).length+2:=by
 have:(quote s).data.toList.length=(quote s).size:=by simp
 rw [←this,CG];simp
theorem iW (n b0 b1 b2 b3:Nat) (_hn:1≤n):
 ((Lib.decodeN n b0 b1 b2 b3).2=1∧((Lib.decodeN n b0 b1 b2 b3).1=b0∧b0<128∨(Lib.decodeN n b0 b1 b2 b3).1=65533))∨
 (128≤b0∧1<(Lib.decodeN n b0 b1 b2 b3).2∧(Lib.decodeN n b0 b1 b2 b3).2≤n∧(Lib.decodeN n b0 b1 b2 b3).2≤4∧b1 / 64=2∧(2<(Lib.decodeN n b0 b1 b2 b3).2→b2 / 64=2)∧(3<(Lib.decodeN n b0 b1 b2 b3).2→b3 / 64=2)):=by
 unfold Lib.decodeN;by_cases a1:b0<128
 · rw [if_pos a1];exact .inl ⟨rfl, .inl ⟨rfl,a1⟩⟩
 · rw [if_neg a1];by_cases a2:b0 / 32=6∧(1<n∧b1 / 64=2)
   · rw [if_pos a2];split
     · exact .inr ⟨by omega,by simp,by simp;omega,by simp,a2.2.2,by simp,by simp⟩
     · exact .inl ⟨rfl, .inr rfl⟩
   · rw [if_neg a2];by_cases a3:b0 / 16=14∧(1<n∧b1 / 64=2)∧(2<n∧b2 / 64=2)
     · rw [if_pos a3];split
       · exact .inr ⟨by omega,by simp,by simp;omega,by simp,a3.2.1.2,fun _=>a3.2.2.2,by simp⟩
       · exact .inl ⟨rfl, .inr rfl⟩
     · rw [if_neg a3];by_cases a4:b0 / 8=30∧(1<n∧b1 / 64=2)∧(2<n∧b2 / 64=2)∧(3<n∧b3 / 64=2)
       · rw [if_pos a4];split
         · exact .inr ⟨by omega,by simp,by simp;omega,by simp,a4.2.1.2,fun _=>a4.2.2.1.2,fun _=>a4.2.2.2.2⟩
         · exact .inl ⟨rfl, .inr rfl⟩
       · rw [if_neg a4];exact .inl ⟨rfl, .inr rfl⟩
theorem PS (s:ByteArray) (a:Nat) (h:a<s.size):
 ((Utf8.decode s a).2=1∧((Utf8.decode s a).1=bY s a∧bY s a<128∨(Utf8.decode s a).1=65533))∨
 (128≤bY s a∧1<(Utf8.decode s a).2∧∀j,0<j→j<(Utf8.decode s a).2→bY s (a+j) / 64=2):=by
 rw [iV];rcases iW (s.size - a) (bY s a) (bY s (a+1)) (bY s (a+2)) (bY s (a+3)) (by omega)with h1|⟨h1,h2,h3,h4,h5,h6,h7⟩
 · exact .inl h1
 · refine .inr ⟨h1,h2,fun j hj hj2=> ?_⟩
   match j,hj with
   |1,_=>exact h5
   |2,_=>exact h6 hj2
   |3,_=>exact h7 hj2
   |j+4,_=>omega
theorem PU (c:UInt8):pQ (pQ c)=pQ c:=by
 have h:=yg c;have h2:=yg (pQ c);apply UInt8.toNat_inj.1;rw [h2];split
 · rename_i hh;rw [h]at hh;split at hh<;>omega
 · rfl
theorem PV (s:ByteArray):fold (fold s)=fold s:=by
 unfold fold;apply ByteArray.ext;simp only [Array.map_map];congr 1;funext c;exact PU c
theorem fold_size (s:ByteArray):(fold s).size=s.size:=by
 show (s.data.map pQ).size=s.data.size;simp
def jl (P:List Pt) (i:Nat):Int:=match P[i]? with|some p=>p.r|none=> -1
def fE (P:List Pt) (i:Nat) (r:Int):Bool:=match P[i]? with|some p=>(p.r:Int)==r|none=>false
def dn (P:List Pt) (i:Nat):Bool:=match P[i]? with|some p=>p.ok&&(dV p.r||(decide (65≤(p.r:Int))&&decide ((p.r:Int)≤90)))|none=>false
def bT (P:List Pt) (i:Nat):Bool:=match P[i]? with|some p=>iw p.r|none=>false
def aL (s:ByteArray) (P:List Pt) (i:Nat):Nat:=match P[i]? with|some p=>p.at_|none=>s.size
def yu (f:Nat→Bool):Nat→Nat→Nat
 |0,i=>i
 |n+1,i=>if f i then yu f n (i+1)else i
def dF (f:Nat→Bool) (len i:Nat):Nat:=yu f (len - i) i
theorem fF {f:Nat→Bool}{len i:Nat}(h:i<len) (hf:f i=true):dF f len i=dF f len (i+1):=by
 unfold dF;rw [show len - i=(len - (i+1))+1 by omega,yu,if_pos hf]
theorem eu {f:Nat→Bool}{len i:Nat}(hf:f i=false):dF f len i=i:=by
 unfold dF;cases len - i with
 |zero=>rfl
 |succ n=>rw [yu,if_neg (by rw [hf];decide)]
theorem oz {f:Nat→Bool}{len i:Nat}(h:len≤i):dF f len i=i:=by
 unfold dF;rw [show len - i=0 by omega];rfl
theorem GY (f:Nat→Bool):∀n i,i≤yu f n i∧yu f n i≤i+n
 |0,i=>⟨Nat.le_refl _,Nat.le_refl _⟩
 |n+1,i=>by
  unfold yu;split
  · have:=GY f n (i+1);omega
  · omega
theorem CJ (f:Nat→Bool) (len i:Nat) (h:i≤len):i≤dF f len i∧dF f len i≤len:=by
 have:=GY f (len - i) i;unfold dF;omega
theorem ng (f:Nat→Bool) (len i:Nat):i≤dF f len i:=(GY f (len - i) i).1
def dL (P:List Pt) (i:Nat):Bool:=fE P i 32||fE P i 9||fE P i 10||fE P i 13
def iK (P:List Pt) (i:Nat):Bool:=fE P i 45&&fE P (i+1) 45
def lineEnd (P:List Pt) (i:Nat):Nat:=dF (fun j=> !fE P j 10) P.length i
def iL (P:List Pt):Nat→Nat→Nat
 |0,i=>i
 |n+1,i=>if P.length≤i then i else if dL P i then iL P n (i+1)else if iK P i then iL P n (lineEnd P i)else i
def skip (P:List Pt) (i:Nat):Nat:=iL P (P.length - i) i
theorem Te {P:List Pt}{i:Nat}{r:Int}(h:fE P i r=true):i<P.length:=by
 unfold fE at h;split at h
 · rename_i p hp;exact (List.getElem?_eq_some_iff.1 hp).1
 · cases h
theorem Ae {P:List Pt}{i:Nat}{r q:Int}(h:fE P i r=true) (hne:r≠q):fE P i q=false:=by
 unfold fE at h⊢;cases hp:P[i]? with
 |none=>simp [hp]at h
 |some p=>
  rw [hp]at h;simp only at h⊢;rw [beq_eq_false_iff_ne];intro e;exact hne (by rw [←beq_iff_eq.1 h,e])
theorem iX {P:List Pt}{i:Nat}(h:iK P i=true):i<lineEnd P i∧lineEnd P i≤P.length:=by
 unfold iK at h;rw [Bool.and_eq_true]at h;have hlt:=Te h.1;have h10:=Ae h.1 (show (45:Int)≠10 by decide);unfold lineEnd;have e:=fF (f:=fun j=> !fE P j 10) hlt (by simp [h10]);have:=CJ (fun j=> !fE P j 10) P.length (i+1) (by omega);omega
theorem L6 (P:List Pt):∀n m i,P.length≤i+n→P.length≤i+m→iL P n i=iL P m i:=by
 intro n
 induction n with
 |zero=>
  intro m i h1 h2;cases m with
  |zero=>rfl
  |succ m=>rw [iL,iL,if_pos (by omega)]
 |succ n ih=>
  intro m i h1 h2;by_cases hl:P.length≤i
  · cases m with
    |zero=>rw [iL,iL,if_pos hl]
    |succ m=>rw [iL,iL,if_pos hl,if_pos hl]
  · cases m with
    |zero=>omega
    |succ m=>
     rw [iL,iL,if_neg hl,if_neg hl];split
     · exact ih m (i+1) (by omega) (by omega)
     · split
       · rename_i hd;have:=iX hd;exact ih m _ (by omega) (by omega)
       · rfl
theorem um {P:List Pt}{i:Nat}(h:P.length≤i):skip P i=i:=by
 unfold skip;rw [show P.length - i=0 by omega];rfl
theorem gu {P:List Pt}{i:Nat}(h:i<P.length) (hb:dL P i=true):skip P i=skip P (i+1):=by
 unfold skip;rw [show P.length - i=(P.length - (i+1))+1 by omega,iL,if_neg (by omega),if_pos hb]
theorem mg {P:List Pt}{i:Nat}(h:i<P.length) (hb:dL P i=false) (hd:iK P i=true):skip P i=skip P (lineEnd P i):=by
 have:=iX hd;unfold skip;rw [show P.length - i=(P.length - (i+1))+1 by omega,iL,if_neg (by omega),if_neg (by rw [hb];decide),if_pos hd];exact L6 P _ _ _ (by omega) (by omega)
theorem gK {P:List Pt}{i:Nat}(hb:dL P i=false) (hd:iK P i=false):skip P i=i:=by
 unfold skip;cases P.length - i with
 |zero=>rfl
 |succ n=>
  rw [iL];split
  · rfl
  · rw [if_neg (by rw [hb];decide),if_neg (by rw [hd];decide)]
theorem Tf (P:List Pt):∀n i,i≤iL P n i:=by
 intro n
 induction n with
 |zero=>intro i;exact Nat.le_refl _
 |succ n ih=>
  intro i;rw [iL];split
  · exact Nat.le_refl _
  · split
    · have:=ih (i+1);omega
    · split
      · rename_i hd;have:=ih (lineEnd P i);have:=iX hd;omega
      · exact Nat.le_refl _
theorem jY (P:List Pt) (i:Nat):i≤skip P i:=Tf P _ i
structure Tk where
 kind:Int
 s:ByteArray
 n:Int
 at_:Nat
def qE (P:List Pt):Nat→Nat→Int→Bool→Int×Bool×Nat
 |0,i,v,ok=>(v,ok,i)
 |n+1,i,v,ok=>if bT P i then qE P n (i+1) (min (v*10+(jl P i - 48)) 1099511627776) (ok&&decide (v*10+(jl P i - 48)≤1099511627776))else (v,ok,i)
def num (P:List Pt) (i:Nat) (v:Int) (ok:Bool):Int×Bool×Nat:=qE P (P.length - i) i v ok
theorem rP {P:List Pt}{i:Nat}(h:bT P i=true):i<P.length:=by
 unfold bT at h;split at h
 · rename_i p hp;exact (List.getElem?_eq_some_iff.1 hp).1
 · cases h
theorem yw {P:List Pt}{i:Nat}(h:dn P i=true):i<P.length:=by
 unfold dn at h;split at h
 · rename_i p hp;exact (List.getElem?_eq_some_iff.1 hp).1
 · cases h
theorem oI {P:List Pt}{i:Nat}{v:Int}{ok:Bool}(h:bT P i=true):
 num P i v ok=num P (i+1) (min (v*10+(jl P i - 48)) 1099511627776) (ok&&decide (v*10+(jl P i - 48)≤1099511627776)):=by
 have hl:=rP h;unfold num;rw [show P.length - i=(P.length - (i+1))+1 by omega,qE,if_pos h]
theorem jI {P:List Pt}{i:Nat}{v:Int}{ok:Bool}(h:bT P i=false):num P i v ok=(v,ok,i):=by
 unfold num;cases P.length - i with
 |zero=>rfl
 |succ n=>rw [qE,if_neg (by rw [h];decide)]
theorem Cj (P:List Pt):∀n i v ok,i≤(qE P n i v ok).2.2∧(qE P n i v ok).2.2≤i+n:=by
 intro n
 induction n with
 |zero=>intro i v ok;exact ⟨Nat.le_refl _,Nat.le_refl _⟩
 |succ n ih=>
  intro i v ok;rw [qE];split
  · have:=ih (i+1) (min (v*10+(jl P i - 48)) 1099511627776) (ok&&decide (v*10+(jl P i - 48)≤1099511627776));omega
  · simp only;omega
def dW (P:List Pt) (i:Nat):Nat:=dF (fun k=>dn P k||bT P k) P.length i
def lD (s:ByteArray) (P:List Pt) (i:Nat):ByteArray:=s.extract (aL s P i) (aL s P (dW P i))
def jD (s:ByteArray) (P:List Pt) (i:Nat):Tk×Bool×Nat:=(⟨1,fold (lD s P i),0,i⟩,decide ((lD s P i).size≤100),dW P i)
def bJ (P:List Pt) (i:Nat):Nat:=if fE P i 45 then i+1 else i
def fV (P:List Pt) (i:Nat):Int×Bool×Nat:=num P (bJ P i) 0 (bT P (bJ P i))
def bR (P:List Pt) (i:Nat):Tk×Bool×Nat:=(⟨2,⟨#[]⟩,if fE P i 45 then -(fV P i).1 else (fV P i).1,i⟩,(fV P i).2.1&& !dn P (fV P i).2.2,(fV P i).2.2)
def bF (P:List Pt) (next:Int) (i:Nat):Nat:=dF (fun k=>match P[k]? with|some p=>decide ((p.at_:Int)<next)|none=>false) P.length i
def jm (s:ByteArray) (P:List Pt) (i:Nat):Tk×Bool×Nat:=
 match bV s (aL s P i)with
 |some x=>(⟨3,x.1,0,i⟩,decide (x.1.size≤100)&&valid x.1,bF P x.2 i)
 |none=>(⟨3,⟨#[]⟩,0,i⟩,false,i)
def uo (r:Int):Bool:=r==40||r==41||r==44||r==59||r==61||r==42
def dw (s:ByteArray) (P:List Pt) (i:Nat):Tk×Bool×Nat:=
 if dn P i then jD s P i
 else if bT P i||fE P i 45 then bR P i
 else if fE P i 39 then jm s P i
 else if uo (jl P i)then (⟨4,⟨#[UInt8.ofNat (jl P i).toNat]⟩,0,i⟩,true,i+1)
 else (⟨0,⟨#[]⟩,0,0⟩,false,i)
def dP (s:ByteArray) (P:List Pt):Nat→Nat→Except Nat (List Tk)
 |0,_=> .ok []
 |n+1,i=>
  if P.length≤skip P i then .ok []
  else if (dw s P (skip P i)).2.1 then (dP s P n (dw s P (skip P i)).2.2).map ((dw s P (skip P i)).1:: ·)
  else .error (skip P i)
def aX (s:ByteArray):List Tk×Nat×Int:=
 if 1000<s.size then ([],0,2)
 else match dP s (pts s) ((pts s).length+1) 0 with
  | .ok l=>(l,0,0)
  | .error a=>([],a,3)
theorem jJ (s:ByteArray) (pos:Nat) (h:pos≤s.size):aL s (dD s pos) 0=pos:=by
 by_cases hp:pos<s.size
 · rw [bq s pos hp];rfl
 · rw [bI s pos hp];show s.size=pos;omega
theorem qF (s:ByteArray):∀k pos,pos≤s.size→pos≤aL s (dD s pos) k∧aL s (dD s pos) k≤s.size:=by
 intro k
 induction k with
 |zero=>intro pos h;rw [jJ s pos h];omega
 |succ k ih=>
  intro pos h;by_cases hp:pos<s.size
  · have hw:=width_le s pos hp;have:=ih (pos+(Utf8.decode s pos).2) hw;rw [bq s pos hp];show pos≤aL s (dD s (pos+(Utf8.decode s pos).2)) k∧aL s (dD s (pos+(Utf8.decode s pos).2)) k≤s.size;omega
  · rw [bI s pos hp];show pos≤s.size∧s.size≤s.size;omega
theorem GZ (s:ByteArray):∀k j pos,pos≤s.size→k≤j→aL s (dD s pos) k≤aL s (dD s pos) j:=by
 intro k
 induction k with
 |zero=>intro j pos h _;rw [jJ s pos h];exact (qF s j pos h).1
 |succ k ih=>
  intro j pos h hj;obtain ⟨j,rfl⟩:∃m,j=m+1:=⟨j - 1,by omega⟩;by_cases hp:pos<s.size
  · have hw:=width_le s pos hp;rw [bq s pos hp];exact ih j (pos+(Utf8.decode s pos).2) hw (by omega)
  · rw [bI s pos hp];exact Nat.le_refl _
theorem pW (s:ByteArray) (k j:Nat) (h:k≤j):aL s (pts s) k≤aL s (pts s) j:=GZ s k j 0 (by omega) h
theorem Af (s:ByteArray) (k:Nat):aL s (pts s) k≤s.size:=(qF s k 0 (by omega)).2
def uq (s:ByteArray) (P:List Pt):Prop:=P.length≤s.size∧(∀k j,k≤j→aL s P k≤aL s P j)∧(∀k,aL s P k≤s.size)
theorem JB (s:ByteArray):∀n pos,s.size - pos≤n→(dD s pos).length≤s.size - pos:=by
 intro n
 induction n with
 |zero=>intro pos h;rw [bI s pos (by omega)];simp
 |succ n ih=>
  intro pos h;by_cases hp:pos<s.size
  · have:=width_pos s pos hp;have:=ih (pos+(Utf8.decode s pos).2) (by omega);rw [bq s pos hp];simp;omega
  · rw [bI s pos hp];simp
theorem Ag (s:ByteArray):uq s (pts s):=⟨by have:=JB s s.size 0 (by omega);rw [iD];omega,pW s,Af s⟩
def Ah (s:ByteArray) (f:Int):ByteArray:=match bV s f with|some x=>x.1|none=>⟨#[]⟩
def tT (s:ByteArray) (f:Int):Int:=match bV s f with|some x=>x.2|none=>0
def BS (s:ByteArray) (f:Int):Bool:=(bV s f).isSome
theorem Oe (s:ByteArray) (f:Int):LZ (bV s f)= .tuple #[.string (Ah s f), .int .i64 (tT s f), .bool (BS s f)]:=by
 unfold Ah tT BS;cases bV s f<;>rfl
theorem G5 (P:List Pt) (i:Nat):bF P 0 i=i:=by
 unfold bF;refine eu ?_;cases P[i]? with
 |none=>rfl
 |some p=>exact decide_eq_false (by omega)
theorem qG (s:ByteArray) (P:List Pt) (i:Nat):
 jm s P i=(⟨3,Ah s (aL s P i),0,i⟩,BS s (aL s P i)&&(decide ((Ah s (aL s P i)).size≤100)&&valid (Ah s (aL s P i))),bF P (tT s (aL s P i)) i):=by
 unfold jm Ah tT BS;cases bV s (aL s P i)with
 |none=>simp [G5]
 |some x=>simp
theorem Og:∀(n:Nat) (l:List UInt8),l.length≤n→∀x,lW l=some x→x.1.length≤l.length∧x.2≤l.length:=by
 intro n
 induction n with
 |zero=>intro l hl x hx;cases l with|nil=>simp [lW]at hx|cons=>simp at hl
 |succ n ih=>
  intro l hl x hx
  match l with
  | []=>simp [lW]at hx
  |c::t=>
   rw [lW.eq_def]at hx;simp only at hx;by_cases hc:c=39
   · rw [if_pos hc]at hx
     match t with
     | []=>simp at hx;subst hx;simp
     |d::u=>
      simp only at hx;by_cases hd:d=39
      · rw [if_pos hd]at hx;obtain ⟨y,hy,rfl⟩:=Option.map_eq_some_iff.1 hx;have:=ih u (by simp at hl;omega) y hy;simp only [List.length_cons];omega
      · rw [if_neg hd]at hx;cases hx;simp
   · rw [if_neg hc]at hx;obtain ⟨y,hy,rfl⟩:=Option.map_eq_some_iff.1 hx;have:=ih t (by simp at hl;omega) y hy;simp only [List.length_cons];omega
theorem FP (s:ByteArray) (f:Int):(Ah s f).size≤s.size:=by
 unfold Ah bV;by_cases h:0≤f∧f<s.size∧s.data.toList[f.toNat]? =some 39
 · rw [if_pos h];cases hu:lW (s.data.toList.drop (f.toNat+1))with
   |none=>exact Nat.zero_le _
   |some x=>
    have:=(Og _ _ (Nat.le_refl _) x hu).1;simp only [Option.map_some,List.length_drop]at this⊢;show x.1.toArray.size≤s.data.size;rw [Array.length_toList]at this;rw [List.size_toArray];omega
 · rw [if_neg h];exact Nat.zero_le _
theorem G6 (s:ByteArray) (f:Int):0≤tT s f∧tT s f≤s.size:=by
 unfold tT bV;by_cases h:0≤f∧f<s.size∧s.data.toList[f.toNat]? =some 39
 · rw [if_pos h];cases hu:lW (s.data.toList.drop (f.toNat+1))with
   |none=>simp
   |some x=>
    have h2:=(Og _ _ (Nat.le_refl _) x hu).2;obtain ⟨h0,h1,_⟩:=h;have h3:s.data.toList.length=s.size:=rfl;simp only [Option.map_some,List.length_drop]at h2⊢;omega
 · rw [if_neg h];simp
def CK:ByteArray:=⟨#[40,41,44,59,61,42]⟩
def tV (q:Nat):Nat:= [40,41,44,59,61,42].getD q 0
theorem Tg (q:Nat) (h:q<6):Utf8.decode CK q=(tV q,1):=by
 have:q=0∨q=1∨q=2∨q=3∨q=4∨q=5:=by omega
 rcases this with rfl|rfl|rfl|rfl|rfl|rfl<;>decide+kernel
theorem WW (q:Nat) (h:q<6):40≤tV q∧tV q<62:=by
 have:q=0∨q=1∨q=2∨q=3∨q=4∨q=5:=by omega
 rcases this with rfl|rfl|rfl|rfl|rfl|rfl<;>decide
theorem WX {P:List Pt}{i q:Nat}(h:q<6) (hb:fE P i (tV q)=true):jl P i=tV q∧uo (jl P i)=true:=by
 unfold fE at hb;unfold jl;cases hp:P[i]? with
 |none=>rw [hp]at hb;cases hb
 |some p=>
  rw [hp]at hb;have e:(p.r:Int)=tV q:=by simpa using hb
  refine ⟨e, ?_⟩;show uo (p.r:Int)=true;rw [e];have:q=0∨q=1∨q=2∨q=3∨q=4∨q=5:=by omega
  rcases this with rfl|rfl|rfl|rfl|rfl|rfl<;>decide
theorem ZT {P:List Pt}{i:Nat}(h:∀q,q<6→fE P i (tV q)=false):uo (jl P i)=false:=by
 have h0:=h 0 (by omega);have h1:=h 1 (by omega);have h2:=h 2 (by omega);have h3:=h 3 (by omega);have h4:=h 4 (by omega);have h5:=h 5 (by omega);unfold fE at h0 h1 h2 h3 h4 h5;unfold jl uo;cases hp:P[i]? with
 |none=>rfl
 |some p=>
  rw [hp]at h0 h1 h2 h3 h4 h5;simp only [tV,List.getD_cons_zero,List.getD_cons_succ]at h0 h1 h2 h3 h4 h5;show (((((((p.r:Int)==40)||(p.r:Int)==41)||(p.r:Int)==44)||(p.r:Int)==59)||(p.r:Int)==61)||(p.r:Int)==42)=false;rw [show ((p.r:Int)==40)=false from h0,show ((p.r:Int)==41)=false from h1,show ((p.r:Int)==44)=false from h2,show ((p.r:Int)==59)=false from h3,show ((p.r:Int)==61)=false from h4,show ((p.r:Int)==42)=false from h5];rfl
theorem JC {f:Nat→Bool}{len i:Nat}(h:i<len) (hf:f i=true):i<dF f len i:=by
 rw [fF h hf];exact ng f len (i+1)
theorem yx {P:List Pt}{i:Nat}(h:dn P i=true):i<dW P i∧dW P i≤P.length:=by
 have hl:=yw h;exact ⟨JC hl (by simp [h]),(CJ _ P.length i (by omega)).2⟩
theorem Oh (P:List Pt):∀n i v,(qE P n i v false).2.1=false:=by
 intro n
 induction n with
 |zero=>intro i v;rfl
 |succ n ih=>intro i v;rw [qE];split<;>simp [ih]
theorem Oi {P:List Pt}{i:Nat}(_hi:i<P.length) (h:(fV P i).2.1=true):i<(fV P i).2.2∧(fV P i).2.2≤P.length:=by
 unfold fV at h⊢;cases hd:bT P (bJ P i)with
 |false=>rw [hd]at h;unfold num at h;rw [Oh]at h;cases h
 |true=>
  have hl:=rP hd;have h1:i≤bJ P i:=by unfold bJ;split<;>omega
  rw [oI hd];have:=Cj P (P.length - (bJ P i+1)) (bJ P i+1) (min (0*10+(jl P (bJ P i) - 48)) 1099511627776) (true&&decide (0*10+(jl P (bJ P i) - 48)≤1099511627776));unfold num;omega
theorem WY (s:ByteArray) (n:Nat) (h:BS s n=true):(n:Int)<tT s n:=by
 unfold BS at h;unfold tT;unfold bV at h⊢;split at h
 · rename_i hc;rw [if_pos hc];cases hu:lW (s.data.toList.drop ((n:Int).toNat+1))with
   |none=>rw [hu]at h;cases h
   |some x=>simp only [Option.map_some];omega
 · cases h
theorem yA {s:ByteArray}{P:List Pt}{i:Nat}(hi:i<P.length) (h:(dw s P i).2.1=true):i<(dw s P i).2.2∧(dw s P i).2.2≤P.length:=by
 unfold dw at h⊢;split
 · rename_i hl;exact yx hl
 · rename_i hl;rw [if_neg hl]at h;split
   · rename_i hd;rw [if_pos hd]at h
     have:(fV P i).2.1=true:=by
      have h' :((fV P i).2.1&& !dn P (fV P i).2.2)=true:=h;rw [Bool.and_eq_true]at h';exact h'.1
     exact Oi hi this
   · rename_i hd;rw [if_neg hd]at h;split
     · rename_i hq;rw [if_pos hq]at h;rw [qG]at h⊢;simp only [Bool.and_eq_true]at h;have hg:=WY s (aL s P i) h.1;unfold bF;refine ⟨JC hi ?_,(CJ _ P.length i (by omega)).2⟩;have hb:aL s P i=P[i].at_:=by unfold aL;rw [List.getElem?_eq_getElem hi]
       simp only [List.getElem?_eq_getElem hi];exact decide_eq_true (by rw [←hb];exact hg)
     · rename_i hq;rw [if_neg hq]at h;split
       · show i<i+1∧i+1≤P.length;omega
       · rename_i hs;rw [if_neg hs]at h;cases h
theorem uw {s:ByteArray}{P:List Pt}{n j:Nat}(h:P.length≤skip P j):dP s P (n+1) j= .ok []:=by rw [dP,if_pos h]
theorem CO {s:ByteArray}{P:List Pt}{n j:Nat}(h:skip P j<P.length) (hb:(dw s P (skip P j)).2.1=false):dP s P (n+1) j= .error (skip P j):=by
 rw [dP,if_neg (by omega),if_neg (by rw [hb];decide)]
theorem G7 {s:ByteArray}{P:List Pt}{n j:Nat}(h:skip P j<P.length) (hb:(dw s P (skip P j)).2.1=true):dP s P (n+1) j=(dP s P n (dw s P (skip P j)).2.2).map ((dw s P (skip P j)).1:: ·):=by
 rw [dP,if_neg (by omega),if_pos hb]
theorem uy (P:List Pt):∀n i,i≤P.length→iL P n i≤P.length:=by
 intro n
 induction n with
 |zero=>intro i h;exact h
 |succ n ih=>
  intro i h;rw [iL];split
  · exact h
  · split
    · exact ih (i+1) (by omega)
    · split
      · rename_i hd;exact ih _ (iX hd).2
      · exact h
theorem CP {s:ByteArray}{P:List Pt}{n m j:Nat}{done:List Tk}{R:Except Nat (List Tk)}(h:R=(dP s P (n+1) j).map (done++ ·)) (h1:skip P j<P.length) (hb:(dw s P (skip P j)).2.1=true) (hm:m=(dw s P (skip P j)).2.2):
 R=(dP s P n m).map ((done++ [(dw s P (skip P j)).1])++ ·):=by
 rw [h,G7 h1 hb,hm];cases dP s P n (dw s P (skip P j)).2.2 with
 |error a=>rfl
 |ok l=>simp [Except.map]
theorem Ti (s:ByteArray) (P:List Pt):∀n i l,dP s P n i= .ok l→l.length≤n:=by
 intro n
 induction n with
 |zero=>intro i l h;rw [dP]at h;cases h;exact Nat.le_refl _
 |succ n ih=>
  intro i l h;rw [dP]at h;split at h
  · cases h;exact Nat.zero_le _
  · split at h
    · cases hx:dP s P n (dw s P (skip P i)).2.2 with
      |error a=>rw [hx]at h;cases h
      |ok m=>
       rw [hx]at h;have:=ih _ _ hx;have e:l=(dw s P (skip P i)).1::m:=by cases h;rfl
       rw [e,List.length_cons];omega
    · cases h
theorem JD (s:ByteArray):(aX s).1.length≤s.size+1:=by
 unfold aX;split
 · exact Nat.zero_le _
 · have hp:=(Ag s).1;split
   · rename_i l h;have:=Ti s (pts s) _ _ _ h;show l.length≤_;omega
   · exact Nat.zero_le _
structure Tm where
 ty:Int
 s:ByteArray
 n:Int
structure Pr where
 name:ByteArray
 t:Tm
structure Cl where
 name:ByteArray
 ty:Int
structure Sx where
 kind:Int
 name:ByteArray
 dA:ByteArray
 on:ByteArray
 bW:ByteArray
 tid:Int
 part:Cl
 aY:Cl
 aF:List Cl
 aD:List ByteArray
 sets:List Pr
 aO:List Pr
 stamp:Int
 ttl:Int
 limit:Int
def Tm.zero:Tm:=⟨0,⟨#[]⟩,0⟩
def Cl.zero:Cl:=⟨⟨#[]⟩,0⟩
def Sx.zero:Sx:=⟨0,⟨#[]⟩,⟨#[]⟩,⟨#[]⟩,⟨#[]⟩,0,Cl.zero,Cl.zero, [], [], [], [],0,0,0⟩
def CQ:List ByteArray:= [(⟨#[99,114,101,97,116,101]⟩:ah),(⟨#[116,97,98,108,101]⟩:ah),(⟨#[112,114,105,109,97,114,121]⟩:ah),(⟨#[107,101,121]⟩:ah),(⟨#[109,97,116,101,114,105,97,108,105,122,101,100]⟩:ah),(⟨#[118,105,101,119]⟩:ah),(⟨#[97,115]⟩:ah),(⟨#[115,101,108,101,99,116]⟩:ah),(⟨#[102,114,111,109]⟩:ah),(⟨#[119,104,101,114,101]⟩:ah),(⟨#[105,115]⟩:ah),(⟨#[110,111,116]⟩:ah),(⟨#[110,117,108,108]⟩:ah),(⟨#[105,110,100,101,120]⟩:ah),(⟨#[111,110]⟩:ah),(⟨#[100,114,111,112]⟩:ah),(⟨#[105,110,115,101,114,116]⟩:ah),(⟨#[105,110,116,111]⟩:ah),(⟨#[118,97,108,117,101,115]⟩:ah),(⟨#[117,115,105,110,103]⟩:ah),(⟨#[117,112,100,97,116,101]⟩:ah),(⟨#[115,101,116]⟩:ah),(⟨#[97,110,100]⟩:ah),(⟨#[100,101,108,101,116,101]⟩:ah),(⟨#[116,105,109,101,115,116,97,109,112]⟩:ah),(⟨#[108,105,109,105,116]⟩:ah),(⟨#[98,101,103,105,110]⟩:ah),(⟨#[98,97,116,99,104]⟩:ah),(⟨#[97,112,112,108,121]⟩:ah),(⟨#[116,116,108]⟩:ah),(⟨#[116,101,120,116]⟩:ah),(⟨#[105,110,116]⟩:ah)]
def fB (a b:ByteArray):Bool:=decide (a=b)
def lu (x:ByteArray) (l:List ByteArray):Bool:=l.any (fB x)
def tX (s:ByteArray):Bool:=lu s CQ
structure Ps where
 i:Nat
 bad:Option Nat
def Ps.iB (σ:Ps):Int:=match σ.bad with|none=> -1|some a=>a
def Ps.wrong (σ:Ps) (a:Nat):Ps:=match σ.bad with|none=>⟨σ.i,some a⟩|some _=>σ
def Ps.step (σ:Ps):Ps:=⟨σ.i+1,σ.bad⟩
structure Tx where
 T:List Tk
 en:Nat
namespace Tx
variable (X:Tx)
def here (σ:Ps):Nat:=match X.T[σ.i]? with|some t=>t.at_|none=>X.en
def fail (σ:Ps):Ps:=σ.wrong (X.here σ)
def next (σ:Ps) (k:Int):Option Tk:=match σ.bad with|some _=>none|none=>match X.T[σ.i]? with|some t=>if t.kind=k then some t else none|none=>none
def sees (σ:Ps) (s:ByteArray):Bool:=(match X.next σ 1 with|some t=>fB t.s s|none=>false)||(match X.next σ 4 with|some t=>fB t.s s|none=>false)
def may (σ:Ps) (s:ByteArray):Ps:=if X.sees σ s then σ.step else σ
def bS (σ:Ps) (s:ByteArray):Ps:=if X.sees σ s then σ.step else X.fail σ
def must (σ:Ps) (l:List ByteArray):Ps:=l.foldl X.bS σ
def name (σ:Ps):ByteArray×Ps:=match X.next σ 1 with
 |some t=>if tX t.s then (⟨#[]⟩,X.fail σ)else (t.s,σ.step)
 |none=>(⟨#[]⟩,X.fail σ)
def value (σ:Ps):Tm×Ps:=match X.next σ 3 with
 |some t=>(⟨1,t.s,0⟩,σ.step)
 |none=>match X.next σ 2 with
  |some t=>(⟨2,⟨#[]⟩,t.n⟩,σ.step)
  |none=>(Tm.zero,X.fail σ)
def count (σ:Ps):Int×Ps:=
 let r:=X.value σ
 (r.1.n,if r.1.ty≠2∨r.1.n<1∨1099511627776<r.1.n then r.2.wrong (X.here σ)else r.2)
def column (σ:Ps) (l:List ByteArray) (most:Nat):List ByteArray×Ps:=
 let σ1:=if most≤l.length then σ.wrong (X.here σ)else σ
 let r:=X.name σ1
 (l++ [r.1],if lu r.1 l then r.2.wrong (X.here σ)else r.2)
def dH (most:Nat):Nat→Ps→List ByteArray→List ByteArray×Ps
 |0,σ,l=>(l,σ)
 |n+1,σ,l=>if X.sees σ (⟨#[44]⟩:ah)then let r:=X.column σ.step l most;dH most n r.2 r.1 else (l,σ)
def columns (σ:Ps) (most:Nat):List ByteArray×Ps:=
 let r:=X.column σ [] most
 X.dH most X.T.length r.2 r.1
def some_ (σ:Ps):List ByteArray×Ps:=if X.sees σ (⟨#[42]⟩:ah)then ([],σ.step)else X.columns σ 8
def equal (σ:Ps):Pr×Ps:=
 let r:=X.name σ
 let v:=X.value (X.must r.2 [(⟨#[61]⟩:ah)])
 (⟨r.1,v.1⟩,v.2)
def aO (σ:Ps) (both:Bool):List Pr×Ps:=
 let r:=X.equal (X.must σ [(⟨#[119,104,101,114,101]⟩:ah)])
 if both then
  let q:=X.equal (X.must r.2 [(⟨#[97,110,100]⟩:ah)])
  ([r.1,q.1],q.2)
 else if X.sees r.2 (⟨#[97,110,100]⟩:ah)then
  let q:=X.equal r.2.step
  ([r.1,q.1],q.2)
 else ([r.1],r.2)
def using_ (σ:Ps) (ttl:Bool) (x:Sx):Sx×Ps:=
 if X.sees σ (⟨#[117,115,105,110,103]⟩:ah)then
  let σ1:=σ.step
  if ttl&&X.sees σ1 (⟨#[116,116,108]⟩:ah)then
   let c:=X.count σ1.step
   ({x with ttl:=c.1},c.2)
  else
   let c:=X.count (X.must σ1 [(⟨#[116,105,109,101,115,116,97,109,112]⟩:ah)])
   if ttl&&X.sees c.2 (⟨#[97,110,100]⟩:ah)then
    let d:=X.count (X.must c.2.step [(⟨#[116,116,108]⟩:ah)])
    ({x with stamp:=c.1,ttl:=d.1},d.2)
   else ({x with stamp:=c.1},c.2)
 else (x,σ)
def one (σ:Ps) (l:List ByteArray) (but:ByteArray):ByteArray×Ps:=
 let r:=X.name σ
 (r.1,if !lu r.1 l||fB r.1 but then r.2.wrong (X.here σ)else r.2)
def kind (σ:Ps):Int×Ps:=if X.sees σ (⟨#[116,101,120,116]⟩:ah)then (1,σ.step)else (2,X.must σ [(⟨#[105,110,116]⟩:ah)])
def iE:Nat→Ps→List ByteArray→List Cl→List ByteArray×List Cl×Ps
 |0,σ,l,c=>(l,c,σ)
 |n+1,σ,l,c=>
  if σ.bad.isSome then (l,c,σ)
  else if X.sees σ (⟨#[112,114,105,109,97,114,121]⟩:ah)then (l,c,σ.step)
  else
   let r:=X.column σ l 10
   let k:=X.kind r.2
   iE n (X.must k.2 [(⟨#[44]⟩:ah)]) r.1 (c++ [⟨r.1.getLastD ⟨#[]⟩,k.1⟩])
def place (x:Sx) (part aY:ByteArray) (c:Cl):Sx:=
 if fB c.name part then {x with part:=c}else if fB c.name aY then {x with aY:=c}else {x with aF:=x.aF++ [c]}
def table (σ:Ps):Sx×Ps:=
 let r:=X.name σ
 let t:=X.iE (X.T.length+1) (X.must r.2 [(⟨#[40]⟩:ah)]) [] []
 let a:=X.one (X.must t.2.2 [(⟨#[107,101,121]⟩:ah),(⟨#[40]⟩:ah)]) t.1 ⟨#[]⟩
 let b:=X.one (X.must a.2 [(⟨#[44]⟩:ah)]) t.1 a.1
 (t.2.1.foldl (fun x c=>place x a.1 b.1 c) {Sx.zero with kind:=1,name:=r.1,bW:=r.1},X.must b.2 [(⟨#[41]⟩:ah),(⟨#[41]⟩:ah)])
def view (σ:Ps):Sx×Ps:=
 let r:=X.name (X.must σ [(⟨#[118,105,101,119]⟩:ah)])
 let c:=X.some_ (X.must r.2 [(⟨#[97,115]⟩:ah),(⟨#[115,101,108,101,99,116]⟩:ah)])
 let o:=X.name (X.must c.2 [(⟨#[102,114,111,109]⟩:ah)])
 let n:=X.name (X.must o.2 [(⟨#[119,104,101,114,101]⟩:ah)])
 let k:=X.one (X.must n.2 [(⟨#[105,115]⟩:ah),(⟨#[110,111,116]⟩:ah),(⟨#[110,117,108,108]⟩:ah),(⟨#[112,114,105,109,97,114,121]⟩:ah),(⟨#[107,101,121]⟩:ah),(⟨#[40]⟩:ah)]) [n.1] ⟨#[]⟩
 let p:=X.name (X.must k.2 [(⟨#[44]⟩:ah)])
 let q:=X.name (X.must p.2 [(⟨#[44]⟩:ah)])
 ({Sx.zero with kind:=2,name:=r.1,aD:=c.1,dA:=o.1,on:=n.1,aO:= [⟨p.1,Tm.zero⟩,⟨q.1,Tm.zero⟩]},X.must q.2 [(⟨#[41]⟩:ah)])
def index (σ:Ps):Sx×Ps:=
 let r:=X.name (X.must σ [(⟨#[105,110,100,101,120]⟩:ah)])
 let o:=X.name (X.must r.2 [(⟨#[111,110]⟩:ah)])
 let n:=X.name (X.must o.2 [(⟨#[40]⟩:ah)])
 ({Sx.zero with kind:=3,name:=r.1,dA:=o.1,on:=n.1},X.must n.2 [(⟨#[41]⟩:ah)])
def fC:Nat→Ps→List Tm→List Tm×Ps
 |0,σ,l=>(l,σ)
 |n+1,σ,l=>if X.sees σ (⟨#[44]⟩:ah)then let r:=X.value σ.step;fC n r.2 (l++ [r.1])else (l,σ)
def insert (σ:Ps):Sx×Ps:=
 let o:=X.name (X.must σ [(⟨#[105,110,116,111]⟩:ah)])
 let c:=X.columns (X.must o.2 [(⟨#[40]⟩:ah)]) 10
 let v0:=X.value (X.must c.2 [(⟨#[41]⟩:ah),(⟨#[118,97,108,117,101,115]⟩:ah),(⟨#[40]⟩:ah)])
 let v:=X.fC X.T.length v0.2 [v0.1]
 let σ1:=if X.sees v.2 (⟨#[41]⟩:ah)&&v.1.length !=c.1.length then X.fail v.2 else v.2
 X.using_ (X.must σ1 [(⟨#[41]⟩:ah)]) true {Sx.zero with kind:=5,dA:=o.1,sets:=List.zipWith Pr.mk c.1 v.1}
def lY:Nat→Ps→List ByteArray→List Pr→List Pr×Ps
 |0,σ,_,p=>(p,σ)
 |n+1,σ,l,p=>
  let r:=X.column σ l 8
  let v:=X.value (X.must r.2 [(⟨#[61]⟩:ah)])
  let p' :=p++ [⟨r.1.getLastD ⟨#[]⟩,v.1⟩]
  if X.sees v.2 (⟨#[44]⟩:ah)then lY n v.2.step r.1 p' else (p',v.2)
def update (σ:Ps):Sx×Ps:=
 let o:=X.name σ
 let u:=X.using_ o.2 true {Sx.zero with kind:=6,dA:=o.1}
 let s:=X.lY (X.T.length+1) (X.must u.2 [(⟨#[115,101,116]⟩:ah)]) [] []
 let w:=X.aO s.2 true
 ({u.1 with sets:=s.1,aO:=w.1},w.2)
def remove (σ:Ps):Sx×Ps:=
 let c:=if X.sees σ (⟨#[102,114,111,109]⟩:ah)then ([],σ)else X.columns σ 8
 let o:=X.name (X.must c.2 [(⟨#[102,114,111,109]⟩:ah)])
 let u:=X.using_ o.2 false {Sx.zero with kind:=7,aD:=c.1,dA:=o.1}
 let w:=X.aO u.2 false
 ({u.1 with aO:=w.1},w.2)
def ask (σ:Ps):Sx×Ps:=
 let c:=X.some_ σ
 let o:=X.name (X.must c.2 [(⟨#[102,114,111,109]⟩:ah)])
 let w:=X.aO o.2 false
 if X.sees w.2 (⟨#[108,105,109,105,116]⟩:ah)then
  let k:=X.count w.2.step
  ({Sx.zero with kind:=8,aD:=c.1,dA:=o.1,aO:=w.1,limit:=k.1},k.2)
 else ({Sx.zero with kind:=8,aD:=c.1,dA:=o.1,aO:=w.1},w.2)
inductive Nd where
 |plain (x:Sx)
 |change (x:Sx)
 |batch (l:List Sx)
def jB (st:Ps→Nd×Ps):Nat→Ps→List Sx→List Sx×Ps
 |0,σ,l=>(l,σ)
 |n+1,σ,l=>
  if σ.bad.isSome then (l,σ)
  else if !l.isEmpty&&X.sees σ (⟨#[97,112,112,108,121]⟩:ah)then (l,σ.step)
  else
   let a:=X.here σ
   let r:=st (if 8≤l.length then σ.wrong a else σ)
   match r.1 with
   | .change x=>jB st n (X.must r.2 [(⟨#[59]⟩:ah)]) (l++ [x])
   |_=>(l,⟨r.2.i,some a⟩)
def many (st:Ps→Nd×Ps) (σ:Ps):List Sx×Ps:=
 let r:=X.jB st 10 (X.must σ [(⟨#[98,97,116,99,104]⟩:ah)]) []
 (r.1,X.must r.2 [(⟨#[98,97,116,99,104]⟩:ah)])
def iY:Nat→Ps→Nd×Ps
 |0,σ=>(.plain Sx.zero,σ)
 |n+1,σ=>
  if X.sees σ (⟨#[105,110,115,101,114,116]⟩:ah)then let r:=X.insert σ.step;(.change r.1,r.2)
  else if X.sees σ (⟨#[117,112,100,97,116,101]⟩:ah)then let r:=X.update σ.step;(.change r.1,r.2)
  else if X.sees σ (⟨#[100,101,108,101,116,101]⟩:ah)then let r:=X.remove σ.step;(.change r.1,r.2)
  else if X.sees σ (⟨#[115,101,108,101,99,116]⟩:ah)then let r:=X.ask σ.step;(.plain r.1,r.2)
  else if X.sees σ (⟨#[98,101,103,105,110]⟩:ah)then let r:=X.many (iY n) σ.step;(.batch r.1,r.2)
  else if X.sees σ (⟨#[100,114,111,112]⟩:ah)then let r:=X.name σ.step;(.plain {Sx.zero with kind:=4,name:=r.1},r.2)
  else if X.sees σ (⟨#[99,114,101,97,116,101]⟩:ah)then
   if X.sees σ.step (⟨#[116,97,98,108,101]⟩:ah)then let r:=X.table σ.step.step;(.plain r.1,r.2)
   else if X.sees σ.step (⟨#[109,97,116,101,114,105,97,108,105,122,101,100]⟩:ah)then let r:=X.view σ.step.step;(.plain r.1,r.2)
   else let r:=X.index σ.step;(.plain r.1,r.2)
  else (.plain Sx.zero,X.fail σ)
end Tx
end aK
end Go.Proofs.YtnngbhpeeakfaaaGreatDoor
