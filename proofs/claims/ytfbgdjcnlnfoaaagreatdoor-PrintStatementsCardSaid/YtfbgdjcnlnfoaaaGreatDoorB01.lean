/- Parts of the proof, joined: PlainA Kit RunesA PlainB Shelf RunesB PlainC RunesC PlainD RefA RefB KitB RefC PlainE RefD RefE St LawA Wrap Ints WrapB PlainF PlainG PlainH PlainL LexA. -/
import Derived.Lib.DecodeNEq
import Derived.Laws.RangeAny
import Derived.WalkKit
import Derived.WalkSpells
import Derived.WalkLawsBesides
import Derived.Lib.OthersKept
import Derived.Lib.Hide
import Derived.Shelf.Unicode.DecodeSlow
import Derived.Shelf.Strings.Builder1
import Derived.Shelf.Strings.Builder2
import Derived.Shelf.Strings.OnBuilder
import Derived.Shelf.Strings.BuilderF
import Derived.Shelf.Strings.BuilderK
import Derived.Shelf.Utf8.RuneCount
import Derived.Shelf.Strings.Builder2Cap
import Derived.Shelf.Strings.Search1
import Derived.Shelf.Strings.Search2
import Derived.Shelf.Strings.Search3
import Derived.Shelf.Strings.Count
import Derived.Shelf.LaysM
import Derived.Shelf.Strings.Shaped
import Derived.Shelf.Strings.Split
import Derived.Shelf.Strings.Fields
import Derived.Shelf.Strings.Replace
import Derived.Shelf.Strings.SplitShaped
import Derived.Shelf.Unicode.Latin
import Derived.Shelf.Unicode.DecodeAny
import Derived.Shelf.Unicode.Is16White
import Derived.Shelf.Unicode.IsSpaceAny
import Derived.Shelf.Unicode.Is16Any
import Derived.Shelf.Unicode.Is32Any
import Derived.Shelf.Unicode.ExclAny
import Derived.Shelf.Strings.BuilderCap
import Derived.Shelf.Slices.Turned
import Derived.Shelf.Slices.Equal
import Derived.Shelf.Slices.Empties2
import Derived.Lib.Replace
import Derived.Lib.ReplaceLaws
import Derived.Deep.QuietTactic
import Derived.BigQuiet
import Derived.ProofKit
import Derived.LaidMore
import Derived.OpenShut
import Derived.Stop.Joined
import Derived.HandedShaped
import Derived.Lib.LaidIn
import Derived.Lib.LaidU8T
import Derived.Deep.DeepWitnessRowRef
import Derived.ChangeSame
import Derived.JoinedOf
import Derived.RowKit
import Derived.SevenTiedAt
import Derived.Deep.RegionHeld3
import Derived.Test.YtfbgdjcnlnfoaaaGreatDoorCards
import Derived.Test.YtfbgdjcnlnfoaaaGreatDoorChecked
import Derived.Test.YtfbgdjcnlnfoaaaGreatDoorProg
set_option maxHeartbeats 1000000
set_option maxRecDepth 100000
namespace Go.Proofs.YtfbgdjcnlnfoaaaGreatDoor
namespace aH
structure Pt where
 r:Nat
 at_:Nat
 n:Nat
def Pt.ok (p:Pt):Bool:=(p.r:Int) !=65533||decide (1<p.n)
def D8 (s:ByteArray):Nat→Nat→List Pt
 |0,_=> []
 |f+1,pos=>if pos<s.size then ⟨(Utf8.decode s pos).1,pos,(Utf8.decode s pos).2⟩::D8 s f (pos+(Utf8.decode s pos).2)else []
def pts (s:ByteArray):List Pt:=D8 s s.size 0
theorem width_pos (s:ByteArray) (pos:Nat) (h:pos<s.size):1≤(Utf8.decode s pos).2:=by
 by_cases ha:(s[pos]'h).toNat<128
 · rw [decode_ascii s pos h ha];exact Nat.le_refl 1
 · exact (decode_high s pos h (by omega)).2
theorem width_le (s:ByteArray) (pos:Nat) (h:pos<s.size):pos+(Utf8.decode s pos).2≤s.size:=by
 simp only [Utf8.decode]
 repeat' split
 all_goals simp_all
 all_goals omega
theorem qJ (s:ByteArray) (f pos:Nat) (h:¬pos<s.size):D8 s f pos= []:=by
 cases f<;>simp [D8,h]
theorem CU (s:ByteArray):∀f g pos,s.size≤pos+f→s.size≤pos+g→D8 s f pos=D8 s g pos:=by
 intro f
 induction f with
 |zero=>intro g pos h1 _;rw [qJ s 0 pos (by omega),qJ s g pos (by omega)]
 |succ f ih=>
  intro g pos h1 h2
  by_cases h:pos<s.size
  · cases g with
    |zero=>omega
    |succ g=>
     have:=width_pos s pos h
     simp only [D8,h,if_true]
     rw [ih g (pos+(Utf8.decode s pos).2) (by omega) (by omega)]
  · rw [qJ s _ pos h,qJ s _ pos h]
def dK (s:ByteArray) (pos:Nat):List Pt:=D8 s s.size pos
theorem bI (s:ByteArray) (pos:Nat) (h:¬pos<s.size):dK s pos= []:=qJ s _ pos h
theorem bD (s:ByteArray) (pos:Nat) (h:pos<s.size):
 dK s pos=⟨(Utf8.decode s pos).1,pos,(Utf8.decode s pos).2⟩::dK s (pos+(Utf8.decode s pos).2):=by
 have:=width_pos s pos h
 unfold dK
 rw [CU s s.size (s.size - pos+1) pos (by omega) (by omega)]
 simp only [D8,h,if_true]
 rw [CU s (s.size - pos) s.size _ (by omega) (by omega)]
def qC (c:UInt8):UInt8:=if 65≤c∧c≤90 then c|||32 else c
def fold (s:ByteArray):ByteArray:=⟨s.data.map qC⟩
theorem KL (c:UInt8):(qC c).toNat=if 65≤c.toNat∧c.toNat≤90 then c.toNat|||32 else c.toNat:=by
 unfold qC
 simp only [UInt8.le_iff_toNat_le]
 have e1:(65:UInt8).toNat=65:=rfl
 have e2:(90:UInt8).toNat=90:=rfl
 rw [e1,e2]
 split
 · simp
 · rfl
theorem zW (c:UInt8):(qC c).toNat=if 65≤c.toNat∧c.toNat≤90 then c.toNat+32 else c.toNat:=by
 rw [KL]
 split
 · rename_i h
   have:∀k:Fin 26,(65+k.val)|||32=(65+k.val)+32:=by decide
   have h2:=this ⟨c.toNat - 65,by omega⟩
   simp only at h2
   have e:65+(c.toNat - 65)=c.toNat:=by omega
   rw [e]at h2
   exact h2
 · rfl
theorem iF (s:ByteArray):pts s=dK s 0:=rfl
end aH
open Go.RowKit
namespace aH
theorem iterPos_of {w:World}{k:Nat}{s:ByteArray}{p:Nat}(h:w.heap[k]? =some (.stringIter s p)):w.iterPos k=p:=by simp [World.iterPos,h]
theorem lN {k:IntKind}{a b:Int}(h:a=b):Ending.returned (.int k a)= .returned (.int k b):=by rw [h]
theorem KM {a b:ByteArray}(h:a=b):Ending.returned (.string a)= .returned (.string b):=by rw [h]
theorem gT {a b:Bool}(h:a=b):Ending.returned (.bool a)= .returned (.bool b):=by rw [h]
theorem jy (b o j:Nat):(⟨b,o,none⟩:Addr).add j=⟨b,o+j,none⟩:=by
 unfold Addr.add
 split
 · rename_i h;subst h;rfl
 · rfl
theorem aj {w:World}{b:Nat}{C:Array Value}{t:TypeId}{fr:Nat×Nat}(h:w.heap[b]? =some (.cells C t fr)) (j:Nat):w.cell? ⟨b,j,none⟩=C[j]? :=by
 unfold World.cell?;rw [h];simp
theorem I7 {w:World}{b:Nat}{C:Array Value}{t:TypeId}{lo hi:Nat}(h:w.heap[b]? =some (.cells C t (lo,hi))) (j:Nat) (hj:j<lo):w.frozen? ⟨b,j,none⟩=false:=by
 unfold World.frozen?;rw [h];simp;omega
theorem ah {w:World}{b:Nat}{C:Array Value}{t:TypeId}(h:w.heap[b]? =some (.cells C t (0,0))) (j:Nat):w.frozen? ⟨b,j,none⟩=false:=by
 unfold World.frozen?;rw [h];simp
theorem aC {w:World}{b:Nat}{o:Obj}(h:w.heap[b]? =some o):b<w.heap.size:=(Array.getElem?_eq_some_iff.1 h).1
theorem bU {w:World}{b:Nat}{C:Array Value}{t:TypeId}{fr:Nat×Nat}(h:w.heap[b]? =some (.cells C t fr)) (j:Nat) (v:Value):
 (w.setCell ⟨b,j,none⟩ v).heap[b]? =some (.cells (C.setIfInBounds j v) t fr):=by
 simp only [World.setCell,Array.getElem?_modify,h,Option.map_some]
 simp
theorem aB (w:World) (o:Obj):(w.alloc o).heap[w.heap.size]? =some o:=by
 show (w.heap.push o)[w.heap.size]? =_
 simp
theorem au {w:World}{b:Nat}{o:Obj}(h:w.heap[b]? =some o) (x:Obj):(w.alloc x).heap[b]? =some o:=by
 rw [Below.heap_alloc _ _ _ (aC h)];exact h
theorem bN {w:World}{b:Nat}{o:Obj}(h:w.heap[b]? =some o) (a:Addr) (u:Value) (hne:b≠a.block):(w.setCell a u).heap[b]? =some o:=by
 rw [Below.heap_setCell _ _ _ _ hne];exact h
theorem bf {w w' :World}{B b:Nat}{o:Obj}(h:w.heap[b]? =some o) (hb:Below B w w') (hlt:b<B):w'.heap[b]? =some o:=by
 rw [hb.block b hlt];exact h
theorem below_drewN {B:Nat}{a w:World}(h:Below B a w) (n:Nat):Below B a (w.drewN n):=h.trans ⟨rfl,rfl,rfl,Nat.le_refl _,fun _ _=>rfl⟩
theorem ownsRow_below {w w' :World}{base:Nat}{e:TypeId}{size:Nat}{v:Value}{n:Nat}{xs:List Value}(h:w.ownsRow base e size v n xs) (hb:Below w.heap.size w w'):w'.ownsRow base e size v n xs:=by
 obtain ⟨h1,h2⟩:=h
 refine ⟨h1, ?_⟩
 rcases h2 with h2|⟨g,cap,cur,a,b,c,d⟩
 · exact .inl h2
 · exact .inr ⟨g,cap,cur,a,b,bf c hb (aC c),d⟩
theorem xg (w:World) (L:List Value) (t:TypeId):∀j u,L[j]? =some u→(w.alloc (.cells L.toArray t)).cell? ((⟨w.heap.size,0,none⟩:Addr).add j)=some u:=by
 intro j u hj
 rw [jy,Nat.zero_add,aj (aB w _)]
 simpa using hj
theorem aV {w:World}{base:Nat}{e:TypeId}{size:Nat}{g cap n:Nat}{xs:List Value}(h:w.ownsRow base e size (.slice (some ⟨g,0,none⟩) n cap) n xs) (j:Nat) (u:Value) (hj:xs[j]? =some u):w.cell? ⟨g,j,none⟩=some u:=by
 have:=h.cells (g:=g) rfl j u hj
 rwa [jy,Nat.zero_add]at this
end aH
open aH
theorem nR (s:ByteArray) (w:World) (hs:s.size≤1000000):
 Calls Tryz.prog 36 #[.string s] w fun e w' =>e= .returned (.int .i64 (pts s).length)∧Below w.heap.size w w' :=by
 go_enter Tryz.func36,Tryz.ntmps36
 go_wp2
 go_loopw [3] (fun v wr=>∃(pos k:Nat),wr.heap[w.heap.size]? =some (.stringIter s pos)∧Below w.heap.size w wr∧v= .int .i64 k∧Hid ((pts s).length=k+(dK s pos).length)∧k≤pos∧pos≤s.size) (fun _ wr=>s.size - wr.iterPos w.heap.size)
 case atStart=>exact ⟨0,0,World.iter_heap w s 0,(Below.refl _ _).alloc (Nat.le_refl _) _,rfl,(by show _=_;rw [iF];simp),by omega,by omega⟩
 case round=>
  obtain ⟨pos,k,hit,hbw,rfl,HS,hk,hpos⟩:=hrel
  have yx:=iterPos_of hit
  by_cases hp:pos<s.size
  · have hnx:∀ty,(Instr.next (.pointer (some ⟨w.heap.size,0,none⟩)) true ty).run Tryz.prog wr=_:=fun ty=>Lib.run_next_any_at wr w.heap.size s pos ty hit hp
    have hwd:=width_pos s pos hp
    have hwl:=width_le s pos hp
    go_wp2
    go_roundw
    case rel=>exact ⟨_,k+1,Lib.iterAt_heap wr w.heap.size s pos _ hit,Lib.below_iterAt hbw (Nat.le_refl _) s _,by go_num,(by show _=_;rw [HS.out,bD s pos hp];simp;omega),by omega,by omega⟩
    case measure=>rw [iterPos_of (Lib.iterAt_heap wr w.heap.size s pos _ hit),yx];omega
  · have hnx:∀ty,(Instr.next (.pointer (some ⟨w.heap.size,0,none⟩)) true ty).run Tryz.prog wr=_:=fun ty=>Lib.run_next_end_at wr w.heap.size s pos ty hit hp
    go_wp2
    go_ret
    exact ⟨lN (by rw [HS.out,bI s pos hp];simp),hbw⟩
theorem O9 (s:ByteArray) (w:World) (hs:s.size≤1000000):
 Calls Tryz.prog 161 #[.string s] w fun e w' =>e= .returned (.string (fold s))∧Below w.heap.size w w' :=by
 have VH:=run_bytes_of_string (P:=Tryz.prog) w 9 75 5 s Tryz.underlying9 Tryz.underlying75 Tryz.underlying5
 obtain ⟨cap,hcap⟩:∃cap,grownCap w s.size 0 5=cap:=⟨_,rfl⟩
 rw [hcap]at VH
 have hce:s.size≤cap:=by rw [←hcap];exact grownCap_ge w s.size 0 5
 clear hcap
 obtain ⟨C,hC⟩:∃C,bytesRow s cap=C:=⟨_,rfl⟩
 rw [hC]at VH
 have hCs:s.size≤C.size:=by rw [←hC];simp [bytesRow]
 have HC:Hid (∀j (hj:j<s.data.size),C[j]? =some (.int .u8 (s.data[j].toNat:Int))):=fun j hj=>by rw [←hC];exact bytesRow_at s cap j hj
 clear hC
 go_enter Tryz.func161,Tryz.ntmps161
 go_wp2
 go_loopw [10] (fun v wr=>∃(k:Nat) (D:Array Value),k≤s.size∧v= .int .i64 k∧Below w.heap.size w wr∧wr.heap[w.heap.size]? =some (.cells D 5 (C.size,C.size+1))∧D.size=C.size∧Hid (∀j (hj:j<s.data.size),D[j]? =some (.int .u8 (if j<k then ((qC s.data[j]).toNat:Int)else (s.data[j].toNat:Int))))) (fun v _=>s.size - (intOf v).toNat)
 case atStart=>exact ⟨0,C,by omega,rfl,((Below.refl _ _).alloc (Nat.le_refl _) _).drew,aB w _,rfl,fun j hj=>by rw [HC.out j hj];simp⟩
 case round=>
  obtain ⟨k,D,hk,rfl,hbw,hblk,hDs,HD⟩:=hrel
  by_cases hlt:k<s.size
  · have hc0:wr.cell? ⟨w.heap.size,k,none⟩=some (.int .u8 (s.data[k].toNat:Int)):=by rw [aj hblk,HD.out k hlt];simp
    have hf0:wr.frozen? ⟨w.heap.size,k,none⟩=false:=I7 hblk k (by omega)
    have hlow:=KL s.data[k]
    obtain ⟨c,hc⟩:∃c,s.data[k]=c:=⟨_,rfl⟩
    rw [hc]at hc0 hlow
    have hb:=c.toNat_lt
    have hor:bits .or .u8 (c.toNat:Int) 32=((c.toNat|||32:Nat):Int):=u8_or_nat c.toNat 32 (by omega) (by omega)
    have HL:Hid ((qC c).toNat=if 65≤c.toNat∧c.toNat≤90 then c.toNat|||32 else c.toNat):=hlow
    have HCe:Hid (s.data[k]=c):=hc
    clear hlow hc
    go_wp2
    all_goals (
     go_roundw
     case measure=>simp [intOf];omega)
    case rel=>
     refine ⟨k+1,_,by omega,by go_num,hbw.setCell (by simp) _,bU hblk _ _,by simp [hDs],fun j hj=> ?_⟩
     have h1:=HD.out j hj
     by_cases hjk:j=k
     · subst hjk
       rw [Array.getElem?_setIfInBounds_self_of_lt (by omega),if_pos (by omega),HCe.out,HL.out,if_pos ⟨by omega,by omega⟩]
     · rw [Array.getElem?_setIfInBounds_ne (Ne.symm hjk),h1]
       by_cases h2:j<k
       · rw [if_pos h2,if_pos (by omega)]
       · rw [if_neg h2,if_neg (by omega)]
    all_goals
     refine ⟨k+1,D,by omega,by go_num,hbw,hblk,hDs,fun j hj=> ?_⟩
     have h1:=HD.out j hj
     by_cases hjk:j=k
     · subst hjk
       rw [h1,if_neg (by omega),if_pos (by omega),HCe.out,HL.out,if_neg (by omega)]
     · rw [h1]
       by_cases h2:j<k
       · rw [if_pos h2,if_pos (by omega)]
       · rw [if_neg h2,if_neg (by omega)]
  · have hc0:∀j (hj:j<(s.data.map qC).toList.length),wr.cell? ((⟨w.heap.size,0,none⟩:Addr).add j)=some (.int .u8 ((s.data.map qC).toList[j].toNat:Int)):=fun j hj=>by
     simp at hj
     rw [jy,Nat.zero_add]
     rw [aj hblk,HD.out j hj,if_pos (by have:s.data.size=s.size:=rfl;omega)]
     simp
    have hback:=run_convert_bytes_back (P:=Tryz.prog) wr 75 9 5 ⟨w.heap.size,0,none⟩ cap (s.data.map qC).toList Tryz.underlying75 Tryz.underlying5 Tryz.underlying9 hc0
    have hl:(s.data.map qC).toList.length=s.size:=by simp
    rw [hl]at hback
    clear hc0 hl
    go_wp2
    go_ret
    exact ⟨KM (by unfold fold;congr 1;apply Array.ext';simp),hbw⟩
namespace aH
theorem zX (s:ByteArray) (k:Nat):s.get! k=s.data[k]! :=rfl
theorem KN (s:ByteArray) (a k:Nat):(s.extract a s.size).get! k=s.get! (a+k):=by
 rw [zX,zX]
 by_cases h:a+k<s.size
 · have h1:k<(s.extract a s.size).size:=by simp;omega
   have h2:k<(s.extract a s.size).data.size:=h1
   have h3:a+k<s.data.size:=h
   rw [getElem!_pos (s.extract a s.size).data k h2,getElem!_pos s.data (a+k) h3]
   simp [ByteArray.data_extract]
 · have h1:¬k<(s.extract a s.size).size:=by simp;omega
   have h2:¬k<(s.extract a s.size).data.size:=h1
   have h3:¬a+k<s.data.size:=h
   rw [getElem!_neg (s.extract a s.size).data k h2,getElem!_neg s.data (a+k) h3]
theorem SY (s:ByteArray) (a:Nat) (h:a<s.size):Lib.decodeGo (s.extract a s.size)=Utf8.decode s a:=by
 have h1:(s.extract a s.size).size=s.size - a:=by simp
 unfold Lib.decodeGo
 rw [if_neg (by omega),Lib.decode_at,Lib.decode_at,h1]
 simp only [KN,Nat.add_zero,Nat.sub_zero,Nat.zero_add]
def kT (r:Int):Bool:=r==95||(decide (97≤r)&&decide (r≤122))||decide (128≤r)
def kE (r:Int):Bool:=decide (48≤r)&&decide (r≤57)
def Pt.named (p:Pt):Bool:=(kT p.r||(kE p.r&&decide (0<p.at_)))&&p.ok
def valid (s:ByteArray):Bool:=(pts s).all Pt.ok
def name (s:ByteArray):Bool:=(pts s).all Pt.named&&(decide (s.size≠0)&&decide (s.size≤100))
def lQ:List UInt8→Option (List UInt8×Nat)
 | []=>none
 |c::t=>
  if c=39 then
   match t with
   | []=>some ([],1)
   |d::u=>if d=39 then (lQ u).map fun x=>(39::x.1,x.2+2)else some ([],1)
  else (lQ t).map fun x=>(c::x.1,x.2+1)
def dz (s:ByteArray) (f:Int):Option (ByteArray×Int):=
 if 0≤f∧f<s.size∧s.data.toList[f.toNat]? =some 39 then
  (lQ (s.data.toList.drop (f.toNat+1))).map fun x=>(⟨x.1.toArray⟩,f+1+x.2)
 else none
theorem S9 {l:List UInt8}{k:Nat}(h:l.length≤k):lQ (l.drop k)=none:=by rw [List.drop_eq_nil_of_le h];rfl
theorem Mg {l:List UInt8}{k:Nat}(h:k<l.length) (hc:l[k]≠39):lQ (l.drop k)=(lQ (l.drop (k+1))).map fun x=>(l[k]::x.1,x.2+1):=by
 rw [List.drop_eq_getElem_cons h,lQ.eq_def];simp [hc]
theorem Pb {l:List UInt8}{k:Nat}(h:k<l.length) (hc:l[k]=39) (h2:l.length≤k+1):lQ (l.drop k)=some ([],1):=by
 rw [List.drop_eq_getElem_cons h,List.drop_eq_nil_of_le h2,lQ.eq_def];simp [hc]
theorem Pf {l:List UInt8}{k:Nat}(h:k<l.length) (hc:l[k]=39) (h2:k+1<l.length) (hd:l[k+1]≠39):lQ (l.drop k)=some ([],1):=by
 rw [List.drop_eq_getElem_cons h,List.drop_eq_getElem_cons h2,lQ.eq_def];simp [hc,hd]
theorem Ta {l:List UInt8}{k:Nat}(h:k<l.length) (hc:l[k]=39) (h2:k+1<l.length) (hd:l[k+1]=39):lQ (l.drop k)=(lQ (l.drop (k+2))).map fun x=>(39::x.1,x.2+2):=by
 rw [List.drop_eq_getElem_cons h,List.drop_eq_getElem_cons h2,lQ.eq_def];simp [hc,hd]
def Tc:Option (ByteArray×Int)→Value
 |some x=> .tuple #[.string x.1, .int .i64 x.2, .bool true]
 |none=> .tuple #[.string ⟨#[]⟩, .int .i64 0, .bool false]
def Wj (l:List UInt8):List UInt8:=39::(l.flatMap fun c=>if c=39 then [39,39]else [c])++ [39]
def quote (s:ByteArray):ByteArray:=⟨(Wj s.data.toList).toArray⟩
end aH
end Go.Proofs.YtfbgdjcnlnfoaaaGreatDoor
namespace Go.Proofs
open Go.Shelf
def Tryz.yA:Go.Shelf.Ren:=⟨fun|167=>181|240=>167|276=>186|n=>n,fun|0=>0|4=>4|5=>5|9=>9|20=>20|37=>75|70=>164|72=>166|75=>168|164=>200|80=>122|n=>n,fun|n=>n⟩
theorem Tryz.Td:Go.Proofs.Lays.n167 Tryz.prog Tryz.yA:={
 mixed:=by kernel_rfl
 f167:=Tryz.func181.trans (congrArg some (by kernel_rfl))
 f240:=Tryz.func167.trans (congrArg some (by kernel_rfl))
 f276:=Tryz.func186.trans (congrArg some (by kernel_rfl))
 t0:=Tryz.underlying0
 a0:=Tryz.isAgg0
 z0:=Tryz.sizeOf0
 v0:=Tryz.zeroValue0
 t4:=Tryz.underlying4
 a4:=Tryz.isAgg4
 z4:=Tryz.sizeOf4
 v4:=Tryz.zeroValue4
 t5:=Tryz.underlying5
 a5:=Tryz.isAgg5
 z5:=Tryz.sizeOf5
 v5:=Tryz.zeroValue5
 t9:=Tryz.underlying9
 a9:=Tryz.isAgg9
 z9:=Tryz.sizeOf9
 v9:=Tryz.zeroValue9
 t20:=Tryz.underlying20
 a20:=Tryz.isAgg20
 z20:=Tryz.sizeOf20
 v20:=Tryz.zeroValue20
 t37:=Tryz.underlying75
 a37:=Tryz.isAgg75
 z37:=Tryz.sizeOf75
 v37:=Tryz.zeroValue75
 t70:=Tryz.underlying164
 a70:=Tryz.isAgg164
 z70:=Tryz.sizeOf164
 v70:=Tryz.zeroValue164
 t72:=Tryz.underlying166
 a72:=Tryz.isAgg166
 z72:=Tryz.sizeOf166
 v72:=Tryz.zeroValue166
 t75:=Tryz.underlying168
 a75:=Tryz.isAgg168
 z75:=Tryz.sizeOf168
 v75:=Tryz.zeroValue168
 t164:=Tryz.underlying200
 a164:=Tryz.isAgg200
 z164:=Tryz.sizeOf200
 v164:=Tryz.zeroValue200}
theorem Tryz.uV:Builder.Extra Tryz.prog Tryz.yA:={
 sizeBuilder:=by kernel_rfl
 liesBuilder:=by kernel_rfl
 t5:=Tryz.underlying5
 a5:=Tryz.isAgg5
 z5:=Tryz.sizeOf5
 v5:=Tryz.zeroValue5
 infoByte:=by kernel_rfl
 cellsByte:=by kernel_rfl
 sizeByte:=by kernel_rfl
 neB5:=by decide}
open Go.RowKit in
theorem Tryz.Builder_WriteByte (B b:Nat) (bs:List Value) (c:Int) (w:World) (h:Lib.IsBuilder 166 5 B b bs w) (hlen:bs.length+1≤140737488355328) (hBw:B≤w.heap.size):
 Calls Tryz.prog 181 #[.pointer (some ⟨b,0,none⟩), .int .u8 c] w fun e w' =>e= .returned .nilIface∧(Lib.BuilderAt 166 5 B b (.pointer (some ⟨b,0,none⟩)) (bs++ [.int .u8 c]) w' ∧Below B w w'):=Any.Builder_WriteByte Tryz.Td Tryz.uV B b bs c w h hlen hBw
def Tryz.yB:Go.Shelf.Ren:=⟨fun|169=>140|n=>n,fun|70=>164|9=>9|0=>0|72=>166|37=>75|127=>182|3=>3|5=>5|n=>n,fun|n=>n⟩
theorem Tryz.Te:Go.Proofs.Lays.n169 Tryz.prog Tryz.yB:={
 mixed:=by kernel_rfl
 f169:=Tryz.func140.trans (congrArg some (by kernel_rfl))
 t0:=Tryz.underlying0
 a0:=Tryz.isAgg0
 z0:=Tryz.sizeOf0
 v0:=Tryz.zeroValue0
 t3:=Tryz.underlying3
 a3:=Tryz.isAgg3
 z3:=Tryz.sizeOf3
 v3:=Tryz.zeroValue3
 t9:=Tryz.underlying9
 a9:=Tryz.isAgg9
 z9:=Tryz.sizeOf9
 v9:=Tryz.zeroValue9
 t37:=Tryz.underlying75
 a37:=Tryz.isAgg75
 z37:=Tryz.sizeOf75
 v37:=Tryz.zeroValue75
 t70:=Tryz.underlying164
 a70:=Tryz.isAgg164
 z70:=Tryz.sizeOf164
 v70:=Tryz.zeroValue164
 t72:=Tryz.underlying166
 a72:=Tryz.isAgg166
 z72:=Tryz.sizeOf166
 v72:=Tryz.zeroValue166
 t127:=Tryz.underlying182
 a127:=Tryz.isAgg182
 z127:=Tryz.sizeOf182
 v127:=Tryz.zeroValue182}
theorem Tryz.uW:Builder.Extra Tryz.prog Tryz.yB:={
 sizeBuilder:=by kernel_rfl
 liesBuilder:=by kernel_rfl
 t5:=Tryz.underlying5
 a5:=Tryz.isAgg5
 z5:=Tryz.sizeOf5
 v5:=Tryz.zeroValue5
 infoByte:=by kernel_rfl
 cellsByte:=by kernel_rfl
 sizeByte:=by kernel_rfl
 neB5:=by decide}
open Go.RowKit in
theorem Tryz.Builder_String_any (B b:Nat) (l:List UInt8) (w:World) (h:Lib.IsBuilder 166 5 B b (Lib.byteCells l) w) (hBw:B≤w.heap.size):
 Calls Tryz.prog 140 #[.pointer (some ⟨b,0,none⟩)] w fun e w' =>e= .returned (.string ⟨l.toArray⟩)∧Below B w w' :=Any.Builder_String_any Tryz.Te Tryz.uW B b l w h hBw
def Tryz.yC:Go.Shelf.Ren:=⟨fun|156=>95|165=>138|166=>139|169=>140|240=>167|241=>168|276=>186|277=>187|n=>n,fun|31=>27|9=>9|3=>3|4=>4|0=>0|20=>20|72=>166|76=>169|70=>164|37=>75|75=>168|127=>182|164=>200|5=>5|80=>122|n=>n,fun|n=>n⟩
theorem Tryz.KO:Go.Proofs.Lays.n156 Tryz.prog Tryz.yC:={
 mixed:=by kernel_rfl
 f156:=Tryz.func95.trans (congrArg some (by kernel_rfl))
 f165:=Tryz.func138.trans (congrArg some (by kernel_rfl))
 f166:=Tryz.func139.trans (congrArg some (by kernel_rfl))
 f169:=Tryz.func140.trans (congrArg some (by kernel_rfl))
 f240:=Tryz.func167.trans (congrArg some (by kernel_rfl))
 f241:=Tryz.func168.trans (congrArg some (by kernel_rfl))
 f276:=Tryz.func186.trans (congrArg some (by kernel_rfl))
 f277:=Tryz.func187.trans (congrArg some (by kernel_rfl))
 t0:=Tryz.underlying0
 a0:=Tryz.isAgg0
 z0:=Tryz.sizeOf0
 v0:=Tryz.zeroValue0
 t3:=Tryz.underlying3
 a3:=Tryz.isAgg3
 z3:=Tryz.sizeOf3
 v3:=Tryz.zeroValue3
 t4:=Tryz.underlying4
 a4:=Tryz.isAgg4
 z4:=Tryz.sizeOf4
 v4:=Tryz.zeroValue4
 t9:=Tryz.underlying9
 a9:=Tryz.isAgg9
 z9:=Tryz.sizeOf9
 v9:=Tryz.zeroValue9
 t20:=Tryz.underlying20
 a20:=Tryz.isAgg20
 z20:=Tryz.sizeOf20
 v20:=Tryz.zeroValue20
 t31:=Tryz.underlying27
 a31:=Tryz.isAgg27
 z31:=Tryz.sizeOf27
 v31:=Tryz.zeroValue27
 t37:=Tryz.underlying75
 a37:=Tryz.isAgg75
 z37:=Tryz.sizeOf75
 v37:=Tryz.zeroValue75
 t70:=Tryz.underlying164
 a70:=Tryz.isAgg164
 z70:=Tryz.sizeOf164
 v70:=Tryz.zeroValue164
 t72:=Tryz.underlying166
 a72:=Tryz.isAgg166
 z72:=Tryz.sizeOf166
 v72:=Tryz.zeroValue166
 t75:=Tryz.underlying168
 a75:=Tryz.isAgg168
 z75:=Tryz.sizeOf168
 v75:=Tryz.zeroValue168
 t76:=Tryz.underlying169
 a76:=Tryz.isAgg169
 z76:=Tryz.sizeOf169
 v76:=Tryz.zeroValue169
 t127:=Tryz.underlying182
 a127:=Tryz.isAgg182
 z127:=Tryz.sizeOf182
 v127:=Tryz.zeroValue182
 t164:=Tryz.underlying200
 a164:=Tryz.isAgg200
 z164:=Tryz.sizeOf200
 v164:=Tryz.zeroValue200}
theorem Tryz.mW:Builder.Extra Tryz.prog Tryz.yC:={
 sizeBuilder:=by kernel_rfl
 liesBuilder:=by kernel_rfl
 t5:=Tryz.underlying5
 a5:=Tryz.isAgg5
 z5:=Tryz.sizeOf5
 v5:=Tryz.zeroValue5
 infoByte:=by kernel_rfl
 cellsByte:=by kernel_rfl
 sizeByte:=by kernel_rfl
 neB5:=by decide}
open Go.RowKit in
theorem Tryz.strings_Join_none (a:Option Addr) (c:Nat) (sep:ByteArray) (w:World):
 Calls Tryz.prog 95 #[.slice a 0 c, .string sep] w fun e w' =>e= .returned (.string ⟨#[]⟩)∧w' =w:=Any.strings_Join_none Tryz.KO Tryz.mW a c sep w
open Go.RowKit in
theorem Tryz.strings_Join (bk o c:Nat) (xs:List ByteArray) (sep:ByteArray) (w:World) (hcells:∀(j:Nat) x,xs[j]? =some x→w.cell? ⟨bk,o+j,none⟩=some (.string x)) (hbk:bk<w.heap.size) (hN:xs.length≤140737488355328) (hcap:xs.length≤c) (hlen:(Lib.join (xs.map (·.data.toList)) sep.data.toList).length≤140737488355328):
 Calls Tryz.prog 95 #[.slice (some ⟨bk,o,none⟩) xs.length c, .string sep] w fun e w' =>e= .returned (.string ⟨(Lib.join (xs.map (·.data.toList)) sep.data.toList).toArray⟩)∧Below w.heap.size w w' :=Any.strings_Join Tryz.KO Tryz.mW bk o c xs sep w hcells hbk hN hcap hlen
def Tryz.FR:Go.Shelf.Ren:=⟨fun|157=>166|229=>184|199=>185|261=>195|311=>201|312=>202|n=>n,fun|9=>9|31=>27|3=>3|5=>5|4=>4|119=>192|0=>0|40=>175|152=>209|21=>21|154=>211|51=>206|141=>213|196=>219|193=>216|198=>222|49=>220|194=>217|201=>225|226=>229|46=>46|227=>230|n=>n,fun|0=>2|6=>4|n=>n⟩
theorem Tryz.Tf:Go.Proofs.Lays.n157 Tryz.prog Tryz.FR:={
 mixed:=by kernel_rfl
 f157:=Tryz.func166.trans (congrArg some (by kernel_rfl))
 f199:=Tryz.func185.trans (congrArg some (by kernel_rfl))
 f229:=Tryz.func184.trans (congrArg some (by kernel_rfl))
 f261:=Tryz.func195.trans (congrArg some (by kernel_rfl))
 f311:=Tryz.func201.trans (congrArg some (by kernel_rfl))
 f312:=Tryz.func202.trans (congrArg some (by kernel_rfl))
 t0:=Tryz.underlying0
 a0:=Tryz.isAgg0
 z0:=Tryz.sizeOf0
 v0:=Tryz.zeroValue0
 t3:=Tryz.underlying3
 a3:=Tryz.isAgg3
 z3:=Tryz.sizeOf3
 v3:=Tryz.zeroValue3
 t4:=Tryz.underlying4
 a4:=Tryz.isAgg4
 z4:=Tryz.sizeOf4
 v4:=Tryz.zeroValue4
 t5:=Tryz.underlying5
 a5:=Tryz.isAgg5
 z5:=Tryz.sizeOf5
 v5:=Tryz.zeroValue5
 t9:=Tryz.underlying9
 a9:=Tryz.isAgg9
 z9:=Tryz.sizeOf9
 v9:=Tryz.zeroValue9
 t21:=Tryz.underlying21
 a21:=Tryz.isAgg21
 z21:=Tryz.sizeOf21
 v21:=Tryz.zeroValue21
 t31:=Tryz.underlying27
 a31:=Tryz.isAgg27
 z31:=Tryz.sizeOf27
 v31:=Tryz.zeroValue27
 t40:=Tryz.underlying175
 a40:=Tryz.isAgg175
 z40:=Tryz.sizeOf175
 v40:=Tryz.zeroValue175
 t46:=Tryz.underlying46
 a46:=Tryz.isAgg46
 z46:=Tryz.sizeOf46
 v46:=Tryz.zeroValue46
 t49:=Tryz.underlying220
 a49:=Tryz.isAgg220
 z49:=Tryz.sizeOf220
 v49:=Tryz.zeroValue220
 t51:=Tryz.underlying206
 a51:=Tryz.isAgg206
 z51:=Tryz.sizeOf206
 v51:=Tryz.zeroValue206
 t119:=Tryz.underlying192
 a119:=Tryz.isAgg192
 z119:=Tryz.sizeOf192
 t141:=Tryz.underlying213
 a141:=Tryz.isAgg213
 z141:=Tryz.sizeOf213
 v141:=Tryz.zeroValue213
 t152:=Tryz.underlying209
 a152:=Tryz.isAgg209
 z152:=Tryz.sizeOf209
 v152:=Tryz.zeroValue209
 t154:=Tryz.underlying211
 a154:=Tryz.isAgg211
 z154:=Tryz.sizeOf211
 v154:=Tryz.zeroValue211
 t193:=Tryz.underlying216
 a193:=Tryz.isAgg216
 z193:=Tryz.sizeOf216
 v193:=Tryz.zeroValue216
 t194:=Tryz.underlying217
 a194:=Tryz.isAgg217
 z194:=Tryz.sizeOf217
 v194:=Tryz.zeroValue217
 t196:=Tryz.underlying219
 a196:=Tryz.isAgg219
 z196:=Tryz.sizeOf219
 v196:=Tryz.zeroValue219
 t198:=Tryz.underlying222
 a198:=Tryz.isAgg222
 z198:=Tryz.sizeOf222
 v198:=Tryz.zeroValue222
 t201:=Tryz.underlying225
 a201:=Tryz.isAgg225
 z201:=Tryz.sizeOf225
 v201:=Tryz.zeroValue225
 t226:=Tryz.underlying229
 a226:=Tryz.isAgg229
 z226:=Tryz.sizeOf229
 v226:=Tryz.zeroValue229
 t227:=Tryz.underlying230
 a227:=Tryz.isAgg230
 z227:=Tryz.sizeOf230
 v227:=Tryz.zeroValue230
 g0:=by kernel_rfl
 g6:=by kernel_rfl}
open Go.RowKit Go.Lib in
theorem Tryz.strings_Fields (s:ByteArray) (w:World) (hs:s.size<4294967281) (hascii:∀(j:Nat) b,s.data.toList[j]? =some b→b.toNat<128) (htab:Lib.TabIs Tryz.prog w "strings.asciiSpace" .u8 Lib.asciiSpaceTab):
 Calls Tryz.prog 166 #[.string s] w fun e w' =>
  e= .returned (.slice (some ⟨w.heap.size,0,none⟩) (Lib.fields s.data.toList).length (Lib.fields s.data.toList).length)∧w' =w.alloc (.cells ((Lib.fields s.data.toList).map fun l=>Value.string ⟨l.toArray⟩).toArray 9):=Any.strings_Fields Tryz.Tf (by kernel_rfl) (by kernel_rfl) s w hs hascii htab
def Tryz.yD:Go.Shelf.Ren:=⟨fun|155=>141|154=>169|138=>188|165=>138|143=>189|166=>139|197=>118|169=>140|195=>196|218=>197|240=>167|241=>168|219=>198|260=>159|276=>186|277=>187|217=>203|225=>204|224=>205|267=>206|266=>207|314=>208|n=>n,fun|9=>9|3=>3|4=>4|72=>166|0=>0|76=>169|105=>146|21=>21|5=>5|70=>164|20=>20|37=>75|75=>168|127=>182|164=>200|46=>46|119=>192|139=>195|138=>194|146=>231|51=>206|80=>122|n=>n,fun|1=>5|3=>0|4=>1|n=>n⟩
theorem Tryz.Tg:Go.Proofs.Lays.n155 Tryz.prog Tryz.yD:={
 mixed:=by kernel_rfl
 f138:=Tryz.func188.trans (congrArg some (by kernel_rfl))
 f143:=Tryz.func189.trans (congrArg some (by kernel_rfl))
 f154:=Tryz.func169.trans (congrArg some (by kernel_rfl))
 f155:=Tryz.func141.trans (congrArg some (by kernel_rfl))
 f165:=Tryz.func138.trans (congrArg some (by kernel_rfl))
 f166:=Tryz.func139.trans (congrArg some (by kernel_rfl))
 f169:=Tryz.func140.trans (congrArg some (by kernel_rfl))
 f195:=Tryz.func196.trans (congrArg some (by kernel_rfl))
 f197:=Tryz.func118.trans (congrArg some (by kernel_rfl))
 f217:=Tryz.func203.trans (congrArg some (by kernel_rfl))
 f218:=Tryz.func197.trans (congrArg some (by kernel_rfl))
 f219:=Tryz.func198.trans (congrArg some (by kernel_rfl))
 f224:=Tryz.func205.trans (congrArg some (by kernel_rfl))
 f225:=Tryz.func204.trans (congrArg some (by kernel_rfl))
 f240:=Tryz.func167.trans (congrArg some (by kernel_rfl))
 f241:=Tryz.func168.trans (congrArg some (by kernel_rfl))
 f260:=Tryz.func159.trans (congrArg some (by kernel_rfl))
 f266:=Tryz.func207.trans (congrArg some (by kernel_rfl))
 f267:=Tryz.func206.trans (congrArg some (by kernel_rfl))
 f276:=Tryz.func186.trans (congrArg some (by kernel_rfl))
 f277:=Tryz.func187.trans (congrArg some (by kernel_rfl))
 f314:=Tryz.func208.trans (congrArg some (by kernel_rfl))
 t0:=Tryz.underlying0
 a0:=Tryz.isAgg0
 z0:=Tryz.sizeOf0
 v0:=Tryz.zeroValue0
 t3:=Tryz.underlying3
 a3:=Tryz.isAgg3
 z3:=Tryz.sizeOf3
 v3:=Tryz.zeroValue3
 t4:=Tryz.underlying4
 a4:=Tryz.isAgg4
 z4:=Tryz.sizeOf4
 v4:=Tryz.zeroValue4
 t5:=Tryz.underlying5
 a5:=Tryz.isAgg5
 z5:=Tryz.sizeOf5
 v5:=Tryz.zeroValue5
 t9:=Tryz.underlying9
 a9:=Tryz.isAgg9
 z9:=Tryz.sizeOf9
 v9:=Tryz.zeroValue9
 t20:=Tryz.underlying20
 a20:=Tryz.isAgg20
 z20:=Tryz.sizeOf20
 v20:=Tryz.zeroValue20
 t21:=Tryz.underlying21
 a21:=Tryz.isAgg21
 z21:=Tryz.sizeOf21
 v21:=Tryz.zeroValue21
 t37:=Tryz.underlying75
 a37:=Tryz.isAgg75
 z37:=Tryz.sizeOf75
 v37:=Tryz.zeroValue75
 t46:=Tryz.underlying46
 a46:=Tryz.isAgg46
 z46:=Tryz.sizeOf46
 v46:=Tryz.zeroValue46
 t51:=Tryz.underlying206
 a51:=Tryz.isAgg206
 z51:=Tryz.sizeOf206
 v51:=Tryz.zeroValue206
 t70:=Tryz.underlying164
 a70:=Tryz.isAgg164
 z70:=Tryz.sizeOf164
 v70:=Tryz.zeroValue164
 t72:=Tryz.underlying166
 a72:=Tryz.isAgg166
 z72:=Tryz.sizeOf166
 v72:=Tryz.zeroValue166
 t75:=Tryz.underlying168
 a75:=Tryz.isAgg168
 z75:=Tryz.sizeOf168
 v75:=Tryz.zeroValue168
 t76:=Tryz.underlying169
 a76:=Tryz.isAgg169
 z76:=Tryz.sizeOf169
 v76:=Tryz.zeroValue169
 t105:=Tryz.underlying146
 a105:=Tryz.isAgg146
 z105:=Tryz.sizeOf146
 v105:=Tryz.zeroValue146
 t119:=Tryz.underlying192
 a119:=Tryz.isAgg192
 z119:=Tryz.sizeOf192
 t127:=Tryz.underlying182
 a127:=Tryz.isAgg182
 z127:=Tryz.sizeOf182
 v127:=Tryz.zeroValue182
 t138:=Tryz.underlying194
 a138:=Tryz.isAgg194
 z138:=Tryz.sizeOf194
 v138:=Tryz.zeroValue194
 t139:=Tryz.underlying195
 a139:=Tryz.isAgg195
 z139:=Tryz.sizeOf195
 v139:=Tryz.zeroValue195
 t146:=Tryz.underlying231
 a146:=Tryz.isAgg231
 z146:=Tryz.sizeOf231
 v146:=Tryz.zeroValue231
 t164:=Tryz.underlying200
 a164:=Tryz.isAgg200
 z164:=Tryz.sizeOf200
 v164:=Tryz.zeroValue200
 g1:=by kernel_rfl
 g3:=by kernel_rfl
 g4:=by kernel_rfl}
theorem Tryz.uX:Builder.Extra Tryz.prog Tryz.yD:={
 sizeBuilder:=by kernel_rfl
 liesBuilder:=by kernel_rfl
 t5:=Tryz.underlying5
 a5:=Tryz.isAgg5
 z5:=Tryz.sizeOf5
 v5:=Tryz.zeroValue5
 infoByte:=by kernel_rfl
 cellsByte:=by kernel_rfl
 sizeByte:=by kernel_rfl
 neB5:=by decide}
open Go.RowKit Go.Lib in
theorem Tryz.strings_ReplaceAll (s old new:ByteArray) (m:Int) (w:World) (hs:s.size<4294967281) (hm:w.cell? ⟨5,0,none⟩=some (.int .i64 m)) (h1:1≤old.size) (hlen:s.size+Lib.countB s old*new.size≤140737488355328):
 Calls Tryz.prog 141 #[.string s, .string old, .string new] w fun e w' =>
  e= .returned (.string ⟨(Lib.replaceAll s.data.toList old.data.toList new.data.toList).toArray⟩)∧Below w.heap.size w w' :=Any.strings_ReplaceAll Tryz.Tg Tryz.uX s old new m w hs hm h1 hlen
def Tryz.yE:Go.Shelf.Ren:=⟨fun|197=>118|260=>159|n=>n,fun|9=>9|21=>21|3=>3|4=>4|5=>5|105=>146|119=>192|0=>0|46=>46|139=>195|138=>194|n=>n,fun|3=>0|4=>1|n=>n⟩
theorem Tryz.KP:Go.Proofs.Lays.n197 Tryz.prog Tryz.yE:={
 mixed:=by kernel_rfl
 f197:=Tryz.func118.trans (congrArg some (by kernel_rfl))
 f260:=Tryz.func159.trans (congrArg some (by kernel_rfl))
 t0:=Tryz.underlying0
 a0:=Tryz.isAgg0
 z0:=Tryz.sizeOf0
 v0:=Tryz.zeroValue0
 t3:=Tryz.underlying3
 a3:=Tryz.isAgg3
 z3:=Tryz.sizeOf3
 v3:=Tryz.zeroValue3
 t4:=Tryz.underlying4
 a4:=Tryz.isAgg4
 z4:=Tryz.sizeOf4
 v4:=Tryz.zeroValue4
 t5:=Tryz.underlying5
 a5:=Tryz.isAgg5
 z5:=Tryz.sizeOf5
 v5:=Tryz.zeroValue5
 t9:=Tryz.underlying9
 a9:=Tryz.isAgg9
 z9:=Tryz.sizeOf9
 v9:=Tryz.zeroValue9
 t21:=Tryz.underlying21
 a21:=Tryz.isAgg21
 z21:=Tryz.sizeOf21
 v21:=Tryz.zeroValue21
 t46:=Tryz.underlying46
 a46:=Tryz.isAgg46
 z46:=Tryz.sizeOf46
 v46:=Tryz.zeroValue46
 t105:=Tryz.underlying146
 a105:=Tryz.isAgg146
 z105:=Tryz.sizeOf146
 v105:=Tryz.zeroValue146
 t119:=Tryz.underlying192
 a119:=Tryz.isAgg192
 z119:=Tryz.sizeOf192
 t138:=Tryz.underlying194
 a138:=Tryz.isAgg194
 z138:=Tryz.sizeOf194
 v138:=Tryz.zeroValue194
 t139:=Tryz.underlying195
 a139:=Tryz.isAgg195
 z139:=Tryz.sizeOf195
 v139:=Tryz.zeroValue195
 g3:=by kernel_rfl
 g4:=by kernel_rfl}
open Go.RowKit Go.Lib in
theorem Tryz.utf8_DecodeRuneInString (s:ByteArray) (w:World) (hT:Lib.Utf8Tabs 0 1 w):
 Calls Tryz.prog 118 #[.string s] w fun e w' =>e= .returned (.tuple #[.int .i32 (Lib.decodeGo s).1, .int .i64 (Lib.decodeGo s).2])∧Below w.heap.size w w' :=Any.utf8_DecodeRuneInString Tryz.KP s w hT
def Tryz.FT:Go.Shelf.Ren:=⟨fun|110=>164|109=>183|n=>n,fun|31=>27|9=>9|4=>4|3=>3|0=>0|n=>n,fun|n=>n⟩
theorem Tryz.KQ:Go.Proofs.Lays.n110 Tryz.prog Tryz.FT:={
 mixed:=by kernel_rfl
 f109:=Tryz.func183.trans (congrArg some (by kernel_rfl))
 f110:=Tryz.func164.trans (congrArg some (by kernel_rfl))
 t0:=Tryz.underlying0
 a0:=Tryz.isAgg0
 z0:=Tryz.sizeOf0
 v0:=Tryz.zeroValue0
 t3:=Tryz.underlying3
 a3:=Tryz.isAgg3
 z3:=Tryz.sizeOf3
 v3:=Tryz.zeroValue3
 t4:=Tryz.underlying4
 a4:=Tryz.isAgg4
 z4:=Tryz.sizeOf4
 v4:=Tryz.zeroValue4
 t9:=Tryz.underlying9
 a9:=Tryz.isAgg9
 z9:=Tryz.sizeOf9
 v9:=Tryz.zeroValue9
 t31:=Tryz.underlying27
 a31:=Tryz.isAgg27
 z31:=Tryz.sizeOf27
 v31:=Tryz.zeroValue27}
open Go.Lib in
theorem Tryz.slices_Contains_string (b off n c:Nat) (zs:List ByteArray) (x:ByteArray) (w:World) (hz:n≤zs.length) (hbig:n≤9223372036854775807) (hc:∀j,j<zs.length→w.cell? ⟨b,off+j,none⟩=some (.string (zs.getD j ByteArray.empty))):
 Calls Tryz.prog 164 #[.slice (some ⟨b,off,none⟩) n c, .string x] w fun e w' =>e= .returned (.bool (Lib.containsS (zs.take n) x))∧w' =w:=Any.slices_Contains_string Tryz.KQ b off n c zs x w hz hbig hc
open Go.Lib in
theorem Tryz.slices_Contains_string_empty (a:Option Addr) (c:Nat) (x:ByteArray) (w:World):
 Calls Tryz.prog 164 #[.slice a 0 c, .string x] w fun e w' =>e= .returned (.bool false)∧w' =w:=Any.slices_Contains_string_empty Tryz.KQ a c x w
end Go.Proofs
namespace Go.Proofs.YtfbgdjcnlnfoaaaGreatDoor
open Go.RowKit
open aH
def Glob (w:World):Prop:=Lib.Utf8Tabs 0 1 w∧∃m,w.cell? ⟨5,0,none⟩=some (.int .i64 m)
theorem eY {w:World}{a:Addr}{v:Value}(h:w.cell? a=some v):a.block<w.heap.size:=by
 unfold World.cell? at h
 split at h
 · rename_i h1;exact aC h1
 · cases h
theorem Glob.below {w w' :World}(h:Glob w) (hb:Below w.heap.size w w'):Glob w' :=by
 first
  |exact ⟨Utf8Tabs_below h.1 hb,trivial⟩
  |(obtain ⟨h1,m,h2⟩:=h
    exact ⟨Utf8Tabs_below h1 hb,m,by rw [hb.cell (eY h2)];exact h2⟩)
theorem KR (s:ByteArray) (a:Nat) (w:World) (hG:Glob w) (h:a<s.size):
 Calls Tryz.prog 118 #[.string (s.extract a s.size)] w fun e w' =>e= .returned (.tuple #[.int .i32 (Utf8.decode s a).1, .int .i64 (Utf8.decode s a).2])∧Below w.heap.size w w' :=by
 have:=Tryz.utf8_DecodeRuneInString (s.extract a s.size) w hG.1
 rw [SY s a h]at this
 exact this
theorem Mh (s:ByteArray) (a:Nat) (r:Int) (w:World) (hG:Glob w) (h:a<s.size) (_hs:s.size≤1000000):
 Calls Tryz.prog 182 #[.string s, .int .i64 a, .int .i32 r] w fun e w' =>e= .returned (.bool (r !=65533||decide (1<(Utf8.decode s a).2)))∧Below w.heap.size w w' :=by
 have hd:=KR s a w hG h
 clear hG
 by_cases hr:r=65533
 · have hr1:(r !=65533)=false:=by simp [hr]
   clear hr
   go_enter Tryz.func182,Tryz.ntmps182
   go_wp2_with (go_at_call 118;refine hd.mono ?_;rintro e w' ⟨rfl,hb⟩)
   go_ret
   exact ⟨gT (by simp [hr1];omega),hb⟩
 · have hr1:(r !=65533)=true:=by simp [hr]
   clear hr
   go_enter Tryz.func182,Tryz.ntmps182
   go_wp2_with fail
   go_ret
   exact ⟨gT (by simp [hr1]),Below.refl _ _⟩
theorem CV (s:ByteArray) (w:World) (hG:Glob w) (hs:s.size≤1000000):
 Calls Tryz.prog 163 #[.string s] w fun e w' =>e= .returned (.bool (valid s))∧Below w.heap.size w w' :=by
 have HG:Hid (Glob w):=hG
 clear hG
 go_enter Tryz.func163,Tryz.ntmps163
 go_wp2
 go_loopw [] (fun wr=>∃(pos:Nat),wr.heap[w.heap.size]? =some (.stringIter s pos)∧Below w.heap.size w wr∧Hid (valid s=(dK s pos).all Pt.ok)∧pos≤s.size) (fun wr=>s.size - wr.iterPos w.heap.size)
 case atStart=>exact ⟨0,World.iter_heap w s 0,(Below.refl _ _).alloc (Nat.le_refl _) _,rfl,by omega⟩
 case round=>
  obtain ⟨pos,hit,hbw,HS,hpos⟩:=hrel
  have yx:=iterPos_of hit
  by_cases hp:pos<s.size
  · have hnx:∀ty,(Instr.next (.pointer (some ⟨w.heap.size,0,none⟩)) true ty).run Tryz.prog wr=_:=fun ty=>Lib.run_next_any_at wr w.heap.size s pos ty hit hp
    have hwd:=width_pos s pos hp
    have hwl:=width_le s pos hp
    have hit2:=Lib.iterAt_heap wr w.heap.size s pos (pos+(Utf8.decode s pos).2) hit
    have hbw2:=Lib.below_iterAt hbw (k:=w.heap.size) (Nat.le_refl _) s (pos+(Utf8.decode s pos).2)
    obtain ⟨W1,hW1⟩:∃W1,W1=wr.iterAt w.heap.size s (pos+(Utf8.decode s pos).2):=⟨_,rfl⟩
    rw [←hW1]at hnx hit2 hbw2
    have hlt:=aC hit2
    have hr:=Mh s pos (Utf8.decode s pos).1 W1 (HG.out.below (hbw2.mono (by omega))) hp hs
    have HC:Hid (valid s=((((Utf8.decode s pos).1:Int) !=65533||decide (1<(Utf8.decode s pos).2))&&(dK s (pos+(Utf8.decode s pos).2)).all Pt.ok)):=by
     show _=_
     rw [HS.out,bD s pos hp,List.all_cons]
     rfl
    clear hW1 hit hbw HS
    cases hk:(((Utf8.decode s pos).1:Int) !=65533||decide (1<(Utf8.decode s pos).2))
    all_goals
     rw [hk]at hr HC
     clear hk
     go_wp2_with (go_at_call 182;refine hr.mono ?_;rintro e w' ⟨rfl,hb⟩)
    · go_ret
      exact ⟨gT (by rw [HC.out];rfl),hbw2.trans (hb.mono (by omega))⟩
    · go_roundw
      case rel=>exact ⟨_,bf hit2 hb hlt,hbw2.trans (hb.mono (by omega)),(by show _=_;rw [HC.out];simp),by omega⟩
      case measure=>rw [iterPos_of (bf hit2 hb hlt),yx];omega
  · have hnx:∀ty,(Instr.next (.pointer (some ⟨w.heap.size,0,none⟩)) true ty).run Tryz.prog wr=_:=fun ty=>Lib.run_next_end_at wr w.heap.size s pos ty hit hp
    go_wp2
    go_ret
    exact ⟨gT (by rw [HS.out,bI s pos hp];rfl),hbw⟩
namespace aH
open Lib
def qD (c:UInt8):List UInt8:=if c=39 then [39,39]else [c]
theorem uY:∀l:List UInt8,replaceK [39] [39,39] (count l [39]) l=l.flatMap qD
 | []=>rfl
 |c::t=>by
  have ih:=uY t
  by_cases h:c=39
  · subst h
    have hi:index (39::t) [39]=((0:Nat):Int):=by simp [index,List.isPrefixOf]
    rw [count_hit (by simp) hi,Nat.add_comm,replaceK_hit _ _ _ _ 0 hi]
    simp only [List.take_zero,List.nil_append,List.length_singleton,Nat.zero_add,List.drop_one,List.tail_cons]
    rw [ih]
    rfl
  · have hp:([39]:List UInt8).isPrefixOf (c::t)=false:=by
     simp [List.isPrefixOf,Ne.symm h]
    have hidx:index (c::t) [39]=if index t [39]== -1 then -1 else index t [39]+1:=by
     rw [index,hp];rfl
    have hd:(c::t).flatMap qD=c::t.flatMap qD:=by simp [qD,h]
    rw [hd,←ih]
    by_cases hm:index t [39]= -1
    · have h1:index (c::t) [39]= -1:=by rw [hidx];simp [hm]
      rw [count_miss h1,count_miss hm]
      rfl
    · have hge:=index_ge t [39]
      obtain ⟨i,hi⟩:∃i:Nat,index t [39]=i:=⟨(index t [39]).toNat,by omega⟩
      have h1:index (c::t) [39]=((i+1:Nat):Int):=by
       rw [hidx,hi]
       have:¬((i:Int)== -1)=true:=by simp
       rw [if_neg this];omega
      rw [count_hit (by simp) h1,count_hit (by simp) hi]
      have hdr:(c::t).drop (i+1+([39]:List UInt8).length)=t.drop (i+([39]:List UInt8).length):=by simp
      rw [hdr,Nat.add_comm 1,replaceK_hit _ _ _ _ (i+1) h1,replaceK_hit _ _ _ _ i hi,hdr]
      simp
theorem zY (l:List UInt8):replaceAll l [39] [39,39]=l.flatMap qD:=by
 unfold replaceAll replace replaceNum
 rw [if_neg (by decide),if_pos (by left;decide)]
 exact uY l
theorem CW (l:List UInt8):(l.flatMap qD).length≤2*l.length:=by
 induction l with
 |nil=>simp
 |cons c t ih=>
  simp only [List.flatMap_cons,List.length_append,List.length_cons]
  have:(qD c).length≤2:=by unfold qD;split<;>simp
  omega
theorem xk (s:ByteArray):quote s=⟨(39::(s.data.toList.flatMap qD++ [39])).toArray⟩:=rfl
end aH
theorem Mi (s:ByteArray) (w:World) (hG:Glob w) (hs:s.size≤1000000):
 Calls Tryz.prog 98 #[.string s] w fun e w' =>e= .returned (.string (quote s))∧Below w.heap.size w w' :=by
 obtain ⟨m,hm⟩:=hG.2
 have hlen:s.size+Lib.countB s ⟨#[39]⟩*(⟨#[39,39]⟩:ByteArray).size≤140737488355328:=by
  have h1:=Lib.countB_mul_le ⟨#[39]⟩ (by decide) s.size s (Nat.le_refl _)
  have e1:(⟨#[39]⟩:ByteArray).size=1:=rfl
  have e2:(⟨#[39,39]⟩:ByteArray).size=2:=rfl
  rw [e1]at h1
  rw [e2]
  omega
 have hr:=Tryz.strings_ReplaceAll s ⟨#[39]⟩ ⟨#[39,39]⟩ m w (by omega) hm (by decide) hlen
 have e:Lib.replaceAll s.data.toList (⟨#[39]⟩:ByteArray).data.toList (⟨#[39,39]⟩:ByteArray).data.toList=s.data.toList.flatMap qD:=zY _
 rw [e]at hr
 have HQ:Hid (quote s=⟨(39::(s.data.toList.flatMap qD++ [39])).toArray⟩):=xk s
 have hL:=CW s.data.toList
 obtain ⟨L,hLe⟩:∃L,s.data.toList.flatMap qD=L:=⟨_,rfl⟩
 rw [hLe]at hr HQ hL
 have hXs:(⟨L.toArray⟩:ByteArray).size≤2000000:=by
  show L.toArray.size≤_
  have:s.data.toList.length=s.size:=by simp
  simp;omega
 obtain ⟨X,hX⟩:∃X:ByteArray,⟨L.toArray⟩=X:=⟨_,rfl⟩
 rw [hX]at hr hXs
 have HX:Hid (⟨L.toArray⟩=X):=hX
 clear hLe e hlen hm hG hX hL
 go_enter Tryz.func98,Tryz.ntmps98
 go_wp2_with (go_at_call 141;refine hr.mono ?_;rintro e w' ⟨rfl,hb⟩)
 go_ret
 refine ⟨KM ?_,hb⟩
 rw [HQ.out,←HX.out]
 apply ByteArray.ext
 apply Array.ext'
 simp
theorem D9 (s:ByteArray) (f:Int) (w:World) (_hs:s.size≤1000000) (h:¬(0≤f∧f<s.size∧s.data.toList[f.toNat]? =some 39)):
 Calls Tryz.prog 162 #[.string s, .int .i64 f] w fun e w' =>e= .returned (Tc (dz s f))∧Below w.heap.size w w' :=by
 have HE:Hid (dz s f=none):=by show _=_;unfold dz;rw [if_neg h]
 have HH:Hid (¬(0≤f∧f<s.size∧s.data.toList[f.toNat]? =some 39)):=h
 clear h
 by_cases h1:f<0
 · go_enter Tryz.func162,Tryz.ntmps162
   go_wp2_with fail
   go_ret3
   exact ⟨by rw [HE.out];rfl,Below.refl _ _⟩
 · by_cases h2:(s.size:Int)≤f
   · go_enter Tryz.func162,Tryz.ntmps162
     go_wp2_with fail
     go_ret3
     exact ⟨by rw [HE.out];rfl,Below.refl _ _⟩
   · obtain ⟨n,rfl⟩:=Int.eq_ofNat_of_zero_le (show 0≤f by omega)
     have hn:n<s.size:=by omega
     have hn2:n<s.data.toList.length:=by simp;exact hn
     have h3:((s[n].toNat:Int) !=39)=true:=by
      have:=HH.out
      rw [Int.toNat_natCast,List.getElem?_eq_getElem hn2]at this
      have h4:¬s.data.toList[n]=39:=fun e=>this ⟨by omega,by omega,by rw [e]⟩
      have h5:s[n]=s.data.toList[n]:=by simp;rfl
      rw [h5]
      have:s.data.toList[n].toNat≠39:=fun e=>h4 (UInt8.toNat_inj.1 e)
      exact bne_iff_ne.2 (by omega)
     clear HH
     go_enter Tryz.func162,Tryz.ntmps162
     go_wp2_with fail
     go_ret3
     exact ⟨by rw [HE.out];rfl,Below.refl _ _⟩
theorem qK (s:ByteArray) (k:Nat) (_h:k<s.size) (h2:k<s.data.toList.length):s.data.toList[k]=s[k]:=by simp;rfl
theorem qL (l:List UInt8) (c:UInt8):Lib.byteCells l++ [Value.int .u8 c.toNat]=Lib.byteCells (l++ [c]):=by simp [Lib.byteCells]
theorem Ea (s:ByteArray) (n:Nat) (w:World) (hs:s.size≤1000000) (hn:n<s.size) (h3:s.data.toList[n]? =some 39):
 Calls Tryz.prog 162 #[.string s, .int .i64 n] w fun e w' =>e= .returned (Tc (dz s n))∧Below w.heap.size w w' :=by
 have hl:s.data.toList.length=s.size:=by simp
 have HE:Hid (dz s n=(lQ (s.data.toList.drop (n+1))).map fun x=>(⟨x.1.toArray⟩,(n:Int)+1+x.2)):=by
  show _=_;unfold dz;rw [if_pos ⟨by omega,by omega,by rw [Int.toNat_natCast];exact h3⟩];rfl
 have h4:((s[n].toNat:Int) !=39)=false:=by
  rw [List.getElem?_eq_getElem (by omega)]at h3
  rw [←qK s n hn (by omega),Option.some.inj h3];rfl
 have Hl:Hid (s.data.toList.length=s.size):=hl
 clear h3 hl
 have h5:decide (s.size≤n)=false:=decide_eq_false (by omega)
 have h6:decide ((n:Int)<0)=false:=decide_eq_false (by omega)
 go_enter Tryz.func162,Tryz.ntmps162
 go_wp2_with fail
 go_loopw [8] (fun v wr=>∃(k:Nat) (done:List UInt8),v= .int .i64 k∧n+1≤k∧k≤s.size∧Lib.IsBuilder 166 5 w.heap.size w.heap.size (Lib.byteCells done) wr∧Below w.heap.size w wr∧w.heap.size<wr.heap.size∧done.length≤k∧Hid (lQ (s.data.toList.drop (n+1))=(lQ (s.data.toList.drop k)).map fun x=>(done++x.1,x.2+(k - (n+1))))) (fun v _=>s.size+1 - (intOf v).toNat)
 case atStart=>exact ⟨n+1, [],by go_num,by omega,by omega,Lib.fresh_isBuilder _ _ w,(Below.refl _ _).alloc (Nat.le_refl _) _,by simp,by simp,by show _=_;simp⟩
 case round=>
  obtain ⟨k,done,rfl,hk1,hk2,hB,hbw,hz,hd,HS⟩:=hrel
  have hbl:(Lib.byteCells done).length+1≤140737488355328:=by rw [Lib.byteCells_length];omega
  by_cases hlt:k<s.size
  · have hlt2:k<s.data.toList.length:=by have:=Hl.out;omega
    by_cases hq:s[k]=39
    · have hq1:((s[k].toNat:Int)==39)=true:=by rw [hq];rfl
      have Hq:Hid (s.data.toList[k]=39):=by show _=_;rw [qK s k hlt];exact hq
      clear hq
      by_cases hend:(s.size:Int)≤(k:Int)+1
      · have HF:Hid (dz s n=some (⟨done.toArray⟩,(k:Int)+1)):=by
         show _=_
         rw [HE.out,HS.out,Pb hlt2 Hq.out (by have:=Hl.out;omega)]
         simp;omega
        go_wp2_with (go_at_call 140;refine (Tryz.Builder_String_any _ _ done _ hB (by omega)).mono ?_;rintro e w' ⟨rfl,hb⟩)
        go_ret3
        exact ⟨by rw [HF.out];rfl,hbw.trans hb⟩
      · have VI:k+1<s.size:=by omega
        have VJ:k+1<s.data.toList.length:=by have:=Hl.out;omega
        by_cases hq2:s[k+1]=39
        · have aaP:((s[k+1].toNat:Int) !=39)=false:=by rw [hq2];rfl
          have HF:Hid (lQ (s.data.toList.drop (n+1))=(lQ (s.data.toList.drop (k+2))).map fun x=>((done++ [39])++x.1,x.2+(k+2 - (n+1)))):=by
           show _=_
           rw [HS.out,Ta hlt2 Hq.out VJ (by rw [qK s (k+1) VI];exact hq2)]
           cases lQ (s.data.toList.drop (k+2))with
           |none=>rfl
           |some x=>simp;omega
          have H2:Hid (s[k+1]=39):=hq2
          clear hq2 HS
          go_wp2_with (go_at_call 181;refine (Tryz.Builder_WriteByte _ _ (Lib.byteCells done) _ _ hB hbl (by omega)).mono ?_;rintro e w' ⟨rfl,hB2,hb⟩)
          go_roundw
          case rel=>
           refine ⟨k+2,done++ [39],by go_num,by omega,by omega, ?_,hbw.trans hb, ?_,by simp;omega,HF⟩
           · have:=hB2
             rw [qL,H2.out]at this
             exact .inr this
           · exact Nat.lt_of_lt_of_le hz hb.size
          case measure=>simp [intOf];omega
        · have aaP:((s[k+1].toNat:Int) !=39)=true:=by
           have:s[k+1].toNat≠39:=fun e=>hq2 (UInt8.toNat_inj.1 e)
           exact bne_iff_ne.2 (by omega)
          have HF:Hid (dz s n=some (⟨done.toArray⟩,(k:Int)+1)):=by
           show _=_
           rw [HE.out,HS.out,Pf hlt2 Hq.out VJ (by rw [qK s (k+1) VI];exact hq2)]
           simp;omega
          clear hq2
          go_wp2_with (go_at_call 140;refine (Tryz.Builder_String_any _ _ done _ hB (by omega)).mono ?_;rintro e w' ⟨rfl,hb⟩)
          go_ret3
          exact ⟨by rw [HF.out];rfl,hbw.trans hb⟩
    · have hq1:((s[k].toNat:Int)==39)=false:=by
       have:s[k].toNat≠39:=fun e=>hq (UInt8.toNat_inj.1 e)
       exact beq_eq_false_iff_ne.2 (by omega)
      have HF:Hid (lQ (s.data.toList.drop (n+1))=(lQ (s.data.toList.drop (k+1))).map fun x=>((done++ [s[k]])++x.1,x.2+(k+1 - (n+1)))):=by
       show _=_
       rw [HS.out,Mg hlt2 (by rw [qK s k hlt];exact hq)]
       cases lQ (s.data.toList.drop (k+1))with
       |none=>rfl
       |some x=>simp;exact ⟨rfl,by omega⟩
      clear hq HS
      go_wp2_with (go_at_call 181;refine (Tryz.Builder_WriteByte _ _ (Lib.byteCells done) _ _ hB hbl (by omega)).mono ?_;rintro e w' ⟨rfl,hB2,hb⟩)
      go_roundw
      case rel=>
       refine ⟨k+1,done++ [s[k]],by go_num,by omega,by omega, ?_,hbw.trans hb, ?_,by simp;omega,HF⟩
       · have:=hB2
         rw [qL]at this
         exact .inr this
       · exact Nat.lt_of_lt_of_le hz hb.size
      case measure=>simp [intOf];omega
  · have HF:Hid (dz s n=none):=by
     show _=_
     rw [HE.out,HS.out,S9 (by have:=Hl.out;omega)]
     rfl
    go_wp2_with fail
    go_ret3
    exact ⟨by rw [HF.out];rfl,hbw⟩
theorem FU (s:ByteArray) (f:Int) (w:World) (hs:s.size≤1000000):
 Calls Tryz.prog 162 #[.string s, .int .i64 f] w fun e w' =>e= .returned (Tc (dz s f))∧Below w.heap.size w w' :=by
 by_cases h:0≤f∧f<s.size∧s.data.toList[f.toNat]? =some 39
 · obtain ⟨h1,h2,h3⟩:=h
   obtain ⟨n,rfl⟩:=Int.eq_ofNat_of_zero_le h1
   rw [Int.toNat_natCast]at h3
   exact Ea s n w hs (by omega) h3
 · exact D9 s f w hs h
namespace aH
theorem Ti (s:ByteArray) (k:Nat) (h:k<s.size):s.get! k=s[k]:=by
 have:=Go.get_at s k h
 simpa using this
def bY (s:ByteArray) (k:Nat):Nat:=(s.get! k).toNat
theorem kY (s:ByteArray) (k:Nat) (h:k<s.size):s[k].toNat=bY s k:=by unfold bY;rw [Ti s k h]
theorem CX (s:ByteArray) (a:Nat) (_h:a<s.size) (h0:bY s a<128):Utf8.decode s a=(bY s a,1):=by
 rw [Lib.decode_at];unfold Lib.decodeN
 rw [if_pos (by exact h0)];rfl
end aH
namespace aH
theorem aY {w:World}{B:Nat}{e:TypeId}{sz:Nat}{v:Value}{n:Nat}{xs:List Value}(h:w.ownsRow B e sz v n xs):
 ∃a cap,v= .slice a n cap∧(0<n→∃g,a=some ⟨g,0,none⟩∧B≤g∧g<w.heap.size∧∀j u,xs[j]? =some u→w.cell? ⟨g,j,none⟩=some u):=by
 obtain ⟨h1,h2⟩:=h
 rcases h2 with ⟨rfl,rfl⟩|⟨g,cap,cur,rfl,hg,hh,hn,hc,hs,ht⟩
 · exact ⟨none,0,rfl,fun h=>absurd h (by omega)⟩
 · refine ⟨_,cap,rfl,fun _=>⟨g,rfl,hg,aC hh,fun j u hj=> ?_⟩⟩
   exact aV ⟨h1, .inr ⟨g,cap,cur,rfl,hg,hh,hn,hc,hs,ht⟩⟩ j u hj
end aH
namespace aH
theorem Pg (s:ByteArray) (k:Nat) (h:k<s.size):s.extract k (k+1)=⟨#[s[k]]⟩:=by
 apply ByteArray.ext
 apply Array.ext'
 have hd:k<s.data.toList.length:=by simp;exact h
 rw [ByteArray.data_extract]
 simp only [Array.toList_extract,List.extract_eq_take_drop]
 rw [List.drop_eq_getElem_cons hd]
 have e:k+1 - k=1:=by omega
 rw [e]
 simp
 rfl
end aH
def St (w0 w:World):Prop:=Below w0.heap.size w0 w∧Glob w
theorem St.refl {w:World}(h:Glob w):St w w:=⟨Below.refl _ _,h⟩
theorem St.step {w0 w w' :World}(h:St w0 w) (hb:Below w.heap.size w w'):St w0 w' :=⟨h.1.trans (hb.mono h.1.size),h.2.below hb⟩
theorem St.same {w0 w w' :World}(h:St w0 w) (hb:w=w'):St w0 w' :=hb▸h
theorem St.trans {w0 w w' :World}(h:St w0 w) (hb:St w w'):St w0 w' :=⟨h.1.trans (hb.1.mono h.1.size),hb.2⟩
theorem St.drew {w0 w:World}(h:St w0 w):St w0 w.drew:=h.step (Below.refl _ _).drew
theorem St.glob {w0 w:World}(h:St w0 w):Glob w:=h.2
theorem zZ (v n:Int) (hn:1≤n):(if v.tmod n<0 then v.tmod n+n else v.tmod n)=v % n:=by
 have h1:=Int.tmod_eq_emod (a:=v) (b:=n)
 have h2:=Int.emod_nonneg v (show n≠0 by omega)
 have h3:=Int.emod_lt_of_pos v (show 0<n by omega)
 rw [h1]
 split<;>split at * <;>omega
theorem Yp (v n:Int) (w:World) (hn:1≤n) (hn2:n≤1000000000000) (hv0: -9223372036854775808≤v) (hv1:v≤9223372036854775807):
 Calls Tryz.prog 23 #[.int .i64 v, .int .i64 n] w fun e w' =>e= .returned (.int .i64 (v % n))∧w=w' :=by
 have hp:=Lib.hid (zZ v n hn)
 by_cases h0:0≤v
 · have h2:=Int.emod_nonneg v (show n≠0 by omega)
   have h3:=Int.emod_lt_of_pos v (show 0<n by omega)
   clear hv0
   go_enter Tryz.func23,Tryz.ntmps23
   go_wp2_with fail
   go_ret
   exact ⟨rfl,rfl⟩
 · have hm:v.tmod n≤0:=by have:=Int.tmod_nonneg n (show 0≤ -v by omega);rw [Int.neg_tmod]at this;omega
   have hm2: -n<v.tmod n:=by
    have:=Int.tmod_lt_of_pos (-v) (show 0<n by omega);rw [Int.neg_tmod]at this;omega
   clear hv0 hv1
   by_cases hz:v.tmod n<0
   · have HE:Hid (v.tmod n+n=v % n):=by have:=hp.out;rw [if_pos hz]at this;exact this
     go_enter Tryz.func23,Tryz.ntmps23
     go_wp2_with fail
     go_ret
     exact ⟨lN HE.out,rfl⟩
   · have HE:Hid (v.tmod n=v % n):=by have:=hp.out;rw [if_neg hz]at this;exact this
     go_enter Tryz.func23,Tryz.ntmps23
     go_wp2_with fail
     go_ret
     exact ⟨lN HE.out,rfl⟩
open Go.ChangeShapes Go.WideShapes Go.ChangeAt Go.RowKit Go.Shelf
open Go.ChangeMaps (open_string shut_string)
theorem Tryz.own:ownKnob Tryz.prog.godebug=none:=by kernel_rfl
section
variable {H:Type}{enc:TypeId×Value→H}
theorem Eb {a:Assume}{C:Checked}{os:Os}{f:FuncId}{fn:Func}{s:ChangeSpec}{conds:List PathCond}{apart fresh handsOn again:Bool}{X:World→Array Value→Prop}
 (hX:∀(w w' :World) (args:Array Value),w.heap=w'.heap→X w args→X w' args)
 (own:ownKnob C.prog.godebug=none) (started:os.Started) (noInit:C.prog.inits.idxOf? f=none) (hfn:C.prog.funcs[f]? =some fn)
 (witness:∃(w:World) (tape:Tape) (i:Input),w.os=os∧(w.forCall tape i).Shaped C.prog∧i.vars= []∧Input.okWide C.prog (w.forCall tape i) .any w.heap.size f i∧
  ((s.pre enc C.prog fn conds apart (w.forCall tape i).memory i.args∧X (w.forCall tape i).memory i.args)∧sizedMet enc C.prog fn (OpenSpec.ofChange s) apart (w.forCall tape i).memory i.args)∧a.holds C.prog (lone (Frame.enter C.prog f i.args .normal) [] (w.forCall tape i)))
 (contract:∀(W:World) (base:Nat) (args:Array Value) (ds gs:List (DataW H)) (before:List MemPlace),
  (∀(j:Nat) t v,fn.params[j]? =some t→args[j]? =some v→Value.okWide C.prog W .any base t v)→
  DataW.Whole enc C.prog fn.params.toList s.vars apart W args.toList ds gs before→
  (DataW.weightsEach C.prog (fn.params.toList++s.plain.varTypes C.prog) (ds++gs)).all (· ≤reachBytes)=true→X W args→
  W.ShapedOpen C.prog→
  Calls C.prog f args W fun e W' =>∃v,e= .returned v∧s.post enc C.prog fn apart fresh handsOn again W args v W'):
 ReturnsInHanded a C os f .any (fun w args=>(s.pre enc C.prog fn conds apart w args∧X w args)∧sizedMet enc C.prog fn (OpenSpec.ofChange s) apart w args) (s.post enc C.prog fn apart fresh handsOn again):=by
 refine returnsInHanded_of_calls own started noInit witness ?_
 intro w tape i _ hsh _ hok hpre _
 obtain ⟨_,_,_,fn',hfn',_,_,_,_,hval⟩:=hok
 have e:fn' =fn:=Option.some.inj (hfn'.symm.trans hfn)
 subst e
 obtain ⟨⟨⟨ds,gs,before,hw,_⟩,hx⟩,hz⟩:=hpre
 have hw' :=DataW.Whole.of_heap (w' :=w.forCall tape i) (by rfl) hw
 refine (contract (w.forCall tape i) w.heap.size i.args ds gs before hval hw' (hz.weights hw) (hX _ _ _ (by rfl) hx) hsh).mono fun e W' ⟨v,he,hp⟩=> ?_
 subst he
 exact ChangeSpec.post_blind hp
end
theorem I8:Rows.laid_unicode_utf8_first=Lib.firstData:=by kernel_rfl
theorem FV:(Rows.laid_unicode_utf8_acceptRanges:DataW Unit)=Lib.acceptData:=by kernel_rfl
def IntsIn (w:World) (v:Value) (zs:List Int):Prop:=∃a cap,v= .slice a zs.length cap∧(0<zs.length→∃g off,a=some ⟨g,off,none⟩∧g<w.heap.size∧∀j (h:j<zs.length),w.cell? ⟨g,off+j,none⟩=some (.int .i64 zs[j]))
open Go.ChangeMaps (open_string shut_string)
theorem aat {H:Type}{enc:TypeId×Value→H}{P:Program}{W:World}{t e:TypeId}{v:Value}{d:DataW H}{ps:List MemPlace}{base:Nat}{r:Reach}(ht:P.underlying t=some (.slice e)) (he:P.underlying e=some (.int .i64)) (hc:P.cellsOf e=1)
 (hv:Value.okWide P W r base t v) (h:DataW.Trod enc P W 0 (fun _=>true) true t v d ps):
 ∃zs:List Int,IntsIn W v zs∧(∀z∈zs, -9223372036854775808≤z∧z≤9223372036854775807)∧zs.length≤maxLen:=by
 obtain ⟨a0,I9,cap0,rfl⟩:=okWide_slice ht hv
 obtain ⟨fuel,hf⟩:=h
 rcases open_ints ht he hc hf with ⟨hcs,hx⟩|⟨a,len,cap,zs,hcs,_,hl,hm,hz,hx,hcell,hwz⟩
 · simp only [Value.cells,List.cons.injEq,and_true,Value.slice.injEq]at hcs
   obtain ⟨rfl,rfl,rfl⟩:=hcs
   exact ⟨[],⟨none,0,rfl,fun h=>absurd h (by simp)⟩,(fun z (hz:z∈ [])=>nomatch hz),Nat.zero_le _⟩
 · simp only [Value.cells,List.cons.injEq,and_true,Value.slice.injEq]at hcs
   obtain ⟨rfl,rfl,rfl⟩:=hcs
   simp only [if_true]at hz
   refine ⟨zs.take I9,⟨some a,cap0,by rw [List.length_take,Nat.min_eq_left (by omega)],fun h0=> ?_⟩,fun z hzm=> ?_,by rw [List.length_take];omega⟩
   · have YF:0<I9:=by rw [List.length_take]at h0;omega
     obtain ⟨g,off,rfl,hcc⟩:=ints_at hcell (by omega)
     refine ⟨g,off,rfl,eY (hcc 0 (by omega)),fun j hj=> ?_⟩
     have hj2:j<zs.length:=by rw [List.length_take]at hj;omega
     rw [hcc j hj2,List.getElem_take,List.getD_eq_getElem?_getD,List.getElem?_eq_getElem hj2];rfl
   · have:=hwz z (List.mem_of_mem_take hzm)
     exact bounds_i64 this
namespace aH
theorem uZ (s:ByteArray) (k:Nat) (h:¬k<s.size):bY s k=0:=by
 unfold bY
 rw [zX,getElem!_neg s.data k h];rfl
theorem jq (s t:ByteArray) (k:Nat) (h:k<s.size):bY (s++t) k=bY s k:=by
 have h2:k<(s++t).size:=by rw [ByteArray.size_append];omega
 rw [←kY _ k h2,←kY _ k h]
 rw [ByteArray.getElem_append_left h]
theorem nS (s t:ByteArray) (k:Nat):bY (s++t) (s.size+k)=bY t k:=by
 by_cases h:k<t.size
 · have h2:s.size+k<(s++t).size:=by rw [ByteArray.size_append];omega
   rw [←kY _ _ h2,←kY _ k h,ByteArray.getElem_append_right (by omega)]
   congr 2
   omega
 · rw [uZ _ _ h,uZ]
   rw [ByteArray.size_append];omega
theorem Ec (s:ByteArray) (a k:Nat):bY (s.extract a s.size) k=bY s (a+k):=by unfold bY;rw [KN]
theorem iN (s:ByteArray) (a:Nat):Utf8.decode s a=Lib.decodeN (s.size - a) (bY s a) (bY s (a+1)) (bY s (a+2)) (bY s (a+3)):=Lib.decode_at s a
theorem Wm (s t:ByteArray) (k:Nat):Utf8.decode (s++t) (s.size+k)=Utf8.decode t k:=by
 rw [iN,iN,Nat.add_assoc,Nat.add_assoc,Nat.add_assoc,nS,nS,nS,nS,ByteArray.size_append]
 congr 1;omega
theorem Tj (s:ByteArray) (a k:Nat):Utf8.decode (s.extract a s.size) k=Utf8.decode s (a+k):=by
 rw [iN,iN,Ec,Ec,Ec,Ec]
 have e:(s.extract a s.size).size - k=s.size - (a+k):=by simp;omega
 rw [e];rfl
theorem vg (n m b0 b1 b2 b3 c1 c2 c3:Nat) (_hn:1≤n) (hm:n≤m) (h1:1<n→c1=b1) (h2:2<n→c2=b2) (h3:3<n→c3=b3)
 (hok:(Lib.decodeN n b0 b1 b2 b3).1≠65533∨1<(Lib.decodeN n b0 b1 b2 b3).2):Lib.decodeN m b0 c1 c2 c3=Lib.decodeN n b0 b1 b2 b3:=by
 unfold Lib.decodeN at hok⊢
 by_cases a1:b0<128
 · rw [if_pos a1,if_pos a1]
 · rw [if_neg a1]at hok
   rw [if_neg a1,if_neg a1]
   by_cases a2:b0 / 32=6∧(1<n∧b1 / 64=2)
   · obtain rfl:=h1 a2.2.1
     rw [if_pos a2,if_pos ⟨a2.1,by omega,a2.2.2⟩]
   · rw [if_neg a2]at hok
     by_cases a3:b0 / 16=14∧(1<n∧b1 / 64=2)∧(2<n∧b2 / 64=2)
     · obtain rfl:=h1 a3.2.1.1
       obtain rfl:=h2 a3.2.2.1
       rw [if_neg a2,if_pos a3,if_neg (by omega),if_pos ⟨a3.1,⟨by omega,a3.2.1.2⟩,⟨by omega,a3.2.2.2⟩⟩]
     · rw [if_neg a3]at hok
       by_cases a4:b0 / 8=30∧(1<n∧b1 / 64=2)∧(2<n∧b2 / 64=2)∧(3<n∧b3 / 64=2)
       · obtain rfl:=h1 a4.2.1.1
         obtain rfl:=h2 a4.2.2.1.1
         obtain rfl:=h3 a4.2.2.2.1
         rw [if_neg a2,if_neg a3,if_pos a4,if_neg (by omega),if_neg (by omega),if_pos ⟨a4.1,⟨by omega,a4.2.1.2⟩,⟨by omega,a4.2.2.1.2⟩,⟨by omega,a4.2.2.2.2⟩⟩]
       · rw [if_neg a4]at hok
         simp at hok
theorem Ph (s:ByteArray) (a:Nat):((⟨(Utf8.decode s a).1,a,(Utf8.decode s a).2⟩:Pt).ok=true)↔ ((Utf8.decode s a).1≠65533∨1<(Utf8.decode s a).2):=by
 unfold Pt.ok
 rw [Bool.or_eq_true,decide_eq_true_eq,bne_iff_ne]
 constructor
 · rintro (h|h)
   · exact .inl (fun e=>h (by rw [e];rfl))
   · exact .inr h
 · rintro (h|h)
   · exact .inl (fun e=>h (by simp only at e;omega))
   · exact .inr h
theorem Wn (s t:ByteArray) (a:Nat) (h:a<s.size) (hok:(Utf8.decode s a).1≠65533∨1<(Utf8.decode s a).2):Utf8.decode (s++t) a=Utf8.decode s a:=by
 rw [iN]at hok
 rw [iN,iN,jq s t a h]
 refine vg _ _ _ _ _ _ _ _ _ (by omega) ?_ ?_ ?_ ?_ hok
 · rw [ByteArray.size_append];omega
 · intro h1;exact jq s t _ (by omega)
 · intro h1;exact jq s t _ (by omega)
 · intro h1;exact jq s t _ (by omega)
def Pt.shift (d:Nat) (p:Pt):Pt:=⟨p.r,p.at_+d,p.n⟩
theorem qM (s t:ByteArray):∀n k,t.size - k≤n→dK (s++t) (s.size+k)=(dK t k).map (Pt.shift s.size):=by
 intro n
 induction n with
 |zero=>intro k h;rw [bI t k (by omega),bI];rfl;rw [ByteArray.size_append];omega
 |succ n ih=>
  intro k h
  by_cases hk:k<t.size
  · have hw:=width_pos t k hk
    rw [bD t k hk,bD (s++t) (s.size+k) (by rw [ByteArray.size_append];omega),Wm,Nat.add_assoc,ih _ (by omega)]
    simp only [List.map_cons,Pt.shift]
    rw [Nat.add_comm s.size k]
  · rw [bI t k hk,bI];rfl;rw [ByteArray.size_append];omega
theorem Mj (s:ByteArray) (a:Nat):∀n k,s.size - (a+k)≤n→dK s (a+k)=(dK (s.extract a s.size) k).map (Pt.shift a):=by
 intro n
 have e:(s.extract a s.size).size=s.size - a:=by simp
 induction n with
 |zero=>intro k h;rw [bI s _ (by omega),bI];rfl;omega
 |succ n ih=>
  intro k h
  by_cases hk:a+k<s.size
  · have hw:=width_pos s (a+k) hk
    rw [bD s _ hk,bD (s.extract a s.size) k (by omega),Tj,Nat.add_assoc,ih _ (by omega)]
    simp only [List.map_cons,Pt.shift]
    rw [Nat.add_comm a k]
  · rw [bI s _ hk,bI];rfl;omega
theorem Mk (s t:ByteArray):∀n k,s.size - k≤n→k≤s.size→(dK s k).all Pt.ok=true→dK (s++t) k=dK s k++(pts t).map (Pt.shift s.size):=by
 intro n
 induction n with
 |zero=>
  intro k h hk _
  have:k=s.size+0:=by omega
  rw [bI s k (by omega),this,qM s t t.size 0 (by omega)];rfl
 |succ n ih=>
  intro k h hk hall
  by_cases hlt:k<s.size
  · have hw:=width_pos s k hlt
    have hl:=width_le s k hlt
    rw [bD s k hlt,List.all_cons,Bool.and_eq_true]at hall
    rw [bD s k hlt,bD (s++t) k (by rw [ByteArray.size_append];omega),Wn s t k hlt ((Ph s k).1 hall.1),ih _ (by omega) (by omega) hall.2]
    rfl
  · have:k=s.size+0:=by omega
    rw [bI s k hlt,this,qM s t t.size 0 (by omega)];rfl
theorem zD (s t:ByteArray) (h:valid s=true):pts (s++t)=pts s++(pts t).map (Pt.shift s.size):=Mk s t s.size 0 (by omega) (by omega) h
theorem nT (s t:ByteArray) (hs:valid s=true):valid (s++t)=valid t:=by
 unfold valid
 rw [zD s t hs,List.all_append]
 have:(pts s).all Pt.ok=true:=hs
 rw [this,Bool.true_and,List.all_map]
 rfl
def place (v n:Int):Int:=v % n
theorem KS (rest:List UInt8) (hr:rest.head? ≠some 39):∀l:List UInt8,lQ (l.flatMap qD++39::rest)=some (l,(l.flatMap qD).length+1)
 | []=>by
  rw [List.flatMap_nil,List.nil_append,lQ.eq_def]
  cases rest with
  |nil=>simp
  |cons d u=>
   have:d≠39:=fun e=>hr (by rw [e];rfl)
   simp [this]
 |c::t=>by
  have ih:=KS rest hr t
  by_cases hc:c=39
  · subst hc
    have e:(39::t).flatMap qD++39::rest=39::39::(t.flatMap qD++39::rest):=by simp [qD]
    rw [e,lQ.eq_def]
    simp [ih,qD]
  · have e:(c::t).flatMap qD++39::rest=c::(t.flatMap qD++39::rest):=by simp [qD,hc]
    rw [e,lQ.eq_def]
    simp [ih,qD,hc]
theorem z8 (s:ByteArray):(quote s).data.toList=39::(s.data.toList.flatMap qD++ [39]):=by rw [xk]
theorem ug (s:ByteArray):(quote s).size=(s.data.toList.flatMap qD).length+2:=by
 have:(quote s).data.toList.length=(quote s).size:=by simp
 rw [←this,z8]
 simp
theorem iG (n b0 b1 b2 b3:Nat) (_hn:1≤n):
 ((Lib.decodeN n b0 b1 b2 b3).2=1∧((Lib.decodeN n b0 b1 b2 b3).1=b0∧b0<128∨(Lib.decodeN n b0 b1 b2 b3).1=65533))∨
 (128≤b0∧1<(Lib.decodeN n b0 b1 b2 b3).2∧(Lib.decodeN n b0 b1 b2 b3).2≤n∧(Lib.decodeN n b0 b1 b2 b3).2≤4∧b1 / 64=2∧(2<(Lib.decodeN n b0 b1 b2 b3).2→b2 / 64=2)∧(3<(Lib.decodeN n b0 b1 b2 b3).2→b3 / 64=2)):=by
 unfold Lib.decodeN
 by_cases a1:b0<128
 · rw [if_pos a1];exact .inl ⟨rfl, .inl ⟨rfl,a1⟩⟩
 · rw [if_neg a1]
   by_cases a2:b0 / 32=6∧(1<n∧b1 / 64=2)
   · rw [if_pos a2]
     split
     · exact .inr ⟨by omega,by simp,by simp;omega,by simp,a2.2.2,by simp,by simp⟩
     · exact .inl ⟨rfl, .inr rfl⟩
   · rw [if_neg a2]
     by_cases a3:b0 / 16=14∧(1<n∧b1 / 64=2)∧(2<n∧b2 / 64=2)
     · rw [if_pos a3]
       split
       · exact .inr ⟨by omega,by simp,by simp;omega,by simp,a3.2.1.2,fun _=>a3.2.2.2,by simp⟩
       · exact .inl ⟨rfl, .inr rfl⟩
     · rw [if_neg a3]
       by_cases a4:b0 / 8=30∧(1<n∧b1 / 64=2)∧(2<n∧b2 / 64=2)∧(3<n∧b3 / 64=2)
       · rw [if_pos a4]
         split
         · exact .inr ⟨by omega,by simp,by simp;omega,by simp,a4.2.1.2,fun _=>a4.2.2.1.2,fun _=>a4.2.2.2.2⟩
         · exact .inl ⟨rfl, .inr rfl⟩
       · rw [if_neg a4];exact .inl ⟨rfl, .inr rfl⟩
theorem Ml (s:ByteArray) (a:Nat) (h:a<s.size):
 ((Utf8.decode s a).2=1∧((Utf8.decode s a).1=bY s a∧bY s a<128∨(Utf8.decode s a).1=65533))∨
 (128≤bY s a∧1<(Utf8.decode s a).2∧∀j,0<j→j<(Utf8.decode s a).2→bY s (a+j) / 64=2):=by
 rw [iN]
 rcases iG (s.size - a) (bY s a) (bY s (a+1)) (bY s (a+2)) (bY s (a+3)) (by omega)with h1|⟨h1,h2,h3,h4,h5,h6,h7⟩
 · exact .inl h1
 · refine .inr ⟨h1,h2,fun j hj hj2=> ?_⟩
   match j,hj with
   |1,_=>exact h5
   |2,_=>exact h6 hj2
   |3,_=>exact h7 hj2
   |j+4,_=>omega
theorem Mq (c:UInt8):qC (qC c)=qC c:=by
 have h:=zW c
 have h2:=zW (qC c)
 apply UInt8.toNat_inj.1
 rw [h2]
 split
 · rename_i hh
   rw [h]at hh
   split at hh<;>omega
 · rfl
theorem Mr (s:ByteArray):fold (fold s)=fold s:=by
 unfold fold
 apply ByteArray.ext
 simp only [Array.map_map]
 congr 1
 funext c
 exact Mq c
theorem fold_size (s:ByteArray):(fold s).size=s.size:=by
 show (s.data.map qC).size=s.data.size
 simp
def mR (P:List Pt) (i:Nat):Int:=match P[i]? with|some p=>p.r|none=> -1
def gy (P:List Pt) (i:Nat) (r:Int):Bool:=match P[i]? with|some p=>(p.r:Int)==r|none=>false
def dQ (P:List Pt) (i:Nat):Bool:=match P[i]? with|some p=>p.ok&&(kT p.r||(decide (65≤(p.r:Int))&&decide ((p.r:Int)≤90)))|none=>false
def dn (P:List Pt) (i:Nat):Bool:=match P[i]? with|some p=>kE p.r|none=>false
def aT (s:ByteArray) (P:List Pt) (i:Nat):Nat:=match P[i]? with|some p=>p.at_|none=>s.size
def vk (f:Nat→Bool):Nat→Nat→Nat
 |0,i=>i
 |n+1,i=>if f i then vk f n (i+1)else i
def dD (f:Nat→Bool) (len i:Nat):Nat:=vk f (len - i) i
theorem gU {f:Nat→Bool}{len i:Nat}(h:i<len) (hf:f i=true):dD f len i=dD f len (i+1):=by
 unfold dD
 rw [show len - i=(len - (i+1))+1 by omega,vk,if_pos hf]
theorem fJ {f:Nat→Bool}{len i:Nat}(hf:f i=false):dD f len i=i:=by
 unfold dD
 cases len - i with
 |zero=>rfl
 |succ n=>rw [vk,if_neg (by rw [hf];decide)]
theorem sD {f:Nat→Bool}{len i:Nat}(h:len≤i):dD f len i=i:=by
 unfold dD
 rw [show len - i=0 by omega];rfl
theorem Ed (f:Nat→Bool):∀n i,i≤vk f n i∧vk f n i≤i+n
 |0,i=>⟨Nat.le_refl _,Nat.le_refl _⟩
 |n+1,i=>by
  unfold vk
  split
  · have:=Ed f n (i+1);omega
  · omega
theorem Aa (f:Nat→Bool) (len i:Nat) (h:i≤len):i≤dD f len i∧dD f len i≤len:=by
 have:=Ed f (len - i) i
 unfold dD;omega
theorem kZ (f:Nat→Bool) (len i:Nat):i≤dD f len i:=(Ed f (len - i) i).1
def dO (P:List Pt) (i:Nat):Bool:=gy P i 32||gy P i 9||gy P i 10||gy P i 13
def iO (P:List Pt) (i:Nat):Bool:=gy P i 45&&gy P (i+1) 45
def lineEnd (P:List Pt) (i:Nat):Nat:=dD (fun j=> !gy P j 10) P.length i
def iL (P:List Pt):Nat→Nat→Nat
 |0,i=>i
 |n+1,i=>if P.length≤i then i else if dO P i then iL P n (i+1)else if iO P i then iL P n (lineEnd P i)else i
def skip (P:List Pt) (i:Nat):Nat:=iL P (P.length - i) i
theorem Pj {P:List Pt}{i:Nat}{r:Int}(h:gy P i r=true):i<P.length:=by
 unfold gy at h
 split at h
 · rename_i p hp;exact (List.getElem?_eq_some_iff.1 hp).1
 · cases h
theorem xq {P:List Pt}{i:Nat}{r q:Int}(h:gy P i r=true) (hne:r≠q):gy P i q=false:=by
 unfold gy at h⊢
 cases hp:P[i]? with
 |none=>simp [hp]at h
 |some p=>
  rw [hp]at h
  simp only at h⊢
  rw [beq_eq_false_iff_ne]
  intro e
  exact hne (by rw [←beq_iff_eq.1 h,e])
theorem iV {P:List Pt}{i:Nat}(h:iO P i=true):i<lineEnd P i∧lineEnd P i≤P.length:=by
 unfold iO at h
 rw [Bool.and_eq_true]at h
 have hlt:=Pj h.1
 have h10:=xq h.1 (show (45:Int)≠10 by decide)
 unfold lineEnd
 have e:=gU (f:=fun j=> !gy P j 10) hlt (by simp [h10])
 have:=Aa (fun j=> !gy P j 10) P.length (i+1) (by omega)
 omega
theorem Ja (P:List Pt):∀n m i,P.length≤i+n→P.length≤i+m→iL P n i=iL P m i:=by
 intro n
 induction n with
 |zero=>
  intro m i h1 h2
  cases m with
  |zero=>rfl
  |succ m=>rw [iL,iL,if_pos (by omega)]
 |succ n ih=>
  intro m i h1 h2
  by_cases hl:P.length≤i
  · cases m with
    |zero=>rw [iL,iL,if_pos hl]
    |succ m=>rw [iL,iL,if_pos hl,if_pos hl]
  · cases m with
    |zero=>omega
    |succ m=>
     rw [iL,iL,if_neg hl,if_neg hl]
     split
     · exact ih m (i+1) (by omega) (by omega)
     · split
       · rename_i hd
         have:=iV hd
         exact ih m _ (by omega) (by omega)
       · rfl
theorem vo {P:List Pt}{i:Nat}(h:P.length≤i):skip P i=i:=by
 unfold skip
 rw [show P.length - i=0 by omega];rfl
theorem gG {P:List Pt}{i:Nat}(h:i<P.length) (hb:dO P i=true):skip P i=skip P (i+1):=by
 unfold skip
 rw [show P.length - i=(P.length - (i+1))+1 by omega,iL,if_neg (by omega),if_pos hb]
theorem lW {P:List Pt}{i:Nat}(h:i<P.length) (hb:dO P i=false) (hd:iO P i=true):skip P i=skip P (lineEnd P i):=by
 have:=iV hd
 unfold skip
 rw [show P.length - i=(P.length - (i+1))+1 by omega,iL,if_neg (by omega),if_neg (by rw [hb];decide),if_pos hd]
 exact Ja P _ _ _ (by omega) (by omega)
theorem ig {P:List Pt}{i:Nat}(hb:dO P i=false) (hd:iO P i=false):skip P i=i:=by
 unfold skip
 cases P.length - i with
 |zero=>rfl
 |succ n=>
  rw [iL]
  split
  · rfl
  · rw [if_neg (by rw [hb];decide),if_neg (by rw [hd];decide)]
theorem Pk (P:List Pt):∀n i,i≤iL P n i:=by
 intro n
 induction n with
 |zero=>intro i;exact Nat.le_refl _
 |succ n ih=>
  intro i
  rw [iL]
  split
  · exact Nat.le_refl _
  · split
    · have:=ih (i+1);omega
    · split
      · rename_i hd
        have:=ih (lineEnd P i)
        have:=iV hd
        omega
      · exact Nat.le_refl _
theorem jF (P:List Pt) (i:Nat):i≤skip P i:=Pk P _ i
structure Tk where
 kind:Int
 s:ByteArray
 n:Int
 at_:Nat
def nU (P:List Pt):Nat→Nat→Int→Bool→Int×Bool×Nat
 |0,i,v,ok=>(v,ok,i)
 |n+1,i,v,ok=>if dn P i then nU P n (i+1) (min (v*10+(mR P i - 48)) 1099511627776) (ok&&decide (v*10+(mR P i - 48)≤1099511627776))else (v,ok,i)
def num (P:List Pt) (i:Nat) (v:Int) (ok:Bool):Int×Bool×Nat:=nU P (P.length - i) i v ok
theorem zF {P:List Pt}{i:Nat}(h:dn P i=true):i<P.length:=by
 unfold dn at h
 split at h
 · rename_i p hp;exact (List.getElem?_eq_some_iff.1 hp).1
 · cases h
theorem zG {P:List Pt}{i:Nat}(h:dQ P i=true):i<P.length:=by
 unfold dQ at h
 split at h
 · rename_i p hp;exact (List.getElem?_eq_some_iff.1 hp).1
 · cases h
theorem oW {P:List Pt}{i:Nat}{v:Int}{ok:Bool}(h:dn P i=true):
 num P i v ok=num P (i+1) (min (v*10+(mR P i - 48)) 1099511627776) (ok&&decide (v*10+(mR P i - 48)≤1099511627776)):=by
 have hl:=zF h
 unfold num
 rw [show P.length - i=(P.length - (i+1))+1 by omega,nU,if_pos h]
theorem jU {P:List Pt}{i:Nat}{v:Int}{ok:Bool}(h:dn P i=false):num P i v ok=(v,ok,i):=by
 unfold num
 cases P.length - i with
 |zero=>rfl
 |succ n=>rw [nU,if_neg (by rw [h];decide)]
theorem zH (P:List Pt):∀n i v ok,i≤(nU P n i v ok).2.2∧(nU P n i v ok).2.2≤i+n:=by
 intro n
 induction n with
 |zero=>intro i v ok;exact ⟨Nat.le_refl _,Nat.le_refl _⟩
 |succ n ih=>
  intro i v ok
  rw [nU]
  split
  · have:=ih (i+1) (min (v*10+(mR P i - 48)) 1099511627776) (ok&&decide (v*10+(mR P i - 48)≤1099511627776));omega
  · simp only;omega
def eZ (P:List Pt) (i:Nat):Nat:=dD (fun k=>dQ P k||dn P k) P.length i
def lq (s:ByteArray) (P:List Pt) (i:Nat):ByteArray:=s.extract (aT s P i) (aT s P (eZ P i))
def jL (s:ByteArray) (P:List Pt) (i:Nat):Tk×Bool×Nat:=(⟨1,fold (lq s P i),0,i⟩,decide ((lq s P i).size≤100),eZ P i)
def bK (P:List Pt) (i:Nat):Nat:=if gy P i 45 then i+1 else i
def iA (P:List Pt) (i:Nat):Int×Bool×Nat:=num P (bK P i) 0 (dn P (bK P i))
def dh (P:List Pt) (i:Nat):Tk×Bool×Nat:=(⟨2,⟨#[]⟩,if gy P i 45 then -(iA P i).1 else (iA P i).1,i⟩,(iA P i).2.1&& !dQ P (iA P i).2.2,(iA P i).2.2)
def bZ (P:List Pt) (next:Int) (i:Nat):Nat:=dD (fun k=>match P[k]? with|some p=>decide ((p.at_:Int)<next)|none=>false) P.length i
def jf (s:ByteArray) (P:List Pt) (i:Nat):Tk×Bool×Nat:=
 match dz s (aT s P i)with
 |some x=>(⟨3,x.1,0,i⟩,decide (x.1.size≤100)&&valid x.1,bZ P x.2 i)
 |none=>(⟨3,⟨#[]⟩,0,i⟩,false,i)
def yF (r:Int):Bool:=r==40||r==41||r==44||r==59||r==61||r==42
def dF (s:ByteArray) (P:List Pt) (i:Nat):Tk×Bool×Nat:=
 if dQ P i then jL s P i
 else if dn P i||gy P i 45 then dh P i
 else if gy P i 39 then jf s P i
 else if yF (mR P i)then (⟨4,⟨#[UInt8.ofNat (mR P i).toNat]⟩,0,i⟩,true,i+1)
 else (⟨0,⟨#[]⟩,0,0⟩,false,i)
def dS (s:ByteArray) (P:List Pt):Nat→Nat→Except Nat (List Tk)
 |0,_=> .ok []
 |n+1,i=>
  if P.length≤skip P i then .ok []
  else if (dF s P (skip P i)).2.1 then (dS s P n (dF s P (skip P i)).2.2).map ((dF s P (skip P i)).1:: ·)
  else .error (skip P i)
def aX (s:ByteArray):List Tk×Nat×Int:=
 if 1000<s.size then ([],0,2)
 else match dS s (pts s) ((pts s).length+1) 0 with
  | .ok l=>(l,0,0)
  | .error a=>([],a,3)
end aH
def yG (T:TypeId) (flat:List Pt→List Value) (L:Nat) (w:World) (b:Nat) (s:ByteArray) (P:List Pt) (i:Nat):Prop:=
 L≤w.heap.size∧b<L∧∃a cap,w.heap[b]? =some (.cells #[.string s, .slice a P.length cap, .int .i64 i] T (0,0))∧
  (0<P.length→∃g,a=some ⟨g,0,none⟩∧g≠b∧g<L∧∀j u,(flat P)[j]? =some u→w.cell? ⟨g,j,none⟩=some u)
section
variable {T:TypeId}{flat:List Pt→List Value}{L:Nat}{w w' :World}{b:Nat}{s:ByteArray}{P:List Pt}{i:Nat}
theorem yG.heap (h:yG T flat L w b s P i) (hh:w'.heap=w.heap):yG T flat L w' b s P i:=by
 obtain ⟨h0,h0',a,cap,h1,h2⟩:=h
 refine ⟨by rw [hh];exact h0,h0',a,cap,by rw [hh];exact h1,fun hp=> ?_⟩
 obtain ⟨g,e1,e2,e3,e4⟩:=h2 hp
 refine ⟨g,e1,e2,e3,fun j u hj=> ?_⟩
 rw [←e4 j u hj]
 unfold World.cell?
 rw [hh]
theorem yG.keep (h:yG T flat L w b s P i) (hs:w.heap.size≤w'.heap.size) (hb:∀k,k<L→w'.heap[k]? =w.heap[k]?):yG T flat L w' b s P i:=by
 obtain ⟨h0,h0',a,cap,h1,h2⟩:=h
 refine ⟨Nat.le_trans h0 hs,h0',a,cap,by rw [hb b h0'];exact h1,fun hp=> ?_⟩
 obtain ⟨g,e1,e2,e3,e4⟩:=h2 hp
 refine ⟨g,e1,e2,e3,fun j u hj=> ?_⟩
 rw [←e4 j u hj]
 unfold World.cell?
 rw [hb g e3]
theorem yG.below (h:yG T flat L w b s P i) (hb:Below w.heap.size w w'):yG T flat L w' b s P i:=
 h.keep hb.size (fun k hk=>hb.block k (Nat.lt_of_lt_of_le hk h.1))
theorem yG.lt (h:yG T flat L w b s P i):b<w.heap.size:=Nat.lt_of_lt_of_le h.2.1 h.1
theorem yG.le (h:yG T flat L w b s P i):L≤w.heap.size:=h.1
theorem yG.set (h:yG T flat L w b s P i) (j:Nat):yG T flat L (w.setCell ⟨b,2,none⟩ (.int .i64 j)) b s P j:=by
 obtain ⟨h0,h0',a,cap,h1,h2⟩:=h
 refine ⟨by simpa [World.setCell]using h0,h0',a,cap,bU h1 2 _,fun hp=> ?_⟩
 obtain ⟨g,e1,e2,e3,e4⟩:=h2 hp
 refine ⟨g,e1,e2,e3,fun k u hj=> ?_⟩
 rw [←e4 k u hj]
 unfold World.cell?
 rw [Below.heap_setCell _ _ _ _ e2]
theorem yG.setOther (h:yG T flat L w b s P i) {g:Nat}(hg:L≤g) (o:Nat) (u:Value):yG T flat L (w.setCell ⟨g,o,none⟩ u) b s P i:=
 h.keep (by simp [World.setCell]) (fun k hk=>Below.heap_setCell _ _ _ _ (by show k≠g;omega))
end
theorem aK {a b c:World}{r:Option Nat}(h:a.grownBy b r) (k:b.grownBy c r):a.grownBy c r:=
 ⟨k.os.trans h.os,k.tape.trans h.tape,k.output.trans h.output,Nat.le_trans h.size k.size,fun i hi hr=>(k.block i (Nat.lt_of_lt_of_le hi h.size) hr).trans (h.block i hi hr)⟩
theorem o8 (a:World) (r:Option Nat):a.grownBy a r:=⟨rfl,rfl,rfl,Nat.le_refl _,fun _ _ _=>rfl⟩
theorem bq (a:World) (n:Nat) (r:Option Nat):a.grownBy (a.drewN n) r:=⟨rfl,rfl,rfl,Nat.le_refl _,fun _ _ _=>rfl⟩
theorem jB {a b:World}(h:Below a.heap.size a b) (r:Option Nat):a.grownBy b r:=⟨h.os,h.tape,h.output,h.size,fun i hi _=>h.block i hi⟩
theorem jd (a:World) (b:Nat) (o:Nat) (u:Value):a.grownBy (a.setCell ⟨b,o,none⟩ u) (some b):=
 ⟨rfl,rfl,rfl,by simp [World.setCell],fun i _ hr=>Below.heap_setCell _ _ _ _ (fun e=>hr (by rw [e]))⟩
theorem jM {a b:World}{B k:Nat}(h:a.grownBy b (some k)) (hB:B≤k) (hs:B≤a.heap.size):Below B a b:=
 ⟨h.os,h.tape,h.output,h.size,fun i hi=>h.block i (by omega) (fun e=>by cases e;omega)⟩
def jg (p:Pt):List Value:= [.int .i32 p.r, .int .i64 p.at_, .bool p.ok]
def yH (l:List Pt):List Value:=l.flatMap jg
theorem Ab (l:List Pt) (p:Pt):yH l++jg p=yH (l++ [p]):=by simp [yH]
theorem jV:∀(l:List Pt) (k j:Nat) (h:k<l.length) (_:j<3),(yH l)[k*3+j]? =(jg l[k])[j]?
 |p::l,0,j,_,hj=>by
  simp only [yH,List.flatMap_cons,Nat.zero_mul,Nat.zero_add,List.getElem_cons_zero]
  rw [List.getElem?_append_left (by simp [jg];omega)]
 |p::l,k+1,j,h,hj=>by
  have:=jV l k j (by simp at h;omega) hj
  simp only [yH,List.flatMap_cons,List.getElem_cons_succ]at this⊢
  rw [List.getElem?_append_right (by simp [jg];omega)]
  have e:(k+1)*3+j - (jg p).length=k*3+j:=by simp [jg];omega
  rw [e];exact this
abbrev SQ:=yG 117 yH
theorem Tn {L:Nat}(w:World) (b:Nat) (s:ByteArray) (P:List Pt) (i:Nat) (h:SQ L w b s P i):
 Calls Tryz.prog 79 #[.pointer (some ⟨b,0,none⟩)] w fun e w' =>e= .returned (.bool (decide (P.length≤i)))∧∃m,w' =w.drewN m:=by
 obtain ⟨_,_,a,cap,h1,_⟩:=h
 have c1:w.cell? ⟨b,1,none⟩=some (.slice a P.length cap):=by rw [aj h1];rfl
 have c2:w.cell? ⟨b,2,none⟩=some (.int .i64 i):=by rw [aj h1];rfl
 clear h1
 go_enter Tryz.func79,Tryz.ntmps79
 go_wp2_with fail
 go_quiet (fail)
 go_wp2_with fail
 go_ret
 exact ⟨gT (by simp),_,rfl⟩
theorem nV {L:Nat}(w:World) (b:Nat) (s:ByteArray) (P:List Pt) (i:Nat) (h:SQ L w b s P i) (v:Bool) (hv:decide (P.length≤i)=v):
 Calls Tryz.prog 79 #[.pointer (some ⟨b,0,none⟩)] w fun e w' =>e= .returned (.bool v)∧∃m,w' =w.drewN m:=by
 rw [←hv];exact Tn w b s P i h
theorem yG.cells {T:TypeId}{flat:List Pt→List Value}{L:Nat}{w:World}{b:Nat}{s:ByteArray}{P:List Pt}{i:Nat}(h:yG T flat L w b s P i):
 ∃a cap,w.cell? ⟨b,0,none⟩=some (.string s)∧w.cell? ⟨b,1,none⟩=some (.slice a P.length cap)∧w.cell? ⟨b,2,none⟩=some (.int .i64 i)∧w.frozen? ⟨b,2,none⟩=false∧
 (0<P.length→∃g,a=some ⟨g,0,none⟩∧∀j u,(flat P)[j]? =some u→w.cell? ⟨g,j,none⟩=some u):=by
 obtain ⟨_,_,a,cap,h1,h2⟩:=h
 refine ⟨a,cap,by rw [aj h1];rfl,by rw [aj h1];rfl,by rw [aj h1];rfl,ah h1 2,fun hp=> ?_⟩
 obtain ⟨g,e1,_,_,e4⟩:=h2 hp
 exact ⟨g,e1,e4⟩
theorem Wo {L:Nat}(w:World) (b:Nat) (s:ByteArray) (P:List Pt) (i more:Nat) (r:Int) (h:SQ L w b s P i) (hi:i≤1000000) (hm:more≤1):
 Calls Tryz.prog 119 #[.pointer (some ⟨b,0,none⟩), .int .i64 more, .int .i32 r] w fun e w' =>e= .returned (.bool (gy P (i+more) r))∧∃m,w' =w.drewN m:=by
 obtain ⟨a,cap,c0,c1,c2,_,h2⟩:=h.cells
 have hw:IntKind.i64.wrap ((i:Int)+(more:Int))=(i:Int)+(more:Int):=IntWalk.i64_in _ (by omega)
 have hn:((i:Int)+(more:Int)).toNat=i+more:=by omega
 have h0:(0:Int)≤(i:Int)+(more:Int):=by omega
 by_cases hlt:i+more<P.length
 · obtain ⟨g,rfl,hc⟩:=h2 (by omega)
   have c3:w.cell? ⟨g,(i+more)*3,none⟩=some (.int .i32 P[i+more].r):=hc _ _ (by have:=jV P (i+more) 0 hlt (by omega);rw [Nat.add_zero]at this;rw [this];rfl)
   have HE:Hid (gy P (i+more) r=((P[i+more].r:Int)==r)):=by show _=_;unfold gy;rw [List.getElem?_eq_getElem hlt]
   have h3:(i:Int)+(more:Int)<(P.length:Int):=by omega
   have hd:decide ((i:Int)+(more:Int)<(P.length:Int))=true:=decide_eq_true h3
   clear hc h2 c0
   generalize P[i+more]=q at *
   go_enter Tryz.func119,Tryz.ntmps119
   go_wp2_with fail
   go_quiet (fail)
   go_wp2_with fail
   go_ret
   exact ⟨gT (by rw [HE.out]),_,rfl⟩
 · have HE:Hid (gy P (i+more) r=false):=by show _=_;unfold gy;rw [List.getElem?_eq_none (by omega)]
   have hd:decide ((i:Int)+(more:Int)<(P.length:Int))=false:=decide_eq_false (by omega)
   clear h2 c0
   go_enter Tryz.func119,Tryz.ntmps119
   go_wp2_with fail
   go_quiet (fail)
   go_wp2_with fail
   go_ret
   exact ⟨gT (by rw [HE.out]),_,rfl⟩
theorem uh {L:Nat}(w:World) (b:Nat) (s:ByteArray) (P:List Pt) (i k:Nat) (h:SQ L w b s P i):
 Calls Tryz.prog 160 #[.pointer (some ⟨b,0,none⟩), .int .i64 k] w fun e w' =>e= .returned (.int .i64 (aT s P k))∧w' =w:=by
 obtain ⟨a,cap,c0,c1,c2,_,h2⟩:=h.cells
 by_cases hlt:k<P.length
 · obtain ⟨g,rfl,hc⟩:=h2 (by omega)
   have c3:w.cell? ⟨g,k*3+1,none⟩=some (.int .i64 P[k].at_):=hc _ _ (by rw [jV P k 1 hlt (by omega)];rfl)
   have HE:Hid (aT s P k=P[k].at_):=by show _=_;unfold aT;rw [List.getElem?_eq_getElem hlt]
   clear hc h2
   generalize P[k]=q at *
   go_enter Tryz.func160,Tryz.ntmps160
   go_wp2_with fail
   go_ret
   exact ⟨lN (by rw [HE.out]),rfl⟩
 · have HE:Hid (aT s P k=s.size):=by show _=_;unfold aT;rw [List.getElem?_eq_none (by omega)]
   clear h2
   go_enter Tryz.func160,Tryz.ntmps160
   go_wp2_with fail
   go_ret
   exact ⟨lN (by rw [HE.out]),rfl⟩
theorem Ee {L:Nat}(w:World) (b:Nat) (s:ByteArray) (P:List Pt) (i:Nat) (h:SQ L w b s P i):
 Calls Tryz.prog 120 #[.pointer (some ⟨b,0,none⟩)] w fun e w' =>e= .returned (.bool (dQ P i))∧∃m,w' =w.drewN m:=by
 obtain ⟨a,cap,c0,c1,c2,_,h2⟩:=h.cells
 by_cases hlt:i<P.length
 · obtain ⟨g,rfl,hc⟩:=h2 (by omega)
   have c3:w.cell? ⟨g,i*3+2,none⟩=some (.bool P[i].ok):=hc _ _ (by rw [jV P i 2 hlt (by omega)];rfl)
   have c4:w.cell? ⟨g,i*3,none⟩=some (.int .i32 P[i].r):=hc _ _ (by have:=jV P i 0 hlt (by omega);rw [Nat.add_zero]at this;rw [this];rfl)
   have HE:Hid (dQ P i=(P[i].ok&&(kT P[i].r||(decide (65≤(P[i].r:Int))&&decide ((P[i].r:Int)≤90))))):=by show _=_;unfold dQ;rw [List.getElem?_eq_getElem hlt]
   have he:=Lib.hid (fun n=>nV (w.drewN n) b s P i (h.heap rfl) false (decide_eq_false (by omega)))
   have h3:(i:Int)<(P.length:Int):=by omega
   have h4:(0:Int)≤(i:Int):=by omega
   clear hc h2 c0 h
   generalize P[i]=q at *
   obtain ⟨ok,hok⟩:∃ok,q.ok=ok:=⟨_,rfl⟩
   obtain ⟨r,hr⟩:∃r:Nat,q.r=r:=⟨_,rfl⟩
   rw [hok,hr]at HE
   rw [hok]at c3
   rw [hr]at c4
   clear hok hr
   cases ok
   · go_enter Tryz.func120,Tryz.ntmps120
     go_wp2_with fail
     go_quiet ((go_at_call 79;exact Calls.quiet_of (he.out _)))
     go_wp2_with fail
     go_ret
     exact ⟨gT (by rw [HE.out];rfl),_,rfl⟩
   · go_enter Tryz.func120,Tryz.ntmps120
     go_wp2_with fail
     go_quiet ((go_at_call 79;exact Calls.quiet_of (he.out _)))
     go_wp2_with fail
     go_quiet (fail)
     go_wp2_with fail
     all_goals go_ret
     all_goals refine ⟨gT ?_,_,rfl⟩
     all_goals (rw [HE.out];unfold kT;rw [Bool.eq_iff_iff];simp;try omega)
 · have HE:Hid (dQ P i=false):=by show _=_;unfold dQ;rw [List.getElem?_eq_none (by omega)]
   have he:=Lib.hid (fun n=>nV (w.drewN n) b s P i (h.heap rfl) true (decide_eq_true (by omega)))
   clear h2 c0 h
   go_enter Tryz.func120,Tryz.ntmps120
   go_wp2_with fail
   go_quiet ((go_at_call 79;exact Calls.quiet_of (he.out _)))
   go_wp2_with fail
   go_ret
   exact ⟨gT (by rw [HE.out]),_,rfl⟩
theorem Ef {L:Nat}(w:World) (b:Nat) (s:ByteArray) (P:List Pt) (i:Nat) (h:SQ L w b s P i):
 Calls Tryz.prog 122 #[.pointer (some ⟨b,0,none⟩)] w fun e w' =>e= .returned (.bool (dn P i))∧∃m,w' =w.drewN m:=by
 obtain ⟨a,cap,c0,c1,c2,_,h2⟩:=h.cells
 by_cases hlt:i<P.length
 · obtain ⟨g,rfl,hc⟩:=h2 (by omega)
   have c4:w.cell? ⟨g,i*3,none⟩=some (.int .i32 P[i].r):=hc _ _ (by have:=jV P i 0 hlt (by omega);rw [Nat.add_zero]at this;rw [this];rfl)
   have HE:Hid (dn P i=kE P[i].r):=by show _=_;unfold dn;rw [List.getElem?_eq_getElem hlt]
   have he:=Lib.hid (fun n=>nV (w.drewN n) b s P i (h.heap rfl) false (decide_eq_false (by omega)))
   have h3:(i:Int)<(P.length:Int):=by omega
   have h4:(0:Int)≤(i:Int):=by omega
   clear hc h2 c0 h
   generalize P[i]=q at *
   obtain ⟨r,hr⟩:∃r:Nat,q.r=r:=⟨_,rfl⟩
   rw [hr]at HE
   rw [hr]at c4
   clear hr
   by_cases h5:48≤r
   · have h5d:decide ((48:Int)≤(r:Int))=true:=decide_eq_true (by omega)
     go_enter Tryz.func122,Tryz.ntmps122
     go_wp2_with fail
     go_quiet ((go_at_call 79;exact Calls.quiet_of (he.out _)))
     go_wp2_with fail
     go_ret
     exact ⟨gT (by rw [HE.out];unfold kE;rw [h5d];simp),_,rfl⟩
   · have h5d:decide ((48:Int)≤(r:Int))=false:=decide_eq_false (by omega)
     go_enter Tryz.func122,Tryz.ntmps122
     go_wp2_with fail
     go_quiet ((go_at_call 79;exact Calls.quiet_of (he.out _)))
     go_wp2_with fail
     go_ret
     exact ⟨gT (by rw [HE.out];unfold kE;rw [h5d];simp),_,rfl⟩
 · have HE:Hid (dn P i=false):=by show _=_;unfold dn;rw [List.getElem?_eq_none (by omega)]
   have he:=Lib.hid (fun n=>nV (w.drewN n) b s P i (h.heap rfl) true (decide_eq_true (by omega)))
   clear h2 c0 h
   go_enter Tryz.func122,Tryz.ntmps122
   go_wp2_with fail
   go_quiet ((go_at_call 79;exact Calls.quiet_of (he.out _)))
   go_wp2_with fail
   go_ret
   exact ⟨gT (by rw [HE.out]),_,rfl⟩
end Go.Proofs.YtfbgdjcnlnfoaaaGreatDoor
