/- Parts of a proof. -/
import Derived.WalkKit
import Derived.WalkSpells
import Derived.WalkLawsBesides
import Derived.Lib.OthersKept
import Derived.Lib.Hide
import Derived.Shelf.Strings.Builder1
import Derived.Shelf.Strings.Builder2
import Derived.Shelf.Strings.OnBuilder
import Derived.Shelf.Strings.BuilderF
import Derived.Shelf.Strings.BuilderK
import Derived.Shelf.Utf8.RuneCount
import Derived.Shelf.Strings.Builder2Cap
import Derived.Shelf.Strconv.Itoa0
import Derived.Shelf.Strconv.Itoa1
import Derived.Shelf.LaysM
import Derived.Shelf.Strconv.Itoa2
import Derived.Shelf.Strconv.Itoa3
import Derived.Shelf.Strings.Search1
import Derived.Shelf.Strings.Search2
import Derived.Shelf.Strings.Search3
import Derived.Shelf.Strings.Count
import Derived.Shelf.Strings.Shaped
import Derived.Shelf.Strings.Split
import Derived.Shelf.Strings.Fields
import Derived.Shelf.Strings.Replace
import Derived.Shelf.Strings.SplitShaped
import Derived.Shelf.Unicode.Latin
import Derived.Shelf.Unicode.Decode
import Derived.Shelf.Strings.RuneCount
import Derived.Shelf.Unicode.DecodeSlow
import Derived.Shelf.Unicode.DecodeAny
import Derived.Shelf.Unicode.Is16White
import Derived.Shelf.Unicode.IsSpaceAny
import Derived.Shelf.Unicode.Is16WhiteD
import Derived.Shelf.Unicode.Is16Any
import Derived.Shelf.Unicode.Is32Any
import Derived.Shelf.Unicode.ExclAny
import Derived.Shelf.Strings.BuilderCap
import Derived.Shelf.Slices.Turned
import Derived.Shelf.Slices.Equal
import Derived.Shelf.Slices.Empties2
import Derived.Lib.ReplaceLaws
import Derived.Test.YtcgadodckoalnaaGreatDoorB01
import Derived.Test.YtcgadodckoalnaaGreatDoorChecked
import Derived.Test.YtcgadodckoalnaaGreatDoorProg
set_option maxHeartbeats 1000000
set_option maxRecDepth 100000
namespace Go.Proofs.YtcgadodckoalnaaGreatDoor
open Go.RowKit
namespace aN
theorem iterPos_of {w:World}{k:Nat}{s:ByteArray}{p:Nat}(h:w.heap[k]? =some (.stringIter s p)):w.iterPos k=p:=by simp [World.iterPos,h]
theorem qI {k:IntKind}{a b:Int}(h:a=b):Ending.returned (.int k a)= .returned (.int k b):=by rw [h]
theorem Fw {a b:ByteArray}(h:a=b):Ending.returned (.string a)= .returned (.string b):=by rw [h]
theorem cB {a b:Bool}(h:a=b):Ending.returned (.bool a)= .returned (.bool b):=by rw [h]
theorem iG (b o j:Nat):(⟨b,o,none⟩:Addr).add j=⟨b,o+j,none⟩:=by
 unfold Addr.add;split
 · rename_i h;subst h;rfl
 · rfl
theorem au {w:World}{b:Nat}{C:Array Value}{t:TypeId}{fr:Nat×Nat}(h:w.heap[b]? =some (.cells C t fr)) (j:Nat):w.cell? ⟨b,j,none⟩=C[j]? :=by
 unfold World.cell?;rw [h];simp
theorem GH {w:World}{b:Nat}{C:Array Value}{t:TypeId}{lo hi:Nat}(h:w.heap[b]? =some (.cells C t (lo,hi))) (j:Nat) (hj:j<lo):w.frozen? ⟨b,j,none⟩=false:=by
 unfold World.frozen?;rw [h];simp;omega
theorem aj {w:World}{b:Nat}{C:Array Value}{t:TypeId}(h:w.heap[b]? =some (.cells C t (0,0))) (j:Nat):w.frozen? ⟨b,j,none⟩=false:=by
 unfold World.frozen?;rw [h];simp
theorem aD {w:World}{b:Nat}{o:Obj}(h:w.heap[b]? =some o):b<w.heap.size:=(Array.getElem?_eq_some_iff.1 h).1
theorem dB {w:World}{b:Nat}{C:Array Value}{t:TypeId}{fr:Nat×Nat}(h:w.heap[b]? =some (.cells C t fr)) (j:Nat) (v:Value):
 (w.setCell ⟨b,j,none⟩ v).heap[b]? =some (.cells (C.setIfInBounds j v) t fr):=by
 simp only [World.setCell,Array.getElem?_modify,h,Option.map_some];simp
theorem aA (w:World) (o:Obj):(w.alloc o).heap[w.heap.size]? =some o:=by
 show (w.heap.push o)[w.heap.size]? =_;simp
theorem aC {w:World}{b:Nat}{o:Obj}(h:w.heap[b]? =some o) (x:Obj):(w.alloc x).heap[b]? =some o:=by
 rw [Below.heap_alloc _ _ _ (aD h)];exact h
theorem bN {w:World}{b:Nat}{o:Obj}(h:w.heap[b]? =some o) (a:Addr) (u:Value) (hne:b≠a.block):(w.setCell a u).heap[b]? =some o:=by
 rw [Below.heap_setCell _ _ _ _ hne];exact h
theorem aZ {w w' :World}{B b:Nat}{o:Obj}(h:w.heap[b]? =some o) (hb:Below B w w') (hlt:b<B):w'.heap[b]? =some o:=by
 rw [hb.block b hlt];exact h
theorem below_drewN {B:Nat}{a w:World}(h:Below B a w) (n:Nat):Below B a (w.drewN n):=h.trans ⟨rfl,rfl,rfl,Nat.le_refl _,fun _ _=>rfl⟩
theorem ownsRow_below {w w' :World}{base:Nat}{e:TypeId}{size:Nat}{v:Value}{n:Nat}{xs:List Value}(h:w.ownsRow base e size v n xs) (hb:Below w.heap.size w w'):w'.ownsRow base e size v n xs:=by
 obtain ⟨h1,h2⟩:=h;refine ⟨h1, ?_⟩;rcases h2 with h2|⟨g,cap,cur,a,b,c,d⟩
 · exact .inl h2
 · exact .inr ⟨g,cap,cur,a,b,aZ c hb (aD c),d⟩
theorem yY (w:World) (L:List Value) (t:TypeId):∀j u,L[j]? =some u→(w.alloc (.cells L.toArray t)).cell? ((⟨w.heap.size,0,none⟩:Addr).add j)=some u:=by
 intro j u hj;rw [iG,Nat.zero_add,au (aA w _)];simpa using hj
theorem aS {w:World}{base:Nat}{e:TypeId}{size:Nat}{g cap n:Nat}{xs:List Value}(h:w.ownsRow base e size (.slice (some ⟨g,0,none⟩) n cap) n xs) (j:Nat) (u:Value) (hj:xs[j]? =some u):w.cell? ⟨g,j,none⟩=some u:=by
 have:=h.cells (g:=g) rfl j u hj;rwa [iG,Nat.zero_add]at this
end aN
open aN
theorem uJ (s:ByteArray) (w:World) (hs:s.size≤1000000):
 Calls Tryz.prog 20 #[.string s] w fun e w' =>e= .returned (.int .i64 (pts s).length)∧Below w.heap.size w w' :=by
 go_enter Tryz.func20,Tryz.ntmps20
 go_wp2
 go_loopw [3] (fun v wr=>∃(pos k:Nat),wr.heap[w.heap.size]? =some (.stringIter s pos)∧Below w.heap.size w wr∧v= .int .i64 k∧Hid ((pts s).length=k+(dS s pos).length)∧k≤pos∧pos≤s.size) (fun _ wr=>s.size - wr.iterPos w.heap.size)
 case atStart=>exact ⟨0,0,World.iter_heap w s 0,(Below.refl _ _).alloc (Nat.le_refl _) _,rfl,(by show _=_;rw [ji];simp),by omega,by omega⟩
 case round=>
  obtain ⟨pos,k,hit,hbw,rfl,HS,hk,hpos⟩:=hrel;have Et:=iterPos_of hit;by_cases hp:pos<s.size
  · have hnx:∀ty,(Instr.next (.pointer (some ⟨w.heap.size,0,none⟩)) true ty).run Tryz.prog wr=_:=fun ty=>Lib.run_next_any_at wr w.heap.size s pos ty hit hp
    have hwd:=width_pos s pos hp;have hwl:=width_le s pos hp
    go_wp2
    go_roundw
    case rel=>exact ⟨_,k+1,Lib.iterAt_heap wr w.heap.size s pos _ hit,Lib.below_iterAt hbw (Nat.le_refl _) s _,by go_num,(by show _=_;rw [HS.out,bM s pos hp];simp;omega),by omega,by omega⟩
    case measure=>rw [iterPos_of (Lib.iterAt_heap wr w.heap.size s pos _ hit),Et];omega
  · have hnx:∀ty,(Instr.next (.pointer (some ⟨w.heap.size,0,none⟩)) true ty).run Tryz.prog wr=_:=fun ty=>Lib.run_next_end_at wr w.heap.size s pos ty hit hp
    go_wp2
    go_ret;exact ⟨qI (by rw [HS.out,bR s pos hp];simp),hbw⟩
theorem XI (s:ByteArray) (w:World) (hs:s.size≤1000000):
 Calls Tryz.prog 140 #[.string s] w fun e w' =>e= .returned (.string (fold s))∧Below w.heap.size w w' :=by
 have Ny:=run_bytes_of_string (P:=Tryz.prog) w 9 142 5 s Tryz.underlying9 Tryz.underlying142 Tryz.underlying5;obtain ⟨cap,hcap⟩:∃cap,grownCap w s.size 0 5=cap:=⟨_,rfl⟩;rw [hcap]at Ny;have hce:s.size≤cap:=by rw [←hcap];exact grownCap_ge w s.size 0 5
 clear hcap;obtain ⟨C,hC⟩:∃C,bytesRow s cap=C:=⟨_,rfl⟩;rw [hC]at Ny;have hCs:s.size≤C.size:=by rw [←hC];simp [bytesRow]
 have HC:Hid (∀j (hj:j<s.data.size),C[j]? =some (.int .u8 (s.data[j].toNat:Int))):=fun j hj=>by rw [←hC];exact bytesRow_at s cap j hj
 clear hC;go_enter Tryz.func140,Tryz.ntmps140
 go_wp2
 go_loopw [10] (fun v wr=>∃(k:Nat) (D:Array Value),k≤s.size∧v= .int .i64 k∧Below w.heap.size w wr∧wr.heap[w.heap.size]? =some (.cells D 5 (C.size,C.size+1))∧D.size=C.size∧Hid (∀j (hj:j<s.data.size),D[j]? =some (.int .u8 (if j<k then ((rX s.data[j]).toNat:Int)else (s.data[j].toNat:Int))))) (fun v _=>s.size - (intOf v).toNat)
 case atStart=>exact ⟨0,C,by omega,rfl,((Below.refl _ _).alloc (Nat.le_refl _) _).drew,aA w _,rfl,fun j hj=>by rw [HC.out j hj];simp⟩
 case round=>
  obtain ⟨k,D,hk,rfl,hbw,hblk,hDs,HD⟩:=hrel;by_cases hlt:k<s.size
  · have hc0:wr.cell? ⟨w.heap.size,k,none⟩=some (.int .u8 (s.data[k].toNat:Int)):=by rw [au hblk,HD.out k hlt];simp
    have hf0:wr.frozen? ⟨w.heap.size,k,none⟩=false:=GH hblk k (by omega);have hlow:=RF s.data[k];obtain ⟨c,hc⟩:∃c,s.data[k]=c:=⟨_,rfl⟩;rw [hc]at hc0 hlow;have hb:=c.toNat_lt;have hor:bits .or .u8 (c.toNat:Int) 32=((c.toNat|||32:Nat):Int):=u8_or_nat c.toNat 32 (by omega) (by omega);have HL:Hid ((rX c).toNat=if 65≤c.toNat∧c.toNat≤90 then c.toNat|||32 else c.toNat):=hlow;have HCe:Hid (s.data[k]=c):=hc;clear hlow hc
    go_wp2
    all_goals (
     go_roundw
     case measure=>simp [intOf];omega)
    case rel=>
     refine ⟨k+1,_,by omega,by go_num,hbw.setCell (by simp) _,dB hblk _ _,by simp [hDs],fun j hj=> ?_⟩;have h1:=HD.out j hj;by_cases hjk:j=k
     · subst hjk;rw [Array.getElem?_setIfInBounds_self_of_lt (by omega),if_pos (by omega),HCe.out,HL.out,if_pos ⟨by omega,by omega⟩]
     · rw [Array.getElem?_setIfInBounds_ne (Ne.symm hjk),h1];by_cases h2:j<k
       · rw [if_pos h2,if_pos (by omega)]
       · rw [if_neg h2,if_neg (by omega)]
    all_goals
     refine ⟨k+1,D,by omega,by go_num,hbw,hblk,hDs,fun j hj=> ?_⟩;have h1:=HD.out j hj;by_cases hjk:j=k
     · subst hjk;rw [h1,if_neg (by omega),if_pos (by omega),HCe.out,HL.out,if_neg (by omega)]
     · rw [h1];by_cases h2:j<k
       · rw [if_pos h2,if_pos (by omega)]
       · rw [if_neg h2,if_neg (by omega)]
  · have hc0:∀j (hj:j<(s.data.map rX).toList.length),wr.cell? ((⟨w.heap.size,0,none⟩:Addr).add j)=some (.int .u8 ((s.data.map rX).toList[j].toNat:Int)):=fun j hj=>by
     simp at hj;rw [iG,Nat.zero_add];rw [au hblk,HD.out j hj,if_pos (by have:s.data.size=s.size:=rfl;omega)];simp
    have hback:=run_convert_bytes_back (P:=Tryz.prog) wr 142 9 5 ⟨w.heap.size,0,none⟩ cap (s.data.map rX).toList Tryz.underlying142 Tryz.underlying5 Tryz.underlying9 hc0;have hl:(s.data.map rX).toList.length=s.size:=by simp
    rw [hl]at hback;clear hc0 hl
    go_wp2
    go_ret;exact ⟨Fw (by unfold fold;congr 1;apply Array.ext';simp),hbw⟩
end Go.Proofs.YtcgadodckoalnaaGreatDoor
namespace Go.Proofs
open Go.Shelf
def Tryz.Eu:Go.Shelf.Ren:=⟨fun|167=>162|240=>146|276=>167|n=>n,fun|0=>0|4=>4|5=>5|9=>9|20=>20|37=>142|70=>141|72=>144|75=>146|164=>183|80=>98|n=>n,fun|n=>n⟩
theorem Tryz.aaR:Go.Proofs.Lays.n167 Tryz.prog Tryz.Eu:={
 mixed:=by kernel_rfl
 f167:=Tryz.func162.trans (congrArg some (by kernel_rfl))
 f240:=Tryz.func146.trans (congrArg some (by kernel_rfl))
 f276:=Tryz.func167.trans (congrArg some (by kernel_rfl))
 t0:=Tryz.underlying0
 a0:=Tryz.isAgg0
 z0:=Tryz.sizeOf0
 v0:=Tryz.zeroValue0
 t4:=Tryz.underlying4
 a4:=Tryz.isAgg4
 z4:=Tryz.sizeOf4
 v4:=Tryz.zeroValue4
 t5:=Tryz.underlying5
 a5:=Tryz.isAgg5
 z5:=Tryz.sizeOf5
 v5:=Tryz.zeroValue5
 t9:=Tryz.underlying9
 a9:=Tryz.isAgg9
 z9:=Tryz.sizeOf9
 v9:=Tryz.zeroValue9
 t20:=Tryz.underlying20
 a20:=Tryz.isAgg20
 z20:=Tryz.sizeOf20
 v20:=Tryz.zeroValue20
 t37:=Tryz.underlying142
 a37:=Tryz.isAgg142
 z37:=Tryz.sizeOf142
 v37:=Tryz.zeroValue142
 t70:=Tryz.underlying141
 a70:=Tryz.isAgg141
 z70:=Tryz.sizeOf141
 v70:=Tryz.zeroValue141
 t72:=Tryz.underlying144
 a72:=Tryz.isAgg144
 z72:=Tryz.sizeOf144
 v72:=Tryz.zeroValue144
 t75:=Tryz.underlying146
 a75:=Tryz.isAgg146
 z75:=Tryz.sizeOf146
 v75:=Tryz.zeroValue146
 t164:=Tryz.underlying183
 a164:=Tryz.isAgg183
 z164:=Tryz.sizeOf183
 v164:=Tryz.zeroValue183}
theorem Tryz.BO:Builder.Extra Tryz.prog Tryz.Eu:={
 sizeBuilder:=by kernel_rfl
 liesBuilder:=by kernel_rfl
 t5:=Tryz.underlying5
 a5:=Tryz.isAgg5
 z5:=Tryz.sizeOf5
 v5:=Tryz.zeroValue5
 infoByte:=by kernel_rfl
 cellsByte:=by kernel_rfl
 sizeByte:=by kernel_rfl
 neB5:=by decide}
open Go.RowKit in
theorem Tryz.Builder_WriteByte (B b:Nat) (bs:List Value) (c:Int) (w:World) (h:Lib.IsBuilder 144 5 B b bs w) (hlen:bs.length+1≤140737488355328) (hBw:B≤w.heap.size):
 Calls Tryz.prog 162 #[.pointer (some ⟨b,0,none⟩), .int .u8 c] w fun e w' =>e= .returned .nilIface∧(Lib.BuilderAt 144 5 B b (.pointer (some ⟨b,0,none⟩)) (bs++ [.int .u8 c]) w' ∧Below B w w'):=Any.Builder_WriteByte Tryz.aaR Tryz.BO B b bs c w h hlen hBw
def Tryz.Ev:Go.Shelf.Ren:=⟨fun|169=>118|n=>n,fun|70=>141|9=>9|0=>0|72=>144|37=>142|127=>163|3=>3|5=>5|n=>n,fun|n=>n⟩
theorem Tryz.aaS:Go.Proofs.Lays.n169 Tryz.prog Tryz.Ev:={
 mixed:=by kernel_rfl
 f169:=Tryz.func118.trans (congrArg some (by kernel_rfl))
 t0:=Tryz.underlying0
 a0:=Tryz.isAgg0
 z0:=Tryz.sizeOf0
 v0:=Tryz.zeroValue0
 t3:=Tryz.underlying3
 a3:=Tryz.isAgg3
 z3:=Tryz.sizeOf3
 v3:=Tryz.zeroValue3
 t9:=Tryz.underlying9
 a9:=Tryz.isAgg9
 z9:=Tryz.sizeOf9
 v9:=Tryz.zeroValue9
 t37:=Tryz.underlying142
 a37:=Tryz.isAgg142
 z37:=Tryz.sizeOf142
 v37:=Tryz.zeroValue142
 t70:=Tryz.underlying141
 a70:=Tryz.isAgg141
 z70:=Tryz.sizeOf141
 v70:=Tryz.zeroValue141
 t72:=Tryz.underlying144
 a72:=Tryz.isAgg144
 z72:=Tryz.sizeOf144
 v72:=Tryz.zeroValue144
 t127:=Tryz.underlying163
 a127:=Tryz.isAgg163
 z127:=Tryz.sizeOf163
 v127:=Tryz.zeroValue163}
theorem Tryz.BP:Builder.Extra Tryz.prog Tryz.Ev:={
 sizeBuilder:=by kernel_rfl
 liesBuilder:=by kernel_rfl
 t5:=Tryz.underlying5
 a5:=Tryz.isAgg5
 z5:=Tryz.sizeOf5
 v5:=Tryz.zeroValue5
 infoByte:=by kernel_rfl
 cellsByte:=by kernel_rfl
 sizeByte:=by kernel_rfl
 neB5:=by decide}
open Go.RowKit in
theorem Tryz.Builder_String_any (B b:Nat) (l:List UInt8) (w:World) (h:Lib.IsBuilder 144 5 B b (Lib.byteCells l) w) (hBw:B≤w.heap.size):
 Calls Tryz.prog 118 #[.pointer (some ⟨b,0,none⟩)] w fun e w' =>e= .returned (.string ⟨l.toArray⟩)∧Below B w w' :=Any.Builder_String_any Tryz.aaS Tryz.BP B b l w h hBw
def Tryz.Ew:Go.Shelf.Ren:=⟨fun|156=>73|165=>116|166=>117|169=>118|240=>146|241=>147|276=>167|277=>168|n=>n,fun|31=>27|9=>9|3=>3|4=>4|0=>0|20=>20|72=>144|76=>147|70=>141|37=>142|75=>146|127=>163|164=>183|5=>5|80=>98|n=>n,fun|n=>n⟩
theorem Tryz.Sm:Go.Proofs.Lays.n156 Tryz.prog Tryz.Ew:={
 mixed:=by kernel_rfl
 f156:=Tryz.func73.trans (congrArg some (by kernel_rfl))
 f165:=Tryz.func116.trans (congrArg some (by kernel_rfl))
 f166:=Tryz.func117.trans (congrArg some (by kernel_rfl))
 f169:=Tryz.func118.trans (congrArg some (by kernel_rfl))
 f240:=Tryz.func146.trans (congrArg some (by kernel_rfl))
 f241:=Tryz.func147.trans (congrArg some (by kernel_rfl))
 f276:=Tryz.func167.trans (congrArg some (by kernel_rfl))
 f277:=Tryz.func168.trans (congrArg some (by kernel_rfl))
 t0:=Tryz.underlying0
 a0:=Tryz.isAgg0
 z0:=Tryz.sizeOf0
 v0:=Tryz.zeroValue0
 t3:=Tryz.underlying3
 a3:=Tryz.isAgg3
 z3:=Tryz.sizeOf3
 v3:=Tryz.zeroValue3
 t4:=Tryz.underlying4
 a4:=Tryz.isAgg4
 z4:=Tryz.sizeOf4
 v4:=Tryz.zeroValue4
 t9:=Tryz.underlying9
 a9:=Tryz.isAgg9
 z9:=Tryz.sizeOf9
 v9:=Tryz.zeroValue9
 t20:=Tryz.underlying20
 a20:=Tryz.isAgg20
 z20:=Tryz.sizeOf20
 v20:=Tryz.zeroValue20
 t31:=Tryz.underlying27
 a31:=Tryz.isAgg27
 z31:=Tryz.sizeOf27
 v31:=Tryz.zeroValue27
 t37:=Tryz.underlying142
 a37:=Tryz.isAgg142
 z37:=Tryz.sizeOf142
 v37:=Tryz.zeroValue142
 t70:=Tryz.underlying141
 a70:=Tryz.isAgg141
 z70:=Tryz.sizeOf141
 v70:=Tryz.zeroValue141
 t72:=Tryz.underlying144
 a72:=Tryz.isAgg144
 z72:=Tryz.sizeOf144
 v72:=Tryz.zeroValue144
 t75:=Tryz.underlying146
 a75:=Tryz.isAgg146
 z75:=Tryz.sizeOf146
 v75:=Tryz.zeroValue146
 t76:=Tryz.underlying147
 a76:=Tryz.isAgg147
 z76:=Tryz.sizeOf147
 v76:=Tryz.zeroValue147
 t127:=Tryz.underlying163
 a127:=Tryz.isAgg163
 z127:=Tryz.sizeOf163
 v127:=Tryz.zeroValue163
 t164:=Tryz.underlying183
 a164:=Tryz.isAgg183
 z164:=Tryz.sizeOf183
 v164:=Tryz.zeroValue183}
theorem Tryz.sM:Builder.Extra Tryz.prog Tryz.Ew:={
 sizeBuilder:=by kernel_rfl
 liesBuilder:=by kernel_rfl
 t5:=Tryz.underlying5
 a5:=Tryz.isAgg5
 z5:=Tryz.sizeOf5
 v5:=Tryz.zeroValue5
 infoByte:=by kernel_rfl
 cellsByte:=by kernel_rfl
 sizeByte:=by kernel_rfl
 neB5:=by decide}
open Go.RowKit in
theorem Tryz.strings_Join_none (a:Option Addr) (c:Nat) (sep:ByteArray) (w:World):
 Calls Tryz.prog 73 #[.slice a 0 c, .string sep] w fun e w' =>e= .returned (.string ⟨#[]⟩)∧w' =w:=Any.strings_Join_none Tryz.Sm Tryz.sM a c sep w
open Go.RowKit in
theorem Tryz.strings_Join (bk o c:Nat) (xs:List ByteArray) (sep:ByteArray) (w:World) (hcells:∀(j:Nat) x,xs[j]? =some x→w.cell? ⟨bk,o+j,none⟩=some (.string x)) (hbk:bk<w.heap.size) (hN:xs.length≤140737488355328) (hcap:xs.length≤c) (hlen:(Lib.join (xs.map (·.data.toList)) sep.data.toList).length≤140737488355328):
 Calls Tryz.prog 73 #[.slice (some ⟨bk,o,none⟩) xs.length c, .string sep] w fun e w' =>e= .returned (.string ⟨(Lib.join (xs.map (·.data.toList)) sep.data.toList).toArray⟩)∧Below w.heap.size w w' :=Any.strings_Join Tryz.Sm Tryz.sM bk o c xs sep w hcells hbk hN hcap hlen
def Tryz.Lh:Go.Shelf.Ren:=⟨fun|171=>39|243=>77|246=>120|283=>149|284=>150|285=>151|286=>152|129=>172|317=>171|318=>173|319=>174|320=>175|337=>180|338=>181|n=>n,fun|3=>3|9=>9|2=>2|4=>4|171=>165|0=>0|53=>166|37=>142|5=>5|173=>169|212=>188|51=>189|20=>20|213=>190|46=>172|232=>211|233=>212|n=>n,fun|17=>3|18=>6|19=>7|n=>n⟩
theorem Tryz.XJ:Go.Proofs.LaysM.n171 Tryz.prog Tryz.Lh:={
 mixed:=by kernel_rfl
 f129:=Tryz.func172.trans (congrArg some (by kernel_rfl))
 f171:=Tryz.func39.trans (congrArg some (by kernel_rfl))
 f243:=Tryz.func77.trans (congrArg some (by kernel_rfl))
 f246:=Tryz.func120.trans (congrArg some (by kernel_rfl))
 f283:=Tryz.func149.trans (congrArg some (by kernel_rfl))
 f284:=Tryz.func150.trans (congrArg some (by kernel_rfl))
 f285:=Tryz.func151.trans (congrArg some (by kernel_rfl))
 f286:=Tryz.func152.trans (congrArg some (by kernel_rfl))
 f317:=Tryz.func171.trans (congrArg some (by kernel_rfl))
 f318:=Tryz.func173.trans (congrArg some (by kernel_rfl))
 f319:=Tryz.func174.trans (congrArg some (by kernel_rfl))
 f320:=Tryz.func175.trans (congrArg some (by kernel_rfl))
 f337:=Tryz.func180.trans (congrArg some (by kernel_rfl))
 f338:=Tryz.func181.trans (congrArg some (by kernel_rfl))
 t0:=Tryz.underlying0
 a0:=Tryz.isAgg0
 z0:=Tryz.sizeOf0
 v0:=Tryz.zeroValue0
 t2:=Tryz.underlying2
 a2:=Tryz.isAgg2
 z2:=Tryz.sizeOf2
 v2:=Tryz.zeroValue2
 t3:=Tryz.underlying3
 a3:=Tryz.isAgg3
 z3:=Tryz.sizeOf3
 v3:=Tryz.zeroValue3
 t4:=Tryz.underlying4
 a4:=Tryz.isAgg4
 z4:=Tryz.sizeOf4
 v4:=Tryz.zeroValue4
 t5:=Tryz.underlying5
 a5:=Tryz.isAgg5
 z5:=Tryz.sizeOf5
 v5:=Tryz.zeroValue5
 t9:=Tryz.underlying9
 a9:=Tryz.isAgg9
 z9:=Tryz.sizeOf9
 v9:=Tryz.zeroValue9
 t20:=Tryz.underlying20
 a20:=Tryz.isAgg20
 z20:=Tryz.sizeOf20
 v20:=Tryz.zeroValue20
 t37:=Tryz.underlying142
 a37:=Tryz.isAgg142
 z37:=Tryz.sizeOf142
 v37:=Tryz.zeroValue142
 t46:=Tryz.underlying172
 a46:=Tryz.isAgg172
 z46:=Tryz.sizeOf172
 v46:=Tryz.zeroValue172
 t51:=Tryz.underlying189
 a51:=Tryz.isAgg189
 z51:=Tryz.sizeOf189
 v51:=Tryz.zeroValue189
 t53:=Tryz.underlying166
 a53:=Tryz.isAgg166
 z53:=Tryz.sizeOf166
 v53:=Tryz.zeroValue166
 t171:=Tryz.underlying165
 a171:=Tryz.isAgg165
 z171:=Tryz.sizeOf165
 v171:=Tryz.zeroValue165
 t173:=Tryz.underlying169
 a173:=Tryz.isAgg169
 z173:=Tryz.sizeOf169
 v173:=Tryz.zeroValue169
 t212:=Tryz.underlying188
 a212:=Tryz.isAgg188
 z212:=Tryz.sizeOf188
 v212:=Tryz.zeroValue188
 t213:=Tryz.underlying190
 a213:=Tryz.isAgg190
 z213:=Tryz.sizeOf190
 t232:=Tryz.underlying211
 a232:=Tryz.isAgg211
 z232:=Tryz.sizeOf211
 v232:=Tryz.zeroValue211
 t233:=Tryz.underlying212
 a233:=Tryz.isAgg212
 z233:=Tryz.sizeOf212
 v233:=Tryz.zeroValue212
 g17:=by kernel_rfl
 g18:=by kernel_rfl
 g19:=by kernel_rfl
 i0:=by kernel_rfl
 i2:=by kernel_rfl
 i3:=by kernel_rfl
 i4:=by kernel_rfl
 i5:=by kernel_rfl
 i9:=by kernel_rfl
 i20:=by kernel_rfl
 i37:=by kernel_rfl
 i46:=by kernel_rfl
 i51:=by kernel_rfl
 i53:=by kernel_rfl
 i171:=by kernel_rfl
 i173:=by kernel_rfl
 i212:=by kernel_rfl
 i232:=by kernel_rfl
 i233:=by kernel_rfl
 m17:=by kernel_rfl
 m18:=by kernel_rfl
 m19:=by kernel_rfl}
open Go.RowKit Go.Sort Go.Lib in
theorem Tryz.strconv_Itoa (n:Int) (h0: -9223372036854775808≤n) (h1:n≤9223372036854775807) (w:World) (htab:Lib.TabIs Tryz.prog w "internal/strconv.uint64pow10" .u64 Lib.pow10Tab):
 Calls Tryz.prog 39 #[.int .i64 n] w fun e w' =>e= .returned (.string ⟨(Lib.itoa n).toArray⟩)∧∃k os,w' =grow (w.drewN k) os:=Any.strconv_Itoa Tryz.XJ n h0 h1 w htab
def Tryz.Nz:Go.Shelf.Ren:=⟨fun|157=>145|229=>165|199=>166|261=>176|311=>182|312=>183|n=>n,fun|9=>9|31=>27|3=>3|5=>5|4=>4|119=>175|0=>0|40=>156|152=>193|21=>21|154=>195|51=>189|141=>197|196=>203|193=>200|198=>206|49=>204|194=>201|201=>209|226=>213|46=>172|227=>214|n=>n,fun|0=>2|6=>4|n=>n⟩
theorem Tryz.aaT:Go.Proofs.Lays.n157 Tryz.prog Tryz.Nz:={
 mixed:=by kernel_rfl
 f157:=Tryz.func145.trans (congrArg some (by kernel_rfl))
 f199:=Tryz.func166.trans (congrArg some (by kernel_rfl))
 f229:=Tryz.func165.trans (congrArg some (by kernel_rfl))
 f261:=Tryz.func176.trans (congrArg some (by kernel_rfl))
 f311:=Tryz.func182.trans (congrArg some (by kernel_rfl))
 f312:=Tryz.func183.trans (congrArg some (by kernel_rfl))
 t0:=Tryz.underlying0
 a0:=Tryz.isAgg0
 z0:=Tryz.sizeOf0
 v0:=Tryz.zeroValue0
 t3:=Tryz.underlying3
 a3:=Tryz.isAgg3
 z3:=Tryz.sizeOf3
 v3:=Tryz.zeroValue3
 t4:=Tryz.underlying4
 a4:=Tryz.isAgg4
 z4:=Tryz.sizeOf4
 v4:=Tryz.zeroValue4
 t5:=Tryz.underlying5
 a5:=Tryz.isAgg5
 z5:=Tryz.sizeOf5
 v5:=Tryz.zeroValue5
 t9:=Tryz.underlying9
 a9:=Tryz.isAgg9
 z9:=Tryz.sizeOf9
 v9:=Tryz.zeroValue9
 t21:=Tryz.underlying21
 a21:=Tryz.isAgg21
 z21:=Tryz.sizeOf21
 v21:=Tryz.zeroValue21
 t31:=Tryz.underlying27
 a31:=Tryz.isAgg27
 z31:=Tryz.sizeOf27
 v31:=Tryz.zeroValue27
 t40:=Tryz.underlying156
 a40:=Tryz.isAgg156
 z40:=Tryz.sizeOf156
 v40:=Tryz.zeroValue156
 t46:=Tryz.underlying172
 a46:=Tryz.isAgg172
 z46:=Tryz.sizeOf172
 v46:=Tryz.zeroValue172
 t49:=Tryz.underlying204
 a49:=Tryz.isAgg204
 z49:=Tryz.sizeOf204
 v49:=Tryz.zeroValue204
 t51:=Tryz.underlying189
 a51:=Tryz.isAgg189
 z51:=Tryz.sizeOf189
 v51:=Tryz.zeroValue189
 t119:=Tryz.underlying175
 a119:=Tryz.isAgg175
 z119:=Tryz.sizeOf175
 t141:=Tryz.underlying197
 a141:=Tryz.isAgg197
 z141:=Tryz.sizeOf197
 v141:=Tryz.zeroValue197
 t152:=Tryz.underlying193
 a152:=Tryz.isAgg193
 z152:=Tryz.sizeOf193
 v152:=Tryz.zeroValue193
 t154:=Tryz.underlying195
 a154:=Tryz.isAgg195
 z154:=Tryz.sizeOf195
 v154:=Tryz.zeroValue195
 t193:=Tryz.underlying200
 a193:=Tryz.isAgg200
 z193:=Tryz.sizeOf200
 v193:=Tryz.zeroValue200
 t194:=Tryz.underlying201
 a194:=Tryz.isAgg201
 z194:=Tryz.sizeOf201
 v194:=Tryz.zeroValue201
 t196:=Tryz.underlying203
 a196:=Tryz.isAgg203
 z196:=Tryz.sizeOf203
 v196:=Tryz.zeroValue203
 t198:=Tryz.underlying206
 a198:=Tryz.isAgg206
 z198:=Tryz.sizeOf206
 v198:=Tryz.zeroValue206
 t201:=Tryz.underlying209
 a201:=Tryz.isAgg209
 z201:=Tryz.sizeOf209
 v201:=Tryz.zeroValue209
 t226:=Tryz.underlying213
 a226:=Tryz.isAgg213
 z226:=Tryz.sizeOf213
 v226:=Tryz.zeroValue213
 t227:=Tryz.underlying214
 a227:=Tryz.isAgg214
 z227:=Tryz.sizeOf214
 v227:=Tryz.zeroValue214
 g0:=by kernel_rfl
 g6:=by kernel_rfl}
open Go.RowKit Go.Lib in
theorem Tryz.strings_Fields (s:ByteArray) (w:World) (hs:s.size<4294967281) (hascii:∀(j:Nat) b,s.data.toList[j]? =some b→b.toNat<128) (htab:Lib.TabIs Tryz.prog w "strings.asciiSpace" .u8 Lib.asciiSpaceTab):
 Calls Tryz.prog 145 #[.string s] w fun e w' =>
  e= .returned (.slice (some ⟨w.heap.size,0,none⟩) (Lib.fields s.data.toList).length (Lib.fields s.data.toList).length)∧w' =w.alloc (.cells ((Lib.fields s.data.toList).map fun l=>Value.string ⟨l.toArray⟩).toArray 9):=Any.strings_Fields Tryz.aaT (by kernel_rfl) (by kernel_rfl) s w hs hascii htab
def Tryz.Ey:Go.Shelf.Ren:=⟨fun|155=>119|154=>148|138=>169|165=>116|143=>170|166=>117|197=>97|169=>118|195=>177|218=>178|240=>146|241=>147|219=>179|260=>138|276=>167|277=>168|217=>184|225=>185|224=>186|267=>187|266=>188|314=>189|n=>n,fun|9=>9|3=>3|4=>4|72=>144|0=>0|76=>147|105=>122|21=>21|5=>5|70=>141|20=>20|37=>142|75=>146|127=>163|164=>183|46=>172|119=>175|139=>178|138=>177|146=>215|51=>189|80=>98|n=>n,fun|1=>5|3=>0|4=>1|n=>n⟩
theorem Tryz.aaU:Go.Proofs.Lays.n155 Tryz.prog Tryz.Ey:={
 mixed:=by kernel_rfl
 f138:=Tryz.func169.trans (congrArg some (by kernel_rfl))
 f143:=Tryz.func170.trans (congrArg some (by kernel_rfl))
 f154:=Tryz.func148.trans (congrArg some (by kernel_rfl))
 f155:=Tryz.func119.trans (congrArg some (by kernel_rfl))
 f165:=Tryz.func116.trans (congrArg some (by kernel_rfl))
 f166:=Tryz.func117.trans (congrArg some (by kernel_rfl))
 f169:=Tryz.func118.trans (congrArg some (by kernel_rfl))
 f195:=Tryz.func177.trans (congrArg some (by kernel_rfl))
 f197:=Tryz.func97.trans (congrArg some (by kernel_rfl))
 f217:=Tryz.func184.trans (congrArg some (by kernel_rfl))
 f218:=Tryz.func178.trans (congrArg some (by kernel_rfl))
 f219:=Tryz.func179.trans (congrArg some (by kernel_rfl))
 f224:=Tryz.func186.trans (congrArg some (by kernel_rfl))
 f225:=Tryz.func185.trans (congrArg some (by kernel_rfl))
 f240:=Tryz.func146.trans (congrArg some (by kernel_rfl))
 f241:=Tryz.func147.trans (congrArg some (by kernel_rfl))
 f260:=Tryz.func138.trans (congrArg some (by kernel_rfl))
 f266:=Tryz.func188.trans (congrArg some (by kernel_rfl))
 f267:=Tryz.func187.trans (congrArg some (by kernel_rfl))
 f276:=Tryz.func167.trans (congrArg some (by kernel_rfl))
 f277:=Tryz.func168.trans (congrArg some (by kernel_rfl))
 f314:=Tryz.func189.trans (congrArg some (by kernel_rfl))
 t0:=Tryz.underlying0
 a0:=Tryz.isAgg0
 z0:=Tryz.sizeOf0
 v0:=Tryz.zeroValue0
 t3:=Tryz.underlying3
 a3:=Tryz.isAgg3
 z3:=Tryz.sizeOf3
 v3:=Tryz.zeroValue3
 t4:=Tryz.underlying4
 a4:=Tryz.isAgg4
 z4:=Tryz.sizeOf4
 v4:=Tryz.zeroValue4
 t5:=Tryz.underlying5
 a5:=Tryz.isAgg5
 z5:=Tryz.sizeOf5
 v5:=Tryz.zeroValue5
 t9:=Tryz.underlying9
 a9:=Tryz.isAgg9
 z9:=Tryz.sizeOf9
 v9:=Tryz.zeroValue9
 t20:=Tryz.underlying20
 a20:=Tryz.isAgg20
 z20:=Tryz.sizeOf20
 v20:=Tryz.zeroValue20
 t21:=Tryz.underlying21
 a21:=Tryz.isAgg21
 z21:=Tryz.sizeOf21
 v21:=Tryz.zeroValue21
 t37:=Tryz.underlying142
 a37:=Tryz.isAgg142
 z37:=Tryz.sizeOf142
 v37:=Tryz.zeroValue142
 t46:=Tryz.underlying172
 a46:=Tryz.isAgg172
 z46:=Tryz.sizeOf172
 v46:=Tryz.zeroValue172
 t51:=Tryz.underlying189
 a51:=Tryz.isAgg189
 z51:=Tryz.sizeOf189
 v51:=Tryz.zeroValue189
 t70:=Tryz.underlying141
 a70:=Tryz.isAgg141
 z70:=Tryz.sizeOf141
 v70:=Tryz.zeroValue141
 t72:=Tryz.underlying144
 a72:=Tryz.isAgg144
 z72:=Tryz.sizeOf144
 v72:=Tryz.zeroValue144
 t75:=Tryz.underlying146
 a75:=Tryz.isAgg146
 z75:=Tryz.sizeOf146
 v75:=Tryz.zeroValue146
 t76:=Tryz.underlying147
 a76:=Tryz.isAgg147
 z76:=Tryz.sizeOf147
 v76:=Tryz.zeroValue147
 t105:=Tryz.underlying122
 a105:=Tryz.isAgg122
 z105:=Tryz.sizeOf122
 v105:=Tryz.zeroValue122
 t119:=Tryz.underlying175
 a119:=Tryz.isAgg175
 z119:=Tryz.sizeOf175
 t127:=Tryz.underlying163
 a127:=Tryz.isAgg163
 z127:=Tryz.sizeOf163
 v127:=Tryz.zeroValue163
 t138:=Tryz.underlying177
 a138:=Tryz.isAgg177
 z138:=Tryz.sizeOf177
 v138:=Tryz.zeroValue177
 t139:=Tryz.underlying178
 a139:=Tryz.isAgg178
 z139:=Tryz.sizeOf178
 v139:=Tryz.zeroValue178
 t146:=Tryz.underlying215
 a146:=Tryz.isAgg215
 z146:=Tryz.sizeOf215
 v146:=Tryz.zeroValue215
 t164:=Tryz.underlying183
 a164:=Tryz.isAgg183
 z164:=Tryz.sizeOf183
 v164:=Tryz.zeroValue183
 g1:=by kernel_rfl
 g3:=by kernel_rfl
 g4:=by kernel_rfl}
theorem Tryz.BQ:Builder.Extra Tryz.prog Tryz.Ey:={
 sizeBuilder:=by kernel_rfl
 liesBuilder:=by kernel_rfl
 t5:=Tryz.underlying5
 a5:=Tryz.isAgg5
 z5:=Tryz.sizeOf5
 v5:=Tryz.zeroValue5
 infoByte:=by kernel_rfl
 cellsByte:=by kernel_rfl
 sizeByte:=by kernel_rfl
 neB5:=by decide}
open Go.RowKit Go.Lib in
theorem Tryz.strings_ReplaceAll (s old new:ByteArray) (m:Int) (w:World) (hs:s.size<4294967281) (hm:w.cell? ⟨5,0,none⟩=some (.int .i64 m)) (h1:1≤old.size) (hlen:s.size+Lib.countB s old*new.size≤140737488355328):
 Calls Tryz.prog 119 #[.string s, .string old, .string new] w fun e w' =>
  e= .returned (.string ⟨(Lib.replaceAll s.data.toList old.data.toList new.data.toList).toArray⟩)∧Below w.heap.size w w' :=Any.strings_ReplaceAll Tryz.aaU Tryz.BQ s old new m w hs hm h1 hlen
def Tryz.Ez:Go.Shelf.Ren:=⟨fun|197=>97|260=>138|n=>n,fun|9=>9|21=>21|3=>3|4=>4|5=>5|105=>122|119=>175|0=>0|46=>172|139=>178|138=>177|n=>n,fun|3=>0|4=>1|n=>n⟩
theorem Tryz.Sn:Go.Proofs.Lays.n197 Tryz.prog Tryz.Ez:={
 mixed:=by kernel_rfl
 f197:=Tryz.func97.trans (congrArg some (by kernel_rfl))
 f260:=Tryz.func138.trans (congrArg some (by kernel_rfl))
 t0:=Tryz.underlying0
 a0:=Tryz.isAgg0
 z0:=Tryz.sizeOf0
 v0:=Tryz.zeroValue0
 t3:=Tryz.underlying3
 a3:=Tryz.isAgg3
 z3:=Tryz.sizeOf3
 v3:=Tryz.zeroValue3
 t4:=Tryz.underlying4
 a4:=Tryz.isAgg4
 z4:=Tryz.sizeOf4
 v4:=Tryz.zeroValue4
 t5:=Tryz.underlying5
 a5:=Tryz.isAgg5
 z5:=Tryz.sizeOf5
 v5:=Tryz.zeroValue5
 t9:=Tryz.underlying9
 a9:=Tryz.isAgg9
 z9:=Tryz.sizeOf9
 v9:=Tryz.zeroValue9
 t21:=Tryz.underlying21
 a21:=Tryz.isAgg21
 z21:=Tryz.sizeOf21
 v21:=Tryz.zeroValue21
 t46:=Tryz.underlying172
 a46:=Tryz.isAgg172
 z46:=Tryz.sizeOf172
 v46:=Tryz.zeroValue172
 t105:=Tryz.underlying122
 a105:=Tryz.isAgg122
 z105:=Tryz.sizeOf122
 v105:=Tryz.zeroValue122
 t119:=Tryz.underlying175
 a119:=Tryz.isAgg175
 z119:=Tryz.sizeOf175
 t138:=Tryz.underlying177
 a138:=Tryz.isAgg177
 z138:=Tryz.sizeOf177
 v138:=Tryz.zeroValue177
 t139:=Tryz.underlying178
 a139:=Tryz.isAgg178
 z139:=Tryz.sizeOf178
 v139:=Tryz.zeroValue178
 g3:=by kernel_rfl
 g4:=by kernel_rfl}
open Go.RowKit Go.Lib in
theorem Tryz.utf8_DecodeRuneInString (s:ByteArray) (w:World) (hT:Lib.Utf8Tabs 0 1 w):
 Calls Tryz.prog 97 #[.string s] w fun e w' =>e= .returned (.tuple #[.int .i32 (Lib.decodeGo s).1, .int .i64 (Lib.decodeGo s).2])∧Below w.heap.size w w' :=Any.utf8_DecodeRuneInString Tryz.Sn s w hT
def Tryz.NA:Go.Shelf.Ren:=⟨fun|110=>143|109=>164|n=>n,fun|31=>27|9=>9|4=>4|3=>3|0=>0|n=>n,fun|n=>n⟩
theorem Tryz.Sq:Go.Proofs.Lays.n110 Tryz.prog Tryz.NA:={
 mixed:=by kernel_rfl
 f109:=Tryz.func164.trans (congrArg some (by kernel_rfl))
 f110:=Tryz.func143.trans (congrArg some (by kernel_rfl))
 t0:=Tryz.underlying0
 a0:=Tryz.isAgg0
 z0:=Tryz.sizeOf0
 v0:=Tryz.zeroValue0
 t3:=Tryz.underlying3
 a3:=Tryz.isAgg3
 z3:=Tryz.sizeOf3
 v3:=Tryz.zeroValue3
 t4:=Tryz.underlying4
 a4:=Tryz.isAgg4
 z4:=Tryz.sizeOf4
 v4:=Tryz.zeroValue4
 t9:=Tryz.underlying9
 a9:=Tryz.isAgg9
 z9:=Tryz.sizeOf9
 v9:=Tryz.zeroValue9
 t31:=Tryz.underlying27
 a31:=Tryz.isAgg27
 z31:=Tryz.sizeOf27
 v31:=Tryz.zeroValue27}
open Go.Lib in
theorem Tryz.slices_Contains_string (b off n c:Nat) (zs:List ByteArray) (x:ByteArray) (w:World) (hz:n≤zs.length) (hbig:n≤9223372036854775807) (hc:∀j,j<zs.length→w.cell? ⟨b,off+j,none⟩=some (.string (zs.getD j ByteArray.empty))):
 Calls Tryz.prog 143 #[.slice (some ⟨b,off,none⟩) n c, .string x] w fun e w' =>e= .returned (.bool (Lib.containsS (zs.take n) x))∧w' =w:=Any.slices_Contains_string Tryz.Sq b off n c zs x w hz hbig hc
open Go.Lib in
theorem Tryz.slices_Contains_string_empty (a:Option Addr) (c:Nat) (x:ByteArray) (w:World):
 Calls Tryz.prog 143 #[.slice a 0 c, .string x] w fun e w' =>e= .returned (.bool false)∧w' =w:=Any.slices_Contains_string_empty Tryz.Sq a c x w
end Go.Proofs
namespace Go.Proofs.YtcgadodckoalnaaGreatDoor
open Go.RowKit
open aN
def Glob (w:World):Prop:=Lib.Utf8Tabs 0 1 w∧∃m,w.cell? ⟨5,0,none⟩=some (.int .i64 m)
theorem dZ {w:World}{a:Addr}{v:Value}(h:w.cell? a=some v):a.block<w.heap.size:=by
 unfold World.cell? at h;split at h
 · rename_i h1;exact aD h1
 · cases h
theorem Glob.below {w w' :World}(h:Glob w) (hb:Below w.heap.size w w'):Glob w' :=by
 first
  |exact ⟨Utf8Tabs_below h.1 hb,trivial⟩
  |(obtain ⟨h1,m,h2⟩:=h
    exact ⟨Utf8Tabs_below h1 hb,m,by rw [hb.cell (dZ h2)];exact h2⟩)
theorem Sr (s:ByteArray) (a:Nat) (w:World) (hG:Glob w) (h:a<s.size):
 Calls Tryz.prog 97 #[.string (s.extract a s.size)] w fun e w' =>e= .returned (.tuple #[.int .i32 (Utf8.decode s a).1, .int .i64 (Utf8.decode s a).2])∧Below w.heap.size w w' :=by
 have:=Tryz.utf8_DecodeRuneInString (s.extract a s.size) w hG.1;rw [Z6 s a h]at this;exact this
theorem Us (s:ByteArray) (a:Nat) (r:Int) (w:World) (hG:Glob w) (h:a<s.size) (_hs:s.size≤1000000):
 Calls Tryz.prog 163 #[.string s, .int .i64 a, .int .i32 r] w fun e w' =>e= .returned (.bool (r !=65533||decide (1<(Utf8.decode s a).2)))∧Below w.heap.size w w' :=by
 have hd:=Sr s a w hG h;clear hG;by_cases hr:r=65533
 · have hr1:(r !=65533)=false:=by simp [hr]
   clear hr;go_enter Tryz.func163,Tryz.ntmps163;go_wp2_with (go_at_call 97;refine hd.mono ?_;rintro e w' ⟨rfl,hb⟩);go_ret;exact ⟨cB (by simp [hr1];omega),hb⟩
 · have hr1:(r !=65533)=true:=by simp [hr]
   clear hr;go_enter Tryz.func163,Tryz.ntmps163;go_wp2_with fail;go_ret;exact ⟨cB (by simp [hr1]),Below.refl _ _⟩
theorem Ka (s:ByteArray) (w:World) (hG:Glob w) (hs:s.size≤1000000):
 Calls Tryz.prog 142 #[.string s] w fun e w' =>e= .returned (.bool (valid s))∧Below w.heap.size w w' :=by
 have HG:Hid (Glob w):=hG;clear hG;go_enter Tryz.func142,Tryz.ntmps142
 go_wp2
 go_loopw [] (fun wr=>∃(pos:Nat),wr.heap[w.heap.size]? =some (.stringIter s pos)∧Below w.heap.size w wr∧Hid (valid s=(dS s pos).all Pt.ok)∧pos≤s.size) (fun wr=>s.size - wr.iterPos w.heap.size)
 case atStart=>exact ⟨0,World.iter_heap w s 0,(Below.refl _ _).alloc (Nat.le_refl _) _,rfl,by omega⟩
 case round=>
  obtain ⟨pos,hit,hbw,HS,hpos⟩:=hrel;have Et:=iterPos_of hit;by_cases hp:pos<s.size
  · have hnx:∀ty,(Instr.next (.pointer (some ⟨w.heap.size,0,none⟩)) true ty).run Tryz.prog wr=_:=fun ty=>Lib.run_next_any_at wr w.heap.size s pos ty hit hp
    have hwd:=width_pos s pos hp;have hwl:=width_le s pos hp;have hit2:=Lib.iterAt_heap wr w.heap.size s pos (pos+(Utf8.decode s pos).2) hit;have hbw2:=Lib.below_iterAt hbw (k:=w.heap.size) (Nat.le_refl _) s (pos+(Utf8.decode s pos).2);obtain ⟨W1,hW1⟩:∃W1,W1=wr.iterAt w.heap.size s (pos+(Utf8.decode s pos).2):=⟨_,rfl⟩;rw [←hW1]at hnx hit2 hbw2;have hlt:=aD hit2;have hr:=Us s pos (Utf8.decode s pos).1 W1 (HG.out.below (hbw2.mono (by omega))) hp hs
    have HC:Hid (valid s=((((Utf8.decode s pos).1:Int) !=65533||decide (1<(Utf8.decode s pos).2))&&(dS s (pos+(Utf8.decode s pos).2)).all Pt.ok)):=by
     show _=_;rw [HS.out,bM s pos hp,List.all_cons];rfl
    clear hW1 hit hbw HS;cases hk:(((Utf8.decode s pos).1:Int) !=65533||decide (1<(Utf8.decode s pos).2))
    all_goals
     rw [hk]at hr HC;clear hk;go_wp2_with (go_at_call 163;refine hr.mono ?_;rintro e w' ⟨rfl,hb⟩)
    · go_ret;exact ⟨cB (by rw [HC.out];rfl),hbw2.trans (hb.mono (by omega))⟩
    · go_roundw
      case rel=>exact ⟨_,aZ hit2 hb hlt,hbw2.trans (hb.mono (by omega)),(by show _=_;rw [HC.out];simp),by omega⟩
      case measure=>rw [iterPos_of (aZ hit2 hb hlt),Et];omega
  · have hnx:∀ty,(Instr.next (.pointer (some ⟨w.heap.size,0,none⟩)) true ty).run Tryz.prog wr=_:=fun ty=>Lib.run_next_end_at wr w.heap.size s pos ty hit hp
    go_wp2
    go_ret;exact ⟨cB (by rw [HS.out,bR s pos hp];rfl),hbw⟩
theorem Li (s:ByteArray) (f:Int) (w:World) (_hs:s.size≤1000000) (h:¬(0≤f∧f<s.size∧s.data.toList[f.toNat]? =some 39)):
 Calls Tryz.prog 141 #[.string s, .int .i64 f] w fun e w' =>e= .returned (Pp (dn s f))∧Below w.heap.size w w' :=by
 have HE:Hid (dn s f=none):=by show _=_;unfold dn;rw [if_neg h]
 have HH:Hid (¬(0≤f∧f<s.size∧s.data.toList[f.toNat]? =some 39)):=h;clear h;by_cases h1:f<0
 · go_enter Tryz.func141,Tryz.ntmps141;go_wp2_with fail;go_ret3;exact ⟨by rw [HE.out];rfl,Below.refl _ _⟩
 · by_cases h2:(s.size:Int)≤f
   · go_enter Tryz.func141,Tryz.ntmps141;go_wp2_with fail;go_ret3;exact ⟨by rw [HE.out];rfl,Below.refl _ _⟩
   · obtain ⟨n,rfl⟩:=Int.eq_ofNat_of_zero_le (show 0≤f by omega);have hn:n<s.size:=by omega
     have hn2:n<s.data.toList.length:=by simp;exact hn
     have h3:((s[n].toNat:Int) !=39)=true:=by
      have:=HH.out;rw [Int.toNat_natCast,List.getElem?_eq_getElem hn2]at this;have h4:¬s.data.toList[n]=39:=fun e=>this ⟨by omega,by omega,by rw [e]⟩
      have h5:s[n]=s.data.toList[n]:=by simp;rfl
      rw [h5];have:s.data.toList[n].toNat≠39:=fun e=>h4 (UInt8.toNat_inj.1 e)
      exact bne_iff_ne.2 (by omega)
     clear HH;go_enter Tryz.func141,Tryz.ntmps141;go_wp2_with fail;go_ret3;exact ⟨by rw [HE.out];rfl,Below.refl _ _⟩
theorem lq (s:ByteArray) (k:Nat) (_h:k<s.size) (h2:k<s.data.toList.length):s.data.toList[k]=s[k]:=by simp;rfl
theorem xX (l:List UInt8) (c:UInt8):Lib.byteCells l++ [Value.int .u8 c.toNat]=Lib.byteCells (l++ [c]):=by simp [Lib.byteCells]
theorem Lj (s:ByteArray) (n:Nat) (w:World) (hs:s.size≤1000000) (hn:n<s.size) (h3:s.data.toList[n]? =some 39):
 Calls Tryz.prog 141 #[.string s, .int .i64 n] w fun e w' =>e= .returned (Pp (dn s n))∧Below w.heap.size w w' :=by
 have hl:s.data.toList.length=s.size:=by simp
 have HE:Hid (dn s n=(nM (s.data.toList.drop (n+1))).map fun x=>(⟨x.1.toArray⟩,(n:Int)+1+x.2)):=by
  show _=_;unfold dn;rw [if_pos ⟨by omega,by omega,by rw [Int.toNat_natCast];exact h3⟩];rfl
 have h4:((s[n].toNat:Int) !=39)=false:=by
  rw [List.getElem?_eq_getElem (by omega)]at h3;rw [←lq s n hn (by omega),Option.some.inj h3];rfl
 have Hl:Hid (s.data.toList.length=s.size):=hl;clear h3 hl;have h5:decide (s.size≤n)=false:=decide_eq_false (by omega);have h6:decide ((n:Int)<0)=false:=decide_eq_false (by omega);go_enter Tryz.func141,Tryz.ntmps141;go_wp2_with fail
 go_loopw [8] (fun v wr=>∃(k:Nat) (done:List UInt8),v= .int .i64 k∧n+1≤k∧k≤s.size∧Lib.IsBuilder 144 5 w.heap.size w.heap.size (Lib.byteCells done) wr∧Below w.heap.size w wr∧w.heap.size<wr.heap.size∧done.length≤k∧Hid (nM (s.data.toList.drop (n+1))=(nM (s.data.toList.drop k)).map fun x=>(done++x.1,x.2+(k - (n+1))))) (fun v _=>s.size+1 - (intOf v).toNat)
 case atStart=>exact ⟨n+1, [],by go_num,by omega,by omega,Lib.fresh_isBuilder _ _ w,(Below.refl _ _).alloc (Nat.le_refl _) _,by simp,by simp,by show _=_;simp⟩
 case round=>
  obtain ⟨k,done,rfl,hk1,hk2,hB,hbw,hz,hd,HS⟩:=hrel;have hbl:(Lib.byteCells done).length+1≤140737488355328:=by rw [Lib.byteCells_length];omega
  by_cases hlt:k<s.size
  · have hlt2:k<s.data.toList.length:=by have:=Hl.out;omega
    by_cases hq:s[k]=39
    · have hq1:((s[k].toNat:Int)==39)=true:=by rw [hq];rfl
      have Hq:Hid (s.data.toList[k]=39):=by show _=_;rw [lq s k hlt];exact hq
      clear hq;by_cases hend:(s.size:Int)≤(k:Int)+1
      · have HF:Hid (dn s n=some (⟨done.toArray⟩,(k:Int)+1)):=by
         show _=_;rw [HE.out,HS.out,MH hlt2 Hq.out (by have:=Hl.out;omega)];simp;omega
        go_wp2_with (go_at_call 118;refine (Tryz.Builder_String_any _ _ done _ hB (by omega)).mono ?_;rintro e w' ⟨rfl,hb⟩);go_ret3;exact ⟨by rw [HF.out];rfl,hbw.trans hb⟩
      · have NC:k+1<s.size:=by omega
        have ND:k+1<s.data.toList.length:=by have:=Hl.out;omega
        by_cases hq2:s[k+1]=39
        · have acX:((s[k+1].toNat:Int) !=39)=false:=by rw [hq2];rfl
          have HF:Hid (nM (s.data.toList.drop (n+1))=(nM (s.data.toList.drop (k+2))).map fun x=>((done++ [39])++x.1,x.2+(k+2 - (n+1)))):=by
           show _=_;rw [HS.out,RJ hlt2 Hq.out ND (by rw [lq s (k+1) NC];exact hq2)];cases nM (s.data.toList.drop (k+2))with
           |none=>rfl
           |some x=>simp;omega
          have H2:Hid (s[k+1]=39):=hq2;clear hq2 HS;go_wp2_with (go_at_call 162;refine (Tryz.Builder_WriteByte _ _ (Lib.byteCells done) _ _ hB hbl (by omega)).mono ?_;rintro e w' ⟨rfl,hB2,hb⟩);go_roundw
          case rel=>
           refine ⟨k+2,done++ [39],by go_num,by omega,by omega, ?_,hbw.trans hb, ?_,by simp;omega,HF⟩
           · have:=hB2;rw [xX,H2.out]at this;exact .inr this
           · exact Nat.lt_of_lt_of_le hz hb.size
          case measure=>simp [intOf];omega
        · have acX:((s[k+1].toNat:Int) !=39)=true:=by
           have:s[k+1].toNat≠39:=fun e=>hq2 (UInt8.toNat_inj.1 e)
           exact bne_iff_ne.2 (by omega)
          have HF:Hid (dn s n=some (⟨done.toArray⟩,(k:Int)+1)):=by
           show _=_;rw [HE.out,HS.out,MI hlt2 Hq.out ND (by rw [lq s (k+1) NC];exact hq2)];simp;omega
          clear hq2;go_wp2_with (go_at_call 118;refine (Tryz.Builder_String_any _ _ done _ hB (by omega)).mono ?_;rintro e w' ⟨rfl,hb⟩);go_ret3;exact ⟨by rw [HF.out];rfl,hbw.trans hb⟩
    · have hq1:((s[k].toNat:Int)==39)=false:=by
       have:s[k].toNat≠39:=fun e=>hq (UInt8.toNat_inj.1 e)
       exact beq_eq_false_iff_ne.2 (by omega)
      have HF:Hid (nM (s.data.toList.drop (n+1))=(nM (s.data.toList.drop (k+1))).map fun x=>((done++ [s[k]])++x.1,x.2+(k+1 - (n+1)))):=by
       show _=_;rw [HS.out,JG hlt2 (by rw [lq s k hlt];exact hq)];cases nM (s.data.toList.drop (k+1))with
       |none=>rfl
       |some x=>simp;exact ⟨rfl,by omega⟩
      clear hq HS;go_wp2_with (go_at_call 162;refine (Tryz.Builder_WriteByte _ _ (Lib.byteCells done) _ _ hB hbl (by omega)).mono ?_;rintro e w' ⟨rfl,hB2,hb⟩);go_roundw
      case rel=>
       refine ⟨k+1,done++ [s[k]],by go_num,by omega,by omega, ?_,hbw.trans hb, ?_,by simp;omega,HF⟩
       · have:=hB2;rw [xX]at this;exact .inr this
       · exact Nat.lt_of_lt_of_le hz hb.size
      case measure=>simp [intOf];omega
  · have HF:Hid (dn s n=none):=by
     show _=_;rw [HE.out,HS.out,RI (by have:=Hl.out;omega)];rfl
    go_wp2_with fail;go_ret3;exact ⟨by rw [HF.out];rfl,hbw⟩
theorem NG (s:ByteArray) (f:Int) (w:World) (hs:s.size≤1000000):
 Calls Tryz.prog 141 #[.string s, .int .i64 f] w fun e w' =>e= .returned (Pp (dn s f))∧Below w.heap.size w w' :=by
 by_cases h:0≤f∧f<s.size∧s.data.toList[f.toNat]? =some 39
 · obtain ⟨h1,h2,h3⟩:=h;obtain ⟨n,rfl⟩:=Int.eq_ofNat_of_zero_le h1;rw [Int.toNat_natCast]at h3;exact Lj s n w hs (by omega) h3
 · exact Li s f w hs h
theorem vP (s:ByteArray) (a k:Nat):kP s a (k+1)=(kP s a k&&decide (a+k<s.size∧bY s (a+k) / 64=2)):=rfl
theorem Qi (s:ByteArray) (a:Nat):∀n k,k≤n→kP s a n=true→kP s a k=true:=by
 intro n
 induction n with
 |zero=>intro k hk h;have:k=0:=by omega
        subst this;exact h
 |succ n ih=>
  intro k hk h;rw [vP,Bool.and_eq_true]at h;by_cases e:k=n+1
  · subst e;rw [vP,Bool.and_eq_true];exact h
  · exact ih k (by omega) h.1
theorem GI (s:ByteArray) (a n:Nat) (w:World) (hs:s.size≤2000000) (ha:a≤2000000) (hn:1≤n) (wU:n≤3):
 Calls Tryz.prog 153 #[.string s, .int .i64 a, .int .i64 n] w fun e w' =>e= .returned (.bool (kP s a n))∧w=w' :=by
 by_cases hb:s.size<a+n
 · have HF:Hid (kP s a n=false):=by
    obtain ⟨n,rfl⟩:∃m,n=m+1:=⟨n - 1,by omega⟩;show _=_;rw [vP,decide_eq_false (by omega),Bool.and_false]
   have hb1:(s.size:Int)<(a:Int)+(n:Int):=by omega
   clear hb;go_enter Tryz.func153,Tryz.ntmps153;go_wp2_with fail;go_ret;exact ⟨cB HF.out.symm,rfl⟩
 · have hb1:¬(s.size:Int)<(a:Int)+(n:Int):=by omega
   have hb2:a+n≤s.size:=by omega
   clear hb;go_enter Tryz.func153,Tryz.ntmps153;go_wp2_with fail
   go_loop [7] (fun v=>∃k:Nat,k≤n∧v= .int .i64 (a+k:Nat)∧Hid (kP s a k=true)) (fun v=>a+n - (intOf v).toNat)
   case atStart=>exact ⟨0,by omega,by go_num,rfl⟩
   case round=>
    obtain ⟨k,hk,rfl,HS⟩:=hrel;by_cases hlt:k<n
    · have hlt1:((a+k:Nat):Int)<(a:Int)+(n:Int):=by omega
      have hix:a+k<s.size:=by omega
      obtain ⟨c,hc⟩:∃c,s[a+k].toNat=c:=⟨_,rfl⟩;have hcb:bY s (a+k)=c:=by rw [←jZ s _ hix];exact hc
      have hc2:c<256:=by rw [←hcb];exact sD _ _
      have hand:bits .and .u8 (c:Int) 192=((c&&&192:Nat):Int):=u8_and_nat c 192 hc2 (by omega)
      have hS:Hid (kP s a (k+1)=decide (c / 64=2)):=by
       show _=_;rw [vP,HS.out,Bool.true_and,hcb];exact decide_eq_decide.2 ⟨fun h=>h.2,fun h=>⟨hix,h⟩⟩
      have hwi:((a+k:Nat):Int).toNat=a+k:=by omega
      have HN:Hid (kP s a (k+1)=false→kP s a n=false):=fun h=>by
       cases hh:kP s a n with
       |false=>rfl
       |true=>rw [Qi s a n (k+1) (by omega) hh]at h;cases h
      have aaV:=acA c hc2;by_cases hq:c / 64=2
      · have hq1:(((c&&&192:Nat):Int) !=128)=false:=by rw [aaV.2 hq];rfl
        have HT:Hid (kP s a (k+1)=true):=by show _=_;rw [hS.out];exact decide_eq_true hq
        have Hc:Hid (s[a+k].toNat=c):=hc;clear aaV hcb hq hS;go_wp2_with fail;go_round
        case rel=>exact ⟨k+1,by omega,by go_num,HT⟩
        case measure=>simp [intOf];omega
      · have hq1:(((c&&&192:Nat):Int) !=128)=true:=by
         have:(c&&&192:Nat)≠128:=fun e=>hq (aaV.1 e)
         exact bne_iff_ne.2 (by omega)
        have HT:Hid (kP s a n=false):=HN.out (by rw [hS.out];exact decide_eq_false hq);clear aaV hcb hq hS;go_wp2_with fail;go_ret;exact ⟨cB HT.out.symm,rfl⟩
    · have hkn:k=n:=by omega
      have HF:Hid (kP s a n=true):=by rw [←hkn];exact HS.out
      clear hkn HS;go_wp2_with fail;go_ret;exact ⟨cB HF.out.symm,rfl⟩
def Ut (p:Pt):Value:= .agg #[.int .i32 p.r, .int .i64 p.at_, .int .i64 p.n, .bool p.ok]
def ku (s:ByteArray) (a:Nat):Pt:=⟨(Utf8.decode s a).1,a,(Utf8.decode s a).2⟩
theorem tO {fn:Func}{R:Ending→World→Prop}{a:Act}{w:World}{q:Pt}{v:Value}(hr:(results fn a.tmps).run Tryz.prog w= .ok v w) (hd:a.defers= []) (hv:v=Ut q) (hR:R (.returned (Ut q)) w):bodyPost Tryz.prog fn R .ret a w:=by
 subst hv;exact bodyPost_ret hr hd hR
theorem Uu (s:ByteArray) (a:Nat) (w:World) (_hs:s.size≤2000000) (h:a<s.size) (h0:bY s a<128):
 Calls Tryz.prog 122 #[.string s, .int .i64 a] w fun e w' =>e= .returned (Ut (ku s a))∧Below w.heap.size w w' :=by
 obtain ⟨c,hc⟩:∃c,s[a].toNat=c:=⟨_,rfl⟩;have hcb:bY s a=c:=by rw [←jZ s _ h];exact hc
 have HD:Hid (ku s a=⟨c,a,1⟩):=by show _=_;unfold ku;rw [yP s a h h0,hcb]
 rw [hcb]at h0;clear hcb;go_enter Tryz.func122,Tryz.ntmps122;go_wp2_with fail;refine tO (q:=ku s a) (v:= .agg #[.int .i32 c, .int .i64 a, .int .i64 1, .bool true]) (by simp [results,Tryz.results122,go_sem]) rfl ?_ ⟨rfl,((Below.refl _ _).alloc (Nat.le_refl _) _).alloc (by simp) _⟩;rw [HD.out];have:(⟨c,a,1⟩:Pt).ok=true:=by simp [Pt.ok];omega
 unfold Ut;rw [this];rfl
theorem aaW (s:ByteArray) (a:Nat) (w:World) (_hs:s.size≤2000000) (h:a<s.size) (h0:128≤bY s a) (h1:bY s a<194∨245≤bY s a):
 Calls Tryz.prog 122 #[.string s, .int .i64 a] w fun e w' =>e= .returned (Ut (ku s a))∧Below w.heap.size w w' :=by
 have HD:Hid (ku s a=⟨65533,a,1⟩):=by show _=_;unfold ku;rw [Z8 s a h h0 (by omega)]
 obtain ⟨c,hc⟩:∃c,s[a].toNat=c:=⟨_,rfl⟩;have hcb:bY s a=c:=by rw [←jZ s _ h];exact hc
 rw [hcb]at h0 h1;have hc256:c<256:=by rw [←hcb];exact sD _ _
 clear hcb;rcases h1 with h1|h1
 all_goals
  go_enter Tryz.func122,Tryz.ntmps122;go_wp2_with fail;refine tO (q:=ku s a) (v:= .agg #[.int .i32 65533, .int .i64 a, .int .i64 1, .bool false]) (by simp [results,Tryz.results122,go_sem]) rfl ?_ ⟨rfl,(((Below.refl _ _).alloc (Nat.le_refl _) _).alloc (by simp) _)⟩;rw [HD.out];rfl
theorem aaX (s:ByteArray) (a:Nat) (w:World) (hs:s.size≤2000000) (h:a<s.size) (h0:194≤bY s a∧bY s a<224):
 Calls Tryz.prog 122 #[.string s, .int .i64 a] w fun e w' =>e= .returned (Ut (ku s a))∧Below w.heap.size w w' :=by
 obtain ⟨r,hr⟩:∃r,r=bY s a % 32*64+bY s (a+1) % 64:=⟨_,rfl⟩;have HD:=Lib.hid (Z9 s a h h0);have hcc:=fun w=>GI s (a+1) 1 w hs (by omega) (by omega) (by omega)
 obtain ⟨c,hc⟩:∃c,s[a].toNat=c:=⟨_,rfl⟩;have hcb:bY s a=c:=by rw [←jZ s _ h];exact hc
 rw [hcb]at h0;obtain ⟨h01,h02⟩:=h0;have HR:Hid (r=bY s a % 32*64+bY s (a+1) % 64):=hr;have HB:Hid (bY s a=c):=hcb;clear hr hcb;have abZ:decide ((c:Int)<128)=false:=decide_eq_false (by omega)
 have hand:bits .and .i32 (c:Int) 31=((c % 32:Nat):Int):=by
  have:=bits_mask .i32 31 (by decide) (fun n h0 h1=>wraps_i32 n h0 h1) 5 (by decide) (c:Int) (by omega) (by omega);simpa using this
 cases hcont:kP s (a+1) 1
 · have HE:Hid (ku s a=⟨65533,a,1⟩):=by
    have:=HD.out;rw [hcont]at this;show _=_;unfold ku;rw [this];rfl
   rw [hcont]at hcc;clear hcont HD;go_enter Tryz.func122,Tryz.ntmps122;go_wp2_with (go_at_call 153;refine (hcc _).mono ?_;rintro e w' ⟨rfl,rfl⟩);refine tO (q:=ku s a) (v:= .agg #[.int .i32 65533, .int .i64 a, .int .i64 1, .bool false]) (by simp [results,Tryz.results122,go_sem]) rfl ?_ ⟨rfl,(((Below.refl _ _).alloc (Nat.le_refl _) _).alloc (by simp) _)⟩;rw [HE.out];rfl
 have Qj:Hid (Utf8.decode s a=if true then (r,2)else (65533,1)):=by
  have:=HD.out;rw [hcont]at this;rw [←HR.out]at this;exact this
 rw [hcont]at hcc
 have HC:Hid (a+1<s.size):=by
  rw [JI]at hcont;exact (of_decide_eq_true hcont).1
 clear hcont HD;go_enter Tryz.func122,Tryz.ntmps122;go_wp2_with (go_at_call 153;refine (hcc _).mono ?_;rintro e w' ⟨rfl,rfl⟩)
 go_loop [8,9] (fun r i=>∃k:Nat,k≤1∧i= .int .i64 (k+1:Nat)∧r= .int .i32 (mZ s a (c % 32) k:Nat)) (fun _ i=>8 - (intOf i).toNat)
 case atStart=>exact ⟨0,by omega,rfl,by show Value.int _ _=Value.int _ (((c % 32:Nat)):Int);go_num⟩
 case round=>
  obtain ⟨k,hk,rfl,rfl⟩:=hrel;by_cases hlt:k<1
  · have hix:a+(k+1)<s.size:=by have:=HC.out;omega
    have hacc:=KO s a (c % 32) (by omega) k (by omega);obtain ⟨A,hA⟩:∃A,mZ s a (c % 32) k=A:=⟨_,rfl⟩;have HA:Hid (mZ s a (c % 32) (k+1)=A*64+bY s (a+(k+1)) % 64):=by show _=_;rw [←hA];rfl
    rw [hA]at hacc⊢;clear hA;obtain ⟨b,hb⟩:∃b,s[a+(k+1)].toNat=b:=⟨_,rfl⟩;have HBb:Hid (bY s (a+(k+1))=b):=by rw [←jZ s _ hix];exact hb
    have hb2:b<256:=by rw [←HBb.out];exact sD _ _
    go_wp2_with fail;go_round
    case rel=>exact ⟨k+1,by omega,by go_num,by rw [HA.out,HBb.out];go_num⟩
    case measure=>simp [intOf];omega
  · have hk2:k=1:=by omega
    subst hk2;have hRl:=KN s a (c % 32) (by omega) 1 (by omega);obtain ⟨R,hR⟩:∃R,mZ s a (c % 32) 1=R:=⟨_,rfl⟩;rw [hR]at hRl⊢;have hRr:R=r:=by rw [HR.out,←hR,HB.out];simp only [mZ,Nat.add_zero]
    rw [←hRr]at Qj;clear hR hRr;by_cases hg:True
    · have HE:Hid (ku s a=⟨R,a,2⟩):=by
       show _=_;unfold ku;rw [Qj.out,if_pos (by simp)]
      clear Qj
      skip
      all_goals
       go_wp2_with fail
      all_goals
       refine tO (q:=ku s a) (v:= .agg #[.int .i32 R, .int .i64 a, .int .i64 2, .bool true]) (by simp [results,Tryz.results122,go_sem]) rfl ?_ ⟨rfl,(((Below.refl _ _).alloc (Nat.le_refl _) _).alloc (by simp) _)⟩;rw [HE.out];have:(⟨R,a,2⟩:Pt).ok=true:=by simp [Pt.ok]
       unfold Ut;rw [this];rfl
    · exact absurd trivial hg
theorem Uv (s:ByteArray) (a:Nat) (w:World) (hs:s.size≤2000000) (h:a<s.size) (h0:224≤bY s a∧bY s a<240):
 Calls Tryz.prog 122 #[.string s, .int .i64 a] w fun e w' =>e= .returned (Ut (ku s a))∧Below w.heap.size w w' :=by
 obtain ⟨r,hr⟩:∃r,r=bY s a % 16*4096+bY s (a+1) % 64*64+bY s (a+2) % 64:=⟨_,rfl⟩;have HD:=Lib.hid (Tp s a h h0 r hr);have hcc:=fun w=>GI s (a+1) 2 w hs (by omega) (by omega) (by omega)
 obtain ⟨c,hc⟩:∃c,s[a].toNat=c:=⟨_,rfl⟩;have hcb:bY s a=c:=by rw [←jZ s _ h];exact hc
 rw [hcb]at h0;obtain ⟨h01,h02⟩:=h0;have HR:Hid (r=bY s a % 16*4096+bY s (a+1) % 64*64+bY s (a+2) % 64):=hr;have HB:Hid (bY s a=c):=hcb;clear hr hcb;have abZ:decide ((c:Int)<128)=false:=decide_eq_false (by omega);have afk:decide ((c:Int)<224)=false:=decide_eq_false (by omega)
 have hand:bits .and .i32 (c:Int) 15=((c % 16:Nat):Int):=by
  have:=bits_mask .i32 31 (by decide) (fun n h0 h1=>wraps_i32 n h0 h1) 4 (by decide) (c:Int) (by omega) (by omega);simpa using this
 cases hcont:kP s (a+1) 2
 · have HE:Hid (ku s a=⟨65533,a,1⟩):=by
    have:=HD.out;rw [hcont]at this;show _=_;unfold ku;rw [this];rfl
   rw [hcont]at hcc;clear hcont HD;go_enter Tryz.func122,Tryz.ntmps122;go_wp2_with (go_at_call 153;refine (hcc _).mono ?_;rintro e w' ⟨rfl,rfl⟩);refine tO (q:=ku s a) (v:= .agg #[.int .i32 65533, .int .i64 a, .int .i64 1, .bool false]) (by simp [results,Tryz.results122,go_sem]) rfl ?_ ⟨rfl,(((Below.refl _ _).alloc (Nat.le_refl _) _).alloc (by simp) _)⟩;rw [HE.out];rfl
 have Qj:Hid (Utf8.decode s a=if (true&& !(decide (r<2048)||(decide (55296≤r)&&decide (r<57344))))then (r,3)else (65533,1)):=by
  have:=HD.out;rw [hcont]at this
  skip
  exact this
 rw [hcont]at hcc
 have HC:Hid (a+2<s.size):=by
  rw [JJ,Bool.and_eq_true]at hcont;exact (of_decide_eq_true hcont.2).1
 clear hcont HD;go_enter Tryz.func122,Tryz.ntmps122;go_wp2_with (go_at_call 153;refine (hcc _).mono ?_;rintro e w' ⟨rfl,rfl⟩)
 go_loop [8,9] (fun r i=>∃k:Nat,k≤2∧i= .int .i64 (k+1:Nat)∧r= .int .i32 (mZ s a (c % 16) k:Nat)) (fun _ i=>8 - (intOf i).toNat)
 case atStart=>exact ⟨0,by omega,rfl,by show Value.int _ _=Value.int _ (((c % 16:Nat)):Int);go_num⟩
 case round=>
  obtain ⟨k,hk,rfl,rfl⟩:=hrel;by_cases hlt:k<2
  · have hix:a+(k+1)<s.size:=by have:=HC.out;omega
    have hacc:=KO s a (c % 16) (by omega) k (by omega);obtain ⟨A,hA⟩:∃A,mZ s a (c % 16) k=A:=⟨_,rfl⟩;have HA:Hid (mZ s a (c % 16) (k+1)=A*64+bY s (a+(k+1)) % 64):=by show _=_;rw [←hA];rfl
    rw [hA]at hacc⊢;clear hA;obtain ⟨b,hb⟩:∃b,s[a+(k+1)].toNat=b:=⟨_,rfl⟩;have HBb:Hid (bY s (a+(k+1))=b):=by rw [←jZ s _ hix];exact hb
    have hb2:b<256:=by rw [←HBb.out];exact sD _ _
    go_wp2_with fail;go_round
    case rel=>exact ⟨k+1,by omega,by go_num,by rw [HA.out,HBb.out];go_num⟩
    case measure=>simp [intOf];omega
  · have hk2:k=2:=by omega
    subst hk2;have hRl:=KN s a (c % 16) (by omega) 2 (by omega);obtain ⟨R,hR⟩:∃R,mZ s a (c % 16) 2=R:=⟨_,rfl⟩;rw [hR]at hRl⊢;have hRr:R=r:=by rw [HR.out,←hR,HB.out];simp only [mZ,Nat.add_zero,Nat.add_assoc,Nat.reduceAdd];omega
    rw [←hRr]at Qj;clear hR hRr;by_cases hg:(2048≤R∧(R<55296∨57344≤R))
    · have HE:Hid (ku s a=⟨R,a,3⟩):=by
       show _=_;unfold ku;rw [Qj.out,if_pos (by simp;omega)]
      clear Qj;rcases hg with ⟨hg1,hg2|hg2⟩
      all_goals
       go_wp2_with fail
      all_goals
       refine tO (q:=ku s a) (v:= .agg #[.int .i32 R, .int .i64 a, .int .i64 3, .bool true]) (by simp [results,Tryz.results122,go_sem]) rfl ?_ ⟨rfl,(((Below.refl _ _).alloc (Nat.le_refl _) _).alloc (by simp) _)⟩;rw [HE.out];have:(⟨R,a,3⟩:Pt).ok=true:=by simp [Pt.ok]
       unfold Ut;rw [this];rfl
    · have HE:Hid (ku s a=⟨65533,a,1⟩):=by
       show _=_;unfold ku;rw [Qj.out,if_neg (by simp;omega)]
      clear Qj;have hg2:(R<2048)∨(55296≤R∧R<57344):=by omega
      clear hg;rcases hg2 with hg|⟨hg1,hg3⟩
      all_goals
       go_wp2_with fail
      all_goals
       refine tO (q:=ku s a) (v:= .agg #[.int .i32 65533, .int .i64 a, .int .i64 1, .bool false]) (by simp [results,Tryz.results122,go_sem]) rfl ?_ ⟨rfl,(((Below.refl _ _).alloc (Nat.le_refl _) _).alloc (by simp) _)⟩;rw [HE.out];rfl
theorem XK (s:ByteArray) (a:Nat) (w:World) (hs:s.size≤2000000) (h:a<s.size) (h0:240≤bY s a∧bY s a<245):
 Calls Tryz.prog 122 #[.string s, .int .i64 a] w fun e w' =>e= .returned (Ut (ku s a))∧Below w.heap.size w w' :=by
 obtain ⟨r,hr⟩:∃r,r=bY s a % 8*262144+bY s (a+1) % 64*4096+bY s (a+2) % 64*64+bY s (a+3) % 64:=⟨_,rfl⟩;have HD:=Lib.hid (WC s a h h0 r hr);have hcc:=fun w=>GI s (a+1) 3 w hs (by omega) (by omega) (by omega)
 obtain ⟨c,hc⟩:∃c,s[a].toNat=c:=⟨_,rfl⟩;have hcb:bY s a=c:=by rw [←jZ s _ h];exact hc
 rw [hcb]at h0;obtain ⟨h01,h02⟩:=h0;have HR:Hid (r=bY s a % 8*262144+bY s (a+1) % 64*4096+bY s (a+2) % 64*64+bY s (a+3) % 64):=hr;have HB:Hid (bY s a=c):=hcb;clear hr hcb;have abZ:decide ((c:Int)<128)=false:=decide_eq_false (by omega);have afk:decide ((c:Int)<224)=false:=decide_eq_false (by omega);have ajo:decide ((c:Int)<240)=false:=decide_eq_false (by omega)
 have hand:bits .and .i32 (c:Int) 7=((c % 8:Nat):Int):=by
  have:=bits_mask .i32 31 (by decide) (fun n h0 h1=>wraps_i32 n h0 h1) 3 (by decide) (c:Int) (by omega) (by omega);simpa using this
 cases hcont:kP s (a+1) 3
 · have HE:Hid (ku s a=⟨65533,a,1⟩):=by
    have:=HD.out;rw [hcont]at this;show _=_;unfold ku;rw [this];rfl
   rw [hcont]at hcc;clear hcont HD;go_enter Tryz.func122,Tryz.ntmps122;go_wp2_with (go_at_call 153;refine (hcc _).mono ?_;rintro e w' ⟨rfl,rfl⟩);refine tO (q:=ku s a) (v:= .agg #[.int .i32 65533, .int .i64 a, .int .i64 1, .bool false]) (by simp [results,Tryz.results122,go_sem]) rfl ?_ ⟨rfl,(((Below.refl _ _).alloc (Nat.le_refl _) _).alloc (by simp) _)⟩;rw [HE.out];rfl
 have Qj:Hid (Utf8.decode s a=if (true&& !(decide (r<65536)||decide (1114111<r)))then (r,4)else (65533,1)):=by
  have:=HD.out;rw [hcont]at this
  skip
  exact this
 rw [hcont]at hcc
 have HC:Hid (a+3<s.size):=by
  rw [Ee,Bool.and_eq_true,Bool.and_eq_true]at hcont;exact (of_decide_eq_true hcont.2).1
 clear hcont HD;go_enter Tryz.func122,Tryz.ntmps122;go_wp2_with (go_at_call 153;refine (hcc _).mono ?_;rintro e w' ⟨rfl,rfl⟩)
 go_loop [8,9] (fun r i=>∃k:Nat,k≤3∧i= .int .i64 (k+1:Nat)∧r= .int .i32 (mZ s a (c % 8) k:Nat)) (fun _ i=>8 - (intOf i).toNat)
 case atStart=>exact ⟨0,by omega,rfl,by show Value.int _ _=Value.int _ (((c % 8:Nat)):Int);go_num⟩
 case round=>
  obtain ⟨k,hk,rfl,rfl⟩:=hrel;by_cases hlt:k<3
  · have hix:a+(k+1)<s.size:=by have:=HC.out;omega
    have hacc:=KO s a (c % 8) (by omega) k (by omega);obtain ⟨A,hA⟩:∃A,mZ s a (c % 8) k=A:=⟨_,rfl⟩;have HA:Hid (mZ s a (c % 8) (k+1)=A*64+bY s (a+(k+1)) % 64):=by show _=_;rw [←hA];rfl
    rw [hA]at hacc⊢;clear hA;obtain ⟨b,hb⟩:∃b,s[a+(k+1)].toNat=b:=⟨_,rfl⟩;have HBb:Hid (bY s (a+(k+1))=b):=by rw [←jZ s _ hix];exact hb
    have hb2:b<256:=by rw [←HBb.out];exact sD _ _
    go_wp2_with fail;go_round
    case rel=>exact ⟨k+1,by omega,by go_num,by rw [HA.out,HBb.out];go_num⟩
    case measure=>simp [intOf];omega
  · have hk2:k=3:=by omega
    subst hk2;have hRl:=KN s a (c % 8) (by omega) 3 (by omega);obtain ⟨R,hR⟩:∃R,mZ s a (c % 8) 3=R:=⟨_,rfl⟩;rw [hR]at hRl⊢;have hRr:R=r:=by rw [HR.out,←hR,HB.out];simp only [mZ,Nat.add_zero,Nat.add_assoc,Nat.reduceAdd];omega
    rw [←hRr]at Qj;clear hR hRr;by_cases hg:(65536≤R∧R≤1114111)
    · have HE:Hid (ku s a=⟨R,a,4⟩):=by
       show _=_;unfold ku;rw [Qj.out,if_pos (by simp;omega)]
      clear Qj;obtain ⟨hg1,hg2⟩:=hg
      all_goals
       go_wp2_with fail
      all_goals
       refine tO (q:=ku s a) (v:= .agg #[.int .i32 R, .int .i64 a, .int .i64 4, .bool true]) (by simp [results,Tryz.results122,go_sem]) rfl ?_ ⟨rfl,(((Below.refl _ _).alloc (Nat.le_refl _) _).alloc (by simp) _)⟩;rw [HE.out];have:(⟨R,a,4⟩:Pt).ok=true:=by simp [Pt.ok]
       unfold Ut;rw [this];rfl
    · have HE:Hid (ku s a=⟨65533,a,1⟩):=by
       show _=_;unfold ku;rw [Qj.out,if_neg (by simp;omega)]
      clear Qj;have hg2:(R<65536)∨(1114111<R):=by omega
      clear hg;rcases hg2 with hg|hg
      all_goals
       go_wp2_with fail
      all_goals
       refine tO (q:=ku s a) (v:= .agg #[.int .i32 65533, .int .i64 a, .int .i64 1, .bool false]) (by simp [results,Tryz.results122,go_sem]) rfl ?_ ⟨rfl,(((Below.refl _ _).alloc (Nat.le_refl _) _).alloc (by simp) _)⟩;rw [HE.out];rfl
theorem XL (s:ByteArray) (a:Nat) (w:World) (hs:s.size≤2000000) (h:a<s.size):
 Calls Tryz.prog 122 #[.string s, .int .i64 a] w fun e w' =>e= .returned (Ut (ku s a))∧Below w.heap.size w w' :=by
 by_cases h1:bY s a<128
 · exact Uu s a w hs h h1
 · by_cases h2:bY s a<194∨245≤bY s a
   · exact aaW s a w hs h (by omega) h2
   · by_cases h3:bY s a<224
     · exact aaX s a w hs h (by omega)
     · by_cases h4:bY s a<240
       · exact Uv s a w hs h (by omega)
       · exact XK s a w hs h (by omega)
end Go.Proofs.YtcgadodckoalnaaGreatDoor
