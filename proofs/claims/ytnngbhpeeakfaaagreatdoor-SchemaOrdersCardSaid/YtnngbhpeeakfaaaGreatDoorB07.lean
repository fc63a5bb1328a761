/- Parts of a proof. -/
import Derived.WalkKit
import Derived.WalkSpells
import Derived.WalkLawsBesides
import Derived.Lib.OthersKept
import Derived.Lib.Hide
import Derived.Shelf.Strings.Builder1
import Derived.Shelf.Strings.Builder2
import Derived.Shelf.Strings.OnBuilder
import Derived.Shelf.Small.Strs
import Derived.Shelf.Strings.BuilderF
import Derived.Shelf.Strings.BuilderK
import Derived.Shelf.Utf8.RuneCount
import Derived.Shelf.Strings.Builder2Cap
import Derived.Shelf.Strconv.Itoa0
import Derived.Shelf.Strconv.Itoa1
import Derived.Shelf.LaysM
import Derived.Shelf.Strconv.Itoa2
import Derived.Shelf.Strconv.Itoa3
import Derived.Shelf.Strings.Search1
import Derived.Shelf.Strings.Search2
import Derived.Shelf.Strings.Search3
import Derived.Shelf.Strings.Count
import Derived.Shelf.Strings.Shaped
import Derived.Shelf.Strings.Split
import Derived.Shelf.Strings.Fields
import Derived.Shelf.Strings.Replace
import Derived.Shelf.Strings.SplitShaped
import Derived.Shelf.Unicode.Latin
import Derived.Shelf.Unicode.Decode
import Derived.Shelf.Strings.RuneCount
import Derived.Shelf.Unicode.DecodeSlow
import Derived.Shelf.Unicode.DecodeAny
import Derived.Shelf.Unicode.Is16White
import Derived.Shelf.Unicode.IsSpaceAny
import Derived.Shelf.Unicode.Is16WhiteD
import Derived.Shelf.Unicode.Is16Any
import Derived.Shelf.Unicode.Is32Any
import Derived.Shelf.Unicode.ExclAny
import Derived.Shelf.Strings.BuilderCap
import Derived.Shelf.Slices.Turned
import Derived.Shelf.Slices.Equal
import Derived.Shelf.Slices.Empties2
import Derived.Lib.ReplaceLaws
import Derived.Test.YtnngbhpeeakfaaaGreatDoorB01
import Derived.Test.YtnngbhpeeakfaaaGreatDoorChecked
import Derived.Test.YtnngbhpeeakfaaaGreatDoorProg
set_option maxHeartbeats 1000000
set_option maxRecDepth 100000
namespace Go.Proofs.YtnngbhpeeakfaaaGreatDoor
open Go.RowKit
namespace aK
theorem iterPos_of {w:World}{k:Nat}{s:ByteArray}{p:Nat}(h:w.heap[k]? =some (.stringIter s p)):w.iterPos k=p:=by simp [World.iterPos,h]
theorem j4 {k:IntKind}{a b:Int}(h:a=b):Ending.returned (.int k a)= .returned (.int k b):=by rw [h]
theorem Ib {a b:ByteArray}(h:a=b):Ending.returned (.string a)= .returned (.string b):=by rw [h]
theorem aR {a b:Bool}(h:a=b):Ending.returned (.bool a)= .returned (.bool b):=by rw [h]
theorem Ic (s:ByteArray):s.toList.isEmpty=decide (s.size=0):=by
 rw [ByteArray.toList_eq];obtain ⟨⟨l⟩⟩:=s;cases l<;>rfl
theorem jO (b o j:Nat):(⟨b,o,none⟩:Addr).add j=⟨b,o+j,none⟩:=by
 unfold Addr.add;split
 · rename_i h;subst h;rfl
 · rfl
theorem aj {w:World}{b:Nat}{C:Array Value}{t:TypeId}{fr:Nat×Nat}(h:w.heap[b]? =some (.cells C t fr)) (j:Nat):w.cell? ⟨b,j,none⟩=C[j]? :=by
 unfold World.cell?;rw [h];simp
theorem Dx {w:World}{b:Nat}{C:Array Value}{t:TypeId}{lo hi:Nat}(h:w.heap[b]? =some (.cells C t (lo,hi))) (j:Nat) (hj:j<lo):w.frozen? ⟨b,j,none⟩=false:=by
 unfold World.frozen?;rw [h];simp;omega
theorem ak {w:World}{b:Nat}{C:Array Value}{t:TypeId}(h:w.heap[b]? =some (.cells C t (0,0))) (j:Nat):w.frozen? ⟨b,j,none⟩=false:=by
 unfold World.frozen?;rw [h];simp
theorem aG {w:World}{b:Nat}{o:Obj}(h:w.heap[b]? =some o):b<w.heap.size:=(Array.getElem?_eq_some_iff.1 h).1
theorem bG {w:World}{b:Nat}{C:Array Value}{t:TypeId}{fr:Nat×Nat}(h:w.heap[b]? =some (.cells C t fr)) (j:Nat) (v:Value):
 (w.setCell ⟨b,j,none⟩ v).heap[b]? =some (.cells (C.setIfInBounds j v) t fr):=by
 simp only [World.setCell,Array.getElem?_modify,h,Option.map_some];simp
theorem aB (w:World) (o:Obj):(w.alloc o).heap[w.heap.size]? =some o:=by
 show (w.heap.push o)[w.heap.size]? =_;simp
theorem ay {w:World}{b:Nat}{o:Obj}(h:w.heap[b]? =some o) (x:Obj):(w.alloc x).heap[b]? =some o:=by
 rw [Below.heap_alloc _ _ _ (aG h)];exact h
theorem bg {w:World}{b:Nat}{o:Obj}(h:w.heap[b]? =some o) (a:Addr) (u:Value) (hne:b≠a.block):(w.setCell a u).heap[b]? =some o:=by
 rw [Below.heap_setCell _ _ _ _ hne];exact h
theorem bf {w w' :World}{B b:Nat}{o:Obj}(h:w.heap[b]? =some o) (hb:Below B w w') (hlt:b<B):w'.heap[b]? =some o:=by
 rw [hb.block b hlt];exact h
theorem below_drewN {B:Nat}{a w:World}(h:Below B a w) (n:Nat):Below B a (w.drewN n):=h.trans ⟨rfl,rfl,rfl,Nat.le_refl _,fun _ _=>rfl⟩
theorem ownsRow_below {w w' :World}{base:Nat}{e:TypeId}{size:Nat}{v:Value}{n:Nat}{xs:List Value}(h:w.ownsRow base e size v n xs) (hb:Below w.heap.size w w'):w'.ownsRow base e size v n xs:=by
 obtain ⟨h1,h2⟩:=h;refine ⟨h1, ?_⟩;rcases h2 with h2|⟨g,cap,cur,a,b,c,d⟩
 · exact .inl h2
 · exact .inr ⟨g,cap,cur,a,b,bf c hb (aG c),d⟩
theorem vV (w:World) (L:List Value) (t:TypeId):∀j u,L[j]? =some u→(w.alloc (.cells L.toArray t)).cell? ((⟨w.heap.size,0,none⟩:Addr).add j)=some u:=by
 intro j u hj;rw [jO,Nat.zero_add,aj (aB w _)];simpa using hj
theorem aM {w:World}{base:Nat}{e:TypeId}{size:Nat}{g cap n:Nat}{xs:List Value}(h:w.ownsRow base e size (.slice (some ⟨g,0,none⟩) n cap) n xs) (j:Nat) (u:Value) (hj:xs[j]? =some u):w.cell? ⟨g,j,none⟩=some u:=by
 have:=h.cells (g:=g) rfl j u hj;rwa [jO,Nat.zero_add]at this
end aK
open aK
theorem qR (s:ByteArray) (w:World) (hs:s.size≤1000000):
 Calls Tryz.prog 121 #[.string s] w fun e w' =>e= .returned (.int .i64 (pts s).length)∧Below w.heap.size w w' :=by
 go_enter Tryz.func121,Tryz.ntmps121
 go_wp2
 go_loopw [3] (fun v wr=>∃(pos k:Nat),wr.heap[w.heap.size]? =some (.stringIter s pos)∧Below w.heap.size w wr∧v= .int .i64 k∧Hid ((pts s).length=k+(dD s pos).length)∧k≤pos∧pos≤s.size) (fun _ wr=>s.size - wr.iterPos w.heap.size)
 case atStart=>exact ⟨0,0,World.iter_heap w s 0,(Below.refl _ _).alloc (Nat.le_refl _) _,rfl,(by show _=_;rw [iD];simp),by omega,by omega⟩
 case round=>
  obtain ⟨pos,k,hit,hbw,rfl,HS,hk,hpos⟩:=hrel;have wG:=iterPos_of hit;by_cases hp:pos<s.size
  · have hnx:∀ty,(Instr.next (.pointer (some ⟨w.heap.size,0,none⟩)) true ty).run Tryz.prog wr=_:=fun ty=>Lib.run_next_any_at wr w.heap.size s pos ty hit hp
    have hwd:=width_pos s pos hp;have hwl:=width_le s pos hp
    go_wp2
    go_roundw
    case rel=>exact ⟨_,k+1,Lib.iterAt_heap wr w.heap.size s pos _ hit,Lib.below_iterAt hbw (Nat.le_refl _) s _,by go_num,(by show _=_;rw [HS.out,bq s pos hp];simp;omega),by omega,by omega⟩
    case measure=>rw [iterPos_of (Lib.iterAt_heap wr w.heap.size s pos _ hit),wG];omega
  · have hnx:∀ty,(Instr.next (.pointer (some ⟨w.heap.size,0,none⟩)) true ty).run Tryz.prog wr=_:=fun ty=>Lib.run_next_end_at wr w.heap.size s pos ty hit hp
    go_wp2
    go_ret;exact ⟨j4 (by rw [HS.out,bI s pos hp];simp),hbw⟩
theorem Kk (s:ByteArray) (w:World) (hs:s.size≤1000000):
 Calls Tryz.prog 246 #[.string s] w fun e w' =>e= .returned (.string (fold s))∧Below w.heap.size w w' :=by
 have Kl:=run_bytes_of_string (P:=Tryz.prog) w 9 186 5 s Tryz.underlying9 Tryz.underlying186 Tryz.underlying5;obtain ⟨cap,hcap⟩:∃cap,grownCap w s.size 0 5=cap:=⟨_,rfl⟩;rw [hcap]at Kl;have hce:s.size≤cap:=by rw [←hcap];exact grownCap_ge w s.size 0 5
 clear hcap;obtain ⟨C,hC⟩:∃C,bytesRow s cap=C:=⟨_,rfl⟩;rw [hC]at Kl;have hCs:s.size≤C.size:=by rw [←hC];simp [bytesRow]
 have HC:Hid (∀j (hj:j<s.data.size),C[j]? =some (.int .u8 (s.data[j].toNat:Int))):=fun j hj=>by rw [←hC];exact bytesRow_at s cap j hj
 clear hC;go_enter Tryz.func246,Tryz.ntmps246
 go_wp2
 go_loopw [10] (fun v wr=>∃(k:Nat) (D:Array Value),k≤s.size∧v= .int .i64 k∧Below w.heap.size w wr∧wr.heap[w.heap.size]? =some (.cells D 5 (C.size,C.size+1))∧D.size=C.size∧Hid (∀j (hj:j<s.data.size),D[j]? =some (.int .u8 (if j<k then ((pQ s.data[j]).toNat:Int)else (s.data[j].toNat:Int))))) (fun v _=>s.size - (intOf v).toNat)
 case atStart=>exact ⟨0,C,by omega,rfl,((Below.refl _ _).alloc (Nat.le_refl _) _).drew,aB w _,rfl,fun j hj=>by rw [HC.out j hj];simp⟩
 case round=>
  obtain ⟨k,D,hk,rfl,hbw,hblk,hDs,HD⟩:=hrel;by_cases hlt:k<s.size
  · have hc0:wr.cell? ⟨w.heap.size,k,none⟩=some (.int .u8 (s.data[k].toNat:Int)):=by rw [aj hblk,HD.out k hlt];simp
    have hf0:wr.frozen? ⟨w.heap.size,k,none⟩=false:=Dx hblk k (by omega);have hlow:=N8 s.data[k];obtain ⟨c,hc⟩:∃c,s.data[k]=c:=⟨_,rfl⟩;rw [hc]at hc0 hlow;have hb:=c.toNat_lt;have hor:bits .or .u8 (c.toNat:Int) 32=((c.toNat|||32:Nat):Int):=u8_or_nat c.toNat 32 (by omega) (by omega);have HL:Hid ((pQ c).toNat=if 65≤c.toNat∧c.toNat≤90 then c.toNat|||32 else c.toNat):=hlow;have HCe:Hid (s.data[k]=c):=hc;clear hlow hc
    go_wp2
    all_goals (
     go_roundw
     case measure=>simp [intOf];omega)
    case rel=>
     refine ⟨k+1,_,by omega,by go_num,hbw.setCell (by simp) _,bG hblk _ _,by simp [hDs],fun j hj=> ?_⟩;have h1:=HD.out j hj;by_cases hjk:j=k
     · subst hjk;rw [Array.getElem?_setIfInBounds_self_of_lt (by omega),if_pos (by omega),HCe.out,HL.out,if_pos ⟨by omega,by omega⟩]
     · rw [Array.getElem?_setIfInBounds_ne (Ne.symm hjk),h1];by_cases h2:j<k
       · rw [if_pos h2,if_pos (by omega)]
       · rw [if_neg h2,if_neg (by omega)]
    all_goals
     refine ⟨k+1,D,by omega,by go_num,hbw,hblk,hDs,fun j hj=> ?_⟩;have h1:=HD.out j hj;by_cases hjk:j=k
     · subst hjk;rw [h1,if_neg (by omega),if_pos (by omega),HCe.out,HL.out,if_neg (by omega)]
     · rw [h1];by_cases h2:j<k
       · rw [if_pos h2,if_pos (by omega)]
       · rw [if_neg h2,if_neg (by omega)]
  · have hc0:∀j (hj:j<(s.data.map pQ).toList.length),wr.cell? ((⟨w.heap.size,0,none⟩:Addr).add j)=some (.int .u8 ((s.data.map pQ).toList[j].toNat:Int)):=fun j hj=>by
     simp at hj;rw [jO,Nat.zero_add];rw [aj hblk,HD.out j hj,if_pos (by have:s.data.size=s.size:=rfl;omega)];simp
    have hback:=run_convert_bytes_back (P:=Tryz.prog) wr 186 9 5 ⟨w.heap.size,0,none⟩ cap (s.data.map pQ).toList Tryz.underlying186 Tryz.underlying5 Tryz.underlying9 hc0;have hl:(s.data.map pQ).toList.length=s.size:=by simp
    rw [hl]at hback;clear hc0 hl
    go_wp2
    go_ret;exact ⟨Ib (by unfold fold;congr 1;apply Array.ext';simp),hbw⟩
end Go.Proofs.YtnngbhpeeakfaaaGreatDoor
namespace Go.Proofs
open Go.Shelf
def Tryz.Br:Go.Shelf.Ren:=⟨fun|167=>181|240=>257|276=>305|n=>n,fun|0=>0|4=>4|5=>5|9=>9|20=>20|37=>186|70=>262|72=>264|75=>266|164=>358|80=>242|n=>n,fun|n=>n⟩
theorem Tryz.XL:Go.Proofs.Lays.n167 Tryz.prog Tryz.Br:={
 mixed:=by kernel_rfl
 f167:=Tryz.func181.trans (congrArg some (by kernel_rfl))
 f240:=Tryz.func257.trans (congrArg some (by kernel_rfl))
 f276:=Tryz.func305.trans (congrArg some (by kernel_rfl))
 t0:=Tryz.underlying0
 a0:=Tryz.isAgg0
 z0:=Tryz.sizeOf0
 v0:=Tryz.zeroValue0
 t4:=Tryz.underlying4
 a4:=Tryz.isAgg4
 z4:=Tryz.sizeOf4
 v4:=Tryz.zeroValue4
 t5:=Tryz.underlying5
 a5:=Tryz.isAgg5
 z5:=Tryz.sizeOf5
 v5:=Tryz.zeroValue5
 t9:=Tryz.underlying9
 a9:=Tryz.isAgg9
 z9:=Tryz.sizeOf9
 v9:=Tryz.zeroValue9
 t20:=Tryz.underlying20
 a20:=Tryz.isAgg20
 z20:=Tryz.sizeOf20
 v20:=Tryz.zeroValue20
 t37:=Tryz.underlying186
 a37:=Tryz.isAgg186
 z37:=Tryz.sizeOf186
 v37:=Tryz.zeroValue186
 t70:=Tryz.underlying262
 a70:=Tryz.isAgg262
 z70:=Tryz.sizeOf262
 v70:=Tryz.zeroValue262
 t72:=Tryz.underlying264
 a72:=Tryz.isAgg264
 z72:=Tryz.sizeOf264
 v72:=Tryz.zeroValue264
 t75:=Tryz.underlying266
 a75:=Tryz.isAgg266
 z75:=Tryz.sizeOf266
 v75:=Tryz.zeroValue266
 t164:=Tryz.underlying358
 a164:=Tryz.isAgg358
 z164:=Tryz.sizeOf358
 v164:=Tryz.zeroValue358}
theorem Tryz.yQ:Builder.Extra Tryz.prog Tryz.Br:={
 sizeBuilder:=by kernel_rfl
 liesBuilder:=by kernel_rfl
 t5:=Tryz.underlying5
 a5:=Tryz.isAgg5
 z5:=Tryz.sizeOf5
 v5:=Tryz.zeroValue5
 infoByte:=by kernel_rfl
 cellsByte:=by kernel_rfl
 sizeByte:=by kernel_rfl
 neB5:=by decide}
open Go.RowKit in
theorem Tryz.Builder_WriteByte (B b:Nat) (bs:List Value) (c:Int) (w:World) (h:Lib.IsBuilder 264 5 B b bs w) (hlen:bs.length+1≤140737488355328) (hBw:B≤w.heap.size):
 Calls Tryz.prog 181 #[.pointer (some ⟨b,0,none⟩), .int .u8 c] w fun e w' =>e= .returned .nilIface∧(Lib.BuilderAt 264 5 B b (.pointer (some ⟨b,0,none⟩)) (bs++ [.int .u8 c]) w' ∧Below B w w'):=Any.Builder_WriteByte Tryz.XL Tryz.yQ B b bs c w h hlen hBw
def Tryz.Bt:Go.Shelf.Ren:=⟨fun|169=>182|n=>n,fun|70=>262|9=>9|0=>0|72=>264|37=>186|127=>319|3=>3|5=>5|n=>n,fun|n=>n⟩
theorem Tryz.XM:Go.Proofs.Lays.n169 Tryz.prog Tryz.Bt:={
 mixed:=by kernel_rfl
 f169:=Tryz.func182.trans (congrArg some (by kernel_rfl))
 t0:=Tryz.underlying0
 a0:=Tryz.isAgg0
 z0:=Tryz.sizeOf0
 v0:=Tryz.zeroValue0
 t3:=Tryz.underlying3
 a3:=Tryz.isAgg3
 z3:=Tryz.sizeOf3
 v3:=Tryz.zeroValue3
 t9:=Tryz.underlying9
 a9:=Tryz.isAgg9
 z9:=Tryz.sizeOf9
 v9:=Tryz.zeroValue9
 t37:=Tryz.underlying186
 a37:=Tryz.isAgg186
 z37:=Tryz.sizeOf186
 v37:=Tryz.zeroValue186
 t70:=Tryz.underlying262
 a70:=Tryz.isAgg262
 z70:=Tryz.sizeOf262
 v70:=Tryz.zeroValue262
 t72:=Tryz.underlying264
 a72:=Tryz.isAgg264
 z72:=Tryz.sizeOf264
 v72:=Tryz.zeroValue264
 t127:=Tryz.underlying319
 a127:=Tryz.isAgg319
 z127:=Tryz.sizeOf319
 v127:=Tryz.zeroValue319}
theorem Tryz.yR:Builder.Extra Tryz.prog Tryz.Bt:={
 sizeBuilder:=by kernel_rfl
 liesBuilder:=by kernel_rfl
 t5:=Tryz.underlying5
 a5:=Tryz.isAgg5
 z5:=Tryz.sizeOf5
 v5:=Tryz.zeroValue5
 infoByte:=by kernel_rfl
 cellsByte:=by kernel_rfl
 sizeByte:=by kernel_rfl
 neB5:=by decide}
open Go.RowKit in
theorem Tryz.Builder_String_any (B b:Nat) (l:List UInt8) (w:World) (h:Lib.IsBuilder 264 5 B b (Lib.byteCells l) w) (hBw:B≤w.heap.size):
 Calls Tryz.prog 182 #[.pointer (some ⟨b,0,none⟩)] w fun e w' =>e= .returned (.string ⟨l.toArray⟩)∧Below B w w' :=Any.Builder_String_any Tryz.XM Tryz.yR B b l w h hBw
def Tryz.Bu:Go.Shelf.Ren:=⟨fun|156=>200|165=>277|166=>278|169=>182|240=>257|241=>313|276=>305|277=>329|n=>n,fun|31=>35|9=>9|3=>3|4=>4|0=>0|20=>20|72=>264|76=>337|70=>262|37=>186|75=>266|127=>319|164=>358|5=>5|80=>242|n=>n,fun|n=>n⟩
theorem Tryz.OD:Go.Proofs.Lays.n156 Tryz.prog Tryz.Bu:={
 mixed:=by kernel_rfl
 f156:=Tryz.func200.trans (congrArg some (by kernel_rfl))
 f165:=Tryz.func277.trans (congrArg some (by kernel_rfl))
 f166:=Tryz.func278.trans (congrArg some (by kernel_rfl))
 f169:=Tryz.func182.trans (congrArg some (by kernel_rfl))
 f240:=Tryz.func257.trans (congrArg some (by kernel_rfl))
 f241:=Tryz.func313.trans (congrArg some (by kernel_rfl))
 f276:=Tryz.func305.trans (congrArg some (by kernel_rfl))
 f277:=Tryz.func329.trans (congrArg some (by kernel_rfl))
 t0:=Tryz.underlying0
 a0:=Tryz.isAgg0
 z0:=Tryz.sizeOf0
 v0:=Tryz.zeroValue0
 t3:=Tryz.underlying3
 a3:=Tryz.isAgg3
 z3:=Tryz.sizeOf3
 v3:=Tryz.zeroValue3
 t4:=Tryz.underlying4
 a4:=Tryz.isAgg4
 z4:=Tryz.sizeOf4
 v4:=Tryz.zeroValue4
 t9:=Tryz.underlying9
 a9:=Tryz.isAgg9
 z9:=Tryz.sizeOf9
 v9:=Tryz.zeroValue9
 t20:=Tryz.underlying20
 a20:=Tryz.isAgg20
 z20:=Tryz.sizeOf20
 v20:=Tryz.zeroValue20
 t31:=Tryz.underlying35
 a31:=Tryz.isAgg35
 z31:=Tryz.sizeOf35
 v31:=Tryz.zeroValue35
 t37:=Tryz.underlying186
 a37:=Tryz.isAgg186
 z37:=Tryz.sizeOf186
 v37:=Tryz.zeroValue186
 t70:=Tryz.underlying262
 a70:=Tryz.isAgg262
 z70:=Tryz.sizeOf262
 v70:=Tryz.zeroValue262
 t72:=Tryz.underlying264
 a72:=Tryz.isAgg264
 z72:=Tryz.sizeOf264
 v72:=Tryz.zeroValue264
 t75:=Tryz.underlying266
 a75:=Tryz.isAgg266
 z75:=Tryz.sizeOf266
 v75:=Tryz.zeroValue266
 t76:=Tryz.underlying337
 a76:=Tryz.isAgg337
 z76:=Tryz.sizeOf337
 v76:=Tryz.zeroValue337
 t127:=Tryz.underlying319
 a127:=Tryz.isAgg319
 z127:=Tryz.sizeOf319
 v127:=Tryz.zeroValue319
 t164:=Tryz.underlying358
 a164:=Tryz.isAgg358
 z164:=Tryz.sizeOf358
 v164:=Tryz.zeroValue358}
theorem Tryz.qh:Builder.Extra Tryz.prog Tryz.Bu:={
 sizeBuilder:=by kernel_rfl
 liesBuilder:=by kernel_rfl
 t5:=Tryz.underlying5
 a5:=Tryz.isAgg5
 z5:=Tryz.sizeOf5
 v5:=Tryz.zeroValue5
 infoByte:=by kernel_rfl
 cellsByte:=by kernel_rfl
 sizeByte:=by kernel_rfl
 neB5:=by decide}
open Go.RowKit in
theorem Tryz.strings_Join_none (a:Option Addr) (c:Nat) (sep:ByteArray) (w:World):
 Calls Tryz.prog 200 #[.slice a 0 c, .string sep] w fun e w' =>e= .returned (.string ⟨#[]⟩)∧w' =w:=Any.strings_Join_none Tryz.OD Tryz.qh a c sep w
open Go.RowKit in
theorem Tryz.strings_Join (bk o c:Nat) (xs:List ByteArray) (sep:ByteArray) (w:World) (hcells:∀(j:Nat) x,xs[j]? =some x→w.cell? ⟨bk,o+j,none⟩=some (.string x)) (hbk:bk<w.heap.size) (hN:xs.length≤140737488355328) (hcap:xs.length≤c) (hlen:(Lib.join (xs.map (·.data.toList)) sep.data.toList).length≤140737488355328):
 Calls Tryz.prog 200 #[.slice (some ⟨bk,o,none⟩) xs.length c, .string sep] w fun e w' =>e= .returned (.string ⟨(Lib.join (xs.map (·.data.toList)) sep.data.toList).toArray⟩)∧Below w.heap.size w w' :=Any.strings_Join Tryz.OD Tryz.qh bk o c xs sep w hcells hbk hN hcap hlen
def Tryz.Km:Go.Shelf.Ren:=⟨fun|129=>213|n=>n,fun|53=>249|3=>3|4=>4|46=>44|5=>5|9=>9|n=>n,fun|n=>n⟩
theorem Tryz.XO:Go.Proofs.Lays.n129 Tryz.prog Tryz.Km:={
 mixed:=by kernel_rfl
 f129:=Tryz.func213.trans (congrArg some (by kernel_rfl))
 t3:=Tryz.underlying3
 a3:=Tryz.isAgg3
 z3:=Tryz.sizeOf3
 v3:=Tryz.zeroValue3
 t4:=Tryz.underlying4
 a4:=Tryz.isAgg4
 z4:=Tryz.sizeOf4
 v4:=Tryz.zeroValue4
 t5:=Tryz.underlying5
 a5:=Tryz.isAgg5
 z5:=Tryz.sizeOf5
 v5:=Tryz.zeroValue5
 t9:=Tryz.underlying9
 a9:=Tryz.isAgg9
 z9:=Tryz.sizeOf9
 v9:=Tryz.zeroValue9
 t46:=Tryz.underlying44
 a46:=Tryz.isAgg44
 z46:=Tryz.sizeOf44
 v46:=Tryz.zeroValue44
 t53:=Tryz.underlying249
 a53:=Tryz.isAgg249
 z53:=Tryz.sizeOf249
 v53:=Tryz.zeroValue249}
theorem Tryz.bits_Len64 (x:Int) (w:World) (h0:0≤x) (h1:x≤18446744073709551615):
 Calls Tryz.prog 213 #[.int .u64 x] w fun e w' =>e= .returned (.int .i64 (Lib.bitLen x.toNat))∧w' =w:=Any.bits_Len64 Tryz.XO x w h0 h1
def Tryz.Ie:Go.Shelf.Ren:=⟨fun|171=>39|243=>97|246=>168|283=>248|284=>249|285=>250|286=>251|129=>213|317=>300|318=>301|319=>302|320=>303|337=>319|338=>320|n=>n,fun|3=>3|9=>9|2=>2|4=>4|171=>310|0=>0|53=>249|37=>186|5=>5|173=>312|212=>355|51=>292|20=>20|213=>356|46=>44|232=>382|233=>383|n=>n,fun|17=>1|18=>6|19=>7|n=>n⟩
theorem Tryz.Uv:Go.Proofs.LaysM.n171 Tryz.prog Tryz.Ie:={
 mixed:=by kernel_rfl
 f129:=Tryz.func213.trans (congrArg some (by kernel_rfl))
 f171:=Tryz.func39.trans (congrArg some (by kernel_rfl))
 f243:=Tryz.func97.trans (congrArg some (by kernel_rfl))
 f246:=Tryz.func168.trans (congrArg some (by kernel_rfl))
 f283:=Tryz.func248.trans (congrArg some (by kernel_rfl))
 f284:=Tryz.func249.trans (congrArg some (by kernel_rfl))
 f285:=Tryz.func250.trans (congrArg some (by kernel_rfl))
 f286:=Tryz.func251.trans (congrArg some (by kernel_rfl))
 f317:=Tryz.func300.trans (congrArg some (by kernel_rfl))
 f318:=Tryz.func301.trans (congrArg some (by kernel_rfl))
 f319:=Tryz.func302.trans (congrArg some (by kernel_rfl))
 f320:=Tryz.func303.trans (congrArg some (by kernel_rfl))
 f337:=Tryz.func319.trans (congrArg some (by kernel_rfl))
 f338:=Tryz.func320.trans (congrArg some (by kernel_rfl))
 t0:=Tryz.underlying0
 a0:=Tryz.isAgg0
 z0:=Tryz.sizeOf0
 v0:=Tryz.zeroValue0
 t2:=Tryz.underlying2
 a2:=Tryz.isAgg2
 z2:=Tryz.sizeOf2
 v2:=Tryz.zeroValue2
 t3:=Tryz.underlying3
 a3:=Tryz.isAgg3
 z3:=Tryz.sizeOf3
 v3:=Tryz.zeroValue3
 t4:=Tryz.underlying4
 a4:=Tryz.isAgg4
 z4:=Tryz.sizeOf4
 v4:=Tryz.zeroValue4
 t5:=Tryz.underlying5
 a5:=Tryz.isAgg5
 z5:=Tryz.sizeOf5
 v5:=Tryz.zeroValue5
 t9:=Tryz.underlying9
 a9:=Tryz.isAgg9
 z9:=Tryz.sizeOf9
 v9:=Tryz.zeroValue9
 t20:=Tryz.underlying20
 a20:=Tryz.isAgg20
 z20:=Tryz.sizeOf20
 v20:=Tryz.zeroValue20
 t37:=Tryz.underlying186
 a37:=Tryz.isAgg186
 z37:=Tryz.sizeOf186
 v37:=Tryz.zeroValue186
 t46:=Tryz.underlying44
 a46:=Tryz.isAgg44
 z46:=Tryz.sizeOf44
 v46:=Tryz.zeroValue44
 t51:=Tryz.underlying292
 a51:=Tryz.isAgg292
 z51:=Tryz.sizeOf292
 v51:=Tryz.zeroValue292
 t53:=Tryz.underlying249
 a53:=Tryz.isAgg249
 z53:=Tryz.sizeOf249
 v53:=Tryz.zeroValue249
 t171:=Tryz.underlying310
 a171:=Tryz.isAgg310
 z171:=Tryz.sizeOf310
 v171:=Tryz.zeroValue310
 t173:=Tryz.underlying312
 a173:=Tryz.isAgg312
 z173:=Tryz.sizeOf312
 v173:=Tryz.zeroValue312
 t212:=Tryz.underlying355
 a212:=Tryz.isAgg355
 z212:=Tryz.sizeOf355
 v212:=Tryz.zeroValue355
 t213:=Tryz.underlying356
 a213:=Tryz.isAgg356
 z213:=Tryz.sizeOf356
 t232:=Tryz.underlying382
 a232:=Tryz.isAgg382
 z232:=Tryz.sizeOf382
 v232:=Tryz.zeroValue382
 t233:=Tryz.underlying383
 a233:=Tryz.isAgg383
 z233:=Tryz.sizeOf383
 v233:=Tryz.zeroValue383
 g17:=by kernel_rfl
 g18:=by kernel_rfl
 g19:=by kernel_rfl
 i0:=by kernel_rfl
 i2:=by kernel_rfl
 i3:=by kernel_rfl
 i4:=by kernel_rfl
 i5:=by kernel_rfl
 i9:=by kernel_rfl
 i20:=by kernel_rfl
 i37:=by kernel_rfl
 i46:=by kernel_rfl
 i51:=by kernel_rfl
 i53:=by kernel_rfl
 i171:=by kernel_rfl
 i173:=by kernel_rfl
 i212:=by kernel_rfl
 i232:=by kernel_rfl
 i233:=by kernel_rfl
 m17:=by kernel_rfl
 m18:=by kernel_rfl
 m19:=by kernel_rfl}
open Go.RowKit Go.Sort Go.Lib in
theorem Tryz.strconv_Itoa (n:Int) (h0: -9223372036854775808≤n) (h1:n≤9223372036854775807) (w:World) (htab:Lib.TabIs Tryz.prog w "internal/strconv.uint64pow10" .u64 Lib.pow10Tab):
 Calls Tryz.prog 39 #[.int .i64 n] w fun e w' =>e= .returned (.string ⟨(Lib.itoa n).toArray⟩)∧∃k os,w' =grow (w.drewN k) os:=Any.strconv_Itoa Tryz.Uv n h0 h1 w htab
def Tryz.Kn:Go.Shelf.Ren:=⟨fun|157=>299|229=>317|199=>318|261=>332|311=>339|312=>340|n=>n,fun|9=>9|31=>35|3=>3|5=>5|4=>4|119=>366|0=>0|40=>304|152=>377|21=>21|154=>379|51=>292|141=>381|196=>390|193=>387|198=>393|49=>391|194=>388|201=>396|226=>399|46=>44|227=>400|n=>n,fun|0=>2|6=>5|n=>n⟩
theorem Tryz.XP:Go.Proofs.Lays.n157 Tryz.prog Tryz.Kn:={
 mixed:=by kernel_rfl
 f157:=Tryz.func299.trans (congrArg some (by kernel_rfl))
 f199:=Tryz.func318.trans (congrArg some (by kernel_rfl))
 f229:=Tryz.func317.trans (congrArg some (by kernel_rfl))
 f261:=Tryz.func332.trans (congrArg some (by kernel_rfl))
 f311:=Tryz.func339.trans (congrArg some (by kernel_rfl))
 f312:=Tryz.func340.trans (congrArg some (by kernel_rfl))
 t0:=Tryz.underlying0
 a0:=Tryz.isAgg0
 z0:=Tryz.sizeOf0
 v0:=Tryz.zeroValue0
 t3:=Tryz.underlying3
 a3:=Tryz.isAgg3
 z3:=Tryz.sizeOf3
 v3:=Tryz.zeroValue3
 t4:=Tryz.underlying4
 a4:=Tryz.isAgg4
 z4:=Tryz.sizeOf4
 v4:=Tryz.zeroValue4
 t5:=Tryz.underlying5
 a5:=Tryz.isAgg5
 z5:=Tryz.sizeOf5
 v5:=Tryz.zeroValue5
 t9:=Tryz.underlying9
 a9:=Tryz.isAgg9
 z9:=Tryz.sizeOf9
 v9:=Tryz.zeroValue9
 t21:=Tryz.underlying21
 a21:=Tryz.isAgg21
 z21:=Tryz.sizeOf21
 v21:=Tryz.zeroValue21
 t31:=Tryz.underlying35
 a31:=Tryz.isAgg35
 z31:=Tryz.sizeOf35
 v31:=Tryz.zeroValue35
 t40:=Tryz.underlying304
 a40:=Tryz.isAgg304
 z40:=Tryz.sizeOf304
 v40:=Tryz.zeroValue304
 t46:=Tryz.underlying44
 a46:=Tryz.isAgg44
 z46:=Tryz.sizeOf44
 v46:=Tryz.zeroValue44
 t49:=Tryz.underlying391
 a49:=Tryz.isAgg391
 z49:=Tryz.sizeOf391
 v49:=Tryz.zeroValue391
 t51:=Tryz.underlying292
 a51:=Tryz.isAgg292
 z51:=Tryz.sizeOf292
 v51:=Tryz.zeroValue292
 t119:=Tryz.underlying366
 a119:=Tryz.isAgg366
 z119:=Tryz.sizeOf366
 t141:=Tryz.underlying381
 a141:=Tryz.isAgg381
 z141:=Tryz.sizeOf381
 v141:=Tryz.zeroValue381
 t152:=Tryz.underlying377
 a152:=Tryz.isAgg377
 z152:=Tryz.sizeOf377
 v152:=Tryz.zeroValue377
 t154:=Tryz.underlying379
 a154:=Tryz.isAgg379
 z154:=Tryz.sizeOf379
 v154:=Tryz.zeroValue379
 t193:=Tryz.underlying387
 a193:=Tryz.isAgg387
 z193:=Tryz.sizeOf387
 v193:=Tryz.zeroValue387
 t194:=Tryz.underlying388
 a194:=Tryz.isAgg388
 z194:=Tryz.sizeOf388
 v194:=Tryz.zeroValue388
 t196:=Tryz.underlying390
 a196:=Tryz.isAgg390
 z196:=Tryz.sizeOf390
 v196:=Tryz.zeroValue390
 t198:=Tryz.underlying393
 a198:=Tryz.isAgg393
 z198:=Tryz.sizeOf393
 v198:=Tryz.zeroValue393
 t201:=Tryz.underlying396
 a201:=Tryz.isAgg396
 z201:=Tryz.sizeOf396
 v201:=Tryz.zeroValue396
 t226:=Tryz.underlying399
 a226:=Tryz.isAgg399
 z226:=Tryz.sizeOf399
 v226:=Tryz.zeroValue399
 t227:=Tryz.underlying400
 a227:=Tryz.isAgg400
 z227:=Tryz.sizeOf400
 v227:=Tryz.zeroValue400
 g0:=by kernel_rfl
 g6:=by kernel_rfl}
open Go.RowKit Go.Lib in
theorem Tryz.strings_Fields (s:ByteArray) (w:World) (hs:s.size<4294967281) (hascii:∀(j:Nat) b,s.data.toList[j]? =some b→b.toNat<128) (htab:Lib.TabIs Tryz.prog w "strings.asciiSpace" .u8 Lib.asciiSpaceTab):
 Calls Tryz.prog 299 #[.string s] w fun e w' =>
  e= .returned (.slice (some ⟨w.heap.size,0,none⟩) (Lib.fields s.data.toList).length (Lib.fields s.data.toList).length)∧w' =w.alloc (.cells ((Lib.fields s.data.toList).map fun l=>Value.string ⟨l.toArray⟩).toArray 9):=Any.strings_Fields Tryz.XP (by kernel_rfl) (by kernel_rfl) s w hs hascii htab
def Tryz.Bv:Go.Shelf.Ren:=⟨fun|155=>279|154=>314|138=>330|165=>277|143=>331|166=>278|197=>259|169=>182|195=>336|218=>337|240=>257|241=>313|219=>338|260=>309|276=>305|277=>329|217=>342|225=>343|224=>344|267=>345|266=>346|314=>347|n=>n,fun|9=>9|3=>3|4=>4|72=>264|0=>0|76=>337|105=>321|21=>21|5=>5|70=>262|20=>20|37=>186|75=>266|127=>319|164=>358|46=>44|119=>366|139=>375|138=>374|146=>401|51=>292|80=>242|n=>n,fun|1=>0|3=>3|4=>4|n=>n⟩
theorem Tryz.XQ:Go.Proofs.Lays.n155 Tryz.prog Tryz.Bv:={
 mixed:=by kernel_rfl
 f138:=Tryz.func330.trans (congrArg some (by kernel_rfl))
 f143:=Tryz.func331.trans (congrArg some (by kernel_rfl))
 f154:=Tryz.func314.trans (congrArg some (by kernel_rfl))
 f155:=Tryz.func279.trans (congrArg some (by kernel_rfl))
 f165:=Tryz.func277.trans (congrArg some (by kernel_rfl))
 f166:=Tryz.func278.trans (congrArg some (by kernel_rfl))
 f169:=Tryz.func182.trans (congrArg some (by kernel_rfl))
 f195:=Tryz.func336.trans (congrArg some (by kernel_rfl))
 f197:=Tryz.func259.trans (congrArg some (by kernel_rfl))
 f217:=Tryz.func342.trans (congrArg some (by kernel_rfl))
 f218:=Tryz.func337.trans (congrArg some (by kernel_rfl))
 f219:=Tryz.func338.trans (congrArg some (by kernel_rfl))
 f224:=Tryz.func344.trans (congrArg some (by kernel_rfl))
 f225:=Tryz.func343.trans (congrArg some (by kernel_rfl))
 f240:=Tryz.func257.trans (congrArg some (by kernel_rfl))
 f241:=Tryz.func313.trans (congrArg some (by kernel_rfl))
 f260:=Tryz.func309.trans (congrArg some (by kernel_rfl))
 f266:=Tryz.func346.trans (congrArg some (by kernel_rfl))
 f267:=Tryz.func345.trans (congrArg some (by kernel_rfl))
 f276:=Tryz.func305.trans (congrArg some (by kernel_rfl))
 f277:=Tryz.func329.trans (congrArg some (by kernel_rfl))
 f314:=Tryz.func347.trans (congrArg some (by kernel_rfl))
 t0:=Tryz.underlying0
 a0:=Tryz.isAgg0
 z0:=Tryz.sizeOf0
 v0:=Tryz.zeroValue0
 t3:=Tryz.underlying3
 a3:=Tryz.isAgg3
 z3:=Tryz.sizeOf3
 v3:=Tryz.zeroValue3
 t4:=Tryz.underlying4
 a4:=Tryz.isAgg4
 z4:=Tryz.sizeOf4
 v4:=Tryz.zeroValue4
 t5:=Tryz.underlying5
 a5:=Tryz.isAgg5
 z5:=Tryz.sizeOf5
 v5:=Tryz.zeroValue5
 t9:=Tryz.underlying9
 a9:=Tryz.isAgg9
 z9:=Tryz.sizeOf9
 v9:=Tryz.zeroValue9
 t20:=Tryz.underlying20
 a20:=Tryz.isAgg20
 z20:=Tryz.sizeOf20
 v20:=Tryz.zeroValue20
 t21:=Tryz.underlying21
 a21:=Tryz.isAgg21
 z21:=Tryz.sizeOf21
 v21:=Tryz.zeroValue21
 t37:=Tryz.underlying186
 a37:=Tryz.isAgg186
 z37:=Tryz.sizeOf186
 v37:=Tryz.zeroValue186
 t46:=Tryz.underlying44
 a46:=Tryz.isAgg44
 z46:=Tryz.sizeOf44
 v46:=Tryz.zeroValue44
 t51:=Tryz.underlying292
 a51:=Tryz.isAgg292
 z51:=Tryz.sizeOf292
 v51:=Tryz.zeroValue292
 t70:=Tryz.underlying262
 a70:=Tryz.isAgg262
 z70:=Tryz.sizeOf262
 v70:=Tryz.zeroValue262
 t72:=Tryz.underlying264
 a72:=Tryz.isAgg264
 z72:=Tryz.sizeOf264
 v72:=Tryz.zeroValue264
 t75:=Tryz.underlying266
 a75:=Tryz.isAgg266
 z75:=Tryz.sizeOf266
 v75:=Tryz.zeroValue266
 t76:=Tryz.underlying337
 a76:=Tryz.isAgg337
 z76:=Tryz.sizeOf337
 v76:=Tryz.zeroValue337
 t105:=Tryz.underlying321
 a105:=Tryz.isAgg321
 z105:=Tryz.sizeOf321
 v105:=Tryz.zeroValue321
 t119:=Tryz.underlying366
 a119:=Tryz.isAgg366
 z119:=Tryz.sizeOf366
 t127:=Tryz.underlying319
 a127:=Tryz.isAgg319
 z127:=Tryz.sizeOf319
 v127:=Tryz.zeroValue319
 t138:=Tryz.underlying374
 a138:=Tryz.isAgg374
 z138:=Tryz.sizeOf374
 v138:=Tryz.zeroValue374
 t139:=Tryz.underlying375
 a139:=Tryz.isAgg375
 z139:=Tryz.sizeOf375
 v139:=Tryz.zeroValue375
 t146:=Tryz.underlying401
 a146:=Tryz.isAgg401
 z146:=Tryz.sizeOf401
 v146:=Tryz.zeroValue401
 t164:=Tryz.underlying358
 a164:=Tryz.isAgg358
 z164:=Tryz.sizeOf358
 v164:=Tryz.zeroValue358
 g1:=by kernel_rfl
 g3:=by kernel_rfl
 g4:=by kernel_rfl}
theorem Tryz.yS:Builder.Extra Tryz.prog Tryz.Bv:={
 sizeBuilder:=by kernel_rfl
 liesBuilder:=by kernel_rfl
 t5:=Tryz.underlying5
 a5:=Tryz.isAgg5
 z5:=Tryz.sizeOf5
 v5:=Tryz.zeroValue5
 infoByte:=by kernel_rfl
 cellsByte:=by kernel_rfl
 sizeByte:=by kernel_rfl
 neB5:=by decide}
open Go.RowKit Go.Lib in
theorem Tryz.strings_ReplaceAll (s old new:ByteArray) (m:Int) (w:World) (hs:s.size<4294967281) (hm:w.cell? ⟨0,0,none⟩=some (.int .i64 m)) (h1:1≤old.size) (hlen:s.size+Lib.countB s old*new.size≤140737488355328):
 Calls Tryz.prog 279 #[.string s, .string old, .string new] w fun e w' =>
  e= .returned (.string ⟨(Lib.replaceAll s.data.toList old.data.toList new.data.toList).toArray⟩)∧Below w.heap.size w w' :=Any.strings_ReplaceAll Tryz.XQ Tryz.yS s old new m w hs hm h1 hlen
def Tryz.Bw:Go.Shelf.Ren:=⟨fun|197=>259|260=>309|n=>n,fun|9=>9|21=>21|3=>3|4=>4|5=>5|105=>321|119=>366|0=>0|46=>44|139=>375|138=>374|n=>n,fun|3=>3|4=>4|n=>n⟩
theorem Tryz.OE:Go.Proofs.Lays.n197 Tryz.prog Tryz.Bw:={
 mixed:=by kernel_rfl
 f197:=Tryz.func259.trans (congrArg some (by kernel_rfl))
 f260:=Tryz.func309.trans (congrArg some (by kernel_rfl))
 t0:=Tryz.underlying0
 a0:=Tryz.isAgg0
 z0:=Tryz.sizeOf0
 v0:=Tryz.zeroValue0
 t3:=Tryz.underlying3
 a3:=Tryz.isAgg3
 z3:=Tryz.sizeOf3
 v3:=Tryz.zeroValue3
 t4:=Tryz.underlying4
 a4:=Tryz.isAgg4
 z4:=Tryz.sizeOf4
 v4:=Tryz.zeroValue4
 t5:=Tryz.underlying5
 a5:=Tryz.isAgg5
 z5:=Tryz.sizeOf5
 v5:=Tryz.zeroValue5
 t9:=Tryz.underlying9
 a9:=Tryz.isAgg9
 z9:=Tryz.sizeOf9
 v9:=Tryz.zeroValue9
 t21:=Tryz.underlying21
 a21:=Tryz.isAgg21
 z21:=Tryz.sizeOf21
 v21:=Tryz.zeroValue21
 t46:=Tryz.underlying44
 a46:=Tryz.isAgg44
 z46:=Tryz.sizeOf44
 v46:=Tryz.zeroValue44
 t105:=Tryz.underlying321
 a105:=Tryz.isAgg321
 z105:=Tryz.sizeOf321
 v105:=Tryz.zeroValue321
 t119:=Tryz.underlying366
 a119:=Tryz.isAgg366
 z119:=Tryz.sizeOf366
 t138:=Tryz.underlying374
 a138:=Tryz.isAgg374
 z138:=Tryz.sizeOf374
 v138:=Tryz.zeroValue374
 t139:=Tryz.underlying375
 a139:=Tryz.isAgg375
 z139:=Tryz.sizeOf375
 v139:=Tryz.zeroValue375
 g3:=by kernel_rfl
 g4:=by kernel_rfl}
open Go.RowKit Go.Lib in
theorem Tryz.utf8_DecodeRuneInString (s:ByteArray) (w:World) (hT:Lib.Utf8Tabs 3 4 w):
 Calls Tryz.prog 259 #[.string s] w fun e w' =>e= .returned (.tuple #[.int .i32 (Lib.decodeGo s).1, .int .i64 (Lib.decodeGo s).2])∧Below w.heap.size w w' :=Any.utf8_DecodeRuneInString Tryz.OE s w hT
def Tryz.Ko:Go.Shelf.Ren:=⟨fun|110=>59|109=>109|n=>n,fun|31=>35|9=>9|4=>4|3=>3|0=>0|n=>n,fun|n=>n⟩
theorem Tryz.OG:Go.Proofs.Lays.n110 Tryz.prog Tryz.Ko:={
 mixed:=by kernel_rfl
 f109:=Tryz.func109.trans (congrArg some (by kernel_rfl))
 f110:=Tryz.func59.trans (congrArg some (by kernel_rfl))
 t0:=Tryz.underlying0
 a0:=Tryz.isAgg0
 z0:=Tryz.sizeOf0
 v0:=Tryz.zeroValue0
 t3:=Tryz.underlying3
 a3:=Tryz.isAgg3
 z3:=Tryz.sizeOf3
 v3:=Tryz.zeroValue3
 t4:=Tryz.underlying4
 a4:=Tryz.isAgg4
 z4:=Tryz.sizeOf4
 v4:=Tryz.zeroValue4
 t9:=Tryz.underlying9
 a9:=Tryz.isAgg9
 z9:=Tryz.sizeOf9
 v9:=Tryz.zeroValue9
 t31:=Tryz.underlying35
 a31:=Tryz.isAgg35
 z31:=Tryz.sizeOf35
 v31:=Tryz.zeroValue35}
open Go.Lib in
theorem Tryz.slices_Contains_string (b off n c:Nat) (zs:List ByteArray) (x:ByteArray) (w:World) (hz:n≤zs.length) (hbig:n≤9223372036854775807) (hc:∀j,j<zs.length→w.cell? ⟨b,off+j,none⟩=some (.string (zs.getD j ByteArray.empty))):
 Calls Tryz.prog 59 #[.slice (some ⟨b,off,none⟩) n c, .string x] w fun e w' =>e= .returned (.bool (Lib.containsS (zs.take n) x))∧w' =w:=Any.slices_Contains_string Tryz.OG b off n c zs x w hz hbig hc
open Go.Lib in
theorem Tryz.slices_Contains_string_empty (a:Option Addr) (c:Nat) (x:ByteArray) (w:World):
 Calls Tryz.prog 59 #[.slice a 0 c, .string x] w fun e w' =>e= .returned (.bool false)∧w' =w:=Any.slices_Contains_string_empty Tryz.OG a c x w
end Go.Proofs
namespace Go.Proofs.YtnngbhpeeakfaaaGreatDoor
open Go.RowKit
open aK
def Glob (w:World):Prop:=Lib.Utf8Tabs 3 4 w∧∃m,w.cell? ⟨0,0,none⟩=some (.int .i64 m)
theorem eH {w:World}{a:Addr}{v:Value}(h:w.cell? a=some v):a.block<w.heap.size:=by
 unfold World.cell? at h;split at h
 · rename_i h1;exact aG h1
 · cases h
theorem Glob.below {w w' :World}(h:Glob w) (hb:Below w.heap.size w w'):Glob w' :=by
 first
  |exact ⟨Utf8Tabs_below h.1 hb,trivial⟩
  |(obtain ⟨h1,m,h2⟩:=h
    exact ⟨Utf8Tabs_below h1 hb,m,by rw [hb.cell (eH h2)];exact h2⟩)
theorem Dy (r:Int) (w:World):
 Calls Tryz.prog 298 #[.int .i32 r] w fun e w' =>e= .returned (.bool (dV r))∧w=w' :=by
 go_enter Tryz.func298,Tryz.ntmps298
 go_wp2
 all_goals go_ret
 all_goals refine ⟨aR ?_,rfl⟩
 all_goals (unfold dV;rw [Bool.eq_iff_iff];simp;try omega)
theorem OH (s:ByteArray) (a:Nat) (w:World) (hG:Glob w) (h:a<s.size):
 Calls Tryz.prog 259 #[.string (s.extract a s.size)] w fun e w' =>e= .returned (.tuple #[.int .i32 (Utf8.decode s a).1, .int .i64 (Utf8.decode s a).2])∧Below w.heap.size w w' :=by
 have:=Tryz.utf8_DecodeRuneInString (s.extract a s.size) w hG.1;rw [WR s a h]at this;exact this
theorem Gb (s:ByteArray) (a:Nat) (r:Int) (w:World) (hG:Glob w) (h:a<s.size) (_hs:s.size≤1000000):
 Calls Tryz.prog 252 #[.string s, .int .i64 a, .int .i32 r] w fun e w' =>e= .returned (.bool (r !=65533||decide (1<(Utf8.decode s a).2)))∧Below w.heap.size w w' :=by
 have hd:=OH s a w hG h;clear hG;by_cases hr:r=65533
 · have hr1:(r !=65533)=false:=by simp [hr]
   clear hr;go_enter Tryz.func252,Tryz.ntmps252;go_wp2_with (go_at_call 259;refine hd.mono ?_;rintro e w' ⟨rfl,hb⟩);go_ret;exact ⟨aR (by simp [hr1];omega),hb⟩
 · have hr1:(r !=65533)=true:=by simp [hr]
   clear hr;go_enter Tryz.func252,Tryz.ntmps252;go_wp2_with fail;go_ret;exact ⟨aR (by simp [hr1]),Below.refl _ _⟩
theorem Gc (s:ByteArray) (w:World) (hG:Glob w) (hs:s.size≤1000000):
 Calls Tryz.prog 169 #[.string s] w fun e w' =>e= .returned (.bool (valid s))∧Below w.heap.size w w' :=by
 have HG:Hid (Glob w):=hG;clear hG;go_enter Tryz.func169,Tryz.ntmps169
 go_wp2
 go_loopw [] (fun wr=>∃(pos:Nat),wr.heap[w.heap.size]? =some (.stringIter s pos)∧Below w.heap.size w wr∧Hid (valid s=(dD s pos).all Pt.ok)∧pos≤s.size) (fun wr=>s.size - wr.iterPos w.heap.size)
 case atStart=>exact ⟨0,World.iter_heap w s 0,(Below.refl _ _).alloc (Nat.le_refl _) _,rfl,by omega⟩
 case round=>
  obtain ⟨pos,hit,hbw,HS,hpos⟩:=hrel;have wG:=iterPos_of hit;by_cases hp:pos<s.size
  · have hnx:∀ty,(Instr.next (.pointer (some ⟨w.heap.size,0,none⟩)) true ty).run Tryz.prog wr=_:=fun ty=>Lib.run_next_any_at wr w.heap.size s pos ty hit hp
    have hwd:=width_pos s pos hp;have hwl:=width_le s pos hp;have hit2:=Lib.iterAt_heap wr w.heap.size s pos (pos+(Utf8.decode s pos).2) hit;have hbw2:=Lib.below_iterAt hbw (k:=w.heap.size) (Nat.le_refl _) s (pos+(Utf8.decode s pos).2);obtain ⟨W1,hW1⟩:∃W1,W1=wr.iterAt w.heap.size s (pos+(Utf8.decode s pos).2):=⟨_,rfl⟩;rw [←hW1]at hnx hit2 hbw2;have hlt:=aG hit2;have hr:=Gb s pos (Utf8.decode s pos).1 W1 (HG.out.below (hbw2.mono (by omega))) hp hs
    have HC:Hid (valid s=((((Utf8.decode s pos).1:Int) !=65533||decide (1<(Utf8.decode s pos).2))&&(dD s (pos+(Utf8.decode s pos).2)).all Pt.ok)):=by
     show _=_;rw [HS.out,bq s pos hp,List.all_cons];rfl
    clear hW1 hit hbw HS;cases hk:(((Utf8.decode s pos).1:Int) !=65533||decide (1<(Utf8.decode s pos).2))
    all_goals
     rw [hk]at hr HC;clear hk;go_wp2_with (go_at_call 252;refine hr.mono ?_;rintro e w' ⟨rfl,hb⟩)
    · go_ret;exact ⟨aR (by rw [HC.out];rfl),hbw2.trans (hb.mono (by omega))⟩
    · go_roundw
      case rel=>exact ⟨_,bf hit2 hb hlt,hbw2.trans (hb.mono (by omega)),(by show _=_;rw [HC.out];simp),by omega⟩
      case measure=>rw [iterPos_of (bf hit2 hb hlt),wG];omega
  · have hnx:∀ty,(Instr.next (.pointer (some ⟨w.heap.size,0,none⟩)) true ty).run Tryz.prog wr=_:=fun ty=>Lib.run_next_end_at wr w.heap.size s pos ty hit hp
    go_wp2
    go_ret;exact ⟨aR (by rw [HS.out,bI s pos hp];rfl),hbw⟩
theorem Uw (s:ByteArray) (w:World) (hG:Glob w) (hs:s.size≤1000000):
 Calls Tryz.prog 245 #[.string s] w fun e w' =>e= .returned (.bool (name s))∧Below w.heap.size w w' :=by
 have HG:Hid (Glob w):=hG;clear hG;go_enter Tryz.func245,Tryz.ntmps245
 go_wp2
 go_loopw [] (fun wr=>∃(pos:Nat),wr.heap[w.heap.size]? =some (.stringIter s pos)∧Below w.heap.size w wr∧Hid (name s=((dD s pos).all Pt.named&&(decide (s.size≠0)&&decide (s.size≤100))))∧pos≤s.size) (fun wr=>s.size - wr.iterPos w.heap.size)
 case atStart=>exact ⟨0,World.iter_heap w s 0,(Below.refl _ _).alloc (Nat.le_refl _) _,rfl,by omega⟩
 case round=>
  obtain ⟨pos,hit,hbw,HS,hpos⟩:=hrel;have wG:=iterPos_of hit;by_cases hp:pos<s.size
  · have hnx:∀ty,(Instr.next (.pointer (some ⟨w.heap.size,0,none⟩)) true ty).run Tryz.prog wr=_:=fun ty=>Lib.run_next_any_at wr w.heap.size s pos ty hit hp
    have hwd:=width_pos s pos hp;have hwl:=width_le s pos hp;have hit2:=Lib.iterAt_heap wr w.heap.size s pos (pos+(Utf8.decode s pos).2) hit;have hbw2:=Lib.below_iterAt hbw (k:=w.heap.size) (Nat.le_refl _) s (pos+(Utf8.decode s pos).2);obtain ⟨W1,hW1⟩:∃W1,W1=wr.iterAt w.heap.size s (pos+(Utf8.decode s pos).2):=⟨_,rfl⟩;rw [←hW1]at hnx hit2 hbw2;have hlt:=aG hit2;have hr:=Gb s pos (Utf8.decode s pos).1 W1 (HG.out.below (hbw2.mono (by omega))) hp hs;have hl:=fun r w=>Dy r w
    have HC:Hid (name s=((((dV (Utf8.decode s pos).1||(iw (Utf8.decode s pos).1&&decide (0<pos)))&&(((Utf8.decode s pos).1:Int) !=65533||decide (1<(Utf8.decode s pos).2)))&&(dD s (pos+(Utf8.decode s pos).2)).all Pt.named)&&(decide (s.size≠0)&&decide (s.size≤100)))):=by
     show _=_;rw [HS.out,bq s pos hp,List.all_cons];rfl
    clear hW1 hit hbw HS;obtain ⟨r,hr0⟩:∃r:Nat,(Utf8.decode s pos).1=r:=⟨_,rfl⟩;rw [hr0]at hnx hr HC;clear hr0;cases hL:dV r<;>cases hR:((r:Int) !=65533||decide (1<(Utf8.decode s pos).2))
    all_goals
     rw [hL]at HC;rw [hR]at hr HC;have hl:=Dy r W1;rw [hL]at hl;clear hL hR
     go_wp2_with (first
      |(go_at_call 298;refine hl.mono ?_;rintro e w' ⟨rfl,rfl⟩)
      |(go_at_call 252;refine hr.mono ?_;rintro e w' ⟨rfl,hb⟩))
    all_goals first
     |(go_ret
       refine ⟨aR ?_, ?_⟩
       · rw [HC.out];simp;done
       · exact hbw2.trans (hb.mono (by omega)))
     |(go_ret
       refine ⟨aR ?_, ?_⟩
       · have hd:(iw r&&decide (0<pos))=false:=by
          rw [Bool.eq_false_iff];simp [iw];omega
         rw [HC.out,hd];rfl
       · exact hbw2)
     |(go_roundw
       case rel=>
        refine ⟨_,bf hit2 hb hlt,hbw2.trans (hb.mono (by omega)), ?_,by omega⟩;show _=_;rw [HC.out]
        first
         |(simp;done)
         |(have hd:(iw r&&decide (0<pos))=true:=(by simp [iw];omega);rw [hd];simp)
       case measure=>rw [iterPos_of (bf hit2 hb hlt),wG];omega)
  · have hnx:∀ty,(Instr.next (.pointer (some ⟨w.heap.size,0,none⟩)) true ty).run Tryz.prog wr=_:=fun ty=>Lib.run_next_end_at wr w.heap.size s pos ty hit hp
    have he:=Ic s
    have HE:Hid (name s=(decide (s.size≠0)&&decide (s.size≤100))):=by
     show _=_;rw [HS.out,bI s pos hp];rfl
    clear HS;by_cases h0:s.size=0
    · have he2:s.toList.isEmpty=true:=by rw [he];simp [h0]
      clear he;have HZ:Hid (s.size=0):=h0;clear h0
      go_wp2
      go_ret;exact ⟨aR (by rw [HE.out,HZ.out];rfl),hbw⟩
    · have he2:s.toList.isEmpty=false:=by rw [he];simp [h0]
      clear he
      go_wp2
      go_ret;exact ⟨aR (by rw [HE.out];simp [h0];omega),hbw⟩
theorem Ig (s:ByteArray) (f:Int) (w:World) (_hs:s.size≤1000000) (h:¬(0≤f∧f<s.size∧s.data.toList[f.toNat]? =some 39)):
 Calls Tryz.prog 311 #[.string s, .int .i64 f] w fun e w' =>e= .returned (LZ (bV s f))∧Below w.heap.size w w' :=by
 have HE:Hid (bV s f=none):=by show _=_;unfold bV;rw [if_neg h]
 have HH:Hid (¬(0≤f∧f<s.size∧s.data.toList[f.toNat]? =some 39)):=h;clear h;by_cases h1:f<0
 · go_enter Tryz.func311,Tryz.ntmps311;go_wp2_with fail;go_ret3;exact ⟨by rw [HE.out];rfl,Below.refl _ _⟩
 · by_cases h2:(s.size:Int)≤f
   · go_enter Tryz.func311,Tryz.ntmps311;go_wp2_with fail;go_ret3;exact ⟨by rw [HE.out];rfl,Below.refl _ _⟩
   · obtain ⟨n,rfl⟩:=Int.eq_ofNat_of_zero_le (show 0≤f by omega);have hn:n<s.size:=by omega
     have hn2:n<s.data.toList.length:=by simp;exact hn
     have h3:((s[n].toNat:Int) !=39)=true:=by
      have:=HH.out;rw [Int.toNat_natCast,List.getElem?_eq_getElem hn2]at this;have h4:¬s.data.toList[n]=39:=fun e=>this ⟨by omega,by omega,by rw [e]⟩
      have h5:s[n]=s.data.toList[n]:=by simp;rfl
      rw [h5];have:s.data.toList[n].toNat≠39:=fun e=>h4 (UInt8.toNat_inj.1 e)
      exact bne_iff_ne.2 (by omega)
     clear HH;go_enter Tryz.func311,Tryz.ntmps311;go_wp2_with fail;go_ret3;exact ⟨by rw [HE.out];rfl,Below.refl _ _⟩
theorem kJ (s:ByteArray) (k:Nat) (_h:k<s.size) (h2:k<s.data.toList.length):s.data.toList[k]=s[k]:=by simp;rfl
theorem uM (l:List UInt8) (c:UInt8):Lib.byteCells l++ [Value.int .u8 c.toNat]=Lib.byteCells (l++ [c]):=by simp [Lib.byteCells]
theorem Ih (s:ByteArray) (n:Nat) (w:World) (hs:s.size≤1000000) (hn:n<s.size) (h3:s.data.toList[n]? =some 39):
 Calls Tryz.prog 311 #[.string s, .int .i64 n] w fun e w' =>e= .returned (LZ (bV s n))∧Below w.heap.size w w' :=by
 have hl:s.data.toList.length=s.size:=by simp
 have HE:Hid (bV s n=(lW (s.data.toList.drop (n+1))).map fun x=>(⟨x.1.toArray⟩,(n:Int)+1+x.2)):=by
  show _=_;unfold bV;rw [if_pos ⟨by omega,by omega,by rw [Int.toNat_natCast];exact h3⟩];rfl
 have h4:((s[n].toNat:Int) !=39)=false:=by
  rw [List.getElem?_eq_getElem (by omega)]at h3;rw [←kJ s n hn (by omega),Option.some.inj h3];rfl
 have Hl:Hid (s.data.toList.length=s.size):=hl;clear h3 hl;have h5:decide (s.size≤n)=false:=decide_eq_false (by omega);have h6:decide ((n:Int)<0)=false:=decide_eq_false (by omega);go_enter Tryz.func311,Tryz.ntmps311;go_wp2_with fail
 go_loopw [8] (fun v wr=>∃(k:Nat) (done:List UInt8),v= .int .i64 k∧n+1≤k∧k≤s.size∧Lib.IsBuilder 264 5 w.heap.size w.heap.size (Lib.byteCells done) wr∧Below w.heap.size w wr∧w.heap.size<wr.heap.size∧done.length≤k∧Hid (lW (s.data.toList.drop (n+1))=(lW (s.data.toList.drop k)).map fun x=>(done++x.1,x.2+(k - (n+1))))) (fun v _=>s.size+1 - (intOf v).toNat)
 case atStart=>exact ⟨n+1, [],by go_num,by omega,by omega,Lib.fresh_isBuilder _ _ w,(Below.refl _ _).alloc (Nat.le_refl _) _,by simp,by simp,by show _=_;simp⟩
 case round=>
  obtain ⟨k,done,rfl,hk1,hk2,hB,hbw,hz,hd,HS⟩:=hrel;have hbl:(Lib.byteCells done).length+1≤140737488355328:=by rw [Lib.byteCells_length];omega
  by_cases hlt:k<s.size
  · have hlt2:k<s.data.toList.length:=by have:=Hl.out;omega
    by_cases hq:s[k]=39
    · have hq1:((s[k].toNat:Int)==39)=true:=by rw [hq];rfl
      have Hq:Hid (s.data.toList[k]=39):=by show _=_;rw [kJ s k hlt];exact hq
      clear hq;by_cases hend:(s.size:Int)≤(k:Int)+1
      · have HF:Hid (bV s n=some (⟨done.toArray⟩,(k:Int)+1)):=by
         show _=_;rw [HE.out,HS.out,Jy hlt2 Hq.out (by have:=Hl.out;omega)];simp;omega
        go_wp2_with (go_at_call 182;refine (Tryz.Builder_String_any _ _ done _ hB (by omega)).mono ?_;rintro e w' ⟨rfl,hb⟩);go_ret3;exact ⟨by rw [HF.out];rfl,hbw.trans hb⟩
      · have Kq:k+1<s.size:=by omega
        have Kr:k+1<s.data.toList.length:=by have:=Hl.out;omega
        by_cases hq2:s[k+1]=39
        · have aak:((s[k+1].toNat:Int) !=39)=false:=by rw [hq2];rfl
          have HF:Hid (lW (s.data.toList.drop (n+1))=(lW (s.data.toList.drop (k+2))).map fun x=>((done++ [39])++x.1,x.2+(k+2 - (n+1)))):=by
           show _=_;rw [HS.out,Ob hlt2 Hq.out Kr (by rw [kJ s (k+1) Kq];exact hq2)];cases lW (s.data.toList.drop (k+2))with
           |none=>rfl
           |some x=>simp;omega
          have H2:Hid (s[k+1]=39):=hq2;clear hq2 HS;go_wp2_with (go_at_call 181;refine (Tryz.Builder_WriteByte _ _ (Lib.byteCells done) _ _ hB hbl (by omega)).mono ?_;rintro e w' ⟨rfl,hB2,hb⟩);go_roundw
          case rel=>
           refine ⟨k+2,done++ [39],by go_num,by omega,by omega, ?_,hbw.trans hb, ?_,by simp;omega,HF⟩
           · have:=hB2;rw [uM,H2.out]at this;exact .inr this
           · exact Nat.lt_of_lt_of_le hz hb.size
          case measure=>simp [intOf];omega
        · have aak:((s[k+1].toNat:Int) !=39)=true:=by
           have:s[k+1].toNat≠39:=fun e=>hq2 (UInt8.toNat_inj.1 e)
           exact bne_iff_ne.2 (by omega)
          have HF:Hid (bV s n=some (⟨done.toArray⟩,(k:Int)+1)):=by
           show _=_;rw [HE.out,HS.out,Jz hlt2 Hq.out Kr (by rw [kJ s (k+1) Kq];exact hq2)];simp;omega
          clear hq2;go_wp2_with (go_at_call 182;refine (Tryz.Builder_String_any _ _ done _ hB (by omega)).mono ?_;rintro e w' ⟨rfl,hb⟩);go_ret3;exact ⟨by rw [HF.out];rfl,hbw.trans hb⟩
    · have hq1:((s[k].toNat:Int)==39)=false:=by
       have:s[k].toNat≠39:=fun e=>hq (UInt8.toNat_inj.1 e)
       exact beq_eq_false_iff_ne.2 (by omega)
      have HF:Hid (lW (s.data.toList.drop (n+1))=(lW (s.data.toList.drop (k+1))).map fun x=>((done++ [s[k]])++x.1,x.2+(k+1 - (n+1)))):=by
       show _=_;rw [HS.out,FK hlt2 (by rw [kJ s k hlt];exact hq)];cases lW (s.data.toList.drop (k+1))with
       |none=>rfl
       |some x=>simp;exact ⟨rfl,by omega⟩
      clear hq HS;go_wp2_with (go_at_call 181;refine (Tryz.Builder_WriteByte _ _ (Lib.byteCells done) _ _ hB hbl (by omega)).mono ?_;rintro e w' ⟨rfl,hB2,hb⟩);go_roundw
      case rel=>
       refine ⟨k+1,done++ [s[k]],by go_num,by omega,by omega, ?_,hbw.trans hb, ?_,by simp;omega,HF⟩
       · have:=hB2;rw [uM]at this;exact .inr this
       · exact Nat.lt_of_lt_of_le hz hb.size
      case measure=>simp [intOf];omega
  · have HF:Hid (bV s n=none):=by
     show _=_;rw [HE.out,HS.out,Oa (by have:=Hl.out;omega)];rfl
    go_wp2_with fail;go_ret3;exact ⟨by rw [HF.out];rfl,hbw⟩
theorem Kt (s:ByteArray) (f:Int) (w:World) (hs:s.size≤1000000):
 Calls Tryz.prog 311 #[.string s, .int .i64 f] w fun e w' =>e= .returned (LZ (bV s f))∧Below w.heap.size w w' :=by
 by_cases h:0≤f∧f<s.size∧s.data.toList[f.toNat]? =some 39
 · obtain ⟨h1,h2,h3⟩:=h;obtain ⟨n,rfl⟩:=Int.eq_ofNat_of_zero_le h1;rw [Int.toNat_natCast]at h3;exact Ih s n w hs (by omega) h3
 · exact Ig s f w hs h
end Go.Proofs.YtnngbhpeeakfaaaGreatDoor
