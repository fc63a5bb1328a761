/- The library's sort at this program: its parts, laid (written by a tool of the kit). -/
import Derived.Shelf.SlSortCmp.SmallK
import Derived.Below
import Derived.Laws.AppendOwn
import Derived.Lib.Bytealg
import Derived.Shelf.Strings.Builder1
import Derived.Shelf.Strings.Builder2
import Derived.Shelf.Strings.OnBuilder
import Derived.Shelf.Small.Bits
import Derived.Shelf.Small.Strs
import Derived.Shelf.Strings.BuilderF
import Derived.Shelf.Strings.BuilderK
import Derived.Shelf.Utf8.RuneCount
import Derived.Shelf.Strings.Builder2Cap
import Derived.Shelf.Strconv.Itoa0
import Derived.Shelf.Strconv.Itoa1
import Derived.Shelf.LaysM
import Derived.Shelf.Strconv.Itoa2
import Derived.Shelf.Strconv.Itoa3
import Derived.Shelf.Strings.Search1
import Derived.Shelf.Strings.Search2
import Derived.Shelf.Strings.Search3
import Derived.Shelf.Strings.Count
import Derived.Shelf.Strings.Shaped
import Derived.Shelf.Strings.Split
import Derived.Shelf.Strings.Fields
import Derived.Shelf.Strings.Replace
import Derived.Shelf.Strings.SplitShaped
import Derived.Shelf.Unicode.Latin
import Derived.Shelf.Unicode.Decode
import Derived.Shelf.Strings.RuneCount
import Derived.Shelf.Unicode.DecodeSlow
import Derived.Shelf.Unicode.DecodeAny
import Derived.Shelf.Unicode.Is16White
import Derived.Shelf.Unicode.IsSpaceAny
import Derived.Shelf.Unicode.Is16WhiteD
import Derived.Shelf.Unicode.Is16Any
import Derived.Shelf.Unicode.Is32Any
import Derived.Shelf.Unicode.ExclAny
import Derived.Shelf.Strings.BuilderCap
import Derived.Shelf.Slices.Turned
import Derived.Shelf.Slices.Equal
import Derived.Shelf.Slices.Empties2
import Derived.Test.YtnngbhpeeakfaaaGreatDoorB07
import Derived.Test.YtnngbhpeeakfaaaGreatDoorB09
import Derived.Test.YtnngbhpeeakfaaaGreatDoorB43
import Derived.Test.YtnngbhpeeakfaaaGreatDoorProg
namespace Go.Proofs
open Go.Shelf
def Tryz.sortTb_ren:Go.Shelf.Ren:=⟨fun|6=>73|15=>143|14=>142|28=>212|29=>213|20=>204|21=>205|22=>206|23=>207|24=>208|25=>209|26=>210|27=>211|46=>280|47=>281|48=>282|49=>283|50=>284|57=>315|n=>n,fun|22=>28|24=>27|25=>142|3=>3|39=>44|0=>0|53=>292|55=>249|4=>4|46=>286|45=>285|50=>169|5=>5|9=>9|66=>340|70=>344|76=>362|77=>363|n=>n,fun|n=>n⟩
theorem Tryz.sortTb:Go.Proofs.SlLaysF0.n6 Tryz.prog Tryz.sortTb_ren:={
 mixed:=by kernel_rfl
 f6:=⟨Tryz.f73.name,by decide,Tryz.func73.trans (congrArg some (by kernel_rfl))⟩
 f14:=⟨Tryz.f142.name,by decide,Tryz.func142.trans (congrArg some (by kernel_rfl))⟩
 f15:=Tryz.func143.trans (congrArg some (by kernel_rfl))
 f20:=⟨Tryz.f204.name,by decide,Tryz.func204.trans (congrArg some (by kernel_rfl))⟩
 f21:=⟨Tryz.f205.name,by decide,Tryz.func205.trans (congrArg some (by kernel_rfl))⟩
 f22:=⟨Tryz.f206.name,by decide,Tryz.func206.trans (congrArg some (by kernel_rfl))⟩
 f23:=⟨Tryz.f207.name,by decide,Tryz.func207.trans (congrArg some (by kernel_rfl))⟩
 f24:=⟨Tryz.f208.name,by decide,Tryz.func208.trans (congrArg some (by kernel_rfl))⟩
 f25:=⟨Tryz.f209.name,by decide,Tryz.func209.trans (congrArg some (by kernel_rfl))⟩
 f26:=⟨Tryz.f210.name,by decide,Tryz.func210.trans (congrArg some (by kernel_rfl))⟩
 f27:=⟨Tryz.f211.name,by decide,Tryz.func211.trans (congrArg some (by kernel_rfl))⟩
 f28:=Tryz.func212.trans (congrArg some (by kernel_rfl))
 f29:=Tryz.func213.trans (congrArg some (by kernel_rfl))
 f46:=⟨Tryz.f280.name,by decide,Tryz.func280.trans (congrArg some (by kernel_rfl))⟩
 f47:=Tryz.func281.trans (congrArg some (by kernel_rfl))
 f48:=Tryz.func282.trans (congrArg some (by kernel_rfl))
 f49:=⟨Tryz.f283.name,by decide,Tryz.func283.trans (congrArg some (by kernel_rfl))⟩
 f50:=⟨Tryz.f284.name,by decide,Tryz.func284.trans (congrArg some (by kernel_rfl))⟩
 f57:=⟨Tryz.f315.name,by decide,Tryz.func315.trans (congrArg some (by kernel_rfl))⟩
 t0:=Tryz.underlying0
 a0:=Tryz.isAgg0
 z0:=Tryz.sizeOf0
 v0:=Tryz.zeroValue0
 t3:=Tryz.underlying3
 a3:=Tryz.isAgg3
 z3:=Tryz.sizeOf3
 v3:=Tryz.zeroValue3
 t4:=Tryz.underlying4
 a4:=Tryz.isAgg4
 z4:=Tryz.sizeOf4
 v4:=Tryz.zeroValue4
 t5:=Tryz.underlying5
 a5:=Tryz.isAgg5
 z5:=Tryz.sizeOf5
 v5:=Tryz.zeroValue5
 t9:=Tryz.underlying9
 a9:=Tryz.isAgg9
 z9:=Tryz.sizeOf9
 v9:=Tryz.zeroValue9
 t22:=Tryz.underlying28
 a22:=Tryz.isAgg28
 z22:=Tryz.sizeOf28
 v22:=Tryz.zeroValue28
 t25:=Tryz.underlying142
 a25:=Tryz.isAgg142
 z25:=Tryz.sizeOf142
 v25:=Tryz.zeroValue142
 t39:=Tryz.underlying44
 a39:=Tryz.isAgg44
 z39:=Tryz.sizeOf44
 v39:=Tryz.zeroValue44
 t45:=Tryz.underlying285
 a45:=Tryz.isAgg285
 z45:=Tryz.sizeOf285
 v45:=Tryz.zeroValue285
 t46:=Tryz.underlying286
 a46:=Tryz.isAgg286
 z46:=Tryz.sizeOf286
 v46:=Tryz.zeroValue286
 t50:=Tryz.underlying169
 a50:=Tryz.isAgg169
 z50:=Tryz.sizeOf169
 v50:=Tryz.zeroValue169
 t53:=Tryz.underlying292
 a53:=Tryz.isAgg292
 z53:=Tryz.sizeOf292
 v53:=Tryz.zeroValue292
 t55:=Tryz.underlying249
 a55:=Tryz.isAgg249
 z55:=Tryz.sizeOf249
 v55:=Tryz.zeroValue249
 t66:=Tryz.underlying340
 a66:=Tryz.isAgg340
 z66:=Tryz.sizeOf340
 v66:=Tryz.zeroValue340
 t70:=Tryz.underlying344
 a70:=Tryz.isAgg344
 z70:=Tryz.sizeOf344
 v70:=Tryz.zeroValue344
 t76:=Tryz.underlying362
 a76:=Tryz.isAgg362
 z76:=Tryz.sizeOf362
 v76:=Tryz.zeroValue362
 t77:=Tryz.underlying363
 a77:=Tryz.isAgg363
 z77:=Tryz.sizeOf363
 v77:=Tryz.zeroValue363}
def Tryz.sortVw_ren:Go.Shelf.Ren:=⟨fun|6=>79|15=>143|14=>147|28=>212|29=>213|20=>215|21=>216|22=>217|23=>218|24=>219|25=>220|26=>221|27=>222|46=>285|47=>281|48=>282|49=>286|50=>287|57=>316|n=>n,fun|22=>29|24=>46|25=>145|3=>3|39=>44|0=>0|53=>292|55=>249|4=>4|46=>286|45=>285|50=>169|5=>5|9=>9|66=>340|70=>344|76=>362|77=>363|n=>n,fun|n=>n⟩
theorem Tryz.sortVw:Go.Proofs.SlLaysF0.n6 Tryz.prog Tryz.sortVw_ren:={
 mixed:=by kernel_rfl
 f6:=⟨Tryz.f79.name,by decide,Tryz.func79.trans (congrArg some (by kernel_rfl))⟩
 f14:=⟨Tryz.f147.name,by decide,Tryz.func147.trans (congrArg some (by kernel_rfl))⟩
 f15:=Tryz.func143.trans (congrArg some (by kernel_rfl))
 f20:=⟨Tryz.f215.name,by decide,Tryz.func215.trans (congrArg some (by kernel_rfl))⟩
 f21:=⟨Tryz.f216.name,by decide,Tryz.func216.trans (congrArg some (by kernel_rfl))⟩
 f22:=⟨Tryz.f217.name,by decide,Tryz.func217.trans (congrArg some (by kernel_rfl))⟩
 f23:=⟨Tryz.f218.name,by decide,Tryz.func218.trans (congrArg some (by kernel_rfl))⟩
 f24:=⟨Tryz.f219.name,by decide,Tryz.func219.trans (congrArg some (by kernel_rfl))⟩
 f25:=⟨Tryz.f220.name,by decide,Tryz.func220.trans (congrArg some (by kernel_rfl))⟩
 f26:=⟨Tryz.f221.name,by decide,Tryz.func221.trans (congrArg some (by kernel_rfl))⟩
 f27:=⟨Tryz.f222.name,by decide,Tryz.func222.trans (congrArg some (by kernel_rfl))⟩
 f28:=Tryz.func212.trans (congrArg some (by kernel_rfl))
 f29:=Tryz.func213.trans (congrArg some (by kernel_rfl))
 f46:=⟨Tryz.f285.name,by decide,Tryz.func285.trans (congrArg some (by kernel_rfl))⟩
 f47:=Tryz.func281.trans (congrArg some (by kernel_rfl))
 f48:=Tryz.func282.trans (congrArg some (by kernel_rfl))
 f49:=⟨Tryz.f286.name,by decide,Tryz.func286.trans (congrArg some (by kernel_rfl))⟩
 f50:=⟨Tryz.f287.name,by decide,Tryz.func287.trans (congrArg some (by kernel_rfl))⟩
 f57:=⟨Tryz.f316.name,by decide,Tryz.func316.trans (congrArg some (by kernel_rfl))⟩
 t0:=Tryz.underlying0
 a0:=Tryz.isAgg0
 z0:=Tryz.sizeOf0
 v0:=Tryz.zeroValue0
 t3:=Tryz.underlying3
 a3:=Tryz.isAgg3
 z3:=Tryz.sizeOf3
 v3:=Tryz.zeroValue3
 t4:=Tryz.underlying4
 a4:=Tryz.isAgg4
 z4:=Tryz.sizeOf4
 v4:=Tryz.zeroValue4
 t5:=Tryz.underlying5
 a5:=Tryz.isAgg5
 z5:=Tryz.sizeOf5
 v5:=Tryz.zeroValue5
 t9:=Tryz.underlying9
 a9:=Tryz.isAgg9
 z9:=Tryz.sizeOf9
 v9:=Tryz.zeroValue9
 t22:=Tryz.underlying29
 a22:=Tryz.isAgg29
 z22:=Tryz.sizeOf29
 v22:=Tryz.zeroValue29
 t25:=Tryz.underlying145
 a25:=Tryz.isAgg145
 z25:=Tryz.sizeOf145
 v25:=Tryz.zeroValue145
 t39:=Tryz.underlying44
 a39:=Tryz.isAgg44
 z39:=Tryz.sizeOf44
 v39:=Tryz.zeroValue44
 t45:=Tryz.underlying285
 a45:=Tryz.isAgg285
 z45:=Tryz.sizeOf285
 v45:=Tryz.zeroValue285
 t46:=Tryz.underlying286
 a46:=Tryz.isAgg286
 z46:=Tryz.sizeOf286
 v46:=Tryz.zeroValue286
 t50:=Tryz.underlying169
 a50:=Tryz.isAgg169
 z50:=Tryz.sizeOf169
 v50:=Tryz.zeroValue169
 t53:=Tryz.underlying292
 a53:=Tryz.isAgg292
 z53:=Tryz.sizeOf292
 v53:=Tryz.zeroValue292
 t55:=Tryz.underlying249
 a55:=Tryz.isAgg249
 z55:=Tryz.sizeOf249
 v55:=Tryz.zeroValue249
 t66:=Tryz.underlying340
 a66:=Tryz.isAgg340
 z66:=Tryz.sizeOf340
 v66:=Tryz.zeroValue340
 t70:=Tryz.underlying344
 a70:=Tryz.isAgg344
 z70:=Tryz.sizeOf344
 v70:=Tryz.zeroValue344
 t76:=Tryz.underlying362
 a76:=Tryz.isAgg362
 z76:=Tryz.sizeOf362
 v76:=Tryz.zeroValue362
 t77:=Tryz.underlying363
 a77:=Tryz.isAgg363
 z77:=Tryz.sizeOf363
 v77:=Tryz.zeroValue363}
end Go.Proofs
namespace Go.Proofs.YtnngbhpeeakfaaaGreatDoor
open Go.Sort
theorem flat_get {α:Type} [Inhabited α] {enc:α→List Value}{k:Nat}(hk:∀x,(enc x).length=k) (k0:0<k):∀(L:List α) (t:Nat),t<L.length*k→(L.flatMap enc)[t]? =(enc L[t / k]!)[t % k]?
 | [],t,h=>absurd h (by simp)
 |x::L,t,h=>by
  rw [List.flatMap_cons]
  by_cases ht:t<k
  · rw [List.getElem?_append_left (by rw [hk];exact ht),Nat.div_eq_of_lt ht,Nat.mod_eq_of_lt ht];rfl
  · obtain ⟨u,rfl⟩:∃u,t=u+k:=⟨t - k,by omega⟩
    rw [List.getElem?_append_right (by rw [hk];omega),hk,Nat.add_sub_cancel,Nat.add_mod_right,Nat.add_div_right _ k0]
    rw [flat_get hk k0 L u (by rw [List.length_cons,Nat.succ_mul]at h;omega)]
    rfl
theorem flatK_list {α:Type} [Inhabited α] {enc:α→List Value}{k:Nat}(hk:∀x,(enc x).length=k) (k0:0<k) (d:Array α):(flatK enc k d).toList=d.toList.flatMap enc:=by
 have hl:(d.toList.flatMap enc).length=d.size*k:=by
  have:∀L:List α,(L.flatMap enc).length=L.length*k:=fun L=>by
   induction L with
   |nil=>simp
   |cons x L ih=>rw [List.flatMap_cons,List.length_append,ih,hk,List.length_cons,Nat.succ_mul,Nat.add_comm]
  rw [this];simp
 apply List.ext_getElem?
 intro t
 by_cases ht:t<d.size*k
 · rw [flat_get hk k0 _ t (by simpa using ht)]
   have h1:=get_flatK enc k d t ht
   rw [getElem!_pos (flatK enc k d) t (by rw [size_flatK];exact ht)]at h1
   have h2:t % k<(enc d[t / k]!).length:=by rw [hk];exact Nat.mod_lt _ k0
   rw [getElem!_pos (enc d[t / k]!) (t % k) h2]at h1
   rw [show (flatK enc k d).toList[t]? =(flatK enc k d)[t]? from Array.getElem?_toList,Array.getElem?_eq_getElem (by rw [size_flatK];exact ht),h1]
   have h3:d.toList[t / k]! =d[t / k]! :=by
    have hq:t / k<d.size:=Nat.div_lt_of_lt_mul (by rw [Nat.mul_comm];exact ht)
    rw [getElem!_pos d.toList (t / k) (by simpa using hq),getElem!_pos d (t / k) hq];simp
   rw [h3,List.getElem?_eq_getElem h2]
 · rw [List.getElem?_eq_none (by simp;omega),List.getElem?_eq_none (by omega)]
theorem put_take {cur:Array Value}{F:Array Value}(h:F.size≤cur.size):(putCells id 0 F cur).toList.take F.size=F.toList:=by
 apply List.ext_getElem?
 intro t
 by_cases ht:t<F.size
 · rw [List.getElem?_take,if_pos ht]
   unfold putCells
   simp [ht,show t<cur.size by omega]
 · rw [List.getElem?_take,if_neg ht,List.getElem?_eq_none (by simp;omega)]
theorem holds_own {α:Type} [Inhabited α] {enc:α→List Value}{k:Nat}(hk:∀x,(enc x).length=k) (k0:0<k) {w:World}{base g n cap:Nat}{e:TypeId}{d:Array α}(h:w.ownsRow base e k (.slice (some ⟨g,0,none⟩) n cap) n (d.toList.flatMap enc)):HoldsK enc k w g 0 d:=by
 obtain ⟨hl,h|⟨g',cap',cur,hv,_,hg,hn,_,hs,ht⟩⟩:=h
 · exact absurd h.1 (by simp)
 simp only [Value.slice.injEq,Option.some.injEq,Addr.mk.injEq]at hv
 obtain ⟨⟨rfl,_⟩,_,rfl⟩:=hv
 rw [←flatK_list hk k0,Array.length_toList,size_flatK]at hl
 intro j hj
 rw [size_flatK]at hj
 have hj2:j<cur.size:=by
  have:=Nat.mul_le_mul_right k hn
  omega
 rw [←flatK_list hk k0]at ht
 have e1:cur[j]? =(flatK enc k d)[j]? :=by
  rw [←Array.getElem?_toList,←Array.getElem?_toList,←ht,List.getElem?_take,if_pos (by omega)]
 have e2:(flatK enc k d)[j]! =cur[j]:=by
  have hj3:j<(flatK enc k d).size:=by rw [size_flatK];exact hj
  rw [Array.getElem?_eq_getElem hj2,Array.getElem?_eq_getElem hj3]at e1
  rw [getElem!_pos (flatK enc k d) j hj3]
  exact (Option.some.inj e1).symm
 rw [e2,Nat.zero_add]
 refine ⟨?_, ?_⟩
 · unfold World.cell?
   simp [hg,hj2]
 · unfold World.frozen?
   simp [hg]
theorem sorted_row {α:Type} [Inhabited α] {enc:α→List Value}{k:Nat}(hk:∀x,(enc x).length=k) (k0:0<k) {w:World}{base g n cap m:Nat}{e:TypeId}{d d' :Array α}{os:Array Obj}(h:w.ownsRow base e k (.slice (some ⟨g,0,none⟩) n cap) n (d.toList.flatMap enc)) (hs:d'.size=d.size):
 (sortWorldK enc k w g 0 m d' os).ownsRow base e k (.slice (some ⟨g,0,none⟩) n cap) n (d'.toList.flatMap enc)∧(∀b,b<w.heap.size→b≠g→(sortWorldK enc k w g 0 m d' os).heap[b]? =w.heap[b]?)∧Go.RowKit.Below base w (sortWorldK enc k w g 0 m d' os):=by
 obtain ⟨hl,h|⟨g',cap',cur,hv,hb,hg,hn,hm,hz,ht⟩⟩:=h
 · exact absurd h.1 (by simp)
 simp only [Value.slice.injEq,Option.some.injEq,Addr.mk.injEq]at hv
 obtain ⟨⟨rfl,_⟩,_,rfl⟩:=hv
 have hgs:g<w.heap.size:=by
  rcases Nat.lt_or_ge g w.heap.size with h|h
  · exact h
  · rw [Array.getElem?_eq_none h]at hg;exact absurd hg (by simp)
 rw [←flatK_list hk k0,Array.length_toList,size_flatK]at hl
 have hF:(flatK enc k d').size=n*k:=by rw [size_flatK,hs,hl]
 have hle:(flatK enc k d').size≤cur.size:=by rw [hF,hz];exact Nat.mul_le_mul_right k hn
 have hb2:∀b,b<w.heap.size→(sortWorldK enc k w g 0 m d' os).heap[b]? =if g=b then (w.heap[b]?).map (onCells (putCells id 0 (flatK enc k d')))else w.heap[b]? :=fun b hb=>by
  unfold sortWorldK grow putRowK putRow mapBlock Go.Sort.ahead
  dsimp only
  rw [Array.getElem?_append_left (by simpa using hb),Array.getElem?_modify]
 refine ⟨⟨?_, .inr ⟨g,cap,putCells id 0 (flatK enc k d') cur,rfl,hb, ?_,hn,hm, ?_, ?_⟩⟩,fun b hb hne=>by rw [hb2 b hb,if_neg (fun e=>hne e.symm)],⟨rfl,rfl,rfl, ?_,fun b hbb=> ?_⟩⟩
 · rw [←flatK_list hk k0,Array.length_toList,hF]
 · rw [hb2 g hgs,if_pos rfl,hg];rfl
 · rw [←hz];unfold putCells;simp
 · rw [←hF,put_take hle,flatK_list hk k0]
 · unfold sortWorldK grow putRowK putRow mapBlock Go.Sort.ahead;simp
 · rcases Nat.lt_or_ge b w.heap.size with h|h
   · rw [hb2 b h,if_neg (by omega)]
   · omega
end Go.Proofs.YtnngbhpeeakfaaaGreatDoor
namespace Go.Proofs.YtnngbhpeeakfaaaGreatDoor
open Go.Sort
open aK
theorem less_lt:∀x y:List UInt8,Op.bytesLess x y=ltStr x y
 | [], []=>by simp [Op.bytesLess,ltStr]
 |_::_, []=>by simp [Op.bytesLess,ltStr]
 | [],_::_=>by simp [Op.bytesLess,ltStr]
 |a::x,b::y=>by
  rw [Op.bytesLess,less_lt x y]
  unfold ltStr
  simp only [List.cons_lt_cons_iff]
  by_cases h1:a<b<;>by_cases h2:a=b<;>by_cases h3:x<y<;>simp [h1,h2,h3]
theorem cmp_less:∀x y:List UInt8,decide (Lib.compareBytes x y<0)=Op.bytesLess x y
 | [], []=>by simp [Op.bytesLess,Lib.compareBytes]
 |_::_, []=>by simp [Op.bytesLess,Lib.compareBytes]
 | [],_::_=>by simp [Op.bytesLess,Lib.compareBytes]
 |a::x,b::y=>by
  rw [Op.bytesLess,←cmp_less x y,Lib.compareBytes]
  by_cases h1:a<b
  · simp [h1]
  · by_cases h2:b<a
    · have h3:¬a=b:=fun e=>by rw [e]at h2;exact UInt8.lt_irrefl _ h2
      simp [h1,h2,h3]
    · have h3:a=b:=UInt8.le_antisymm (UInt8.not_lt.1 h2) (UInt8.not_lt.1 h1)
      subst h3
      simp
def cfN {α:Type}(f:α→ByteArray) (x y:α):Int:=Lib.compareBytes (f x).data.toList (f y).data.toList
theorem lt_name {α:Type}(f:α→ByteArray) (x y:α):ltOf (cfN f) x y=ltB (f x) (f y):=by
 unfold ltOf cfN ltB
 rw [cmp_less,ByteArray.toList_eq,ByteArray.toList_eq]
theorem swo_name {α:Type}(f:α→ByteArray):SWO (ltOf (cfN f)) where
 irrefl x:=by rw [lt_name];unfold ltB;rw [less_lt];exact swo_ltStr.irrefl _
 trans x y z h1 h2:=by rw [lt_name]at *;unfold ltB at *;rw [less_lt]at *;exact swo_ltStr.trans _ _ _ h1 h2
 ntrans x y z h1 h2:=by rw [lt_name]at *;unfold ltB at *;rw [less_lt]at *;exact swo_ltStr.ntrans _ _ _ h1 h2
theorem sorted_list {α:Type} [Inhabited α] (f:α→ByteArray) {d d' :Array α}(hp:PermIn 0 d.size d d') (hs:SortedIn (ltOf (cfN f)) 0 d.size d'):d'.toList.Perm d.toList∧d'.toList.Pairwise fun a b=>ltB (f b) (f a)=false:=by
 obtain ⟨h1,_,h3⟩:=hp
 refine ⟨?_, ?_⟩
 · have e1:d'.extract 0 d.size=d' :=by rw [←h1];simp
   have e2:d.extract 0 d.size=d:=by simp
   rwa [e1,e2]at h3
 · rw [List.pairwise_iff_getElem]
   intro i j hi hj hij
   have hi' :i<d'.size:=by simpa using hi
   have hj' :j<d'.size:=by simpa using hj
   have:=hs i j (Nat.zero_le _) hij (by omega)
   rw [lt_name,getElem!_pos d' i hi',getElem!_pos d' j hj']at this
   simpa using this
end Go.Proofs.YtnngbhpeeakfaaaGreatDoor
namespace Go.Proofs
open Go.Shelf
def Tryz.lays106_ren:Go.Shelf.Ren:=⟨fun|106=>75|213=>144|265=>214|n=>n,fun|9=>9|3=>3|n=>n,fun|n=>n⟩
theorem Tryz.lays106:Go.Proofs.Lays.n106 Tryz.prog Tryz.lays106_ren:={
 mixed:=by kernel_rfl
 f106:=Tryz.func75.trans (congrArg some (by kernel_rfl))
 f213:=Tryz.func144.trans (congrArg some (by kernel_rfl))
 f265:=Tryz.func214.trans (congrArg some (by kernel_rfl))
 t3:=Tryz.underlying3
 a3:=Tryz.isAgg3
 z3:=Tryz.sizeOf3
 v3:=Tryz.zeroValue3
 t9:=Tryz.underlying9
 a9:=Tryz.isAgg9
 z9:=Tryz.sizeOf9
 v9:=Tryz.zeroValue9}
open Go.RowKit in
theorem Tryz.strings_Compare (a b:ByteArray) (w:World):
 Calls Tryz.prog 75 #[.string a, .string b] w fun e w' =>e= .returned (.int .i64 (Lib.compareBytes a.data.toList b.data.toList))∧w' =w:=Any.strings_Compare Tryz.lays106 a b w
end Go.Proofs
namespace Go.Proofs.YtnngbhpeeakfaaaGreatDoor
open Go.RowKit
open aK
open Go.Sort (SWO)
structure Ts where
 t:Tb
 a:Option Addr
 c:Nat
instance:Inhabited Ts:=⟨⟨Tb.zero,none,0⟩⟩
def Ts.tw (q:Ts):Tw:=⟨q.t, .slice q.a q.t.aD.length q.c⟩
def Ts.enc (q:Ts):List Value:=q.tw.arr.toList
def Ts.nm (q:Ts):ByteArray:=q.t.name
theorem ts_of {L:List Tw}(h:∀q∈L,∃a c,q.v= .slice a q.t.aD.length c):∃M:List Ts,L=M.map Ts.tw:=by
 induction L with
 |nil=>exact ⟨[],rfl⟩
 |cons q L ih=>
  obtain ⟨M,rfl⟩:=ih fun r hr=>h r (List.mem_cons_of_mem _ hr)
  obtain ⟨a,c,e⟩:=h q List.mem_cons_self
  refine ⟨⟨q.t,a,c⟩::M, ?_⟩
  obtain ⟨t,v⟩:=q
  obtain rfl:v= .slice a t.aD.length c:=e
  rfl
theorem flat_ts (M:List Ts):mQ (M.map Ts.tw)=M.flatMap Ts.enc:=by
 unfold mQ
 rw [List.flatMap_map]
 rfl
theorem compare_any (a b:ByteArray) (w:World):Calls Tryz.prog 75 #[.string a, .string b] w fun e w' =>e= .returned (.int .i64 (Lib.compareBytes a.data.toList b.data.toList))∧w' =w:=Tryz.strings_Compare a b w
set_option maxRecDepth 100000 in
set_option maxHeartbeats 2000000 in
theorem tcmp_any (x y:Ts) (w:World):Calls Tryz.prog 74 #[.agg x.tw.arr, .agg y.tw.arr] w fun e w' =>e= .returned (.int .i64 (cfN Ts.nm x y))∧∃q os',w' =Go.Sort.grow (w.drewN q) os' :=by
 obtain ⟨W,hW⟩:∃W,(w.alloc (.cells x.tw.arr 27)).alloc (.cells y.tw.arr 27)=W:=⟨_,rfl⟩
 have hb1:=ay (aB w (.cells x.tw.arr 27)) (.cells y.tw.arr 27)
 have hb2:=aB (w.alloc (.cells x.tw.arr 27)) (.cells y.tw.arr 27)
 rw [av]at hb2
 rw [hW]at hb1 hb2
 have hc:=compare_any x.nm y.nm W
 have k1:W.cell? ⟨w.heap.size,0,none⟩=some (.string x.nm):=by rw [aj hb1];rfl
 have k2:W.cell? ⟨w.heap.size+1,0,none⟩=some (.string y.nm):=by rw [aj hb2];rfl
 have HG:Hid (W=Go.Sort.grow (w.drewN 0) #[.cells x.tw.arr 27, .cells y.tw.arr 27]):=by
  show _=_
  rw [←hW,Go.Sort.alloc_eq_grow,Go.Sort.alloc_eq_grow,Go.Sort.grow_grow];rfl
 change Calls _ _ _ _ fun e w' =>e= .returned (.int .i64 (Lib.compareBytes x.nm.data.toList y.nm.data.toList))∧_
 obtain ⟨r,hr⟩:∃r,Lib.compareBytes x.nm.data.toList y.nm.data.toList=r:=⟨_,rfl⟩
 rw [hr]at hc⊢
 clear hr hb1 hb2
 unfold Ts.tw Tw.arr at *
 dsimp only at *
 go_enter Tryz.func74,Tryz.ntmps74
 go_upto_region 1 with (fail)
 clear hW
 go_wp2_with fail
 refine hc.mono ?_;rintro e w2 ⟨rfl,rfl⟩
 go_wp2_with fail
 go_ret
 exact ⟨rfl,0,_,HG.out⟩
set_option maxRecDepth 100000 in
set_option maxHeartbeats 2000000 in
theorem sort_t {w:World}{base g cap n:Nat}{M:List Ts}(h:w.ownsRow base 27 7 (.slice (some ⟨g,0,none⟩) n cap) n (mQ (M.map Ts.tw))) (hl:M.length=n) (hn:n≤12):
 Calls Tryz.prog 73 #[.slice (some ⟨g,0,none⟩) n cap, .func (.func 74) #[] #[]] w fun e w' =>e= .returned (.tuple #[])∧∃M' :List Ts,M'.Perm M∧((M'.map Ts.t).Pairwise fun a b=>ltB b.name a.name=false)∧w'.ownsRow base 27 7 (.slice (some ⟨g,0,none⟩) n cap) n (mQ (M'.map Ts.tw))∧(∀b,b<w.heap.size→b≠g→w'.heap[b]? =w.heap[b]?)∧Below base w w' :=by
 rw [flat_ts]at h
 have hk:∀x:Ts,x.enc.length=7:=fun _=>rfl
 have h0:=h
 have hs:M.toArray.size=n:=by simpa using hl
 rw [show M=M.toArray.toList by simp]at h0
 have hH:=holds_own hk (by decide) h0
 have hg:g<w.heap.size:=by
  obtain ⟨_,h|⟨g',cap',cur,hv,_,hgg,_⟩⟩:=h0
  · exact absurd h.1 (by simp)
  simp only [Value.slice.injEq,Option.some.injEq,Addr.mk.injEq]at hv
  obtain ⟨⟨rfl,_⟩,_,_⟩:=hv
  exact aG hgg
 have eg:∀args w,(callFunc 74 args).run Tryz.prog w= .ok (.enter 74 args) w:=enters_of Tryz.func74 (by kernel_rfl) rfl
 have hc:=AnyQ.slices_SortFunc_small_sorted Tryz.sortTb 7 Tryz.isAgg27 Tryz.sizeOf27 Ts.enc hk
  (fun x v hv=>by
   simp only [Ts.enc,Ts.tw,Tw.arr,List.mem_cons,List.not_mem_nil,or_false]at hv
   rcases hv with rfl|rfl|rfl|rfl|rfl|rfl|rfl<;>rfl)
  (cfN Ts.nm) 74 #[] (swo_name Ts.nm) g 0 cap M.toArray w eg (fun _ _ _ _ x y=>tcmp_any x y _) hH hg (by rw [hs];exact hn)
  (fun k W hk=>(LJ (k:Int) W (by omega) (by omega)).mono fun _ _ h=>⟨h.1,h.2⟩)
 change Calls Tryz.prog 73 _ _ _ at hc
 rw [hs]at hc
 refine hc.mono ?_
 rintro e w' ⟨he,d',m,os,hp,hso,rfl⟩
 have hp' :Go.Sort.PermIn 0 M.toArray.size M.toArray d' :=by rw [hs];exact hp
 have hso' :Go.Sort.SortedIn (ltOf (cfN Ts.nm)) 0 M.toArray.size d' :=by rw [hs];exact hso
 obtain ⟨p1,p2⟩:=sorted_list Ts.nm hp' hso'
 obtain ⟨r1,r2,r3⟩:=sorted_row (m:=m) (os:=os) hk (by decide) h0 hp'.1
 refine ⟨he,d'.toList,by simpa using p1, ?_,by rw [flat_ts];exact r1,r2,r3⟩
 rw [List.pairwise_map]
 exact p2
end Go.Proofs.YtnngbhpeeakfaaaGreatDoor
