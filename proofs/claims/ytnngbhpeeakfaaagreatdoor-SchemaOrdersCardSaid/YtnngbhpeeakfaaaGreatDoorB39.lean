/- Parts of a proof. -/
import Derived.Test.YtnngbhpeeakfaaaGreatDoorB38
set_option maxHeartbeats 4000000
set_option maxRecDepth 100000
namespace Go.Proofs.YtnngbhpeeakfaaaGreatDoor
open Go.Proofs.Tryz
open Go.RowKit
open aK
def Jg (l:List Int):List Lit:=l.map fun i=> .int .i64 i
theorem YT (i:Int) (l:List Int):Zl (.int .i64 i) (Jg l)=l.contains i:=by
 unfold Jg Zl;rw [Bool.eq_iff_iff,List.any_eq_true,List.contains_iff_mem];constructor
 · rintro ⟨y,hy,h⟩;obtain ⟨x,hx,rfl⟩:=List.mem_map.1 hy;have h:=(WideAt.sameKey_iff (b:= .int .i64 i) trivial).1 h;injection h with _ h
   exact h▸hx
 · intro h;exact ⟨_,List.mem_map.2 ⟨i,h,rfl⟩,WideAt.sameKey_self trivial⟩
abbrev NS (w:World) (b n:Nat) (l:List Int):Prop:=nk prog 3 4 w b n (Jg l)
theorem NS.look {w:World}{b n:Nat}{l:List Int}(h:NS w b n l) (i:Int) (hi: -9223372036854775808≤i∧i≤9223372036854775807):(Instr.lookup 245 (.map (some b)) (.int .i64 i) false).run prog w= .ok (.bool (l.contains i)) w:=by
 have:=nk.look h (Go.Maps.int_keyed underlying3) underlying245 underlying4 (Tryz.zeroValue4 w) (OO underlying3 i hi.1 hi.2) trivial;rwa [YT]at this
theorem Wj {w:World}{b0 b1 m n:Nat}{last i:Int}{seen:List Int}(hl:w.cell? ⟨b0,0,none⟩=some (.int .i64 last)) (hm:w.cell? ⟨b1,0,none⟩=some (.map (some m))) (hs:NS w m n seen) (hn:n<1000) (hi: -9223372036854775808≤i∧i≤9223372036854775807):
 Calls prog 165 #[.int .i64 i, .pointer (some ⟨b0,0,none⟩), .pointer (some ⟨b1,0,none⟩)] w fun e w' =>e= .returned (.bool (decide (1≤i)&&(decide (i≤last)&& !seen.contains i)))∧NS w' m (n+1) (i::seen)∧w.grownBy w' (some m):=by
 have hlk:=NS.look hs i hi;obtain ⟨c,hc⟩:∃c,seen.contains i=c:=⟨_,rfl⟩;rw [hc]at hlk⊢;clear hc
 have hT:∃x,(decide (1≤i)&&(decide (i≤last)&& !c))=x∧((¬1≤i∧x=false)∨(1≤i∧¬i≤last∧x=false)∨(1≤i∧i≤last∧x= !c)):=by
  refine ⟨_,rfl, ?_⟩;by_cases h1:1≤i
  · by_cases h2:i≤last
    · exact .inr (.inr ⟨h1,h2,by simp [h1,h2]⟩)
    · exact .inr (.inl ⟨h1,h2,by simp [h2]⟩)
  · exact .inl ⟨h1,by simp [h1]⟩
 obtain ⟨x,hx,hT⟩:=hT;rw [hx];clear hx;rcases hT with ⟨h1,rfl⟩|⟨h1,h2,rfl⟩|⟨h1,h2,rfl⟩
 all_goals
  go_enter func165,ntmps165;go_wp2_with (at_mapUpdate;refine OL rfl _ _ _ rfl hs (Go.Maps.int_keyed underlying3) underlying245 underlying4 hn rfl rfl rfl (OO underlying3 i hi.1 hi.2) trivial ?_;intro w7 hs7 hg7);go_ret;exact ⟨rfl,hs7,hg7⟩
structure KI (w0:World) (C:Array Value) (w:World) (n:Nat) (seen:List Int):Prop where
 below:Below w0.heap.size w0 w
 box:w.heap[w0.heap.size]? =some (.cells C 92 (0,0))
 var:w.heap[w0.heap.size+1+1]? =some (.cells #[.map (some (w0.heap.size+1))] 245 (0,0))
 set:NS w (w0.heap.size+1) n seen
theorem KI.alloc {w0 w:World}{C:Array Value}{n:Nat}{seen:List Int}(h:KI w0 C w n seen) (o:Obj):KI w0 C (w.alloc o) n seen:=
 ⟨h.below.alloc h.below.size o,ay h.box o,ay h.var o,nk.below h.set ((Below.refl w.heap.size w).alloc (Nat.le_refl _) o)⟩
theorem KI.step {w0 w w' :World}{C:Array Value}{n n' :Nat}{seen seen' :List Int}(h:KI w0 C w n seen) (hs:NS w' (w0.heap.size+1) n' seen') (hg:w.grownBy w' (some (w0.heap.size+1))):KI w0 C w' n' seen' :=
 ⟨h.below.grown hg h.below.size (fun g hg=>by cases hg;omega),(hg.block _ (aG h.box) (fun e=>by have:=Option.some.inj e;omega)).trans h.box,(hg.block _ (aG h.var) (fun e=>by have:=Option.some.inj e;omega)).trans h.var,hs⟩
theorem Lv {last:Int}{A:List Int}{j:Nat}{i:Int}(h:A[j]? =some i) (seen:List Int):Jm last seen (A.drop j)=((decide (1≤i)&&(decide (i≤last)&& !seen.contains i))&&Jm last (i::seen) (A.drop (j+1))):=by
 obtain ⟨hj,rfl⟩:=List.getElem?_eq_some_iff.1 h;rw [List.drop_eq_getElem_cons hj];rfl
theorem Wm {last:Int}{A:List Int}{n:Nat}(h:A.length≤n) (seen:List Int):Jm last seen (A.drop n)=true:=by
 rw [List.drop_eq_nil_of_le h];rfl
theorem zY {A:List Int}{j:Nat}{i:Int}(h:A[j]? =some i):(A.take (j+1)).reverse=i::(A.take j).reverse:=by
 obtain ⟨hj,rfl⟩:=List.getElem?_eq_some_iff.1 h;rw [List.take_succ_eq_append_getElem hj,List.reverse_append];rfl
theorem LA (b c r:Bool):(b&&(c&&r))=((c&&b)&&r):=by cases b<;>cases c<;>rfl
theorem YU {w:World}{s:Sw}(h:pK w s) (hT:s.T.length≤400) (hV:s.V.length≤400) (hOT:∀q∈s.T, -9223372036854775808≤q.t.id∧q.t.id≤9223372036854775807) (hOV:∀q∈s.V, -9223372036854775808≤q.x.id∧q.x.id≤9223372036854775807):
 Calls prog 94 #[.agg s.arr] w fun e w' =>e= .returned (.bool (Jm s.last [] (s.x.ts.map Tb.id++s.x.vs.map Vw.id)))∧Below w.heap.size w w' :=by
 have h1:Hid (∀q∈s.T,q.arr.toList.all (·.oneCell')=true):=fun q hq=>(h.t q hq).one
 have h2:Hid (∀q∈s.V,q.arr.toList.all (·.oneCell')=true):=fun q hq=>(h.v q hq).one
 have hts:=h.ts;have hvs:=h.vs;clear h;obtain ⟨la,T,V,tv,vv⟩:=s;unfold Sw.arr Sw.x at *
 dsimp only at *
 obtain ⟨ta,tc,rfl,htx⟩:=hts;obtain ⟨va,vc,rfl,LY⟩:=hvs;have HTX:=Lib.hid htx;have HVX:=Lib.hid LY;have HOT:=Lib.hid hOT;have HOV:=Lib.hid hOV;clear htx LY hOT hOV;have hmk:= @run_makeMap prog;go_enter func94,ntmps94;go_upto_region 4 with (fail)
 clear hmk
 have hK:KI w #[.int .i64 la, .slice ta T.length tc, .slice va V.length vc] (((w.alloc (.cells #[.int .i64 la, .slice ta T.length tc, .slice va V.length vc] 92)).alloc (.map #[] 0)).alloc (.cells #[.map (some (w.heap.size+1))] 245)) 0 []:=by
  have hs1:=av w (.cells #[.int .i64 la, .slice ta T.length tc, .slice va V.length vc] 92);have hset:=nk.made (P:=prog) (k:=3) (e:=4) (w.alloc (.cells #[.int .i64 la, .slice ta T.length tc, .slice va V.length vc] 92));have hv:=aB ((w.alloc (.cells #[.int .i64 la, .slice ta T.length tc, .slice va V.length vc] 92)).alloc (.map #[] 0)) (.cells #[.map (some (w.heap.size+1))] 245);rw [hs1]at hset;rw [av,hs1]at hv;have hB1:=(Below.refl w.heap.size w).alloc (Nat.le_refl _) (.cells #[.int .i64 la, .slice ta T.length tc, .slice va V.length vc] 92);have hB2:=hB1.alloc hB1.size (.map #[] 0);exact ⟨hB2.alloc hB2.size _,ay (ay (aB _ _) _) _,hv,nk.below hset ((Below.refl _ _).alloc (Nat.le_refl _) _)⟩
 generalize (((w.alloc (.cells _ 92)).alloc (.map #[] 0)).alloc _)=W at *;have k1:W.cell? ⟨w.heap.size,1,none⟩=some (.slice ta T.length tc):=by rw [aj hK.box];rfl
 obtain ⟨A,hA⟩:∃A,T.map (fun q:Tw=>q.t.id)++V.map (fun q:Vv=>q.x.id)=A:=⟨_,rfl⟩
 have HA:Hid ((∀(j:Nat) (q:Tw),T[j]? =some q→A[j]? =some q.t.id)∧(∀(j:Nat) (q:Vv),V[j]? =some q→A[T.length+j]? =some q.x.id)∧A.length=T.length+V.length):=by
  subst hA;refine ⟨fun j q hq=> ?_,fun j q hq=> ?_,by simp⟩
  · have hj:=(List.getElem?_eq_some_iff.1 hq).1;rw [List.getElem?_append_left (by simpa using hj),List.getElem?_map,hq];rfl
  · rw [List.getElem?_append_right (by simp),List.length_map,Nat.add_sub_cancel_left,List.getElem?_map,hq];rfl
 have HE:Hid ((T.map Tw.t).map Tb.id++(V.map Vv.x).map Vw.id=A):=by
  show _=_;rw [←hA,List.map_map,List.map_map];rfl
 clear hA;go_wp2_with fail;clear k1
 go_loopw [5,16] (fun ok i wr=>∃(j:Nat) (b:Bool),ok= .bool b∧i= .int .i64 j∧j≤T.length∧KI w #[.int .i64 la, .slice ta T.length tc, .slice va V.length vc] wr j (A.take j).reverse∧Hid (Jm la [] A=(b&&Jm la (A.take j).reverse (A.drop j)))) (fun _ i _=>T.length - (intOf i).toNat)
 case atStart=>exact ⟨0,true,rfl,rfl,Nat.zero_le _,hK,by show _=_;rw [List.drop_zero];rfl⟩
 case round=>
  clear hK;obtain ⟨j,b,rfl,rfl,hj,hK,HT⟩:=hrel;by_cases hjl:j<T.length
  · have p0:(j:Int)<(T.length:Int):=by omega
    have p1:(0:Int)≤(j:Int):=by omega
    have HJ:=Lib.hid (show j+1≤T.length from hjl);obtain ⟨g,o,rfl,hx⟩:=HTX.out (by omega);obtain ⟨q,hq⟩:∃q,T[j]? =some q:=⟨_,List.getElem?_eq_getElem hjl⟩;have hR:=lq Tw.len hx hq hK.below;have ho1:=h1.out q (List.mem_of_getElem? hq);have hio:=HOT.out q (List.mem_of_getElem? hq);have YV:=HA.out.1 j q hq
    have HT2:Hid (Jm la [] A=(((decide (1≤q.t.id)&&(decide (q.t.id≤la)&& !((A.take j).reverse).contains q.t.id))&&b)&&Jm la (A.take (j+1)).reverse (A.drop (j+1)))):=by
     show _=_;rw [HT.out,Lv YV,zY YV,LA]
    have HS:Hid ((A.take (j+1)).reverse=q.t.id::(A.take j).reverse):=zY YV;have hK1:=hK.alloc (.cells q.arr 27);have k0:(wr.alloc (.cells q.arr 27)).cell? ⟨wr.heap.size,1,none⟩=some (.int .i64 q.t.id):=by rw [aj (aB wr _)];rfl
    have hc:=Wj (last:=la) (by rw [aj hK1.box];rfl) (by rw [aj hK1.var];rfl) hK1.set (by omega) hio;obtain ⟨c,hcc⟩:∃c,(decide (1≤q.t.id)&&(decide (q.t.id≤la)&& !((A.take j).reverse).contains q.t.id))=c:=⟨_,rfl⟩;rw [hcc]at hc HT2;clear hq hx hcc HT YV hK;go_wp2_with (first|refine cZ Tryz.Ac rfl _ rfl rfl rfl hR ?_|refine fq Tryz.Ac rfl _ _ rfl rfl rfl rfl rfl rfl ho1 ?_);refine hc.mono ?_;rintro e w5 ⟨rfl,hs5,hg5⟩;have hK5:=hK1.step hs5 hg5;cases c
    all_goals
     go_wp2_with fail;go_roundw
     case rel=>exact ⟨j+1,_,rfl,by go_num,HJ.out,by rw [HS.out];exact hK5,HT2⟩
     case measure=>have hjj:=HJ.out;simp [intOf];omega
  · have jV:j=T.length:=by omega
    subst jV
    rename World=>w1
    have k2:w1.cell? ⟨w.heap.size,2,none⟩=some (.slice va V.length vc):=by rw [aj hK.box];rfl
    go_wp2_with fail;clear k2
    go_loopw [5,32] (fun ok i wr=>∃(j:Nat) (b:Bool),ok= .bool b∧i= .int .i64 j∧j≤V.length∧KI w #[.int .i64 la, .slice ta T.length tc, .slice va V.length vc] wr (T.length+j) (A.take (T.length+j)).reverse∧Hid (Jm la [] A=(b&&Jm la (A.take (T.length+j)).reverse (A.drop (T.length+j))))) (fun _ i _=>V.length - (intOf i).toNat)
    case atStart=>exact ⟨0,b,rfl,rfl,Nat.zero_le _,hK,HT⟩
    case round=>
     clear hK HT;obtain ⟨j,b,rfl,rfl,hj,hK,HT⟩:=hrel;by_cases hjl:j<V.length
     · have p0:(j:Int)<(V.length:Int):=by omega
       have p1:(0:Int)≤(j:Int):=by omega
       have HJ:=Lib.hid (show j+1≤V.length from hjl);obtain ⟨g,o,rfl,hx⟩:=HVX.out (by omega);obtain ⟨q,hq⟩:∃q,V[j]? =some q:=⟨_,List.getElem?_eq_getElem hjl⟩;have hR:=lq Vv.len hx hq hK.below;have ho1:=h2.out q (List.mem_of_getElem? hq);have hio:=HOV.out q (List.mem_of_getElem? hq);have YV:=HA.out.2.1 j q hq
       have HT2:Hid (Jm la [] A=(((decide (1≤q.x.id)&&(decide (q.x.id≤la)&& !((A.take (T.length+j)).reverse).contains q.x.id))&&b)&&Jm la (A.take (T.length+(j+1))).reverse (A.drop (T.length+(j+1))))):=by
        show _=_;rw [HT.out,Lv YV,←Nat.add_assoc,zY YV,LA]
       have HS:Hid ((A.take (T.length+(j+1))).reverse=q.x.id::(A.take (T.length+j)).reverse):=zY YV;have hK1:=hK.alloc (.cells q.arr 46);have k0:(wr.alloc (.cells q.arr 46)).cell? ⟨wr.heap.size,1,none⟩=some (.int .i64 q.x.id):=by rw [aj (aB wr _)];rfl
       have hc:=Wj (last:=la) (by rw [aj hK1.box];rfl) (by rw [aj hK1.var];rfl) hK1.set (by omega) hio;obtain ⟨c,hcc⟩:∃c,(decide (1≤q.x.id)&&(decide (q.x.id≤la)&& !((A.take (T.length+j)).reverse).contains q.x.id))=c:=⟨_,rfl⟩;rw [hcc]at hc HT2;clear hq hx hcc HT YV hK;go_wp2_with (first|refine cZ Tryz.Jf rfl _ rfl rfl rfl hR ?_|refine fq Tryz.Jf rfl _ _ rfl rfl rfl rfl rfl rfl ho1 ?_);refine hc.mono ?_;rintro e w5 ⟨rfl,hs5,hg5⟩;have hK5:=hK1.step hs5 hg5;cases c
       all_goals
        go_wp2_with fail;go_roundw
        case rel=>exact ⟨j+1,_,rfl,by go_num,HJ.out,by rw [HS.out];exact hK5,HT2⟩
        case measure=>have hjj:=HJ.out;simp [intOf];omega
     · have jV:j=V.length:=by omega
       subst jV
       have HZ:Hid (Jm la [] ((T.map Tw.t).map Tb.id++(V.map Vv.x).map Vw.id)=b):=by
        show _=_;rw [HE.out,HT.out,Wm (Nat.le_of_eq HA.out.2.2),Bool.and_true]
       go_wp2_with fail;go_ret;exact ⟨aR HZ.out.symm,hK.below⟩
theorem Tryz.ZH:QH prog 28 27 (.agg #[.string ⟨#[]⟩, .int .i64 0, .string ⟨#[]⟩, .int .i64 0, .string ⟨#[]⟩, .int .i64 0, .slice none 0 0]) 7 96:=uN underlying28 (by kernel_rfl) rfl (by decide)
theorem Tryz.adM:QH prog 29 46 (.agg #[.string ⟨#[]⟩, .int .i64 0, .string ⟨#[]⟩, .string ⟨#[]⟩, .slice none 0 0]) 5 80:=uN underlying29 (by kernel_rfl) rfl (by decide)
theorem Jh {w:World}{u:Value}{m:Nat}{ys:List Value}(hu:Rd w u m ys) (hl:ys.length=m*2) (h1:∀u∈ys,u.oneCell' =true) (hm:m≤1000):
 Calls prog 37 #[u] w fun e w' =>∃v,e= .returned v∧w'.ownsRow w.heap.size 24 2 v m ys∧Below w.heap.size w w' :=by
 obtain ⟨a,c,rfl,hx⟩:=hu;have q:=fun (w:World) (a:Option Addr) (n c n' c' :Nat)=>Lib.run_eql_slice_nil w _ _ a n c n' c' underlying25
 cases a with
 |none=>
  have hm0:m=0:=by
   rcases Nat.eq_zero_or_pos m with h|h
   · exact h
   · obtain ⟨_,_,e,_⟩:=hx h;cases e
  subst hm0;have hys:ys= []:=List.length_eq_zero_iff.1 (by omega);subst hys;go_enter func37,ntmps37;go_wp2_with fail;go_ret;exact ⟨_,rfl,World.ownsRow_nil _ _ _ _,Below.refl _ _⟩
 |some ad=>
  have hlit:=kR w [] 24 0 2 w.heap.size rfl (by decide) (Nat.le_refl _);have hB:=(Below.refl w.heap.size w).alloc (Nat.le_refl _) (.cells #[] 24);have hr:Rd (w.alloc (.cells #[] 24)) (.slice (some ad) m c) m ys:=Rd.below ⟨_,_,rfl,hx⟩ hB;go_enter func37,ntmps37;go_wp2_with (at_builtin;refine MN Tryz.KA rfl _ _ rfl w.heap.size _ _ _ rfl hlit _ _ _ rfl hr hl h1 (by omega) hB.size ?_;intro a6 c6 wq h6 EW);go_ret;rw [Nat.zero_add,List.nil_append]at h6;exact ⟨_,rfl,by simpa using h6,below_app hB hB.size EW (fun g2 hg2=>(hlit.lt g2 hg2).1)⟩
theorem PD {w:World}{u:Value}{m:Nat}{ys:List Value}(hu:Rd w u m ys) (hl:ys.length=m*1) (h1:∀u∈ys,u.oneCell' =true) (hm:m≤1000):
 Calls prog 35 #[u] w fun e w' =>∃v,e= .returned v∧w'.ownsRow w.heap.size 9 1 v m ys∧Below w.heap.size w w' :=by
 obtain ⟨a,c,rfl,hx⟩:=hu;have q:=fun (w:World) (a:Option Addr) (n c n' c' :Nat)=>Lib.run_eql_slice_nil w _ _ a n c n' c' underlying35
 cases a with
 |none=>
  have hm0:m=0:=by
   rcases Nat.eq_zero_or_pos m with h|h
   · exact h
   · obtain ⟨_,_,e,_⟩:=hx h;cases e
  subst hm0;have hys:ys= []:=List.length_eq_zero_iff.1 (by omega);subst hys;go_enter func35,ntmps35;go_wp2_with fail;go_ret;exact ⟨_,rfl,World.ownsRow_nil _ _ _ _,Below.refl _ _⟩
 |some ad=>
  have hlit:=kR w [] 9 0 1 w.heap.size rfl (by decide) (Nat.le_refl _);have hB:=(Below.refl w.heap.size w).alloc (Nat.le_refl _) (.cells #[] 9);have hr:Rd (w.alloc (.cells #[] 9)) (.slice (some ad) m c) m ys:=Rd.below ⟨_,_,rfl,hx⟩ hB;go_enter func35,ntmps35;go_wp2_with (at_builtin;refine MN Tryz.tY rfl _ _ rfl w.heap.size _ _ _ rfl hlit _ _ _ rfl hr hl h1 (by omega) hB.size ?_;intro a6 c6 wq h6 EW);go_ret;rw [Nat.zero_add,List.nil_append]at h6;exact ⟨_,rfl,by simpa using h6,below_app hB hB.size EW (fun g2 hg2=>(hlit.lt g2 hg2).1)⟩
theorem YW {w:World}{u:Value}{m:Nat}{ys:List Value}(hu:Rd w u m ys) (hl:ys.length=m*7) (h1:∀u∈ys,u.oneCell' =true) (hm:m≤1000):
 Calls prog 70 #[u] w fun e w' =>∃v,e= .returned v∧w'.ownsRow w.heap.size 27 7 v m ys∧Below w.heap.size w w' :=by
 obtain ⟨a,c,rfl,hx⟩:=hu;have q:=fun (w:World) (a:Option Addr) (n c n' c' :Nat)=>Lib.run_eql_slice_nil w _ _ a n c n' c' underlying28
 cases a with
 |none=>
  have hm0:m=0:=by
   rcases Nat.eq_zero_or_pos m with h|h
   · exact h
   · obtain ⟨_,_,e,_⟩:=hx h;cases e
  subst hm0;have hys:ys= []:=List.length_eq_zero_iff.1 (by omega);subst hys;go_enter func70,ntmps70;go_wp2_with fail;go_ret;exact ⟨_,rfl,World.ownsRow_nil _ _ _ _,Below.refl _ _⟩
 |some ad=>
  have hlit:=kR w [] 27 0 7 w.heap.size rfl (by decide) (Nat.le_refl _);have hB:=(Below.refl w.heap.size w).alloc (Nat.le_refl _) (.cells #[] 27);have hr:Rd (w.alloc (.cells #[] 27)) (.slice (some ad) m c) m ys:=Rd.below ⟨_,_,rfl,hx⟩ hB;go_enter func70,ntmps70;go_wp2_with (at_builtin;refine MN Tryz.ZH rfl _ _ rfl w.heap.size _ _ _ rfl hlit _ _ _ rfl hr hl h1 (by omega) hB.size ?_;intro a6 c6 wq h6 EW);go_ret;rw [Nat.zero_add,List.nil_append]at h6;exact ⟨_,rfl,by simpa using h6,below_app hB hB.size EW (fun g2 hg2=>(hlit.lt g2 hg2).1)⟩
theorem YX {w:World}{u:Value}{m:Nat}{ys:List Value}(hu:Rd w u m ys) (hl:ys.length=m*5) (h1:∀u∈ys,u.oneCell' =true) (hm:m≤1000):
 Calls prog 71 #[u] w fun e w' =>∃v,e= .returned v∧w'.ownsRow w.heap.size 46 5 v m ys∧Below w.heap.size w w' :=by
 obtain ⟨a,c,rfl,hx⟩:=hu;have q:=fun (w:World) (a:Option Addr) (n c n' c' :Nat)=>Lib.run_eql_slice_nil w _ _ a n c n' c' underlying29
 cases a with
 |none=>
  have hm0:m=0:=by
   rcases Nat.eq_zero_or_pos m with h|h
   · exact h
   · obtain ⟨_,_,e,_⟩:=hx h;cases e
  subst hm0;have hys:ys= []:=List.length_eq_zero_iff.1 (by omega);subst hys;go_enter func71,ntmps71;go_wp2_with fail;go_ret;exact ⟨_,rfl,World.ownsRow_nil _ _ _ _,Below.refl _ _⟩
 |some ad=>
  have hlit:=kR w [] 46 0 5 w.heap.size rfl (by decide) (Nat.le_refl _);have hB:=(Below.refl w.heap.size w).alloc (Nat.le_refl _) (.cells #[] 46);have hr:Rd (w.alloc (.cells #[] 46)) (.slice (some ad) m c) m ys:=Rd.below ⟨_,_,rfl,hx⟩ hB;go_enter func71,ntmps71;go_wp2_with (at_builtin;refine MN Tryz.adM rfl _ _ rfl w.heap.size _ _ _ rfl hlit _ _ _ rfl hr hl h1 (by omega) hB.size ?_;intro a6 c6 wq h6 EW);go_ret;rw [Nat.zero_add,List.nil_append]at h6;exact ⟨_,rfl,by simpa using h6,below_app hB hB.size EW (fun g2 hg2=>(hlit.lt g2 hg2).1)⟩
def Tb.zero:Tb:=⟨⟨#[]⟩,0,Cl.zero,Cl.zero, []⟩
def Vw.zero:Vw:=⟨⟨#[]⟩,0,⟨#[]⟩,⟨#[]⟩, []⟩
def Tw.zero:Tw:=⟨Tb.zero, .slice none 0 0⟩
def Vv.zero:Vv:=⟨Vw.zero, .slice none 0 0⟩
theorem nL.zero (w:World):nL w Tw.zero:=⟨none,0,rfl,fun h=>absurd h (by decide)⟩
theorem vM.zero (w:World):vM w Vv.zero:=⟨none,0,rfl,fun h=>absurd h (by decide)⟩
theorem GI {α:Type}{p:α→Bool}{L:List α}{j:Nat}{q:α}(h:L[j]? =some q):(L.drop j).find? p=if p q then some q else (L.drop (j+1)).find? p:=by
 obtain ⟨hj,rfl⟩:=List.getElem?_eq_some_iff.1 h;rw [List.drop_eq_getElem_cons hj,List.find?_cons];cases p L[j]<;>rfl
theorem Wn (w:World):(Instr.build 27 #[]).run prog w= .ok (.agg Tw.zero.arr) w:=by kernel_rfl
theorem Wo (w:World):(Instr.build 46 #[]).run prog w= .ok (.agg Vv.zero.arr) w:=by kernel_rfl
theorem oH {w w' :World}{base n b:Nat}{e:TypeId}{size:Nat}{u:Value}{xs:List Value}{V:Array Value}{T:TypeId}(h:w.ownsRow base e size u n xs) (hw:Wrote w b V T w') (hb:b<base):w'.ownsRow base e size u n xs:=by
 obtain ⟨h1,h2⟩:=h;refine ⟨h1, ?_⟩;rcases h2 with h2|⟨g,cap,cur,a,hg,c,d⟩
 · exact .inl h2
 · exact .inr ⟨g,cap,cur,a,hg,(hw.rest g (by omega)).trans c,d⟩
theorem xW {w:World}{s:Sw}(h:pK w s) (hT:s.T.length≤1000) (hC:∀q∈s.T,q.t.aD.length≤900) (nm:ByteArray):
 Calls prog 16 #[.agg s.arr, .string nm] w fun e w' =>∃q:Tw,e= .returned (.tuple #[.agg q.arr, .bool (jP s.x.ts nm).isSome])∧nL w' q∧q.t=(jP s.x.ts nm).getD Tb.zero∧Below w.heap.size w w' :=by
 have hB1:=(Below.refl w.heap.size w).alloc (Nat.le_refl _) (.cells s.arr 31);have hs1:=av w (.cells s.arr 31);have hb0:=aB w (.cells s.arr 31);have hB2:=hB1.alloc hB1.size (.cells #[.string ⟨#[]⟩, .int .i64 0, .string ⟨#[]⟩, .int .i64 0, .string ⟨#[]⟩, .int .i64 0, .slice none 0 0] 27);have nG:=ay hb0 (.cells #[.string ⟨#[]⟩, .int .i64 0, .string ⟨#[]⟩, .int .i64 0, .string ⟨#[]⟩, .int .i64 0, .slice none 0 0] 27);have hb1:=aB (w.alloc (.cells s.arr 31)) (.cells #[.string ⟨#[]⟩, .int .i64 0, .string ⟨#[]⟩, .int .i64 0, .string ⟨#[]⟩, .int .i64 0, .slice none 0 0] 27);rw [hs1]at hb1;have h1:Hid (∀q∈s.T,q.arr.toList.all (·.oneCell')=true∧nL w q∧q.t.aD.length≤900):=fun q hq=>⟨(h.t q hq).one,h.t q hq,hC q hq⟩
 have hts:=h.ts;have hvs:=h.vs;have hbz:=fun W=>Wn W
 clear h hC hB1 hs1 hb0;obtain ⟨la,T,V,tv,vv⟩:=s;unfold Sw.arr Sw.x at *
 dsimp only at *
 obtain ⟨ta,tc,rfl,htx⟩:=hts;obtain ⟨va,vc,rfl,LY⟩:=hvs;have HX:=Lib.hid htx;clear htx LY;obtain ⟨r,hr⟩:∃r,jP (T.map Tw.t) nm=r:=⟨_,rfl⟩;have HR:Hid (r=((T.map Tw.t).drop 0).find? (fun t=>fB t.name nm)):=by show _=_;rw [List.drop_zero,←hr];rfl
 rw [hr];clear hr;go_enter func16,ntmps16;go_upto_region 1 with (fail)
 generalize ((w.alloc (.cells _ 31)).alloc _)=W at *;have k1:W.cell? ⟨w.heap.size,1,none⟩=some (.slice ta T.length tc):=by rw [aj nG];rfl
 go_wp2_with fail;clear k1
 go_loopw [11] (fun i wr=>∃j:Nat,i= .int .i64 j∧j≤T.length∧Below w.heap.size w wr∧wr.heap[w.heap.size+1]? =some (.cells #[.string ⟨#[]⟩, .int .i64 0, .string ⟨#[]⟩, .int .i64 0, .string ⟨#[]⟩, .int .i64 0, .slice none 0 0] 27 (0,0))∧Hid (r=((T.map Tw.t).drop j).find? (fun t=>fB t.name nm))) (fun i _=>T.length - (intOf i).toNat)
 case atStart=>exact ⟨0,rfl,Nat.zero_le _,hB2,hb1,HR⟩
 case round=>
  clear HR hb1 nG hB2;obtain ⟨j,rfl,hj,hBr,hz,HT⟩:=hrel;have hsz:=hBr.size;have hzl:=aG hz;by_cases hjl:j<T.length
  · have p0:(j:Int)<(T.length:Int):=by omega
    have p1:(0:Int)≤(j:Int):=by omega
    have HJ:=Lib.hid (show j+1≤T.length from hjl);obtain ⟨g,o,rfl,hx⟩:=HX.out (by omega);obtain ⟨q,hq⟩:∃q,T[j]? =some q:=⟨_,List.getElem?_eq_getElem hjl⟩;have hR:=lq Tw.len hx hq hBr;obtain ⟨ho1,hqi,hqn⟩:=h1.out q (List.mem_of_getElem? hq)
    have HT2:Hid (r=if fB q.t.name nm then some q.t else ((T.map Tw.t).drop (j+1)).find? (fun t=>fB t.name nm)):=by
     show _=_;rw [HT.out,GI (q:=q.t) (by rw [List.getElem?_map,hq];rfl)]
    have hb4:=aB wr (.cells q.arr 27);have hB4:=hBr.alloc hsz (.cells q.arr 27);have hs4:=av wr (.cells q.arr 27);have hz4:=ay hz (.cells q.arr 27);have k0:(wr.alloc (.cells q.arr 27)).cell? ⟨wr.heap.size,0,none⟩=some (.string q.t.name):=by rw [aj hb4];rfl
    have k6:(wr.alloc (.cells q.arr 27)).cell? ⟨wr.heap.size,6,none⟩=some q.v:=by rw [aj hb4];rfl
    have he:=bU q.t.name nm;have hcl:=Jh (hqi.below hB4) (qV _) (qU _) (by omega);obtain ⟨c,hc⟩:∃c,fB q.t.name nm=c:=⟨_,rfl⟩;rw [hc]at he HT2;clear hq hx hc HT;cases c with
    |false=>
     clear hcl hb4;go_wp2_with (first|refine cZ Tryz.Ac rfl _ rfl rfl rfl hR ?_|refine fq Tryz.Ac rfl _ _ rfl rfl rfl rfl rfl rfl ho1 ?_);go_roundw
     case rel=>exact ⟨j+1,by go_num,HJ.out,hB4,hz4,HT2⟩
     case measure=>have hjj:=HJ.out;simp [intOf];omega
    |true=>
     go_wp2_with (first|refine cZ Tryz.Ac rfl _ rfl rfl rfl hR ?_|refine fq Tryz.Ac rfl _ _ rfl rfl rfl rfl rfl rfl ho1 ?_);refine hcl.mono ?_;rintro e w5 ⟨v,rfl,hown,hb5⟩;obtain ⟨a5,c5,rfl,_⟩:=aN hown;have kU:=hB4.trans (hb5.mono hB4.size);have hb6:(w5.setCell ⟨wr.heap.size,6,none⟩ (.slice a5 q.t.aD.length c5)).heap[wr.heap.size]? =some (.cells (Tw.arr ⟨q.t,(.slice a5 q.t.aD.length c5)⟩) 27 (0,0)):=by rw [bG (aH hb5 hb4) 6 _];rfl
     have OZ:=bg (aH hb5 hz4) ⟨wr.heap.size,6,none⟩ (.slice a5 q.t.aD.length c5) (by show _≠wr.heap.size;omega);have hown6:=uP hown (by rw [hs4];omega) 6 (.slice a5 q.t.aD.length c5) (bx:=wr.heap.size);have abD:nL (w5.setCell ⟨wr.heap.size,6,none⟩ (.slice a5 q.t.aD.length c5)) ⟨q.t,(.slice a5 q.t.aD.length c5)⟩:=Rd.own hown6;have uf:Below w.heap.size w (w5.setCell ⟨wr.heap.size,6,none⟩ (.slice a5 q.t.aD.length c5)):=kU.setCell hsz _;have m6:w5.cell? ⟨wr.heap.size,6,none⟩=some q.v:=by rw [aj (aH hb5 hb4)];rfl
     have f6:=ak (aH hb5 hb4) 6;go_wp2_with (first|refine cZ Tryz.Ac rfl _ rfl rfl rfl (dz hb6) ?_|(refine pJ Tryz.Ac rfl _ _ rfl rfl rfl OZ rfl rfl abD.one ?_;intro w7 hw7));refine bodyPost_ret (ko Tryz.Ac rfl rfl rfl hw7.blk rfl) rfl ?_;exact ⟨⟨q.t,(.slice a5 q.t.aD.length c5)⟩,by rw [HT2.out];rfl,Rd.own (oH hown6 hw7 (by rw [hs4];omega)),by rw [HT2.out];rfl,hw7.below _ _ uf (by omega)⟩
  · have jV:j=T.length:=by omega
    subst jV
    have HT2:Hid (r=none):=by
     show _=_;rw [HT.out,List.drop_eq_nil_of_le (by simp)];rfl
    clear HT;go_wp2_with (refine pJ Tryz.Ac rfl _ _ rfl rfl rfl hz rfl rfl (nL.zero w).one ?_;intro w7 hw7);refine bodyPost_ret (ko Tryz.Ac rfl rfl rfl hw7.blk rfl) rfl ?_;exact ⟨Tw.zero,by rw [HT2.out];rfl,nL.zero _,by rw [HT2.out];rfl,hw7.below _ _ hBr (by omega)⟩
theorem SE {w:World}{s:Sw}(h:pK w s) (hT:s.V.length≤1000) (hC:∀q∈s.V,q.x.aD.length≤900) (nm:ByteArray):
 Calls prog 12 #[.agg s.arr, .string nm] w fun e w' =>∃q:Vv,e= .returned (.tuple #[.agg q.arr, .bool (DI s.x.vs nm).isSome])∧vM w' q∧q.x=(DI s.x.vs nm).getD Vw.zero∧Below w.heap.size w w' :=by
 have hB1:=(Below.refl w.heap.size w).alloc (Nat.le_refl _) (.cells s.arr 31);have hs1:=av w (.cells s.arr 31);have hb0:=aB w (.cells s.arr 31);have hB2:=hB1.alloc hB1.size (.cells #[.string ⟨#[]⟩, .int .i64 0, .string ⟨#[]⟩, .string ⟨#[]⟩, .slice none 0 0] 46);have nG:=ay hb0 (.cells #[.string ⟨#[]⟩, .int .i64 0, .string ⟨#[]⟩, .string ⟨#[]⟩, .slice none 0 0] 46);have hb1:=aB (w.alloc (.cells s.arr 31)) (.cells #[.string ⟨#[]⟩, .int .i64 0, .string ⟨#[]⟩, .string ⟨#[]⟩, .slice none 0 0] 46);rw [hs1]at hb1;have h1:Hid (∀q∈s.V,q.arr.toList.all (·.oneCell')=true∧vM w q∧q.x.aD.length≤900):=fun q hq=>⟨(h.v q hq).one,h.v q hq,hC q hq⟩
 have hts:=h.ts;have hvs:=h.vs;have hbz:=fun W=>Wo W
 clear h hC hB1 hs1 hb0;obtain ⟨la,T,V,tv,vv⟩:=s;unfold Sw.arr Sw.x at *
 dsimp only at *
 obtain ⟨ta,tc,rfl,htx⟩:=hts;obtain ⟨va,vc,rfl,LY⟩:=hvs;have HX:=Lib.hid LY;clear htx LY;obtain ⟨r,hr⟩:∃r,DI (V.map Vv.x) nm=r:=⟨_,rfl⟩;have HR:Hid (r=((V.map Vv.x).drop 0).find? (fun t=>fB t.name nm)):=by show _=_;rw [List.drop_zero,←hr];rfl
 rw [hr];clear hr;go_enter func12,ntmps12;go_upto_region 1 with (fail)
 generalize ((w.alloc (.cells _ 31)).alloc _)=W at *;have k1:W.cell? ⟨w.heap.size,2,none⟩=some (.slice va V.length vc):=by rw [aj nG];rfl
 go_wp2_with fail;clear k1
 go_loopw [11] (fun i wr=>∃j:Nat,i= .int .i64 j∧j≤V.length∧Below w.heap.size w wr∧wr.heap[w.heap.size+1]? =some (.cells #[.string ⟨#[]⟩, .int .i64 0, .string ⟨#[]⟩, .string ⟨#[]⟩, .slice none 0 0] 46 (0,0))∧Hid (r=((V.map Vv.x).drop j).find? (fun t=>fB t.name nm))) (fun i _=>V.length - (intOf i).toNat)
 case atStart=>exact ⟨0,rfl,Nat.zero_le _,hB2,hb1,HR⟩
 case round=>
  clear HR hb1 nG hB2;obtain ⟨j,rfl,hj,hBr,hz,HT⟩:=hrel;have hsz:=hBr.size;have hzl:=aG hz;by_cases hjl:j<V.length
  · have p0:(j:Int)<(V.length:Int):=by omega
    have p1:(0:Int)≤(j:Int):=by omega
    have HJ:=Lib.hid (show j+1≤V.length from hjl);obtain ⟨g,o,rfl,hx⟩:=HX.out (by omega);obtain ⟨q,hq⟩:∃q,V[j]? =some q:=⟨_,List.getElem?_eq_getElem hjl⟩;have hR:=lq Vv.len hx hq hBr;obtain ⟨ho1,hqi,hqn⟩:=h1.out q (List.mem_of_getElem? hq)
    have HT2:Hid (r=if fB q.x.name nm then some q.x else ((V.map Vv.x).drop (j+1)).find? (fun t=>fB t.name nm)):=by
     show _=_;rw [HT.out,GI (q:=q.x) (by rw [List.getElem?_map,hq];rfl)]
    have hb4:=aB wr (.cells q.arr 46);have hB4:=hBr.alloc hsz (.cells q.arr 46);have hs4:=av wr (.cells q.arr 46);have hz4:=ay hz (.cells q.arr 46);have k0:(wr.alloc (.cells q.arr 46)).cell? ⟨wr.heap.size,0,none⟩=some (.string q.x.name):=by rw [aj hb4];rfl
    have k6:(wr.alloc (.cells q.arr 46)).cell? ⟨wr.heap.size,4,none⟩=some q.v:=by rw [aj hb4];rfl
    have he:=bU q.x.name nm;have hcl:=PD (hqi.below hB4) (by simp) (by intro u hu;obtain ⟨x,_,rfl⟩:=List.mem_map.1 hu;rfl) (by omega);obtain ⟨c,hc⟩:∃c,fB q.x.name nm=c:=⟨_,rfl⟩;rw [hc]at he HT2;clear hq hx hc HT;cases c with
    |false=>
     clear hcl hb4;go_wp2_with (first|refine cZ Tryz.Jf rfl _ rfl rfl rfl hR ?_|refine fq Tryz.Jf rfl _ _ rfl rfl rfl rfl rfl rfl ho1 ?_);go_roundw
     case rel=>exact ⟨j+1,by go_num,HJ.out,hB4,hz4,HT2⟩
     case measure=>have hjj:=HJ.out;simp [intOf];omega
    |true=>
     go_wp2_with (first|refine cZ Tryz.Jf rfl _ rfl rfl rfl hR ?_|refine fq Tryz.Jf rfl _ _ rfl rfl rfl rfl rfl rfl ho1 ?_);refine hcl.mono ?_;rintro e w5 ⟨v,rfl,hown,hb5⟩;obtain ⟨a5,c5,rfl,_⟩:=aN hown;have kU:=hB4.trans (hb5.mono hB4.size);have hb6:(w5.setCell ⟨wr.heap.size,4,none⟩ (.slice a5 q.x.aD.length c5)).heap[wr.heap.size]? =some (.cells (Vv.arr ⟨q.x,(.slice a5 q.x.aD.length c5)⟩) 46 (0,0)):=by rw [bG (aH hb5 hb4) 4 _];rfl
     have OZ:=bg (aH hb5 hz4) ⟨wr.heap.size,4,none⟩ (.slice a5 q.x.aD.length c5) (by show _≠wr.heap.size;omega);have hown6:=uP hown (by rw [hs4];omega) 4 (.slice a5 q.x.aD.length c5) (bx:=wr.heap.size);have abD:vM (w5.setCell ⟨wr.heap.size,4,none⟩ (.slice a5 q.x.aD.length c5)) ⟨q.x,(.slice a5 q.x.aD.length c5)⟩:=Rd.own hown6;have uf:Below w.heap.size w (w5.setCell ⟨wr.heap.size,4,none⟩ (.slice a5 q.x.aD.length c5)):=kU.setCell hsz _;have m6:w5.cell? ⟨wr.heap.size,4,none⟩=some q.v:=by rw [aj (aH hb5 hb4)];rfl
     have f6:=ak (aH hb5 hb4) 4;go_wp2_with (first|refine cZ Tryz.Jf rfl _ rfl rfl rfl (dz hb6) ?_|(refine pJ Tryz.Jf rfl _ _ rfl rfl rfl OZ rfl rfl abD.one ?_;intro w7 hw7));refine bodyPost_ret (ko Tryz.Jf rfl rfl rfl hw7.blk rfl) rfl ?_;exact ⟨⟨q.x,(.slice a5 q.x.aD.length c5)⟩,by rw [HT2.out];rfl,Rd.own (oH hown6 hw7 (by rw [hs4];omega)),by rw [HT2.out];rfl,hw7.below _ _ uf (by omega)⟩
  · have jV:j=V.length:=by omega
    subst jV
    have HT2:Hid (r=none):=by
     show _=_;rw [HT.out,List.drop_eq_nil_of_le (by simp)];rfl
    clear HT;go_wp2_with (refine pJ Tryz.Jf rfl _ _ rfl rfl rfl hz rfl rfl (vM.zero w).one ?_;intro w7 hw7);refine bodyPost_ret (ko Tryz.Jf rfl rfl rfl hw7.blk rfl) rfl ?_;exact ⟨Vv.zero,by rw [HT2.out];rfl,vM.zero _,by rw [HT2.out];rfl,hw7.below _ _ hBr (by omega)⟩
end Go.Proofs.YtnngbhpeeakfaaaGreatDoor
