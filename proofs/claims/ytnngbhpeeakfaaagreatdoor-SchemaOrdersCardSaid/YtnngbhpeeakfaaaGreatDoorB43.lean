/- Parts of a proof. -/
import Derived.Test.YtnngbhpeeakfaaaGreatDoorB09
import Derived.Test.YtnngbhpeeakfaaaGreatDoorB15
import Derived.Test.YtnngbhpeeakfaaaGreatDoorB21
import Derived.Test.YtnngbhpeeakfaaaGreatDoorB29
import Derived.Test.YtnngbhpeeakfaaaGreatDoorB42
set_option maxHeartbeats 8000000
set_option maxRecDepth 100000
namespace Go.Proofs.YtnngbhpeeakfaaaGreatDoor
open Go.Proofs.Tryz
open Go.RowKit
open aK
theorem LJ (x:Int) (w:World) (h0:0≤x) (h1:x≤1000000):Calls prog 143 #[.int .u64 x] w fun e w' =>(∃k:Int,e= .returned (.int .i64 k))∧w' =w:=by
 have hc:=Tryz.bits_Len64 x w h0 (by omega);go_enter func143,ntmps143;go_wp2_with fail;refine hc.mono ?_;rintro e w2 ⟨rfl,rfl⟩;go_wp2_with fail;go_ret;exact ⟨⟨_,rfl⟩,rfl⟩
theorem abL (v:Value) (n:Int) (hn:n≤1) (f:Value) (w:World):Calls prog 204 #[v, .int .i64 0, .int .i64 n,f] w fun e w' =>e= .returned (.tuple #[])∧w' =w:=by
 go_enter func204,ntmps204;go_wp2_with fail
 go_loopw [8] (fun i wr=>i= .int .i64 1∧wr=w) (fun _ _=>0)
 case atStart=>exact ⟨rfl,rfl⟩
 case round=>
  obtain ⟨rfl,rfl⟩:=hrel;have p0:¬(1:Int)<n:=by omega
  go_wp2_with fail
  go_end0
  exact ⟨rfl,rfl⟩
theorem abM (v:Value) (n k:Int) (h0:0≤n) (hn:n≤1) (f:Value) (w:World):Calls prog 142 #[v, .int .i64 0, .int .i64 n, .int .i64 k,f] w fun e w' =>e= .returned (.tuple #[])∧w' =w:=by
 have hc:=abL v n hn f w;have p0:n≤12:=by omega
 go_enter func142,ntmps142;go_wp2_with fail
 go_loopw [1,2] (fun x y wr=>x= .int .i64 0∧y= .int .i64 n∧wr=w) (fun _ _ _=>0)
 case atStart=>exact ⟨rfl,rfl,rfl⟩
 case round=>
  obtain ⟨rfl,rfl,rfl⟩:=hrel;go_wp2_with fail;refine hc.mono ?_;rintro e w2 ⟨rfl,rfl⟩;go_wp2_with fail;refine bodyPost_ret (v:= .tuple #[]) (by simp [results,results142,go_sem]) rfl ?_;exact ⟨rfl,rfl⟩
theorem Y4 (a:Option Addr) (n c:Nat) (hn:n≤1) (f:Value) (w:World):Calls prog 73 #[.slice a n c,f] w fun e w' =>e= .returned (.tuple #[])∧w' =w:=by
 have hb:=LJ (n:Int) w (by omega) (by omega);have HP:Hid (∀k,Calls prog 142 #[.slice a n c, .int .i64 0, .int .i64 n, .int .i64 k,f] w fun e w' =>e= .returned (.tuple #[])∧w' =w):=fun k=>abM _ _ k (by omega) (by omega) f w
 go_enter func73,ntmps73;go_wp2_with fail;refine hb.mono ?_;rintro e w2 ⟨⟨k,rfl⟩,rfl⟩;have hp:=HP.out k;go_wp2_with fail;refine hp.mono ?_;rintro e w2 ⟨rfl,rfl⟩;go_wp2_with fail
 go_end0
 exact ⟨rfl,rfl⟩
theorem PE {W w:World}{b n0:Nat}{v0 v1 v2:Value}{t t' :TypeId}{C:Array Value}{u:Value}(hb:W.heap[b]? =some (.cells #[v0,v1,v2] t (0,0))) (hn:W.heap[n0]? =some (.cells C t' (0,0))) (hu:C[0]? =some u) (h:Below W.heap.size W w):
 Below W.heap.size W w∧w.cell? ⟨b,0,none⟩=some v0∧w.cell? ⟨b,1,none⟩=some v1∧w.cell? ⟨b,2,none⟩=some v2∧w.cell? ⟨n0,0,none⟩=some u:=
 ⟨h,by rw [aj (aH h hb)];rfl,by rw [aj (aH h hb)];rfl,by rw [aj (aH h hb)];rfl,by rw [aj (aH h hn)];exact hu⟩
theorem NW {w0 wc:World}{s0 s:Sw}(hc:vN w0 s0 s wc) (hO:FH s.x) {q:Tw}(_hq:nL w0 q) (ht:s.x.there q.t.name=true):
 Calls prog 32 #[.pointer (some ⟨wc.heap.size,0,none⟩), .agg q.arr] (wc.alloc (.cells s.arr 92)) fun e w' =>e= .returned (.int .i64 4)∧Below w0.heap.size w0 w' :=by
 have SF:=hc.below.alloc hc.below.size (.cells s.arr 92);have hB1:=SF.alloc SF.size (.cells q.arr 27);have hbb:=ay (aB wc (.cells s.arr 92)) (.cells q.arr 27);have hbn:=aB (wc.alloc (.cells s.arr 92)) (.cells q.arr 27);have hsz:=av wc (.cells s.arr 92);rw [hsz]at hbn;have hin:=hc.isIn.below ((((Below.refl wc.heap.size wc).alloc (Nat.le_refl _) (.cells s.arr 92))).alloc (by simp) (.cells q.arr 27))
 have HT:Hid (∀w',Below ((wc.alloc (.cells s.arr 92)).alloc (.cells q.arr 27)).heap.size ((wc.alloc (.cells s.arr 92)).alloc (.cells q.arr 27)) w' →Calls prog 72 #[.agg s.arr, .string q.t.name] w' fun e w'' =>e= .returned (.bool true)∧Below w'.heap.size w' w''):=fun w' hb=>by
  have:=GJ (hin.below hb) hO q.t.name;rwa [ht]at this
 clear hc hO _hq ht hin SF;obtain ⟨la,T,V,tv,vv⟩:=s;obtain ⟨t,v⟩:=q;unfold Sw.arr Tw.arr at *
 dsimp only at *
 go_enter func32,ntmps32;go_upto_region 1 with (fail)
 generalize ((wc.alloc (.cells _ 92)).alloc _)=W at *;obtain ⟨hS,d0,d1,d2,d3⟩:=PE hbb hbn rfl (Below.refl W.heap.size W)
 go_region_held3 (fun w' =>Below W.heap.size W w' ∧w'.cell? ⟨wc.heap.size,0,none⟩=some (.int .i64 la)∧w'.cell? ⟨wc.heap.size,1,none⟩=some tv∧w'.cell? ⟨wc.heap.size,2,none⟩=some vv∧w'.cell? ⟨wc.heap.size+1,0,none⟩=some (.string t.name)) ((refine PE hbb hbn rfl ?_;repeat (first|exact Below.refl _ _|refine Cz ?_|with_reducible refine wm ?_ hb2)))
  ((go_at_call 72;with_reducible refine (HT.out _ (And.left (by assumption))).mono ?_;rintro e w2 ⟨rfl,hb2⟩))
 go_wp2_with fail;go_ret;exact ⟨rfl,hB1.trans (Below.mono (And.left (by assumption)) hB1.size)⟩
theorem Y5 {w0 wc:World}{s0 s:Sw}(hc:vN w0 s0 s wc) (hO:FH s.x) {q:Tw}(hq:nL w0 q) (hqo:FE q.t) (ht:s.x.there q.t.name=false) (hT0:s.T= []) (hla:0≤s.last∧s.last<1099511627776) (hnm:q.t.name.size≤80):
 Calls prog 32 #[.pointer (some ⟨wc.heap.size,0,none⟩), .agg q.arr] (wc.alloc (.cells s.arr 92)) fun e w' =>e= .returned (.int .i64 0)∧Below w0.heap.size w0 w' ∧∃s' :Sw,w'.heap[wc.heap.size]? =some (.cells s'.arr 92 (0,0))∧pK w' s' ∧s'.x=⟨s.last+1, [{q.t with id:=s.last+1}],s.x.vs⟩:=by
 have SF:=hc.below.alloc hc.below.size (.cells s.arr 92);have hB1:=SF.alloc SF.size (.cells q.arr 27);have hbb:=ay (aB wc (.cells s.arr 92)) (.cells q.arr 27);have hbn:=aB (wc.alloc (.cells s.arr 92)) (.cells q.arr 27);have hsz:=av wc (.cells s.arr 92);rw [hsz]at hbn;have hin:=hc.isIn.below ((((Below.refl wc.heap.size wc).alloc (Nat.le_refl _) (.cells s.arr 92))).alloc (by simp) (.cells q.arr 27))
 have HT:Hid (∀w',Below ((wc.alloc (.cells s.arr 92)).alloc (.cells q.arr 27)).heap.size ((wc.alloc (.cells s.arr 92)).alloc (.cells q.arr 27)) w' →Calls prog 72 #[.agg s.arr, .string q.t.name] w' fun e w'' =>e= .returned (.bool false)∧Below w'.heap.size w' w''):=fun w' hb=>by
  have:=GJ (hin.below hb) hO q.t.name;rwa [ht]at this
 have hcW:=(((Below.refl wc.heap.size wc).alloc (Nat.le_refl _) (.cells s.arr 92))).alloc (by simp) (.cells q.arr 27);have hrt:=hc.t;have ZC:=hc.v;have htv:=hc.tv;have HQ0:=Lib.hid hq;have HB0:=Lib.hid hc.below;have hB0:=hc.below;obtain ⟨N,hN0,hN1,hNt,hNv,_,HVQ⟩:=hc.n;have HVQ:=Lib.hid HVQ;have hcn:=hqo.n;clear hc hO hq ht hin SF hqo;obtain ⟨la,T,V,tv,vv⟩:=s;obtain ⟨t,v⟩:=q;obtain rfl:T= []:=hT0;unfold Sw.arr Tw.arr at *
 dsimp only at *
 rw [List.length_nil]at hrt;obtain ⟨ta,tc,rfl,_⟩:=aN hrt;go_enter func32,ntmps32;go_upto_region 1 with (fail)
 generalize ((wc.alloc (.cells _ 92)).alloc _)=W at *;obtain ⟨hS,d0,d1,d2,d3⟩:=PE hbb hbn rfl (Below.refl W.heap.size W)
 go_region_held3 (fun w' =>Below W.heap.size W w' ∧w'.cell? ⟨wc.heap.size,0,none⟩=some (.int .i64 la)∧w'.cell? ⟨wc.heap.size,1,none⟩=some (.slice ta 0 tc)∧w'.cell? ⟨wc.heap.size,2,none⟩=some vv∧w'.cell? ⟨wc.heap.size+1,0,none⟩=some (.string t.name)) ((refine PE hbb hbn rfl ?_;repeat (first|exact Below.refl _ _|refine Cz ?_|with_reducible refine wm ?_ hb2)))
  ((go_at_call 72;with_reducible refine (HT.out _ (And.left (by assumption))).mono ?_;rintro e w2 ⟨rfl,hb2⟩))
 have hW2:Below W.heap.size W _:=And.left (by assumption)
 rename World=>w2
 have Ws:=aH hW2 hbb;have Wt:=aH hW2 hbn;have hc2:=hcW.trans (hW2.mono hcW.size);have hne:wc.heap.size≠wc.heap.size+1:=by omega
 have OQ:((w2.setCell ⟨wc.heap.size,0,none⟩ (.int .i64 (la+1))).setCell ⟨wc.heap.size+1,1,none⟩ (.int .i64 (la+1))).heap[wc.heap.size]? =some (.cells #[.int .i64 (la+1), .slice ta 0 tc,vv] 92 (0,0)):=by
  rw [bg (bG Ws 0 _) _ _ (by show wc.heap.size≠wc.heap.size+1;omega)];rfl
 have hnA:((w2.setCell ⟨wc.heap.size,0,none⟩ (.int .i64 (la+1))).setCell ⟨wc.heap.size+1,1,none⟩ (.int .i64 (la+1))).heap[wc.heap.size+1]? =some (.cells #[.string t.name, .int .i64 (la+1), .string t.part.name, .int .i64 t.part.ty, .string t.aY.name, .int .i64 t.aY.ty,v] 27 (0,0)):=by
  rw [bG (bg Wt _ _ (by show wc.heap.size+1≠wc.heap.size;omega)) 1 _];rfl
 have hcA:Below wc.heap.size wc ((w2.setCell ⟨wc.heap.size,0,none⟩ (.int .i64 (la+1))).setCell ⟨wc.heap.size+1,1,none⟩ (.int .i64 (la+1))):=(hc2.setCell (Nat.le_refl _) _).setCell (by show wc.heap.size≤wc.heap.size+1;omega) _;have k0:w2.cell? ⟨wc.heap.size,0,none⟩=some (.int .i64 la):=by rw [aj Ws];rfl
 have k1:w2.cell? ⟨wc.heap.size,1,none⟩=some (.slice ta 0 tc):=by rw [aj Ws];rfl
 have k2:w2.cell? ⟨wc.heap.size+1,0,none⟩=some (.string t.name):=by rw [aj Wt];rfl
 have k3:w2.cell? ⟨wc.heap.size+1,1,none⟩=some (.int .i64 t.id):=by rw [aj Wt];rfl
 have f0:=ak Ws 0;have f1:=ak Wt 1;have p0:¬(1099511627776:Int)≤la:=by omega
 have p1:¬(80:Int)<(t.name.size:Int):=by omega
 have p2:IntKind.i64.wrap (la+1)=la+1:=IntWalk.i64_in _ (by omega);clear HT hS d0 d1 d2 d3 hbb hbn Ws Wt hcW hc2;go_upto_region 7 with (fail)
 generalize ((w2.setCell ⟨wc.heap.size,0,none⟩ (.int .i64 (la+1))).setCell ⟨wc.heap.size+1,1,none⟩ (.int .i64 (la+1)))=wA at *;have WL:=HB0.out.trans (hcA.mono HB0.out.size);have hcl:=Jh (HQ0.out.below WL) (qV _) (qU _) (by simp only;omega)
 dsimp only at hcl
 have hnl:=aG hnA;have k6:wA.cell? ⟨wc.heap.size+1,6,none⟩=some v:=by rw [aj hnA];rfl
 have f6:=ak hnA 6;clear k0 k1 k2 k3 f0 f1;go_wp2_with fail;refine hcl.mono ?_;rintro e w5 ⟨_,rfl,ZJ,hb5⟩;obtain ⟨aC,cC,rfl,_⟩:=aN ZJ;have hc5:=hcA.trans (hb5.mono hcA.size);have m6:w5.cell? ⟨wc.heap.size+1,6,none⟩=some v:=aI hb5 k6;have g6:=ak (aH hb5 hnA) 6;have BF:(w5.setCell ⟨wc.heap.size+1,6,none⟩ (.slice aC t.aD.length cC)).heap[wc.heap.size]? =some (.cells #[.int .i64 (la+1), .slice ta 0 tc,vv] 92 (0,0)):=bg (aH hb5 OQ) _ _ hne
 have hnB:(w5.setCell ⟨wc.heap.size+1,6,none⟩ (.slice aC t.aD.length cC)).heap[wc.heap.size+1]? =some (.cells #[.string t.name, .int .i64 (la+1), .string t.part.name, .int .i64 t.part.ty, .string t.aY.name, .int .i64 t.aY.ty, .slice aC t.aD.length cC] 27 (0,0)):=by
  rw [bG (aH hb5 hnA) 6 _];rfl
 have hcB:Below wc.heap.size wc (w5.setCell ⟨wc.heap.size+1,6,none⟩ (.slice aC t.aD.length cC)):=hc5.setCell (by show wc.heap.size≤wc.heap.size+1;omega) _;have hoB:=uP ZJ hnl 6 (.slice aC t.aD.length cC);have aj0:wA.heap.size≤(w5.setCell ⟨wc.heap.size+1,6,none⟩ (.slice aC t.aD.length cC)).heap.size:=by rw [bB];exact hb5.size
 clear hcl;go_upto_region 8 with (fail)
 generalize (w5.setCell ⟨wc.heap.size+1,6,none⟩ (.slice aC t.aD.length cC))=wB at *;have hrB:∀o,(wB.alloc o).drew.ownsRow w0.heap.size 27 7 (.slice ta 0 tc) 0 (mQ []):=fun o=>(bP hrt hcB).alloc o
 have adW:∀o,(wB.alloc o).drew.heap[wc.heap.size]? =some (.cells #[.int .i64 (la+1), .slice ta 0 tc,vv] 92 (0,0)):=fun o=>ay BF o
 have j1:wB.cell? ⟨wc.heap.size,1,none⟩=some (.slice ta 0 tc):=by rw [aj BF];rfl
 have j1' :∀o,(wB.alloc o).cell? ⟨wc.heap.size,1,none⟩=some (.slice ta 0 tc):=fun o=>by rw [aj (ay BF o)];rfl
 have n0:wB.cell? ⟨wc.heap.size+1,0,none⟩=some (.string t.name):=by rw [aj hnB];rfl
 have n1:wB.cell? ⟨wc.heap.size+1,1,none⟩=some (.int .i64 (la+1)):=by rw [aj hnB];rfl
 have n2:wB.cell? ⟨wc.heap.size+1,2,none⟩=some (.string t.part.name):=by rw [aj hnB];rfl
 have n3:wB.cell? ⟨wc.heap.size+1,3,none⟩=some (.int .i64 t.part.ty):=by rw [aj hnB];rfl
 have n4:wB.cell? ⟨wc.heap.size+1,4,none⟩=some (.string t.aY.name):=by rw [aj hnB];rfl
 have n5:wB.cell? ⟨wc.heap.size+1,5,none⟩=some (.int .i64 t.aY.ty):=by rw [aj hnB];rfl
 have n6:wB.cell? ⟨wc.heap.size+1,6,none⟩=some (.slice aC t.aD.length cC):=by rw [aj hnB];rfl
 have hbl:=aG BF;have hwl:=aG hnA;have hB2:=hB0.trans (hcB.mono hB0.size);have hw0:=hB0.size
 go_region_law (refine jT Tryz.ZH rfl _ _ rfl w0.heap.size _ _ _ rfl (hrB _) _ _ [.string t.name, .int .i64 (la+1), .string t.part.name, .int .i64 t.part.ty, .string t.aY.name, .int .i64 t.aY.ty, .slice aC t.aD.length cC] rfl rfl (fun j u hj=>by rw [jO,Nat.zero_add];exact bA _ _ _ j u hj) (by intro u hu;simp at hu;rcases hu with rfl|rfl|rfl|rfl|rfl|rfl|rfl<;>rfl) (by omega) (by simp;have:=hB0.size;have:=hcB.size;omega) ?_;intro g3 iR w3 h3 hg3 OI hl3;have hb3:w3.heap[wc.heap.size]? =some (.cells #[.int .i64 (la+1), .slice ta 0 tc,vv] 92 (0,0)):=(hg3.block _ (aG (adW _)) (fun e=>by have:=(hrt.lt _ e.symm).2;omega)).trans (adW _);have y3:w3.cell? ⟨wc.heap.size,1,none⟩=some (.slice ta 0 tc):=(by rw [aj hb3];rfl);have u3:=ak hb3 1)
 all_goals
  rw [Nat.zero_add]at h3;have hg3:(wB.alloc (.cells #[.string t.name, .int .i64 (la+1), .string t.part.name, .int .i64 t.part.ty, .string t.aY.name, .int .i64 t.aY.ty, .slice aC t.aD.length cC] 27)).drew.grownBy w3 (Value.slice ta 0 tc).ownBlock:=hg3;clear j1 j1' n0 n1 n2 n3 n4 n5 n6;have El:(w3.setCell ⟨wc.heap.size,1,none⟩ (.slice (some ⟨g3,0,none⟩) 1 iR)).heap[wc.heap.size]? =some (.cells #[.int .i64 (la+1), .slice (some ⟨g3,0,none⟩) 1 iR,vv] 92 (0,0)):=by rw [bG hb3 1 _];rfl
  have hso:=Y4 (some ⟨g3,0,none⟩) 1 iR (Nat.le_refl _) (.func (.func 74) #[] #[]) (w3.setCell ⟨wc.heap.size,1,none⟩ (.slice (some ⟨g3,0,none⟩) 1 iR));have k9:(w3.setCell ⟨wc.heap.size,1,none⟩ (.slice (some ⟨g3,0,none⟩) 1 iR)).cell? ⟨wc.heap.size,1,none⟩=some (.slice (some ⟨g3,0,none⟩) 1 iR):=by rw [aj El];rfl
  have hBx:=(hB2.alloc hB2.size (.cells #[.string t.name, .int .i64 (la+1), .string t.part.name, .int .i64 t.part.ty, .string t.aY.name, .int .i64 t.aY.ty, .slice aC t.aD.length cC] 27)).drew;have hB9:Below w0.heap.size w0 (w3.setCell ⟨wc.heap.size,1,none⟩ (.slice (some ⟨g3,0,none⟩) 1 iR)):=(below_app hBx hBx.size hg3 (fun g e=>(hrt.lt g e).1)).setCell hw0 _
  have hg9:g3≠wc.heap.size:=by
   rcases OI with e|e
   · have:=(hrt.lt _ e).2;omega
   · rw [e];show (wB.alloc _).heap.size≠_;rw [av];omega
  have hkv:∀{base size n:Nat} {e:TypeId} {u:Value} {xs:List Value},wB.ownsRow base e size u n xs→(∀g,(Value.slice ta 0 tc).ownBlock=some g→u.ownBlock≠some g)→(∀g,u.ownBlock=some g→g≠wc.heap.size)→(w3.setCell ⟨wc.heap.size,1,none⟩ (.slice (some ⟨g3,0,none⟩) 1 iR)).ownsRow base e size u n xs:=fun hu ha hb=>by
   refine ownsRow_setCell_other (Apart.keep (w:=(wB.alloc (.cells #[.string t.name, .int .i64 (la+1), .string t.part.name, .int .i64 t.part.ty, .string t.aY.name, .int .i64 t.aY.ty, .slice aC t.aD.length cC] 27)).drew) ha (hu.alloc _) hg3) (fun e=>hb _ e rfl) _
  go_wp2_with fail;refine hso.mono ?_;rintro e w8 ⟨rfl,rfl⟩;go_wp2_with fail;go_ret;refine ⟨rfl,hB9,⟨la+1, [⟨{t with id:=la+1}, .slice aC t.aD.length cC⟩],V, .slice (some ⟨g3,0,none⟩) 1 iR,vv⟩,El,⟨Rd.own (ownsRow_setCell_other h3 (fun e=>hg9 (by simpa [Value.ownBlock]using e)) _),Rd.own (hkv (bP ZC hcB) htv (fun g e=>by have:=(ZC.lt g e).2;omega)),fun q hq=> ?_,fun q hq=> ?_⟩,rfl⟩
  · rw [List.mem_singleton.1 hq];exact Rd.own (hkv hoB (fun g e e2=>by have h1:=(hrt.lt g e).2;have h2:=(hoB.lt g e2).1;omega) (fun g e=>by have:=(hoB.lt g e).1;omega))
  · rcases HVQ.out q hq with h|h
    · exact Rd.below h hB9
    · exact Rd.own (hkv (bP h hcB) (fun g e e2=>by have h1:=hNt g e;have h2:=(h.lt g e2).1;omega) (fun g e=>by have:=(h.lt g e).2;omega))
theorem Bd (w:World):(Instr.build 31 #[]).run prog w= .ok (.agg #[.int .i64 0, .slice none 0 0, .slice none 0 0]) w:=by kernel_rfl
theorem Rd.wrote {w w' :World}{u:Value}{n b:Nat}{xs:List Value}{V:Array Value}{T T' :TypeId}(h:Rd w u n xs) (hs:0<n→∃s,xs[0]? =some (.string s)) (hw:Wrote w b V T w') (hb:w.heap[b]? =some (.cells #[.int .i64 0, .slice none 0 0, .slice none 0 0] T' (0,0))):Rd w' u n xs:=by
 obtain ⟨a,c,e,hx⟩:=h;refine ⟨a,c,e,fun hn=> ?_⟩;obtain ⟨g,o,ha,hc⟩:=hx hn;refine ⟨g,o,ha,fun k v hk=> ?_⟩
 have hg:g≠b:=by
  rintro rfl;obtain ⟨s,hs⟩:=hs hn;have h0:=hc 0 _ hs;rw [aj hb]at h0
  match o with
  |0=>simp at h0
  |1=>simp at h0
  |2=>simp at h0
  |o+3=>simp at h0
 rw [cell_of_block (w:=w) (hw.rest g hg)];exact hc k v hk
theorem pK.wrote {w w' :World}{s:Sw}{b:Nat}{V:Array Value}{T T' :TypeId}(h:pK w s) (hw:Wrote w b V T w') (hb:w.heap[b]? =some (.cells #[.int .i64 0, .slice none 0 0, .slice none 0 0] T' (0,0))):pK w' s:=by
 refine ⟨h.ts.wrote (fun hn=> ?_) hw hb,h.vs.wrote (fun hn=> ?_) hw hb,fun q hq=>Rd.wrote (h.t q hq) (fun hn=> ?_) hw hb,fun q hq=>Rd.wrote (h.v q hq) (fun hn=> ?_) hw hb⟩
 · match hT:s.T,hn with
   |q::l,_=>exact ⟨q.t.name,rfl⟩
 · match hT:s.V,hn with
   |q::l,_=>exact ⟨q.x.name,rfl⟩
 · match hT:q.t.aD,hn with
   |c::l,_=>exact ⟨c.name,rfl⟩
 · match hT:q.x.aD,hn with
   |c::l,_=>exact ⟨c,rfl⟩
theorem vN.one {w w' :World}{s s' :Sw}(h:vN w s s' w'):s'.arr.toList.all (·.oneCell')=true:=by
 obtain ⟨_,_,e1,_⟩:=aN h.t;obtain ⟨_,_,e2,_⟩:=aN h.v;unfold Sw.arr;rw [e1,e2];rfl
theorem ER {w:World}{b:Nat}{x:Sx}{tc c s wv pv:Value}{T:TypeId}(h:w.heap[b]? =some (.cells (aP x tc c s wv pv) T (0,0))):w.rangeAt b 4 #[.string x.bW, .int .i64 x.tid, .string x.part.name, .int .i64 x.part.ty, .string x.aY.name, .int .i64 x.aY.ty,tc].toList:=fun j v hv=>by
 rw [aj h,←hv]
 match j,hv with
 |0,_=>rfl
 |1,_=>rfl
 |2,_=>rfl
 |3,_=>rfl
 |4,_=>rfl
 |5,_=>rfl
 |6,_=>rfl
 |j+7,hv=>simp at hv
def Pw.tw (p:Pw):Tw:=⟨⟨p.x.bW,p.x.tid,p.x.part,p.x.aY,p.x.aF⟩,p.tc⟩
theorem LK {w:World}{s:Sw}{p:Pw}(hG:Gp w) (h:pK w s) (hO:FH s.x) (hck:s.x.check=true) (hp:nL w p.tw)
 (hm:∀w',Below w.heap.size w w' →Calls prog 30 #[.agg p.arr] w' fun e w'' =>e= .returned (.bool true)∧Below w'.heap.size w' w'') (hk:p.x.kind=1) (ht:s.x.there p.x.bW=true):
 Calls prog 11 #[.agg s.arr, .agg p.arr] w fun e w' =>e= .returned (.tuple #[.agg #[.int .i64 0, .slice none 0 0, .slice none 0 0], .int .i64 4])∧Below w.heap.size w w' :=by
 have hB1:=(Below.refl w.heap.size w).alloc (Nat.le_refl _) (.cells s.arr 31);have hB2:=hB1.alloc hB1.size (.cells p.arr 39);have hB3:=hB2.alloc hB2.size (.cells #[.int .i64 0, .slice none 0 0, .slice none 0 0] 31);have hb1:=ay (ay (aB w (.cells s.arr 31)) (.cells p.arr 39)) (.cells #[.int .i64 0, .slice none 0 0, .slice none 0 0] 31);have hb2:=ay (aB (w.alloc (.cells s.arr 31)) (.cells p.arr 39)) (.cells #[.int .i64 0, .slice none 0 0, .slice none 0 0] 31);have hb3:=aB ((w.alloc (.cells s.arr 31)).alloc (.cells p.arr 39)) (.cells #[.int .i64 0, .slice none 0 0, .slice none 0 0] 31);have hsz:=av w (.cells s.arr 31);rw [hsz]at hb2;rw [av,hsz]at hb3;have HC:=Lib.hid (xX (hG.below hB3) (h.below hB3) hO);rw [hck]at HC;have HM:=Lib.hid hm;have HCp:Hid (∀w',Below w.heap.size w w' →Calls prog 31 #[.agg s.arr] w' fun e w'' =>∃s' :Sw,e= .returned (.agg s'.arr)∧vN w' s s' w''):=fun w' hb=>LH (h.below hb) hO
 have HTn:Hid (∀w' s' wc,Below w.heap.size w w' →vN w' s s' wc→Calls prog 32 #[.pointer (some ⟨wc.heap.size,0,none⟩), .agg p.tw.arr] (wc.alloc (.cells s'.arr 92)) fun e w'' =>e= .returned (.int .i64 4)∧Below w'.heap.size w' w''):=fun w' s' wc hb hc=>NW hc (by rw [hc.x];exact hO) (hp.below hb) (by rw [hc.x];exact ht)
 have hbw:=fun W=>zZ (.int .i64 s.last) s.tv s.vv W
 have hbz:=fun W=>Bd W
 clear hG h hO hck hp hm ht;obtain ⟨x,tc,c,sv,wv,pv⟩:=p;obtain ⟨la,T,V,tv,vv⟩:=s;unfold Pw.tw Tw.arr Pw.arr Sw.arr at *
 dsimp only at *
 go_enter func11,ntmps11;go_upto_region 2 with (fail)
 generalize (((w.alloc (.cells _ 31)).alloc _).alloc _)=W at *;have hc:=HC.out;go_wp2_with (refine cZ Tryz.ug rfl _ rfl rfl rfl (dz hb1) ?_);refine hc.mono ?_;rintro e w2 ⟨rfl,h2⟩;have hB4:=hB3.trans (h2.mono hB3.size);have hm:=HM.out w2 hB4;have Wu:=aH h2 hb1;have Jl:=aH h2 hb2;have Wv:=aH h2 hb3;clear hc hb1 hb2 hb3 HC hB3;go_wp2_with (refine vJ (by go_simp) _ rfl rfl rfl Jl ?_);refine hm.mono ?_;rintro e w3 ⟨rfl,h3⟩;have kU:=hB4.trans (h3.mono hB4.size);have hcp:=HCp.out w3 kU;have abO:=aH h3 Wu;have Ww:=aH h3 Jl;have abP:=aH h3 Wv;clear hm Wu Jl Wv h2 hB4 HM;go_wp2_with (refine cZ Tryz.ug rfl _ rfl rfl rfl (dz abO) ?_);refine hcp.mono ?_;rintro e wc ⟨s',rfl,Y6⟩;have hone:=Y6.one;have SF:=kU.trans (Y6.below.mono kU.size);have hBd:=SF.alloc SF.size (.cells s'.arr 92);have hl2:=aG Ww;have Wx:=ay (aH Y6.below Ww) (.cells s'.arr 92);have kk:(wc.alloc (.cells s'.arr 92)).cell? ⟨w.heap.size+1,0,none⟩=some (.int .i64 1):=by rw [aj Wx,←hk];rfl
 have hrg:=ER Wx;have htn:=HTn.out w3 s' wc kU Y6;clear hcp HCp HTn;unfold Sw.arr at *;go_wp2_with (first|refine fq Tryz.rtS rfl _ _ rfl rfl rfl rfl rfl rfl hone ?_|refine cZ Tryz.Ac rfl _ rfl rfl rfl hrg ?_);refine htn.mono ?_;rintro e w6 ⟨rfl,h6⟩;have OZ:=aH h6 abP;have uf:=kU.trans (h6.mono kU.size);clear htn kk hrg;go_wp2_with (refine pJ Tryz.ug rfl _ _ rfl rfl rfl OZ rfl rfl rfl ?_;intro w9 Ej);refine bodyPost_ret (ko Tryz.ug rfl rfl rfl Ej.blk rfl) rfl ?_;exact ⟨rfl,Ej.below _ _ uf (by omega)⟩
theorem SG {w:World}{s:Sw}{p:Pw}(hG:Gp w) (h:pK w s) (hO:FH s.x) (hck:s.x.check=true) (hp:nL w p.tw)
 (hm:∀w',Below w.heap.size w w' →Calls prog 30 #[.agg p.arr] w' fun e w'' =>e= .returned (.bool true)∧Below w'.heap.size w' w'') (hk:p.x.kind=1) (ht:s.x.there p.x.bW=false) (hT0:s.T= []) (hla:0≤s.last∧s.last<1099511627776) (hnm:p.x.bW.size≤80) (hqo:FE p.tw.t):
 Calls prog 11 #[.agg s.arr, .agg p.arr] w fun e w' =>∃s' :Sw,e= .returned (.tuple #[.agg s'.arr, .int .i64 0])∧pK w' s' ∧s'.x=⟨s.last+1, [{p.tw.t with id:=s.last+1}],s.x.vs⟩∧Below w.heap.size w w' :=by
 have hB1:=(Below.refl w.heap.size w).alloc (Nat.le_refl _) (.cells s.arr 31);have hB2:=hB1.alloc hB1.size (.cells p.arr 39);have hB3:=hB2.alloc hB2.size (.cells #[.int .i64 0, .slice none 0 0, .slice none 0 0] 31);have hb1:=ay (ay (aB w (.cells s.arr 31)) (.cells p.arr 39)) (.cells #[.int .i64 0, .slice none 0 0, .slice none 0 0] 31);have hb2:=ay (aB (w.alloc (.cells s.arr 31)) (.cells p.arr 39)) (.cells #[.int .i64 0, .slice none 0 0, .slice none 0 0] 31);have hb3:=aB ((w.alloc (.cells s.arr 31)).alloc (.cells p.arr 39)) (.cells #[.int .i64 0, .slice none 0 0, .slice none 0 0] 31);have hsz:=av w (.cells s.arr 31);rw [hsz]at hb2;rw [av,hsz]at hb3;have HC:=Lib.hid (xX (hG.below hB3) (h.below hB3) hO);rw [hck]at HC;have HM:=Lib.hid hm;have HCp:Hid (∀w',Below w.heap.size w w' →Calls prog 31 #[.agg s.arr] w' fun e w'' =>∃s' :Sw,e= .returned (.agg s'.arr)∧vN w' s s' w''):=fun w' hb=>LH (h.below hb) hO
 have HTn:Hid (∀w' s' wc,Below w.heap.size w w' →vN w' s s' wc→Calls prog 32 #[.pointer (some ⟨wc.heap.size,0,none⟩), .agg p.tw.arr] (wc.alloc (.cells s'.arr 92)) fun e w'' =>e= .returned (.int .i64 0)∧Below w'.heap.size w' w'' ∧∃s2:Sw,w''.heap[wc.heap.size]? =some (.cells s2.arr 92 (0,0))∧pK w'' s2∧s2.x=⟨s.last+1, [{p.tw.t with id:=s.last+1}],s.x.vs⟩):=fun w' s' wc hb hc=>by
  have hl:s'.last=s.last:=congrArg Sc.last hc.x
  have hT:s'.T= []:=by
   have:=congrArg Sc.ts hc.x;unfold Sw.x at this;rw [hT0]at this;simpa using this
  have:=Y5 hc (by rw [hc.x];exact hO) (hp.below hb) hqo (by rw [hc.x];exact ht) hT (by rw [hl];exact hla) hnm;rw [hl,show s'.x.vs=s.x.vs from congrArg Sc.vs hc.x]at this;exact this
 have hbw:=fun W=>zZ (.int .i64 s.last) s.tv s.vv W
 have hbz:=fun W=>Bd W
 clear hG h hO hck hp hm ht hT0 hla hnm hqo;obtain ⟨x,tc,c,sv,wv,pv⟩:=p;obtain ⟨la,T,V,tv,vv⟩:=s;unfold Pw.tw Tw.arr Pw.arr Sw.arr at *
 dsimp only at *
 go_enter func11,ntmps11;go_upto_region 2 with (fail)
 generalize (((w.alloc (.cells _ 31)).alloc _).alloc _)=W at *;have hc:=HC.out;go_wp2_with (refine cZ Tryz.ug rfl _ rfl rfl rfl (dz hb1) ?_);refine hc.mono ?_;rintro e w2 ⟨rfl,h2⟩;have hB4:=hB3.trans (h2.mono hB3.size);have hm:=HM.out w2 hB4;have Wu:=aH h2 hb1;have Jl:=aH h2 hb2;have Wv:=aH h2 hb3;clear hc hb1 hb2 hb3 HC hB3;go_wp2_with (refine vJ (by go_simp) _ rfl rfl rfl Jl ?_);refine hm.mono ?_;rintro e w3 ⟨rfl,h3⟩;have kU:=hB4.trans (h3.mono hB4.size);have hcp:=HCp.out w3 kU;have abO:=aH h3 Wu;have Ww:=aH h3 Jl;have abP:=aH h3 Wv;clear hm Wu Jl Wv h2 hB4 HM;go_wp2_with (refine cZ Tryz.ug rfl _ rfl rfl rfl (dz abO) ?_);refine hcp.mono ?_;rintro e wc ⟨s',rfl,Y6⟩;have hone:=Y6.one;have SF:=kU.trans (Y6.below.mono kU.size);have hBd:=SF.alloc SF.size (.cells s'.arr 92);have hl2:=aG Ww;have Wx:=ay (aH Y6.below Ww) (.cells s'.arr 92);have kk:(wc.alloc (.cells s'.arr 92)).cell? ⟨w.heap.size+1,0,none⟩=some (.int .i64 1):=by rw [aj Wx,←hk];rfl
 have hrg:=ER Wx;have htn:=HTn.out w3 s' wc kU Y6;clear hcp HCp HTn;unfold Sw.arr at *;go_wp2_with (first|refine fq Tryz.rtS rfl _ _ rfl rfl rfl rfl rfl rfl hone ?_|refine cZ Tryz.Ac rfl _ rfl rfl rfl hrg ?_);refine htn.mono ?_;rintro e w6 ⟨rfl,h6,s2,hbs,hi2,hx2⟩;have OZ:=aH h6 abP;have uf:=kU.trans (h6.mono kU.size)
 have h1:s2.arr.toList.all (·.oneCell')=true:=by
  obtain ⟨_,_,e1,_⟩:=hi2.ts;obtain ⟨_,_,e2,_⟩:=hi2.vs;unfold Sw.arr;rw [e1,e2];rfl
 unfold Sw.arr at *;clear htn kk hrg;go_wp2_with (first|refine cZ Tryz.ug rfl _ rfl rfl rfl (dz hbs) ?_|(refine pJ Tryz.ug rfl _ _ rfl rfl rfl OZ rfl rfl h1 ?_;intro w9 Ej));refine bodyPost_ret (ko Tryz.ug rfl rfl rfl Ej.blk rfl) rfl ?_;exact ⟨s2,rfl,hi2.wrote Ej OZ,hx2,Ej.below _ _ uf (by omega)⟩
theorem ES (a:ByteArray) (x:Int) (hx: -9223372036854775808≤x∧x≤9223372036854775807) (ha:a.size≤1000000) (w:World) (hG:Gp w):
 Calls prog 18 #[.string a, .int .i64 x] w fun e w' =>e= .returned (.string (lX a x))∧Below w.heap.size w w' :=by
 have HS:Hid (lX a x=a++⟨#[95]⟩++kr (max x 0)):=by
  show _=_;unfold lX;have:(if x<0 then 0 else x)=max x 0:=by split<;>omega
  rw [this]
 have hm: -9223372036854775808≤max x 0∧max x 0≤9223372036854775807:=by omega
 have h1:=fU a ⟨#[95]⟩ (by show _+1≤_;omega);have h0:=vD (max x 0) hm.1 hm.2 w hG;have hl:=lS (max x 0) hm;have h2:=fU (a++⟨#[95]⟩) (kr (max x 0)) (by rw [ByteArray.size_append];show _+1+_≤_;omega);clear hG;go_enter func18,ntmps18;go_wp2_with fail;refine h0.mono ?_;rintro e w2 ⟨rfl,hb2⟩;go_wp2_with fail;go_ret;rw [HS.out];exact ⟨rfl,hb2⟩
end Go.Proofs.YtnngbhpeeakfaaaGreatDoor
