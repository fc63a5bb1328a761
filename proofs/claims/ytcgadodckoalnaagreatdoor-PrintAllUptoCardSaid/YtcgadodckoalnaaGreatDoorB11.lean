/- Parts of a proof. -/
import Derived.Test.YtcgadodckoalnaaGreatDoorB01
import Derived.Test.YtcgadodckoalnaaGreatDoorB08
import Derived.Test.YtcgadodckoalnaaGreatDoorB09
import Derived.Test.YtcgadodckoalnaaGreatDoorB10
set_option maxHeartbeats 2000000
set_option maxRecDepth 100000
namespace Go.Proofs.YtcgadodckoalnaaGreatDoor
open Go.RowKit
open aN
def lS (t:Tk):List Value:= [.int .i64 t.kind, .string t.s, .int .i64 t.n, .int .i64 t.at_]
def nE (l:List Tk):List Value:=l.flatMap lS
theorem GR (l:List Tk) (p:Tk):nE l++lS p=nE (l++ [p]):=by simp [nE]
theorem ED (q:Tk):∀u∈lS q,u.oneCell' =true:=by
 intro u hu;simp [lS]at hu;rcases hu with rfl|rfl|rfl|rfl<;>rfl
theorem oI {w:World}{base:Nat}{e:TypeId}{size:Nat}{v:Value}{n:Nat}{xs:List Value}(h:w.ownsRow base e size v n xs) (m:Nat):(w.drewN m).ownsRow base e size v n xs:=by
 obtain ⟨h1,h2⟩:=h;exact ⟨h1,h2⟩
theorem aR {w:World}{base b2:Nat}{e:TypeId}{size:Nat}{v:Value}{n:Nat}{xs:List Value}(h:w.ownsRow base e size v n xs) (hb:b2≤base):w.ownsRow b2 e size v n xs:=by
 obtain ⟨h1,h2⟩:=h;refine ⟨h1, ?_⟩;rcases h2 with h2|⟨g,cap,cur,a,b,c⟩
 · exact .inl h2
 · exact .inr ⟨g,cap,cur,a,Nat.le_trans hb b,c⟩
theorem nZ {w w' :World}{base k:Nat}{e:TypeId}{size:Nat}{v:Value}{n:Nat}{xs:List Value}(h:w.ownsRow base e size v n xs) (hg:w.grownBy w' (some k)) (hk:k<base):w'.ownsRow base e size v n xs:=by
 obtain ⟨h1,h2⟩:=h;refine ⟨h1, ?_⟩;rcases h2 with h2|⟨g,cap,cur,a,b,c,d⟩
 · exact .inl h2
 · exact .inr ⟨g,cap,cur,a,b,by rw [hg.block g (aD c) (fun e=>by cases e;omega)];exact c,d⟩
theorem Sw (w1:World) (X:Obj) (q:Tk) (t:TypeId):∀j u,(lS q)[j]? =some u→((w1.alloc X).alloc (.cells #[.int .i64 q.kind, .string q.s, .int .i64 q.n, .int .i64 q.at_] t)).cell? ((⟨w1.heap.size+1,0,none⟩:Addr).add j)=some u:=by
 have:=yY (w1.alloc X) (lS q) t;have e:(w1.alloc X).heap.size=w1.heap.size+1:=by simp
 rw [e]at this;exact this
theorem Tryz.ac5:(Tryz.prog.info? 95).map (fun i=>(i.zero,i.size,i.bytes))=some (some (.agg #[.int .i64 0, .string ⟨#[]⟩, .int .i64 0, .int .i64 0]),4,40):=by kernel_rfl
theorem og (s:ByteArray) (w:World) (hG:Glob w):
 Calls Tryz.prog 19 #[.string s] w fun e w' =>(∃v,e= .returned (.tuple #[v, .int .i64 (aP s).2.1, .int .i64 (aP s).2.2])∧w'.ownsRow w.heap.size 95 4 v (aP s).1.length (nE (aP s).1))∧Below w.heap.size w w' :=by
 obtain ⟨i0,hi,hz0,hz1,hz2⟩:=info_parts Tryz.ac5;by_cases hbig:(1000:Int)<s.size
 · have HE:Hid (aP s=([],0,2)):=by show _=_;unfold aP;rw [if_pos (by omega)]
   go_enter Tryz.func19,Tryz.ntmps19;go_wp2_with fail;go_ret3;rw [HE.out];exact ⟨⟨_,rfl,World.ownsRow_nil _ _ _ _⟩,Below.refl _ _⟩
 have hs:s.size≤100000:=by omega
 go_enter Tryz.func19,Tryz.ntmps19;have ho:=XO s w hG hs;have vk:=Df s;have hpl:(pts s).length≤100000:=Nat.le_trans vk.1 hs;have HL:Hid (aP s=match eU s (pts s) ((pts s).length+1) 0 with| .ok l=>(l,0,0)| .error a=>([],(a:Nat),3)):=by show _=_;unfold aP;rw [if_neg (by omega)];cases eU s (pts s) ((pts s).length+1) 0<;>rfl
 go_wp2_with fail;refine ho.mono ?_;rintro e w1 ⟨rfl,hS,hb1⟩;obtain ⟨P,hP⟩:∃P,pts s=P:=⟨_,rfl⟩;rw [hP]at hS vk hpl HL;clear hP ho;have hlt1:=hS.lt;obtain ⟨L,hLd⟩:∃L,L=w1.heap.size:=⟨_,rfl⟩;rw [←hLd]at hS hlt1;go_wp2_with fail;refine (NJ _ _ _ _ _ hS (by omega) hpl).mono ?_;rintro e w2 ⟨rfl,hS,hg2⟩;go_wp2_with fail
 go_loopw [5] (fun a wr=>∃(j n:Nat) (done:List Tk),SQ L wr w.heap.size s P (skip P j)∧wr.ownsRow L 95 4 a done.length (nE done)∧Below w.heap.size w wr∧Hid (eU s P (P.length+1) 0=(eU s P (n+1) j).map (done++ ·))∧done.length≤j∧j≤P.length∧P.length≤n+j) (fun _ wr=>P.length - nR wr w.heap.size)
 case atStart=>exact ⟨0,P.length, [],hS,World.ownsRow_nil _ _ _ _,hb1.trans (kE hg2 (Nat.le_refl _) (by omega)),by (show _=_;cases eU s P (P.length+1) 0<;>rfl),by simp,by omega,by omega⟩
 case round=>
  obtain ⟨j,n,done,hSr,hown,hbw,HR,hdj,hjP,hn⟩:=hrel;have hk:=xA P (P.length - j) j hjP;rw [show jD P (P.length - j) j=skip P j from rfl]at hk;have hkj:=lM P j;by_cases hend:P.length≤skip P j
  · have HX:Hid (aP s=(done,0,0)):=by show _=_;rw [HL.out,HR.out,xw hend];simp [Except.map]
    have he:=uK wr _ s P _ hSr true (decide_eq_true hend);go_wp2_with (go_at_call 60;refine he.mono ?_;rintro e w3 ⟨rfl,m,hm⟩);go_ret3;rw [HX.out];exact ⟨⟨_,rfl,aR (oI hown _) (by omega)⟩,aN.below_drewN hbw _⟩
  · have he:=uK wr _ s P _ hSr false (decide_eq_false hend);obtain ⟨i,hi0⟩:∃i,skip P j=i:=⟨_,rfl⟩;rw [hi0]at hSr hk hkj hend;have Hi:=Lib.hid hi0;have Hsc:=Lib.hid (fu hSr);have hown0:=fun m=>oI hown m
    have hbw0:=fun m=>aN.below_drewN hbw m
    have hS0:=fun m=>hSr.heap (w' :=wr.drewN m) rfl
    clear hown hbw hSr hi0;go_wp2_with (go_at_call 60;refine he.mono ?_;rintro e w3 ⟨rfl,m,hm⟩;have Fy:=hS0 m;have hown3:=hown0 m;have xZ:=hbw0 m;rw [←hm]at Fy hown3 xZ;obtain ⟨c2,f2⟩:=ab2 Fy;clear hS0 hown0 hbw0 hm);obtain ⟨⟨⟨K,S,N,A⟩,ok,nx⟩,hX⟩:∃X,X=dK s P i:=⟨_,rfl⟩;have hc:=UA w w3 _ s P i Fy hG xZ (Nat.le_refl _) hs vk (by omega);rw [←hX]at hc;change Calls _ _ _ _ (fun e w' =>e= .returned (.tuple #[.agg #[.int .i64 K, .string S, .int .i64 N, .int .i64 A], .bool ok])∧SQ L w' _ s P nx∧w3.grownBy w' (some w.heap.size))at hc;have hL3:=Fy.le;refine hc.mono ?_;rintro e w4 ⟨rfl,qJ,hg4⟩;have nD:w4.ownsRow L 95 4 u5 done.length (nE done):=nZ hown3 hg4 (by omega);have Ap:Below w.heap.size w w4:=xZ.trans (kE hg4 (Nat.le_refl _) (by omega));clear hc Fy hown3 xZ hg4;cases ok
    · have HX:Hid (aP s=([],i,3)):=by
       have hb:(dK s P (skip P j)).2.1=false:=by rw [Hi.out,←hX]
       show _=_;rw [HL.out,HR.out,FV (by rw [Hi.out];omega) hb,Hi.out];rfl
      go_wp2_with fail;go_ret3;rw [HX.out];exact ⟨⟨_,rfl,World.ownsRow_nil _ _ _ _⟩,Ap.alloc Ap.size _⟩
    · have hg:=Bn (s:=s) (i:=i) (P:=P) (by omega) (by rw [←hX]);rw [←hX]at hg;obtain ⟨hg1,hg2⟩:i<nx∧nx≤P.length:=hg;have hR2:=FW HR.out (m:=nx) (by rw [Hi.out];omega) (by rw [Hi.out,←hX]) (by rw [Hi.out,←hX]);rw [Hi.out,←hX]at hR2;have HR2:=Lib.hid hR2;clear hR2;have hL4:=qJ.le;have hb4:=Ap.size
      go_wp2_with (first
       |(at_builtin;go_loud (refine wpList_append_own _ rfl _ _ 39 rfl L 95 i0 (.agg #[.int .i64 0, .string ⟨#[]⟩, .int .i64 0, .int .i64 0]) 4 40 Tryz.underlying39 hi hz0 hz1 hz2 rfl (by decide) _ _ _ rfl ((nD.alloc _).alloc _) ⟨w4.heap.size+1,0,none⟩ 1 1 (lS ⟨K,S,N,A⟩) rfl rfl (Sw _ _ ⟨K,S,N,A⟩ _) (ED _) (by unfold maxLen;omega) (by omega) (by simp;omega) ?_);intro v' w5 hown5 hg5 _;rw [GR]at hown5
         have XZ:Below w.heap.size w w5:=((Ap.alloc (by omega) _).alloc (by simp;omega) _).grown hg5 (by simp;omega) (fun k hk=>by have:=(nD.lt _ hk).1;omega)
         have hS5:SQ L w5 w.heap.size s P nx:=qJ.keep (by have:=hg5.size;simp at this;omega) (fun k hk=>by
          rw [hg5.block k (by simp;omega) (fun e=>by have:=(nD.lt _ e.symm).1;omega)];rw [Below.heap_alloc _ _ _ (by simp;omega),Below.heap_alloc _ _ _ (by omega)])
         clear nD Ap hg5 qJ)
       |(go_at_call 59;refine (NJ _ _ _ _ _ hS5 (by omega) hpl).mono ?_;rintro e w6 ⟨rfl,hS6,Wo⟩
         have hown6:=nZ hown5 Wo (by omega);have ahC:Below w.heap.size w w6:=XZ.trans (kE Wo (Nat.le_refl _) (by have:=XZ.size;omega));clear hown5 XZ hS5 Wo))
      have hl2:(done++ [(⟨K,S,N,A⟩:Tk)]).length=done.length+1:=by simp
      go_roundw
      case rel=>exact ⟨nx,n - 1,done++ [⟨K,S,N,A⟩],hS6,by rw [hl2];exact hown6,ahC,by rw [Nat.sub_add_cancel (by omega)];exact HR2,by rw [hl2];omega,by omega,by omega⟩
      case measure=>rw [fu hS6,Hsc.out];have:=lM P nx;omega
namespace aN
structure X0 (P:Program) (t e:TypeId) (z:Value) (size bytes:Nat):Prop where
 und:P.underlying t=some (.slice e)
 info:∃i,P.info? e=some i∧i.zero=some z∧i.size=size∧i.bytes=bytes
 zs:z.cells.size=size
 pos:0<size
theorem DC {P:Program}{t e:TypeId}{z:Value}{size bytes:Nat}(h1:P.underlying t=some (.slice e)) (h2:(P.info? e).map (fun i=>(i.zero,i.size,i.bytes))=some (some z,size,bytes)) (h3:z.cells.size=size) (h4:0<size):X0 P t e z size bytes:=by
 refine ⟨h1, ?_,h3,h4⟩;cases hi:P.info? e with
 |none=>rw [hi]at h2;cases h2
 |some i=>
  rw [hi]at h2;simp only [Option.map_some,Option.some.injEq,Prod.mk.injEq]at h2;exact ⟨i,rfl,h2.1,h2.2.1,h2.2.2⟩
def Qo (w:World) (v v' :Value):Prop:=∀g,v'.ownBlock=some g→v.ownBlock=some g∨w.heap.size≤g
theorem Sy {P:Program}{w:World}{base:Nat}{t ty e:TypeId}{z:Value}{size bytes:Nat}(E:X0 P t e z size bytes) (v:Value) (n:Nat) (xs:List Value) (hown:w.ownsRow base e size v n xs)
 (a:Addr) (m c:Nat) (news:List Value) (hl:news.length=m*size) (hnews:∀j u,news[j]? =some u→w.cell? (a.add j)=some u) (h1:∀u∈news,u.oneCell' =true)
 (h63:n+m≤maxLen) (hbytes:(n+m)*bytes≤140737488355328) (hbase:base≤w.heap.size) (_hm:0<m):
 ∃v' w',(Builtin.append_ #[t,t] ty #[v, .slice (some a) m c]).run P w= .ok v' w' ∧w'.ownsRow base e size v' (n+m) (xs++news)∧w.grownBy w' v.ownBlock∧Qo w v v' :=by
 obtain ⟨i,hi,hz,hsize,hby⟩:=E.info;have hmax:n+m≤9223372036854775807:=Nat.le_trans h63 (by decide);have hold:=hown;rcases hown.2 with ⟨rfl,hn0⟩|⟨g,cap,cur,rfl,hbg,hg,hnc,hcm,hcs,htake⟩
 · obtain ⟨v',w',hr,h2,h3,_⟩:=run_append_own (P:=P) w base t ty e i z size bytes E.und hi hz hsize hby E.zs E.pos _ n xs hold a m c news hl hnews h1 h63 hbytes hbase;refine ⟨v',w',hr,h2,h3, ?_⟩;obtain ⟨v2,w2,hr2,h22,_,_⟩:=run_append_own (P:=P) w w.heap.size t ty e i z size bytes E.und hi hz hsize hby E.zs E.pos (.slice none 0 0) n xs ⟨hold.1, .inl ⟨rfl,hn0⟩⟩ a m c news hl hnews h1 h63 hbytes (Nat.le_refl _);rw [hr]at hr2;cases hr2;exact fun k hk=> .inr (h22.lt k hk).1
 · obtain ⟨v',w',hr,h2,h3,_⟩:=run_append_own (P:=P) w base t ty e i z size bytes E.und hi hz hsize hby E.zs E.pos _ n xs hold a m c news hl hnews h1 h63 hbytes hbase;refine ⟨v',w',hr,h2,h3, ?_⟩;by_cases hroom:n+m≤cap
   · have hfit:n*i.size+news.length≤cur.size:=by rw [hl,hcs,hsize,←Nat.add_mul];exact Nat.mul_le_mul_right _ hroom
     have hr2:=run_append_room (P:=P) w t ty e i E.und hi g n cap cur hg a m c news (by rw [hsize];exact hl) hnews h1 hroom hfit;rw [hr]at hr2;cases hr2;exact fun k hk=> .inl hk
   · have holds:∀j u,xs[j]? =some u→w.cell? ((⟨g,0,none⟩:Addr).add j)=some u:=hold.cells (g:=g) rfl;have hr2:=run_append_grow (P:=P) w t ty e i z E.und hi hz ⟨g,0,none⟩ n cap xs (by rw [hsize];exact hold.1) holds a m c news (by rw [hsize];exact hl) hnews (by omega) (by omega) (growslice_fits (by omega) (by rw [hby];exact hbytes));rw [hr]at hr2;cases hr2;intro k hk;right;cases hk;exact Nat.le_refl _
theorem app1 {P:Program}{t e:TypeId}{z:Value}{size bytes:Nat}(E:X0 P t e z size bytes) {w:World}{ops:Array Oper}{rest:List Oper}{o:Oper}{a:Act}{Q:Exit→Act→World→Prop}(hgd:o.guard=none) (s x:Operand)
 (ho:o.op= .call {callee:= .builtin .append,args:= #[s,x],argTypes:= #[t,t]})
 (base:Nat) (v:Value) (n:Nat) (xs:List Value) (hs:a.eval s=v) (hown:w.ownsRow base e size v n xs)
 (k c:Nat) (news:List Value) (hx:a.eval x= .slice (some ⟨k,0,none⟩) 1 c) (hl:news.length=size) (hnews:∀j u,news[j]? =some u→w.cell? ⟨k,j,none⟩=some u) (h1:∀u∈news,u.oneCell' =true)
 (hn:(n+1)*bytes≤140737488355328∧n<140737488355328) (hbase:base≤w.heap.size)
 (h:∀a' cap' w',w'.ownsRow base e size (.slice a' (n+1) cap') (n+1) (xs++news)→w.grownBy w' v.ownBlock→Qo w v (.slice a' (n+1) cap')→wpList P ops Q rest (a.put o.dst (.slice a' (n+1) cap')) w'):wpList P ops Q (o::rest) a w:=by
 refine wpList_plain hgd fun K hK=> ?_
 obtain ⟨v',w',hr,h2,h3,h4⟩:=Sy (P:=P) (ty:=o.type) E v n xs hown ⟨k,0,none⟩ 1 c news (by rw [Nat.one_mul];exact hl) (fun j u hj=>by rw [iG,Nat.zero_add];exact hnews j u hj) h1 (by have:=hn.2;unfold maxLen;omega) hn.1 hbase (by omega);obtain ⟨a',cap',rfl,_⟩:=aY h2;unfold Oper.wp execOp;simp only [ho,resolve,invoke,builtin,Sem.run_bind,Sem.run_pure,Result.andThen_ok,List.map_toArray,List.map_cons,List.map_nil,hs,hx,hr];exact hK _ _ (h a' cap' w' h2 h3 h4)
def Apart (v u:Value):Prop:=∀g,v.ownBlock=some g→u.ownBlock≠some g
theorem Apart.symm {v u:Value}(h:Apart v u):Apart u v:=fun g hu hv=>h g hv hu
theorem yZ {u:Value}{n c:Nat}:Apart (.slice none n c) u:=fun g h=>by cases h
theorem Apart.keep {w w' :World}{v u:Value}(h:Apart v u) {base:Nat}{e:TypeId}{size n:Nat}{xs:List Value}(hu:w.ownsRow base e size u n xs) (hg:w.grownBy w' v.ownBlock):w'.ownsRow base e size u n xs:=
 hu.kept hg (by
  cases hx:u.ownBlock with
  |none=>exact .inl rfl
  |some g=>exact .inr fun e=>h g e.symm hx)
theorem Apart.near {w:World}{v v' u:Value}(h:Apart v u) (hn:Qo w v v') {base:Nat}{e:TypeId}{size n:Nat}{xs:List Value}(hu:w.ownsRow base e size u n xs):Apart v' u:=by
 intro g hv hg;rcases hn g hv with h1|h1
 · exact h g h1 hg
 · have:=(hu.lt g hg).2;omega
theorem Apart.blk {w:World}{v:Value}{base:Nat}{e:TypeId}{size n:Nat}{xs:List Value}(hv:w.ownsRow base e size v n xs) {k:Nat}(hk:k<base):v.ownBlock≠some k:=fun h=>by have:=(hv.lt k h).1;omega
theorem below_app {w0 w w' :World}{B:Nat}{v:Value}(hb:Below B w0 w) (hB:B≤w.heap.size) (hg:w.grownBy w' v.ownBlock) (hv:∀g,v.ownBlock=some g→B≤g):Below B w0 w' :=
 hb.grown hg hB hv
theorem bg (w:World) (L:List Value) (t:TypeId):∀j u,L[j]? =some u→(w.alloc (.cells L.toArray t)).cell? ⟨w.heap.size,j,none⟩=some u:=by
 intro j u hj;rw [au (aA w _)];simpa using hj
end aN
end Go.Proofs.YtcgadodckoalnaaGreatDoor
namespace Go.Proofs
end Go.Proofs
