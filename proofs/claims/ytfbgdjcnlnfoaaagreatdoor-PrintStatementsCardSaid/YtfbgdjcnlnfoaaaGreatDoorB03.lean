/- Parts of the proof, joined: LexH PlainPA KitC PrsA PrsB PrsC PrsD PrsE PrsF PrsG. -/
import Derived.Lib.LaidTab
import Derived.Lib.ItoaNum
import Derived.Test.YtfbgdjcnlnfoaaaGreatDoorB01
import Derived.Test.YtfbgdjcnlnfoaaaGreatDoorB02
set_option maxHeartbeats 2000000
set_option maxRecDepth 100000
namespace Go.Proofs.YtfbgdjcnlnfoaaaGreatDoor
open Go.RowKit
open aH
def jH (t:Tk):List Value:= [.int .i64 t.kind, .string t.s, .int .i64 t.n, .int .i64 t.at_]
def qw (l:List Tk):List Value:=l.flatMap jH
theorem Jf (l:List Tk) (p:Tk):qw l++jH p=qw (l++ [p]):=by simp [qw]
theorem F5 (q:Tk):∀u∈jH q,u.oneCell' =true:=by
 intro u hu;simp [jH]at hu;rcases hu with rfl|rfl|rfl|rfl<;>rfl
theorem tH {w:World}{base:Nat}{e:TypeId}{size:Nat}{v:Value}{n:Nat}{xs:List Value}(h:w.ownsRow base e size v n xs) (m:Nat):(w.drewN m).ownsRow base e size v n xs:=by
 obtain ⟨h1,h2⟩:=h
 exact ⟨h1,h2⟩
theorem bF {w:World}{base b2:Nat}{e:TypeId}{size:Nat}{v:Value}{n:Nat}{xs:List Value}(h:w.ownsRow base e size v n xs) (hb:b2≤base):w.ownsRow b2 e size v n xs:=by
 obtain ⟨h1,h2⟩:=h
 refine ⟨h1, ?_⟩
 rcases h2 with h2|⟨g,cap,cur,a,b,c⟩
 · exact .inl h2
 · exact .inr ⟨g,cap,cur,a,Nat.le_trans hb b,c⟩
theorem o9 {w w' :World}{base k:Nat}{e:TypeId}{size:Nat}{v:Value}{n:Nat}{xs:List Value}(h:w.ownsRow base e size v n xs) (hg:w.grownBy w' (some k)) (hk:k<base):w'.ownsRow base e size v n xs:=by
 obtain ⟨h1,h2⟩:=h
 refine ⟨h1, ?_⟩
 rcases h2 with h2|⟨g,cap,cur,a,b,c,d⟩
 · exact .inl h2
 · exact .inr ⟨g,cap,cur,a,b,by rw [hg.block g (aC c) (fun e=>by cases e;omega)];exact c,d⟩
theorem TF (w1:World) (X:Obj) (q:Tk) (t:TypeId):∀j u,(jH q)[j]? =some u→((w1.alloc X).alloc (.cells #[.int .i64 q.kind, .string q.s, .int .i64 q.n, .int .i64 q.at_] t)).cell? ((⟨w1.heap.size+1,0,none⟩:Addr).add j)=some u:=by
 have:=xg (w1.alloc X) (jH q) t
 have e:(w1.alloc X).heap.size=w1.heap.size+1:=by simp
 rw [e]at this
 exact this
theorem Tryz.Wu:(Tryz.prog.info? 119).map (fun i=>(i.zero,i.size,i.bytes))=some (some (.agg #[.int .i64 0, .string ⟨#[]⟩, .int .i64 0, .int .i64 0]),4,40):=by kernel_rfl
theorem kF (s:ByteArray) (w:World) (hG:Glob w):
 Calls Tryz.prog 35 #[.string s] w fun e w' =>(∃v,e= .returned (.tuple #[v, .int .i64 (aX s).2.1, .int .i64 (aX s).2.2])∧w'.ownsRow w.heap.size 119 4 v (aX s).1.length (qw (aX s).1))∧Below w.heap.size w w' :=by
 obtain ⟨i0,hi,hz0,hz1,hz2⟩:=info_parts Tryz.Wu
 by_cases hbig:(1000:Int)<s.size
 · have HE:Hid (aX s=([],0,2)):=by show _=_;unfold aX;rw [if_pos (by omega)]
   go_enter Tryz.func35,Tryz.ntmps35
   go_wp2_with fail
   go_ret3
   rw [HE.out]
   exact ⟨⟨_,rfl,World.ownsRow_nil _ _ _ _⟩,Below.refl _ _⟩
 have hs:s.size≤100000:=by omega
 go_enter Tryz.func35,Tryz.ntmps35
 have ho:=Pm s w hG hs
 have Mt:=CY s
 have hpl:(pts s).length≤100000:=Nat.le_trans Mt.1 hs
 have HL:Hid (aX s=match dS s (pts s) ((pts s).length+1) 0 with| .ok l=>(l,0,0)| .error a=>([],(a:Nat),3)):=by show _=_;unfold aX;rw [if_neg (by omega)];cases dS s (pts s) ((pts s).length+1) 0<;>rfl
 go_wp2_with fail
 refine ho.mono ?_;rintro e w1 ⟨rfl,hS,hb1⟩
 obtain ⟨P,hP⟩:∃P,pts s=P:=⟨_,rfl⟩
 rw [hP]at hS Mt hpl HL
 clear hP ho
 have hlt1:=hS.lt
 obtain ⟨L,hLd⟩:∃L,L=w1.heap.size:=⟨_,rfl⟩
 rw [←hLd]at hS hlt1
 go_wp2_with fail
 refine (FW _ _ _ _ _ hS (by omega) hpl).mono ?_;rintro e w2 ⟨rfl,hS,hg2⟩
 go_wp2_with fail
 go_loopw [5] (fun a wr=>∃(j n:Nat) (done:List Tk),SQ L wr w.heap.size s P (skip P j)∧wr.ownsRow L 119 4 a done.length (qw done)∧Below w.heap.size w wr∧Hid (dS s P (P.length+1) 0=(dS s P (n+1) j).map (done++ ·))∧done.length≤j∧j≤P.length∧P.length≤n+j) (fun _ wr=>P.length - vv wr w.heap.size)
 case atStart=>exact ⟨0,P.length, [],hS,World.ownsRow_nil _ _ _ _,hb1.trans (jM hg2 (Nat.le_refl _) (by omega)),by (show _=_;cases dS s P (P.length+1) 0<;>rfl),by simp,by omega,by omega⟩
 case round=>
  obtain ⟨j,n,done,hSr,hown,hbw,HR,hdj,hjP,hn⟩:=hrel
  have hk:=yJ P (P.length - j) j hjP
  rw [show iL P (P.length - j) j=skip P j from rfl]at hk
  have hkj:=jF P j
  by_cases hend:P.length≤skip P j
  · have HX:Hid (aX s=(done,0,0)):=by show _=_;rw [HL.out,HR.out,vB hend];simp [Except.map]
    have he:=nV wr _ s P _ hSr true (decide_eq_true hend)
    go_wp2_with (go_at_call 79;refine he.mono ?_;rintro e w3 ⟨rfl,m,hm⟩)
    go_ret3
    rw [HX.out]
    exact ⟨⟨_,rfl,bF (tH hown _) (by omega)⟩,aH.below_drewN hbw _⟩
  · have he:=nV wr _ s P _ hSr false (decide_eq_false hend)
    obtain ⟨i,hi0⟩:∃i,skip P j=i:=⟨_,rfl⟩
    rw [hi0]at hSr hk hkj hend
    have Hi:=Lib.hid hi0
    have Hsc:=Lib.hid (eH hSr)
    have hown0:=fun m=>tH hown m
    have hbw0:=fun m=>aH.below_drewN hbw m
    have hS0:=fun m=>hSr.heap (w' :=wr.drewN m) rfl
    clear hown hbw hSr hi0
    go_wp2_with (go_at_call 79;refine he.mono ?_;rintro e w3 ⟨rfl,m,hm⟩;have Ej:=hS0 m;have hown3:=hown0 m;have Cu:=hbw0 m;rw [←hm]at Ej hown3 Cu;obtain ⟨c2,f2⟩:=VK Ej;clear hS0 hown0 hbw0 hm)
    obtain ⟨⟨⟨K,S,N,A⟩,ok,nx⟩,hX⟩:∃X,X=dF s P i:=⟨_,rfl⟩
    have hc:=MB w w3 _ s P i Ej hG Cu (Nat.le_refl _) hs Mt (by omega)
    rw [←hX]at hc
    change Calls _ _ _ _ (fun e w' =>e= .returned (.tuple #[.agg #[.int .i64 K, .string S, .int .i64 N, .int .i64 A], .bool ok])∧SQ L w' _ s P nx∧w3.grownBy w' (some w.heap.size))at hc
    have hL3:=Ej.le
    refine hc.mono ?_;rintro e w4 ⟨rfl,nX,hg4⟩
    have mX:w4.ownsRow L 119 4 u5 done.length (qw done):=o9 hown3 hg4 (by omega)
    have Eh:Below w.heap.size w w4:=Cu.trans (jM hg4 (Nat.le_refl _) (by omega))
    clear hc Ej hown3 Cu hg4
    cases ok
    · have HX:Hid (aX s=([],i,3)):=by
       have hb:(dF s P (skip P j)).2.1=false:=by rw [Hi.out,←hX]
       show _=_;rw [HL.out,HR.out,F4 (by rw [Hi.out];omega) hb,Hi.out];rfl
      go_wp2_with fail
      go_ret3
      rw [HX.out]
      exact ⟨⟨_,rfl,World.ownsRow_nil _ _ _ _⟩,Eh.alloc Eh.size _⟩
    · have hg:=zK (s:=s) (i:=i) (P:=P) (by omega) (by rw [←hX])
      rw [←hX]at hg
      obtain ⟨hg1,hg2⟩:i<nx∧nx≤P.length:=hg
      have hR2:=Jd HR.out (m:=nx) (by rw [Hi.out];omega) (by rw [Hi.out,←hX]) (by rw [Hi.out,←hX])
      rw [Hi.out,←hX]at hR2
      have HR2:=Lib.hid hR2
      clear hR2
      have hL4:=nX.le
      have hb4:=Eh.size
      go_wp2_with (first
       |(at_builtin;go_loud (refine wpList_append_own _ rfl _ _ 64 rfl L 119 i0 (.agg #[.int .i64 0, .string ⟨#[]⟩, .int .i64 0, .int .i64 0]) 4 40 Tryz.underlying64 hi hz0 hz1 hz2 rfl (by decide) _ _ _ rfl ((mX.alloc _).alloc _) ⟨w4.heap.size+1,0,none⟩ 1 1 (jH ⟨K,S,N,A⟩) rfl rfl (TF _ _ ⟨K,S,N,A⟩ _) (F5 _) (by unfold maxLen;omega) (by omega) (by simp;omega) ?_);intro v' w5 hown5 hg5 _;rw [Jf]at hown5
         have Wv:Below w.heap.size w w5:=((Eh.alloc (by omega) _).alloc (by simp;omega) _).grown hg5 (by simp;omega) (fun k hk=>by have:=(mX.lt _ hk).1;omega)
         have hS5:SQ L w5 w.heap.size s P nx:=nX.keep (by have:=hg5.size;simp at this;omega) (fun k hk=>by
          rw [hg5.block k (by simp;omega) (fun e=>by have:=(mX.lt _ e.symm).1;omega)]
          rw [Below.heap_alloc _ _ _ (by simp;omega),Below.heap_alloc _ _ _ (by omega)])
         clear mX Eh hg5 nX)
       |(go_at_call 78;refine (FW _ _ _ _ _ hS5 (by omega) hpl).mono ?_;rintro e w6 ⟨rfl,Yr,O4⟩
         have hown6:=o9 hown5 O4 (by omega)
         have aaZ:Below w.heap.size w w6:=Wv.trans (jM O4 (Nat.le_refl _) (by have:=Wv.size;omega))
         clear hown5 Wv hS5 O4))
      have hl2:(done++ [(⟨K,S,N,A⟩:Tk)]).length=done.length+1:=by simp
      go_roundw
      case rel=>exact ⟨nx,n - 1,done++ [⟨K,S,N,A⟩],Yr,by rw [hl2];exact hown6,aaZ,by rw [Nat.sub_add_cancel (by omega)];exact HR2,by rw [hl2];omega,by omega,by omega⟩
      case measure=>rw [eH Yr,Hsc.out];have:=jF P nx;omega
namespace aH
structure Tm where
 ty:Int
 s:ByteArray
 n:Int
structure Pr where
 name:ByteArray
 t:Tm
structure Cl where
 name:ByteArray
 ty:Int
structure Sx where
 kind:Int
 name:ByteArray
 bM:ByteArray
 on:ByteArray
 aW:ByteArray
 tid:Int
 part:Cl
 aI:Cl
 aN:List Cl
 aO:List ByteArray
 sets:List Pr
 aP:List Pr
 stamp:Int
 ttl:Int
 limit:Int
def Tm.zero:Tm:=⟨0,⟨#[]⟩,0⟩
def Cl.zero:Cl:=⟨⟨#[]⟩,0⟩
def Sx.zero:Sx:=⟨0,⟨#[]⟩,⟨#[]⟩,⟨#[]⟩,⟨#[]⟩,0,Cl.zero,Cl.zero, [], [], [], [],0,0,0⟩
def Af:List ByteArray:= [(⟨#[99,114,101,97,116,101]⟩:ByteArray),(⟨#[116,97,98,108,101]⟩:ByteArray),(⟨#[112,114,105,109,97,114,121]⟩:ByteArray),(⟨#[107,101,121]⟩:ByteArray),(⟨#[109,97,116,101,114,105,97,108,105,122,101,100]⟩:ByteArray),(⟨#[118,105,101,119]⟩:ByteArray),(⟨#[97,115]⟩:ByteArray),(⟨#[115,101,108,101,99,116]⟩:ByteArray),(⟨#[102,114,111,109]⟩:ByteArray),(⟨#[119,104,101,114,101]⟩:ByteArray),(⟨#[105,115]⟩:ByteArray),(⟨#[110,111,116]⟩:ByteArray),(⟨#[110,117,108,108]⟩:ByteArray),(⟨#[105,110,100,101,120]⟩:ByteArray),(⟨#[111,110]⟩:ByteArray),(⟨#[100,114,111,112]⟩:ByteArray),(⟨#[105,110,115,101,114,116]⟩:ByteArray),(⟨#[105,110,116,111]⟩:ByteArray),(⟨#[118,97,108,117,101,115]⟩:ByteArray),(⟨#[117,115,105,110,103]⟩:ByteArray),(⟨#[117,112,100,97,116,101]⟩:ByteArray),(⟨#[115,101,116]⟩:ByteArray),(⟨#[97,110,100]⟩:ByteArray),(⟨#[100,101,108,101,116,101]⟩:ByteArray),(⟨#[116,105,109,101,115,116,97,109,112]⟩:ByteArray),(⟨#[108,105,109,105,116]⟩:ByteArray),(⟨#[98,101,103,105,110]⟩:ByteArray),(⟨#[98,97,116,99,104]⟩:ByteArray),(⟨#[97,112,112,108,121]⟩:ByteArray),(⟨#[116,116,108]⟩:ByteArray),(⟨#[116,101,120,116]⟩:ByteArray),(⟨#[105,110,116]⟩:ByteArray)]
def iW (a b:ByteArray):Bool:=decide (a=b)
def qI (x:ByteArray) (l:List ByteArray):Bool:=l.any (iW x)
def Eo (s:ByteArray):Bool:=qI s Af
structure Ps where
 i:Nat
 bad:Option Nat
def Ps.nY (σ:Ps):Int:=match σ.bad with|none=> -1|some a=>a
def Ps.wrong (σ:Ps) (a:Nat):Ps:=match σ.bad with|none=>⟨σ.i,some a⟩|some _=>σ
def Ps.step (σ:Ps):Ps:=⟨σ.i+1,σ.bad⟩
structure Tx where
 T:List Tk
 en:Nat
namespace Tx
variable (X:Tx)
def here (σ:Ps):Nat:=match X.T[σ.i]? with|some t=>t.at_|none=>X.en
def fail (σ:Ps):Ps:=σ.wrong (X.here σ)
def next (σ:Ps) (k:Int):Option Tk:=match σ.bad with|some _=>none|none=>match X.T[σ.i]? with|some t=>if t.kind=k then some t else none|none=>none
def sees (σ:Ps) (s:ByteArray):Bool:=(match X.next σ 1 with|some t=>iW t.s s|none=>false)||(match X.next σ 4 with|some t=>iW t.s s|none=>false)
def may (σ:Ps) (s:ByteArray):Ps:=if X.sees σ s then σ.step else σ
def bV (σ:Ps) (s:ByteArray):Ps:=if X.sees σ s then σ.step else X.fail σ
def must (σ:Ps) (l:List ByteArray):Ps:=l.foldl X.bV σ
def name (σ:Ps):ByteArray×Ps:=match X.next σ 1 with
 |some t=>if Eo t.s then (⟨#[]⟩,X.fail σ)else (t.s,σ.step)
 |none=>(⟨#[]⟩,X.fail σ)
def value (σ:Ps):Tm×Ps:=match X.next σ 3 with
 |some t=>(⟨1,t.s,0⟩,σ.step)
 |none=>match X.next σ 2 with
  |some t=>(⟨2,⟨#[]⟩,t.n⟩,σ.step)
  |none=>(Tm.zero,X.fail σ)
def count (σ:Ps):Int×Ps:=
 let r:=X.value σ
 (r.1.n,if r.1.ty≠2∨r.1.n<1∨1099511627776<r.1.n then r.2.wrong (X.here σ)else r.2)
def column (σ:Ps) (l:List ByteArray) (most:Nat):List ByteArray×Ps:=
 let σ1:=if most≤l.length then σ.wrong (X.here σ)else σ
 let r:=X.name σ1
 (l++ [r.1],if qI r.1 l then r.2.wrong (X.here σ)else r.2)
def dA (most:Nat):Nat→Ps→List ByteArray→List ByteArray×Ps
 |0,σ,l=>(l,σ)
 |n+1,σ,l=>if X.sees σ (⟨#[44]⟩:ByteArray)then let r:=X.column σ.step l most;dA most n r.2 r.1 else (l,σ)
def columns (σ:Ps) (most:Nat):List ByteArray×Ps:=
 let r:=X.column σ [] most
 X.dA most X.T.length r.2 r.1
def some_ (σ:Ps):List ByteArray×Ps:=if X.sees σ (⟨#[42]⟩:ByteArray)then ([],σ.step)else X.columns σ 8
def equal (σ:Ps):Pr×Ps:=
 let r:=X.name σ
 let v:=X.value (X.must r.2 [(⟨#[61]⟩:ByteArray)])
 (⟨r.1,v.1⟩,v.2)
def aP (σ:Ps) (both:Bool):List Pr×Ps:=
 let r:=X.equal (X.must σ [(⟨#[119,104,101,114,101]⟩:ByteArray)])
 if both then
  let q:=X.equal (X.must r.2 [(⟨#[97,110,100]⟩:ByteArray)])
  ([r.1,q.1],q.2)
 else if X.sees r.2 (⟨#[97,110,100]⟩:ByteArray)then
  let q:=X.equal r.2.step
  ([r.1,q.1],q.2)
 else ([r.1],r.2)
def using_ (σ:Ps) (ttl:Bool) (x:Sx):Sx×Ps:=
 if X.sees σ (⟨#[117,115,105,110,103]⟩:ByteArray)then
  let σ1:=σ.step
  if ttl&&X.sees σ1 (⟨#[116,116,108]⟩:ByteArray)then
   let c:=X.count σ1.step
   ({x with ttl:=c.1},c.2)
  else
   let c:=X.count (X.must σ1 [(⟨#[116,105,109,101,115,116,97,109,112]⟩:ByteArray)])
   if ttl&&X.sees c.2 (⟨#[97,110,100]⟩:ByteArray)then
    let d:=X.count (X.must c.2.step [(⟨#[116,116,108]⟩:ByteArray)])
    ({x with stamp:=c.1,ttl:=d.1},d.2)
   else ({x with stamp:=c.1},c.2)
 else (x,σ)
def one (σ:Ps) (l:List ByteArray) (but:ByteArray):ByteArray×Ps:=
 let r:=X.name σ
 (r.1,if !qI r.1 l||iW r.1 but then r.2.wrong (X.here σ)else r.2)
def kind (σ:Ps):Int×Ps:=if X.sees σ (⟨#[116,101,120,116]⟩:ByteArray)then (1,σ.step)else (2,X.must σ [(⟨#[105,110,116]⟩:ByteArray)])
def gV:Nat→Ps→List ByteArray→List Cl→List ByteArray×List Cl×Ps
 |0,σ,l,c=>(l,c,σ)
 |n+1,σ,l,c=>
  if σ.bad.isSome then (l,c,σ)
  else if X.sees σ (⟨#[112,114,105,109,97,114,121]⟩:ByteArray)then (l,c,σ.step)
  else
   let r:=X.column σ l 10
   let k:=X.kind r.2
   gV n (X.must k.2 [(⟨#[44]⟩:ByteArray)]) r.1 (c++ [⟨r.1.getLastD ⟨#[]⟩,k.1⟩])
def place (x:Sx) (part aI:ByteArray) (c:Cl):Sx:=
 if iW c.name part then {x with part:=c}else if iW c.name aI then {x with aI:=c}else {x with aN:=x.aN++ [c]}
def table (σ:Ps):Sx×Ps:=
 let r:=X.name σ
 let t:=X.gV (X.T.length+1) (X.must r.2 [(⟨#[40]⟩:ByteArray)]) [] []
 let a:=X.one (X.must t.2.2 [(⟨#[107,101,121]⟩:ByteArray),(⟨#[40]⟩:ByteArray)]) t.1 ⟨#[]⟩
 let b:=X.one (X.must a.2 [(⟨#[44]⟩:ByteArray)]) t.1 a.1
 (t.2.1.foldl (fun x c=>place x a.1 b.1 c) {Sx.zero with kind:=1,name:=r.1,aW:=r.1},X.must b.2 [(⟨#[41]⟩:ByteArray),(⟨#[41]⟩:ByteArray)])
def view (σ:Ps):Sx×Ps:=
 let r:=X.name (X.must σ [(⟨#[118,105,101,119]⟩:ByteArray)])
 let c:=X.some_ (X.must r.2 [(⟨#[97,115]⟩:ByteArray),(⟨#[115,101,108,101,99,116]⟩:ByteArray)])
 let o:=X.name (X.must c.2 [(⟨#[102,114,111,109]⟩:ByteArray)])
 let n:=X.name (X.must o.2 [(⟨#[119,104,101,114,101]⟩:ByteArray)])
 let k:=X.one (X.must n.2 [(⟨#[105,115]⟩:ByteArray),(⟨#[110,111,116]⟩:ByteArray),(⟨#[110,117,108,108]⟩:ByteArray),(⟨#[112,114,105,109,97,114,121]⟩:ByteArray),(⟨#[107,101,121]⟩:ByteArray),(⟨#[40]⟩:ByteArray)]) [n.1] ⟨#[]⟩
 let p:=X.name (X.must k.2 [(⟨#[44]⟩:ByteArray)])
 let q:=X.name (X.must p.2 [(⟨#[44]⟩:ByteArray)])
 ({Sx.zero with kind:=2,name:=r.1,aO:=c.1,bM:=o.1,on:=n.1,aP:= [⟨p.1,Tm.zero⟩,⟨q.1,Tm.zero⟩]},X.must q.2 [(⟨#[41]⟩:ByteArray)])
def index (σ:Ps):Sx×Ps:=
 let r:=X.name (X.must σ [(⟨#[105,110,100,101,120]⟩:ByteArray)])
 let o:=X.name (X.must r.2 [(⟨#[111,110]⟩:ByteArray)])
 let n:=X.name (X.must o.2 [(⟨#[40]⟩:ByteArray)])
 ({Sx.zero with kind:=3,name:=r.1,bM:=o.1,on:=n.1},X.must n.2 [(⟨#[41]⟩:ByteArray)])
def fE:Nat→Ps→List Tm→List Tm×Ps
 |0,σ,l=>(l,σ)
 |n+1,σ,l=>if X.sees σ (⟨#[44]⟩:ByteArray)then let r:=X.value σ.step;fE n r.2 (l++ [r.1])else (l,σ)
def insert (σ:Ps):Sx×Ps:=
 let o:=X.name (X.must σ [(⟨#[105,110,116,111]⟩:ByteArray)])
 let c:=X.columns (X.must o.2 [(⟨#[40]⟩:ByteArray)]) 10
 let v0:=X.value (X.must c.2 [(⟨#[41]⟩:ByteArray),(⟨#[118,97,108,117,101,115]⟩:ByteArray),(⟨#[40]⟩:ByteArray)])
 let v:=X.fE X.T.length v0.2 [v0.1]
 let σ1:=if X.sees v.2 (⟨#[41]⟩:ByteArray)&&v.1.length !=c.1.length then X.fail v.2 else v.2
 X.using_ (X.must σ1 [(⟨#[41]⟩:ByteArray)]) true {Sx.zero with kind:=5,bM:=o.1,sets:=List.zipWith Pr.mk c.1 v.1}
def ku:Nat→Ps→List ByteArray→List Pr→List Pr×Ps
 |0,σ,_,p=>(p,σ)
 |n+1,σ,l,p=>
  let r:=X.column σ l 8
  let v:=X.value (X.must r.2 [(⟨#[61]⟩:ByteArray)])
  let p' :=p++ [⟨r.1.getLastD ⟨#[]⟩,v.1⟩]
  if X.sees v.2 (⟨#[44]⟩:ByteArray)then ku n v.2.step r.1 p' else (p',v.2)
def update (σ:Ps):Sx×Ps:=
 let o:=X.name σ
 let u:=X.using_ o.2 true {Sx.zero with kind:=6,bM:=o.1}
 let s:=X.ku (X.T.length+1) (X.must u.2 [(⟨#[115,101,116]⟩:ByteArray)]) [] []
 let w:=X.aP s.2 true
 ({u.1 with sets:=s.1,aP:=w.1},w.2)
def remove (σ:Ps):Sx×Ps:=
 let c:=if X.sees σ (⟨#[102,114,111,109]⟩:ByteArray)then ([],σ)else X.columns σ 8
 let o:=X.name (X.must c.2 [(⟨#[102,114,111,109]⟩:ByteArray)])
 let u:=X.using_ o.2 false {Sx.zero with kind:=7,aO:=c.1,bM:=o.1}
 let w:=X.aP u.2 false
 ({u.1 with aP:=w.1},w.2)
def ask (σ:Ps):Sx×Ps:=
 let c:=X.some_ σ
 let o:=X.name (X.must c.2 [(⟨#[102,114,111,109]⟩:ByteArray)])
 let w:=X.aP o.2 false
 if X.sees w.2 (⟨#[108,105,109,105,116]⟩:ByteArray)then
  let k:=X.count w.2.step
  ({Sx.zero with kind:=8,aO:=c.1,bM:=o.1,aP:=w.1,limit:=k.1},k.2)
 else ({Sx.zero with kind:=8,aO:=c.1,bM:=o.1,aP:=w.1},w.2)
inductive Nd where
 |plain (x:Sx)
 |change (x:Sx)
 |batch (l:List Sx)
def iT (st:Ps→Nd×Ps):Nat→Ps→List Sx→List Sx×Ps
 |0,σ,l=>(l,σ)
 |n+1,σ,l=>
  if σ.bad.isSome then (l,σ)
  else if !l.isEmpty&&X.sees σ (⟨#[97,112,112,108,121]⟩:ByteArray)then (l,σ.step)
  else
   let a:=X.here σ
   let r:=st (if 8≤l.length then σ.wrong a else σ)
   match r.1 with
   | .change x=>iT st n (X.must r.2 [(⟨#[59]⟩:ByteArray)]) (l++ [x])
   |_=>(l,⟨r.2.i,some a⟩)
def many (st:Ps→Nd×Ps) (σ:Ps):List Sx×Ps:=
 let r:=X.iT st 10 (X.must σ [(⟨#[98,97,116,99,104]⟩:ByteArray)]) []
 (r.1,X.must r.2 [(⟨#[98,97,116,99,104]⟩:ByteArray)])
def iq:Nat→Ps→Nd×Ps
 |0,σ=>(.plain Sx.zero,σ)
 |n+1,σ=>
  if X.sees σ (⟨#[105,110,115,101,114,116]⟩:ByteArray)then let r:=X.insert σ.step;(.change r.1,r.2)
  else if X.sees σ (⟨#[117,112,100,97,116,101]⟩:ByteArray)then let r:=X.update σ.step;(.change r.1,r.2)
  else if X.sees σ (⟨#[100,101,108,101,116,101]⟩:ByteArray)then let r:=X.remove σ.step;(.change r.1,r.2)
  else if X.sees σ (⟨#[115,101,108,101,99,116]⟩:ByteArray)then let r:=X.ask σ.step;(.plain r.1,r.2)
  else if X.sees σ (⟨#[98,101,103,105,110]⟩:ByteArray)then let r:=X.many (iq n) σ.step;(.batch r.1,r.2)
  else if X.sees σ (⟨#[100,114,111,112]⟩:ByteArray)then let r:=X.name σ.step;(.plain {Sx.zero with kind:=4,name:=r.1},r.2)
  else if X.sees σ (⟨#[99,114,101,97,116,101]⟩:ByteArray)then
   if X.sees σ.step (⟨#[116,97,98,108,101]⟩:ByteArray)then let r:=X.table σ.step.step;(.plain r.1,r.2)
   else if X.sees σ.step (⟨#[109,97,116,101,114,105,97,108,105,122,101,100]⟩:ByteArray)then let r:=X.view σ.step.step;(.plain r.1,r.2)
   else let r:=X.index σ.step;(.plain r.1,r.2)
  else (.plain Sx.zero,X.fail σ)
end Tx
end aH
open Go.RowKit
namespace aH
structure O5 (P:Program) (t e:TypeId) (z:Value) (size bytes:Nat):Prop where
 und:P.underlying t=some (.slice e)
 info:∃i,P.info? e=some i∧i.zero=some z∧i.size=size∧i.bytes=bytes
 zs:z.cells.size=size
 pos:0<size
theorem xA {P:Program}{t e:TypeId}{z:Value}{size bytes:Nat}(h1:P.underlying t=some (.slice e)) (h2:(P.info? e).map (fun i=>(i.zero,i.size,i.bytes))=some (some z,size,bytes)) (h3:z.cells.size=size) (h4:0<size):O5 P t e z size bytes:=by
 refine ⟨h1, ?_,h3,h4⟩
 cases hi:P.info? e with
 |none=>rw [hi]at h2;cases h2
 |some i=>
  rw [hi]at h2
  simp only [Option.map_some,Option.some.injEq,Prod.mk.injEq]at h2
  exact ⟨i,rfl,h2.1,h2.2.1,h2.2.2⟩
def PL (w:World) (v v' :Value):Prop:=∀g,v'.ownBlock=some g→v.ownBlock=some g∨w.heap.size≤g
theorem Ep {P:Program}{w:World}{base:Nat}{t ty e:TypeId}{z:Value}{size bytes:Nat}(E:O5 P t e z size bytes) (v:Value) (n:Nat) (xs:List Value) (hown:w.ownsRow base e size v n xs)
 (a:Addr) (m c:Nat) (news:List Value) (hl:news.length=m*size) (hnews:∀j u,news[j]? =some u→w.cell? (a.add j)=some u) (h1:∀u∈news,u.oneCell' =true)
 (h63:n+m≤maxLen) (hbytes:(n+m)*bytes≤140737488355328) (hbase:base≤w.heap.size) (_hm:0<m):
 ∃v' w',(Builtin.append_ #[t,t] ty #[v, .slice (some a) m c]).run P w= .ok v' w' ∧w'.ownsRow base e size v' (n+m) (xs++news)∧w.grownBy w' v.ownBlock∧PL w v v' :=by
 obtain ⟨i,hi,hz,hsize,hby⟩:=E.info
 have hmax:n+m≤9223372036854775807:=Nat.le_trans h63 (by decide)
 have hold:=hown
 rcases hown.2 with ⟨rfl,hn0⟩|⟨g,cap,cur,rfl,hbg,hg,hnc,hcm,hcs,htake⟩
 · obtain ⟨v',w',hr,h2,h3,_⟩:=run_append_own (P:=P) w base t ty e i z size bytes E.und hi hz hsize hby E.zs E.pos _ n xs hold a m c news hl hnews h1 h63 hbytes hbase
   refine ⟨v',w',hr,h2,h3, ?_⟩
   obtain ⟨v2,w2,hr2,h22,_,_⟩:=run_append_own (P:=P) w w.heap.size t ty e i z size bytes E.und hi hz hsize hby E.zs E.pos (.slice none 0 0) n xs ⟨hold.1, .inl ⟨rfl,hn0⟩⟩ a m c news hl hnews h1 h63 hbytes (Nat.le_refl _)
   rw [hr]at hr2
   cases hr2
   exact fun k hk=> .inr (h22.lt k hk).1
 · obtain ⟨v',w',hr,h2,h3,_⟩:=run_append_own (P:=P) w base t ty e i z size bytes E.und hi hz hsize hby E.zs E.pos _ n xs hold a m c news hl hnews h1 h63 hbytes hbase
   refine ⟨v',w',hr,h2,h3, ?_⟩
   by_cases hroom:n+m≤cap
   · have hfit:n*i.size+news.length≤cur.size:=by rw [hl,hcs,hsize,←Nat.add_mul];exact Nat.mul_le_mul_right _ hroom
     have hr2:=run_append_room (P:=P) w t ty e i E.und hi g n cap cur hg a m c news (by rw [hsize];exact hl) hnews h1 hroom hfit
     rw [hr]at hr2
     cases hr2
     exact fun k hk=> .inl hk
   · have holds:∀j u,xs[j]? =some u→w.cell? ((⟨g,0,none⟩:Addr).add j)=some u:=hold.cells (g:=g) rfl
     have hr2:=run_append_grow (P:=P) w t ty e i z E.und hi hz ⟨g,0,none⟩ n cap xs (by rw [hsize];exact hold.1) holds a m c news (by rw [hsize];exact hl) hnews (by omega) (by omega) (growslice_fits (by omega) (by rw [hby];exact hbytes))
     rw [hr]at hr2
     cases hr2
     intro k hk
     right
     cases hk
     exact Nat.le_refl _
theorem app1 {P:Program}{t e:TypeId}{z:Value}{size bytes:Nat}(E:O5 P t e z size bytes) {w:World}{ops:Array Oper}{rest:List Oper}{o:Oper}{a:Act}{Q:Exit→Act→World→Prop}(hgd:o.guard=none) (s x:Operand)
 (ho:o.op= .call {callee:= .builtin .append,args:= #[s,x],argTypes:= #[t,t]})
 (base:Nat) (v:Value) (n:Nat) (xs:List Value) (hs:a.eval s=v) (hown:w.ownsRow base e size v n xs)
 (k c:Nat) (news:List Value) (hx:a.eval x= .slice (some ⟨k,0,none⟩) 1 c) (hl:news.length=size) (hnews:∀j u,news[j]? =some u→w.cell? ⟨k,j,none⟩=some u) (h1:∀u∈news,u.oneCell' =true)
 (hn:(n+1)*bytes≤140737488355328∧n<140737488355328) (hbase:base≤w.heap.size)
 (h:∀a' cap' w',w'.ownsRow base e size (.slice a' (n+1) cap') (n+1) (xs++news)→w.grownBy w' v.ownBlock→PL w v (.slice a' (n+1) cap')→wpList P ops Q rest (a.put o.dst (.slice a' (n+1) cap')) w'):wpList P ops Q (o::rest) a w:=by
 refine wpList_plain hgd fun K hK=> ?_
 obtain ⟨v',w',hr,h2,h3,h4⟩:=Ep (P:=P) (ty:=o.type) E v n xs hown ⟨k,0,none⟩ 1 c news (by rw [Nat.one_mul];exact hl) (fun j u hj=>by rw [jy,Nat.zero_add];exact hnews j u hj) h1 (by have:=hn.2;unfold maxLen;omega) hn.1 hbase (by omega)
 obtain ⟨a',cap',rfl,_⟩:=aY h2
 unfold Oper.wp execOp
 simp only [ho,resolve,invoke,builtin,Sem.run_bind,Sem.run_pure,Result.andThen_ok,List.map_toArray,List.map_cons,List.map_nil,hs,hx,hr]
 exact hK _ _ (h a' cap' w' h2 h3 h4)
def Apart (v u:Value):Prop:=∀g,v.ownBlock=some g→u.ownBlock≠some g
theorem Apart.symm {v u:Value}(h:Apart v u):Apart u v:=fun g hu hv=>h g hv hu
theorem C8 {u:Value}{n c:Nat}:Apart (.slice none n c) u:=fun g h=>by cases h
theorem Apart.keep {w w' :World}{v u:Value}(h:Apart v u) {base:Nat}{e:TypeId}{size n:Nat}{xs:List Value}(hu:w.ownsRow base e size u n xs) (hg:w.grownBy w' v.ownBlock):w'.ownsRow base e size u n xs:=
 hu.kept hg (by
  cases hx:u.ownBlock with
  |none=>exact .inl rfl
  |some g=>exact .inr fun e=>h g e.symm hx)
theorem Apart.near {w:World}{v v' u:Value}(h:Apart v u) (hn:PL w v v') {base:Nat}{e:TypeId}{size n:Nat}{xs:List Value}(hu:w.ownsRow base e size u n xs):Apart v' u:=by
 intro g hv hg
 rcases hn g hv with h1|h1
 · exact h g h1 hg
 · have:=(hu.lt g hg).2;omega
theorem Apart.blk {w:World}{v:Value}{base:Nat}{e:TypeId}{size n:Nat}{xs:List Value}(hv:w.ownsRow base e size v n xs) {k:Nat}(hk:k<base):v.ownBlock≠some k:=fun h=>by have:=(hv.lt k h).1;omega
theorem below_app {w0 w w' :World}{B:Nat}{v:Value}(hb:Below B w0 w) (hB:B≤w.heap.size) (hg:w.grownBy w' v.ownBlock) (hv:∀g,v.ownBlock=some g→B≤g):Below B w0 w' :=
 hb.grown hg hB hv
theorem bn (w:World) (L:List Value) (t:TypeId):∀j u,L[j]? =some u→(w.alloc (.cells L.toArray t)).cell? ⟨w.heap.size,j,none⟩=some u:=by
 intro j u hj
 rw [aj (aB w _)]
 simpa using hj
end aH
open Go.RowKit
open aH
theorem l8:∀(l:List Tk) (k j:Nat) (h:k<l.length) (_:j<4),(qw l)[k*4+j]? =(jH l[k])[j]?
 |p::l,0,j,_,hj=>by
  simp only [qw,List.flatMap_cons,Nat.zero_mul,Nat.zero_add,List.getElem_cons_zero]
  rw [List.getElem?_append_left (by simp [jH];omega)]
 |p::l,k+1,j,h,hj=>by
  have:=l8 l k j (by simp at h;omega) hj
  simp only [qw,List.flatMap_cons,List.getElem_cons_succ]at this⊢
  rw [List.getElem?_append_right (by simp [jH];omega)]
  have e:(k+1)*4+j - (jH p).length=k*4+j:=by simp [jH];omega
  rw [e];exact this
def Gp (w:World):Prop:=Glob w∧Lib.TabIs Tryz.prog w "strings.asciiSpace" .u8 Lib.asciiSpaceTab∧Lib.TabIs Tryz.prog w "internal/strconv.uint64pow10" .u64 Lib.pow10Tab
theorem Tryz.KY:Tryz.prog.globalNamed "strings.asciiSpace" =some 2:=by kernel_rfl
theorem Tryz.KZ:Tryz.prog.globalNamed "internal/strconv.uint64pow10" =some 3:=by kernel_rfl
theorem C9 {n:String}{g:Nat}{k:IntKind}{zs:List Int}{w w' :World}(hg:Tryz.prog.globalNamed n=some g) (h:Lib.TabIs Tryz.prog w n k zs) (hb:Below w.heap.size w w'):Lib.TabIs Tryz.prog w' n k zs:=by
 unfold Lib.TabIs World.var? at h⊢
 rw [hg]at h⊢
 simp only [Option.bind_some]at h⊢
 have hlt:g<w.heap.size:=by
  rcases Nat.lt_or_ge g w.heap.size with h' |h'
  · exact h'
  · rw [Array.getElem?_eq_none h']at h;cases h
 rw [hb.block g hlt]
 exact h
theorem Gp.below {w w' :World}(h:Gp w) (hb:Below w.heap.size w w'):Gp w' :=
 ⟨h.1.below hb,C9 Tryz.KY h.2.1 hb,C9 Tryz.KZ h.2.2 hb⟩
structure PK where
 ws:World
 L:Nat
 b:Nat
 X:Tx
 hG:Gp ws
 hb:ws.heap.size≤b
 hL:b<L
 hT:X.T.length≤100000
def PQ (K:PK) (w:World) (σ:Ps):Prop:=
 K.L≤w.heap.size∧Below K.ws.heap.size K.ws w∧∃a cap,w.heap[K.b]? =some (.cells #[.slice a K.X.T.length cap, .int .i64 σ.i, .int .i64 K.X.en, .int .i64 σ.nY] 69 (0,0))∧
  (0<K.X.T.length→∃g,a=some ⟨g,0,none⟩∧g≠K.b∧g<K.L∧∀j u,(qw K.X.T)[j]? =some u→w.cell? ⟨g,j,none⟩=some u)
def Did (K:PK) (w0:World) (σ:Ps) (w:World):Prop:=PQ K w σ∧w0.grownBy w (some K.b)∧K.L≤w0.heap.size
section
variable {K:PK}{w0 w w' :World}{σ σ' :Ps}
theorem PQ.glob (h:PQ K w σ):Gp w:=K.hG.below h.2.1
theorem PQ.le (h:PQ K w σ):K.L≤w.heap.size:=h.1
theorem PQ.lt (h:PQ K w σ):K.b<w.heap.size:=Nat.lt_of_lt_of_le K.hL h.1
theorem PQ.keep (h:PQ K w σ) (hs:w.heap.size≤w'.heap.size) (hb:∀k,k<K.L→w'.heap[k]? =w.heap[k]?) (hw:Below K.ws.heap.size K.ws w'):PQ K w' σ:=by
 obtain ⟨h0,hB,a,cap,h1,h2⟩:=h
 refine ⟨Nat.le_trans h0 hs,hw,a,cap,by rw [hb K.b K.hL];exact h1,fun hp=> ?_⟩
 obtain ⟨g,e1,e2,e3,e4⟩:=h2 hp
 refine ⟨g,e1,e2,e3,fun j u hj=> ?_⟩
 rw [←e4 j u hj]
 unfold World.cell?
 rw [hb g e3]
theorem PQ.below (h:PQ K w σ) (hb:Below w.heap.size w w'):PQ K w' σ:=
 h.keep hb.size (fun k hk=>hb.block k (Nat.lt_of_lt_of_le hk h.1)) (h.2.1.trans (hb.mono h.2.1.size))
theorem PQ.own (h:PQ K w σ) {k:Nat}(hk:K.L≤k) (o:Nat) (u:Value):PQ K (w.setCell ⟨k,o,none⟩ u) σ:=
 h.keep (by simp [World.setCell]) (fun j hj=>Below.heap_setCell _ _ _ _ (by show j≠k;omega)) (h.2.1.trans ⟨rfl,rfl,rfl,by simp [World.setCell],fun i hi=>Below.heap_setCell _ _ _ _ (by show i≠k;have:=K.hb;have:=K.hL;omega)⟩)
theorem PQ.set (h:PQ K w σ) (j:Nat) (v:Value) (σ' :Ps) (hv:(#[Value.slice none 0 0, .int .i64 σ.i, .int .i64 K.X.en, .int .i64 σ.nY]:Array Value).setIfInBounds j v= #[Value.slice none 0 0, .int .i64 σ'.i, .int .i64 K.X.en, .int .i64 σ'.nY]) (hj:j=1∨j=3):PQ K (w.setCell ⟨K.b,j,none⟩ v) σ' :=by
 obtain ⟨h0,hB,a,cap,h1,h2⟩:=h
 refine ⟨by simpa [World.setCell]using h0,hB.trans ⟨rfl,rfl,rfl,by simp [World.setCell],fun i hi=>Below.heap_setCell _ _ _ _ (by show i≠K.b;have:=K.hb;omega)⟩,a,cap, ?_,fun hp=> ?_⟩
 · rw [bU h1 j v]
   rcases hj with rfl|rfl
   · simp at hv⊢;exact ⟨hv.1,hv.2⟩
   · simp at hv⊢;exact ⟨hv.1,hv.2⟩
 obtain ⟨g,e1,e2,e3,e4⟩:=h2 hp
 refine ⟨g,e1,e2,e3,fun k u hk=> ?_⟩
 rw [←e4 k u hk]
 unfold World.cell?
 rw [Below.heap_setCell _ _ _ _ e2]
theorem PQ.step (h:PQ K w σ):PQ K (w.setCell ⟨K.b,1,none⟩ (.int .i64 ((σ.i:Int)+1))) σ.step:=
 h.set 1 _ _ (by simp [Ps.step,Ps.nY]) (.inl rfl)
theorem PQ.bad (h:PQ K w σ) (a:Nat):PQ K (w.setCell ⟨K.b,3,none⟩ (.int .i64 a)) ⟨σ.i,some a⟩:=
 h.set 3 _ _ (by simp [Ps.nY]) (.inr rfl)
theorem PQ.cells (h:PQ K w σ):∃a cap,w.cell? ⟨K.b,0,none⟩=some (.slice a K.X.T.length cap)∧w.cell? ⟨K.b,1,none⟩=some (.int .i64 σ.i)∧w.cell? ⟨K.b,2,none⟩=some (.int .i64 K.X.en)∧w.cell? ⟨K.b,3,none⟩=some (.int .i64 σ.nY)∧
 w.frozen? ⟨K.b,1,none⟩=false∧w.frozen? ⟨K.b,3,none⟩=false∧(0<K.X.T.length→∃g,a=some ⟨g,0,none⟩∧∀j u,(qw K.X.T)[j]? =some u→w.cell? ⟨g,j,none⟩=some u):=by
 obtain ⟨_,_,a,cap,h1,h2⟩:=h
 refine ⟨a,cap,by rw [aj h1];rfl,by rw [aj h1];rfl,by rw [aj h1];rfl,by rw [aj h1];rfl,ah h1 1,ah h1 3,fun hp=> ?_⟩
 obtain ⟨g,e1,_,_,e4⟩:=h2 hp
 exact ⟨g,e1,e4⟩
theorem Did.refl (h:PQ K w σ):Did K w σ w:=⟨h,o8 _ _,h.1⟩
theorem Did.trans (h:Did K w0 σ w) (k:Did K w σ' w'):Did K w0 σ' w' :=⟨k.1,aK h.2.1 k.2.1,h.2.2⟩
theorem Did.below (h:Did K w0 σ w) (hb:Below w.heap.size w w'):Did K w0 σ w' :=⟨h.1.below hb,aK h.2.1 (jB hb _),h.2.2⟩
theorem Did.drewN (h:Did K w0 σ w) (n:Nat):Did K w0 σ (w.drewN n):=h.below (aH.below_drewN (Below.refl _ _) n)
theorem Did.alloc (h:Did K w0 σ w) (o:Obj):Did K w0 σ (w.alloc o):=h.below ((Below.refl _ _).alloc (Nat.le_refl _) _)
theorem Did.size (h:Did K w0 σ w):w0.heap.size≤w.heap.size:=h.2.1.size
theorem Did.own (h:Did K w0 σ w) {k:Nat}(hk:w0.heap.size≤k) (o:Nat) (u:Value):Did K w0 σ (w.setCell ⟨k,o,none⟩ u):=
 ⟨h.1.own (Nat.le_trans h.2.2 hk) o u,⟨h.2.1.os,h.2.1.tape,h.2.1.output,by have:=h.2.1.size;simpa [World.setCell]using this,fun i hi hr=>by
  rw [Below.heap_setCell _ _ _ _ (by show i≠k;omega)];exact h.2.1.block i hi hr⟩,h.2.2⟩
theorem Did.step (h:Did K w0 σ w):Did K w0 σ.step (w.setCell ⟨K.b,1,none⟩ (.int .i64 ((σ.i:Int)+1))):=⟨h.1.step,aK h.2.1 (jd _ _ _ _),h.2.2⟩
theorem Did.bad (h:Did K w0 σ w) (a:Nat):Did K w0 ⟨σ.i,some a⟩ (w.setCell ⟨K.b,3,none⟩ (.int .i64 a)):=⟨h.1.bad a,aK h.2.1 (jd _ _ _ _),h.2.2⟩
theorem Did.blk (h:Did K w σ' w') {k:Nat}{o:Obj}(hk:w.heap[k]? =some o) (hkb:K.L≤k):w'.heap[k]? =some o:=by
 rw [h.2.1.block k (aC hk) (fun e=>by cases e;have:=K.hL;omega)];exact hk
theorem Did.row (h:Did K w σ' w') {base:Nat}{e:TypeId}{size:Nat}{v:Value}{n:Nat}{xs:List Value}(hr:w.ownsRow base e size v n xs) (hb:K.L≤base):w'.ownsRow base e size v n xs:=
 o9 hr h.2.1 (by have:=K.hL;omega)
end
abbrev qP (K:PK) (w:World) (v:Value) (σ:Ps):Ending→World→Prop:=fun e w' =>e= .returned v∧Did K w σ w'
theorem PN (σ:Ps):decide (σ.nY<0)=σ.bad.isNone:=by
 unfold Ps.nY;cases σ.bad with
 |none=>rfl
 |some a=>simp
theorem TH {K:PK}{w:World}{σ:Ps}(h:PQ K w σ):
 Calls Tryz.prog 41 #[.pointer (some ⟨K.b,0,none⟩)] w fun e w' =>e= .returned (.bool σ.bad.isNone)∧∃m,w' =w.drewN m:=by
 obtain ⟨a,cap,c0,c1,c2,c3,_⟩:=h.cells
 go_enter Tryz.func41,Tryz.ntmps41
 go_wp2_with fail
 go_ret
 exact ⟨gT (PN σ),0,rfl⟩
theorem qy {K:PK}{w:World}{σ:Ps}(h:PQ K w σ) {v:Bool}(hv:σ.bad.isNone=v):
 Calls Tryz.prog 41 #[.pointer (some ⟨K.b,0,none⟩)] w fun e w' =>e= .returned (.bool v)∧∃m,w' =w.drewN m:=by
 rw [←hv];exact TH h
theorem iB {K:PK}{w:World}{σ:Ps}(h:PQ K w σ):
 Calls Tryz.prog 40 #[.pointer (some ⟨K.b,0,none⟩)] w fun e w' =>e= .returned (.int .i64 (K.X.here σ))∧∃m,w' =w.drewN m:=by
 obtain ⟨a,cap,c0,c1,c2,c3,_,_,hc⟩:=h.cells
 by_cases hlt:σ.i<K.X.T.length
 · obtain ⟨g,rfl,hg⟩:=hc (by omega)
   have q0:(σ.i:Int)<(K.X.T.length:Int):=by omega
   have q1:(0:Int)≤(σ.i:Int):=by omega
   have c4:w.cell? ⟨g,σ.i*4+3,none⟩=some (.int .i64 K.X.T[σ.i].at_):=hg _ _ (by rw [l8 _ σ.i 3 hlt (by omega)];rfl)
   have HE:Hid (K.X.here σ=K.X.T[σ.i].at_):=by show _=_;unfold Tx.here;rw [List.getElem?_eq_getElem hlt]
   clear hc hg
   generalize K.X.T[σ.i]=t at *
   go_enter Tryz.func40,Tryz.ntmps40
   go_wp2_with fail
   go_quiet (fail)
   go_wp2_with fail
   go_quiet (fail)
   go_wp2_with fail
   go_ret
   exact ⟨lN (by rw [HE.out]),_,World.drewN_drewN _ _ _⟩
 · have q0:¬(σ.i:Int)<(K.X.T.length:Int):=by omega
   have HE:Hid (K.X.here σ=K.X.en):=by show _=_;unfold Tx.here;rw [List.getElem?_eq_none (by omega)]
   clear hc
   go_enter Tryz.func40,Tryz.ntmps40
   go_wp2_with fail
   go_quiet (fail)
   go_wp2_with fail
   go_ret
   exact ⟨lN (by rw [HE.out]),_,rfl⟩
theorem gB {K:PK}{w:World}{σ:Ps}(h:PQ K w σ) (a:Nat):
 Calls Tryz.prog 39 #[.pointer (some ⟨K.b,0,none⟩), .int .i64 a] w (qP K w (.tuple #[]) (σ.wrong a)):=by
 obtain ⟨_,_,_,_,_,_,_,f3,_⟩:=h.cells
 have HD:=Did.refl h
 cases hb:σ.bad with
 |none=>
  have hok:=qy h (v:=true) (by rw [hb];rfl)
  have HE:Hid (σ.wrong a=⟨σ.i,some a⟩):=by show _=_;unfold Ps.wrong;rw [hb]
  go_enter Tryz.func39,Tryz.ntmps39
  go_wp2_with (go_at_call 41;refine hok.mono ?_;rintro e w1 ⟨rfl,m,rfl⟩)
  go_end0
  rw [HE.out]
  exact ⟨rfl,(HD.drewN m).bad a⟩
 |some x=>
  have hok:=qy h (v:=false) (by rw [hb];rfl)
  have HE:Hid (σ.wrong a=σ):=by show _=_;unfold Ps.wrong;rw [hb]
  go_enter Tryz.func39,Tryz.ntmps39
  go_wp2_with (go_at_call 41;refine hok.mono ?_;rintro e w1 ⟨rfl,m,rfl⟩)
  go_end0
  rw [HE.out]
  exact ⟨rfl,HD.drewN m⟩
def tk0:Tk:=⟨0,⟨#[]⟩,0,0⟩
def Ag (o:Option Tk):Tk:=match o with|some t=>t|none=>tk0
def tkA (t:Tk):Value:= .agg #[.int .i64 t.kind, .string t.s, .int .i64 t.n, .int .i64 t.at_]
theorem TI {w w1:World}{x0 x1 x2 x3:Value}{T:TypeId}(h1:w1.heap[w.heap.size]? =some (.cells #[x0,x1,x2,x3] T (0,0))) (hb:Below w.heap.size w w1) (v0 v1 v2 v3:Value) (W:World)
 (hW:W=(((w1.setCell ⟨w.heap.size,0,none⟩ v0).setCell ⟨w.heap.size,1,none⟩ v1).setCell ⟨w.heap.size,2,none⟩ v2).setCell ⟨w.heap.size,3,none⟩ v3):
 W.cell? ⟨w.heap.size,0,none⟩=some v0∧W.cell? ⟨w.heap.size,1,none⟩=some v1∧W.cell? ⟨w.heap.size,2,none⟩=some v2∧W.cell? ⟨w.heap.size,3,none⟩=some v3∧Below w.heap.size w W:=by
 subst hW
 have hp:=Ms h1 v0 v1 v2 v3
 exact ⟨by rw [aj hp];rfl,by rw [aj hp];rfl,by rw [aj hp];rfl,by rw [aj hp];rfl,hb.trans (jM (zJ w1 w.heap.size v0 v1 v2 v3) (Nat.le_refl _) hb.size)⟩
theorem F6 {K:PK}{w:World}{σ:Ps}(h:PQ K w σ) (k:Int):
 Calls Tryz.prog 133 #[.pointer (some ⟨K.b,0,none⟩), .int .i64 k] w fun e w' =>e= .returned (.tuple #[tkA (Ag (K.X.next σ k)), .bool (K.X.next σ k).isSome])∧Below w.heap.size w w' :=by
 have hbl:=aB w (.cells #[.int .i64 0, .string ⟨#[]⟩, .int .i64 0, .int .i64 0] 119)
 have hbw:=(Below.refl w.heap.size w).alloc (Nat.le_refl _) (.cells #[.int .i64 0, .string ⟨#[]⟩, .int .i64 0, .int .i64 0] 119)
 have h0:PQ K (w.alloc (.cells #[.int .i64 0, .string ⟨#[]⟩, .int .i64 0, .int .i64 0] 119)) σ:=h.below hbw
 obtain ⟨a,cap,c0,c1,c2,c3,_,_,hc⟩:=h0.cells
 have hok:=fun m v hv=>qy (σ:=σ) (v:=v) (h0.below (aH.below_drewN (Below.refl _ _) m)) hv
 have s0:(w.alloc (.cells #[.int .i64 0, .string ⟨#[]⟩, .int .i64 0, .int .i64 0] 119)).cell? ⟨w.heap.size,0,none⟩=some (.int .i64 0):=by rw [aj hbl];rfl
 have s1:(w.alloc (.cells #[.int .i64 0, .string ⟨#[]⟩, .int .i64 0, .int .i64 0] 119)).cell? ⟨w.heap.size,1,none⟩=some (.string ⟨#[]⟩):=by rw [aj hbl];rfl
 have s2:(w.alloc (.cells #[.int .i64 0, .string ⟨#[]⟩, .int .i64 0, .int .i64 0] 119)).cell? ⟨w.heap.size,2,none⟩=some (.int .i64 0):=by rw [aj hbl];rfl
 have s3:(w.alloc (.cells #[.int .i64 0, .string ⟨#[]⟩, .int .i64 0, .int .i64 0] 119)).cell? ⟨w.heap.size,3,none⟩=some (.int .i64 0):=by rw [aj hbl];rfl
 have f0:=ah hbl 0
 have f1:=ah hbl 1
 have f2:=ah hbl 2
 have f3:=ah hbl 3
 have HN:Hid ((w.alloc (.cells #[.int .i64 0, .string ⟨#[]⟩, .int .i64 0, .int .i64 0] 119)).heap[w.heap.size]? =some (.cells #[.int .i64 0, .string ⟨#[]⟩, .int .i64 0, .int .i64 0] 119 (0,0))∧Below w.heap.size w (w.alloc (.cells #[.int .i64 0, .string ⟨#[]⟩, .int .i64 0, .int .i64 0] 119))):=⟨hbl,hbw⟩
 clear hbl hbw h h0
 cases hb:σ.bad with
 |some x=>
  have HO:=Lib.hid (fun m=>hok m false (by rw [hb];rfl))
  have HE:Hid (K.X.next σ k=none):=by show _=_;unfold Tx.next;rw [hb]
  clear hok hc
  go_enter Tryz.func133,Tryz.ntmps133
  go_wp2_with fail
  generalize w.alloc (.cells #[.int .i64 0, .string ⟨#[]⟩, .int .i64 0, .int .i64 0] 119)=w0 at *
  go_quiet ((go_at_call 41;exact Calls.quiet_of (HO.out _)))
  go_wp2_with fail
  obtain ⟨r0,r1,r2,r3,hB⟩:=TI (by exact HN.out.1) (aH.below_drewN HN.out.2 nq) (.int .i64 0) (.string ⟨#[]⟩) (.int .i64 0) (.int .i64 0) _ rfl
  refine bodyPost_ret (v:= .tuple #[.agg #[.int .i64 0, .string ⟨#[]⟩, .int .i64 0, .int .i64 0], .bool false]) (by simp [results,Tryz.results133,go_sem,r0,r1,r2,r3]) rfl ?_
  rw [HE.out]
  exact ⟨rfl,hB⟩
 |none=>
  have HO:=Lib.hid (fun m=>hok m true (by rw [hb];rfl))
  clear hok
  by_cases hlt:σ.i<K.X.T.length
  · obtain ⟨g,rfl,hg⟩:=hc (by omega)
    have q0:¬((K.X.T.length:Int)≤(σ.i:Int)):=by omega
    have q1:(0:Int)≤(σ.i:Int):=by omega
    have q2:(σ.i:Int)<(K.X.T.length:Int):=by omega
    have k0:=hg (σ.i*4) (.int .i64 K.X.T[σ.i].kind) (by have:=l8 K.X.T σ.i 0 hlt (by omega);rw [Nat.add_zero]at this;rw [this];rfl)
    have k1:=hg (σ.i*4+1) (.string K.X.T[σ.i].s) (by rw [l8 _ σ.i 1 hlt (by omega)];rfl)
    have k2:=hg (σ.i*4+2) (.int .i64 K.X.T[σ.i].n) (by rw [l8 _ σ.i 2 hlt (by omega)];rfl)
    have k3:=hg (σ.i*4+3) (.int .i64 K.X.T[σ.i].at_) (by rw [l8 _ σ.i 3 hlt (by omega)];rfl)
    have HX:Hid (K.X.next σ k=if K.X.T[σ.i].kind=k then some K.X.T[σ.i]else none):=by show _=_;unfold Tx.next;rw [hb,List.getElem?_eq_getElem hlt]
    clear hc hg
    generalize K.X.T[σ.i]=t at *
    by_cases hk:t.kind=k
    · have q3:(t.kind !=k)=false:=by rw [hk];simp
      have HE:Hid (K.X.next σ k=some t):=by show _=_;rw [HX.out,if_pos hk]
      clear hk HX
      go_enter Tryz.func133,Tryz.ntmps133
      go_wp2_with fail
      generalize w.alloc (.cells #[.int .i64 0, .string ⟨#[]⟩, .int .i64 0, .int .i64 0] 119)=w0 at *
      go_quiet ((go_at_call 41;exact Calls.quiet_of (HO.out _)))
      go_wp2_with fail
      replace c0:(w0.drewN nq).cell? _=_:=c0
      replace c1:(w0.drewN nq).cell? _=_:=c1
      replace k0:(w0.drewN nq).cell? _=_:=k0
      replace k1:(w0.drewN nq).cell? _=_:=k1
      replace k2:(w0.drewN nq).cell? _=_:=k2
      replace k3:(w0.drewN nq).cell? _=_:=k3
      replace s0:(w0.drewN nq).cell? _=_:=s0
      replace s1:(w0.drewN nq).cell? _=_:=s1
      replace s2:(w0.drewN nq).cell? _=_:=s2
      replace s3:(w0.drewN nq).cell? _=_:=s3
      replace f0:(w0.drewN nq).frozen? _=_:=f0
      replace f1:(w0.drewN nq).frozen? _=_:=f1
      replace f2:(w0.drewN nq).frozen? _=_:=f2
      replace f3:(w0.drewN nq).frozen? _=_:=f3
      have hbl:(w0.drewN nq).heap[w.heap.size]? =_:=HN.out.1
      have hbw:=aH.below_drewN HN.out.2 nq
      generalize w0.drewN nq=w1 at *
      go_still_tail 10,(by kernel_rfl)
      go_wp2_with fail
      obtain ⟨r0,r1,r2,r3,hB⟩:=TI (w1:=w1) hbl hbw (.int .i64 t.kind) (.string t.s) (.int .i64 t.n) (.int .i64 t.at_) _ rfl
      generalize (((w1.setCell ⟨w.heap.size,0,none⟩ (.int .i64 t.kind)).setCell ⟨w.heap.size,1,none⟩ (.string t.s)).setCell ⟨w.heap.size,2,none⟩ (.int .i64 t.n)).setCell ⟨w.heap.size,3,none⟩ (.int .i64 t.at_)=W at *
      refine bodyPost_ret (v:= .tuple #[tkA t, .bool true]) (by simp [tkA,results,Tryz.results133,go_sem,r0,r1,r2,r3]) rfl ?_
      rw [HE.out]
      exact ⟨rfl,hB.drew⟩
    · have q3:(t.kind !=k)=true:=bne_iff_ne.2 hk
      have HE:Hid (K.X.next σ k=none):=by show _=_;rw [HX.out,if_neg hk]
      clear hk HX
      go_enter Tryz.func133,Tryz.ntmps133
      go_wp2_with fail
      generalize w.alloc (.cells #[.int .i64 0, .string ⟨#[]⟩, .int .i64 0, .int .i64 0] 119)=w0 at *
      go_quiet ((go_at_call 41;exact Calls.quiet_of (HO.out _)))
      go_wp2_with fail
      obtain ⟨r0,r1,r2,r3,hB⟩:=TI (by exact HN.out.1) (aH.below_drewN HN.out.2 nq) (.int .i64 0) (.string ⟨#[]⟩) (.int .i64 0) (.int .i64 0) _ rfl
      refine bodyPost_ret (v:= .tuple #[.agg #[.int .i64 0, .string ⟨#[]⟩, .int .i64 0, .int .i64 0], .bool false]) (by simp [results,Tryz.results133,go_sem,r0,r1,r2,r3]) rfl ?_
      rw [HE.out]
      exact ⟨rfl,hB⟩
  · have q0:(K.X.T.length:Int)≤(σ.i:Int):=by omega
    have HE:Hid (K.X.next σ k=none):=by show _=_;unfold Tx.next;rw [hb,List.getElem?_eq_none (by omega)]
    clear hc
    go_enter Tryz.func133,Tryz.ntmps133
    go_wp2_with fail
    generalize w.alloc (.cells #[.int .i64 0, .string ⟨#[]⟩, .int .i64 0, .int .i64 0] 119)=w0 at *
    go_quiet ((go_at_call 41;exact Calls.quiet_of (HO.out _)))
    go_wp2_with fail
    obtain ⟨r0,r1,r2,r3,hB⟩:=TI (by exact HN.out.1) (aH.below_drewN HN.out.2 nq) (.int .i64 0) (.string ⟨#[]⟩) (.int .i64 0) (.int .i64 0) _ rfl
    refine bodyPost_ret (v:= .tuple #[.agg #[.int .i64 0, .string ⟨#[]⟩, .int .i64 0, .int .i64 0], .bool false]) (by simp [results,Tryz.results133,go_sem,r0,r1,r2,r3]) rfl ?_
    rw [HE.out]
    exact ⟨rfl,hB⟩
open Go.RowKit
open aH
theorem Er {K:PK}{w:World}{σ:Ps}(h:PQ K w σ) (k:Int) (t:Tk) (b:Bool) (ht:Ag (K.X.next σ k)=t) (hb:(K.X.next σ k).isSome=b):
 Calls Tryz.prog 133 #[.pointer (some ⟨K.b,0,none⟩), .int .i64 k] w fun e w' =>e= .returned (.tuple #[.agg #[.int .i64 t.kind, .string t.s, .int .i64 t.n, .int .i64 t.at_], .bool b])∧Below w.heap.size w w' :=by
 rw [←ht,←hb];exact F6 h k
theorem PQ.alloc {K:PK}{w:World}{σ:Ps}(h:PQ K w σ) (o:Obj):PQ K (w.alloc o) σ:=h.below ((Below.refl _ _).alloc (Nat.le_refl _) _)
theorem PQ.Ms {K:PK}{w:World}{σ:Ps}(h:PQ K w σ) {g:Nat}(hg:K.L≤g) (v0 v1 v2 v3:Value):PQ K ((((w.setCell ⟨g,0,none⟩ v0).setCell ⟨g,1,none⟩ v1).setCell ⟨g,2,none⟩ v2).setCell ⟨g,3,none⟩ v3) σ:=(((h.own hg _ _).own hg _ _).own hg _ _).own hg _ _
theorem eO (a b:ByteArray):(a.toList==b.toList)=iW a b:=by
 unfold iW
 rw [Bool.eq_iff_iff,beq_iff_eq,decide_eq_true_eq]
 refine ⟨fun h=> ?_,fun h=>by rw [h]⟩
 rw [ByteArray.toList_eq,ByteArray.toList_eq]at h
 exact ByteArray.ext (Array.ext' h)
theorem vC {K:PK}{w:World}{σ:Ps}(h:PQ K w σ) (s:ByteArray):
 Calls Tryz.prog 90 #[.pointer (some ⟨K.b,0,none⟩), .string s] w fun e w' =>e= .returned (.bool (K.X.sees σ s))∧Below w.heap.size w w' :=by
 have HE:Hid (K.X.sees σ s=(((K.X.next σ 1).isSome&&iW (Ag (K.X.next σ 1)).s s)||((K.X.next σ 4).isSome&&iW (Ag (K.X.next σ 4)).s s))):=by
  show _=_
  unfold Tx.sees
  cases K.X.next σ 1<;>cases K.X.next σ 4<;>simp [Ag]
 have n1:=fun w h=>Er (K:=K) (w:=w) (σ:=σ) h 1 _ _ rfl rfl
 have n4:=fun w h=>Er (K:=K) (w:=w) (σ:=σ) h 4 _ _ rfl rfl
 generalize Ag (K.X.next σ 1)=t1 at *
 generalize Ag (K.X.next σ 4)=t4 at *
 generalize (K.X.next σ 1).isSome=b1 at *
 generalize (K.X.next σ 4).isSome=b4 at *
 have hle:=h.le
 have e1:=eO t1.s s
 have e4:=eO t4.s s
 go_enter Tryz.func90,Tryz.ntmps90
 go_wp2_with fail
 refine (n1 w h).mono ?_;rintro e w1 ⟨rfl,hb1⟩
 have hP1:=h.below hb1
 have hs1:=hb1.size
 generalize iW t1.s s=q1 at *
 generalize iW t4.s s=q4 at *
 go_wp2_with fail
 have hP2:=hP1.alloc (.cells #[.int .i64 t1.kind, .string t1.s, .int .i64 t1.n, .int .i64 t1.at_] 119)
 refine (n4 _ hP2).mono ?_;rintro e w2 ⟨rfl,hb2⟩
 have Ww:=hb1.trans (((Below.refl _ _).alloc (Nat.le_refl _) (.cells #[.int .i64 t1.kind, .string t1.s, .int .i64 t1.n, .int .i64 t1.at_] 119)).mono hs1)
 have Wx:=Ww.trans (hb2.mono Ww.size)
 have c1:w2.cell? ⟨w1.heap.size,1,none⟩=some (.string t1.s):=by
  rw [hb2.cell (p:=⟨w1.heap.size,1,none⟩) (by simp),aj (aB w1 _)];rfl
 have hlt:w1.heap.size<w2.heap.size:=by have:=hb2.size;simp at this;omega
 have hB:=Wx.alloc Wx.size (.cells #[.int .i64 t4.kind, .string t4.s, .int .i64 t4.n, .int .i64 t4.at_] 119)
 clear hb1 hb2 Ww Wx hP1 hP2 h n1 n4
 cases b1<;>cases b4<;>cases q1<;>cases q4
 all_goals
  go_wp2_with fail
  go_ret
  exact ⟨gT (by rw [HE.out];rfl),hB⟩
open Go.RowKit
open aH
theorem next_lt {X:Tx}{σ:Ps}{k:Int}(h:(X.next σ k).isSome=true):σ.i<X.T.length∧σ.bad=none:=by
 unfold Tx.next at h
 cases hb:σ.bad with
 |some a=>rw [hb]at h;cases h
 |none=>
  rw [hb]at h
  refine ⟨?_,rfl⟩
  refine Decidable.byContradiction fun hn=> ?_
  rw [List.getElem?_eq_none (by omega)]at h
  cases h
theorem vD {X:Tx}{σ:Ps}{s:ByteArray}(h:X.sees σ s=true):σ.i<X.T.length∧σ.bad=none:=by
 unfold Tx.sees at h
 rw [Bool.or_eq_true]at h
 rcases h with h|h
 · exact next_lt (k:=1) (by cases hx:X.next σ 1 with|none=>rw [hx]at h;cases h|some t=>rfl)
 · exact next_lt (k:=4) (by cases hx:X.next σ 4 with|none=>rw [hx]at h;cases h|some t=>rfl)
theorem Did.cell {K:PK}{w w' :World}{σ:Ps}(h:Did K w σ w') {g:Nat}(hg:g<w.heap.size) (hgb:g≠K.b) (j:Nat):w'.cell? ⟨g,j,none⟩=w.cell? ⟨g,j,none⟩:=by
 unfold World.cell?
 rw [h.2.1.block g hg (fun e=>by cases e;exact hgb rfl)]
theorem aS {K:PK}{w:World}{σ:Ps}(h:PQ K w σ) (s:ByteArray):
 Calls Tryz.prog 38 #[.pointer (some ⟨K.b,0,none⟩), .string s] w (qP K w (.bool (K.X.sees σ s)) (K.X.may σ s)):=by
 have hD:=Did.refl h
 have sW:=vC h s
 unfold Tx.may
 cases hs:K.X.sees σ s with
 |false=>
  rw [hs]at sW
  go_enter Tryz.func38,Tryz.ntmps38
  go_wp2_with (go_at_call 90;refine sW.mono ?_;rintro e w1 ⟨rfl,hb⟩)
  go_ret
  exact ⟨rfl,hD.below hb⟩
 |true=>
  rw [hs]at sW
  obtain ⟨hlt,_⟩:=vD hs
  have hT:=K.hT
  have hov:IntKind.i64.wrap ((σ.i:Int)+1)=(σ.i:Int)+1:=IntWalk.i64_in _ (by omega)
  go_enter Tryz.func38,Tryz.ntmps38
  go_wp2_with fail
  refine sW.mono ?_;rintro e w1 ⟨rfl,hb⟩
  replace hD:=hD.below hb
  obtain ⟨_,_,c0,c1,_,_,f1,_,_⟩:=hD.1.cells
  go_wp2_with fail
  go_ret
  exact ⟨rfl,hD.step⟩
theorem ME (X:Tx) (σ:Ps) (l:List ByteArray) (j:Nat) (h:j<l.length):X.must σ (l.take (j+1))=X.bV (X.must σ (l.take j)) l[j]:=by
 unfold Tx.must
 rw [List.take_succ_eq_append_getElem h,List.foldl_append];rfl
theorem PO {K:PK}{w:World}{σ:Ps}(h:PQ K w σ) (l:List ByteArray) (g cap:Nat) (hg:g<w.heap.size) (hgb:g≠K.b) (hl:l.length≤1000) (hc:∀j (h:j<l.length),w.cell? ⟨g,j,none⟩=some (.string l[j])):
 Calls Tryz.prog 125 #[.pointer (some ⟨K.b,0,none⟩), .slice (some ⟨g,0,none⟩) l.length cap] w (qP K w (.tuple #[]) (K.X.must σ l)):=by
 have hD:=Did.refl h
 have HC:=Lib.hid hc
 clear hc
 go_enter Tryz.func125,Tryz.ntmps125
 go_wp2_with fail
 go_loopw [5,8] (fun _ i wr=>∃j:Nat,i= .int .i64 j∧j≤l.length∧Did K w (K.X.must σ (l.take j)) wr) (fun _ i _=>l.length - (intOf i).toNat)
 case atStart=>exact ⟨0,rfl,by omega,hD⟩
 case round=>
  clear hD
  obtain ⟨j,rfl,hj,hD⟩:=hrel
  by_cases hlt:j<l.length
  · have q0:(j:Int)<(l.length:Int):=by omega
    have q1:(0:Int)≤(j:Int):=by omega
    have c0:=(hD.cell hg hgb j).trans (HC.out j hlt)
    have hm:=aS hD.1 l[j]
    have HX:Hid (K.X.must σ (l.take (j+1))=K.X.bV (K.X.must σ (l.take j)) l[j]):=ME K.X σ l j hlt
    generalize l[j]=s at *
    unfold Tx.may at hm
    have HM:Hid (K.X.bV (K.X.must σ (l.take j)) s=if K.X.sees (K.X.must σ (l.take j)) s then (K.X.must σ (l.take j)).step else K.X.fail (K.X.must σ (l.take j))):=rfl
    generalize K.X.must σ (l.take j)=σ1 at *
    cases hs:K.X.sees σ1 s with
    |true=>
     rw [hs]at hm
     go_wp2_with (go_at_call 38;refine hm.mono ?_;rintro e w1 ⟨rfl,hd⟩)
     go_roundw
     case rel=>exact ⟨j+1,by go_num,by omega,by rw [HX.out,HM.out,hs,if_pos rfl];exact hD.trans hd⟩
     case measure=>simp [intOf];omega
    |false=>
     rw [hs]at hm
     go_wp2_with fail
     refine hm.mono ?_;rintro e w1 ⟨rfl,hd⟩
     replace hd:Did K wr σ1 w1:=hd
     have ha:=iB hd.1
     go_wp2_with fail
     refine ha.mono ?_;rintro e w2 ⟨rfl,m,rfl⟩
     have hd2:=hd.drewN m
     have hw:=gB hd2.1 (K.X.here σ1)
     go_wp2_with fail
     refine hw.mono ?_;rintro e w3 ⟨rfl,hd3⟩
     go_wp2_with fail
     go_roundw
     case rel=>exact ⟨j+1,by go_num,by omega,by rw [HX.out,HM.out,hs,if_neg (by decide)];exact (hD.trans hd2).trans hd3⟩
     case measure=>simp [intOf];omega
  · have hj2:j=l.length:=by omega
    subst hj2
    rw [List.take_length]at hD
    go_wp2_with fail
    go_end0
    exact ⟨rfl,hD⟩
theorem vE {K:PK}{w:World}{σ:Ps}(h:PQ K w σ) (l:List ByteArray) (hl:l.length≤1000):
 Calls Tryz.prog 125 #[.pointer (some ⟨K.b,0,none⟩), .slice (some ⟨w.heap.size,0,none⟩) l.length l.length] (w.alloc (.cells (l.map Value.string).toArray 9)) (qP K w (.tuple #[]) (K.X.must σ l)):=by
 have hD:=(Did.refl h).alloc (.cells (l.map Value.string).toArray 9)
 have hb:=K.hL
 have hle:=h.le
 refine (PO hD.1 l w.heap.size l.length (by simp) (by omega) hl (fun j hj=> ?_)).mono fun e w' he=>⟨he.1,hD.trans he.2⟩
 rw [aj (aB w _)]
 simp [hj]
theorem jI (x:ByteArray) (l:List ByteArray):qI x l=true ↔ x∈l:=by
 unfold qI iW
 rw [List.any_eq_true]
 exact ⟨fun ⟨y,hy,he⟩=>by rw [decide_eq_true_eq]at he;rw [he];exact hy,fun h=>⟨x,h,by simp⟩⟩
theorem nL (l:List ByteArray) (x:ByteArray):Lib.containsS l x=qI x l:=by
 rw [Bool.eq_iff_iff,Lib.containsS_iff,jI]
def resT:ByteArray:=(⟨#[99,114,101,97,116,101,32,116,97,98,108,101,32,112,114,105,109,97,114,121,32,107,101,121,32,109,97,116,101,114,105,97,108,105,122,101,100,32,118,105,101,119,32,97,115,32,115,101,108,101,99,116,32,102,114,111,109,32,119,104,101,114,101,32,105,115,32,110,111,116,32,110,117,108,108,32,105,110,100,101,120,32,111,110,32,100,114,111,112,32,105,110,115,101,114,116,32,105,110,116,111,32,118,97,108,117,101,115,32,117,115,105,110,103,32,117,112,100,97,116,101,32,115,101,116,32,97,110,100,32,100,101,108,101,116,101,32,116,105,109,101,115,116,97,109,112,32,108,105,109,105,116,32,98,101,103,105,110,32,98,97,116,99,104,32,97,112,112,108,121,32,116,116,108,32,116,101,120,116,32,105,110,116]⟩:ByteArray)
theorem Jg:(Lib.fields resT.data.toList).map (fun l=>(⟨l.toArray⟩:ByteArray))=Af:=by kernel_rfl
theorem MF:resT.size<4294967281:=of_decide_eq_true (by kernel_rfl)
theorem Jh:∀(j:Nat) b,resT.data.toList[j]? =some b→b.toNat<128:=by
 intro j b h
 have hall:resT.data.toList.all (fun b=>decide (b.toNat<128))=true:=by kernel_rfl
 exact of_decide_eq_true (List.all_eq_true.1 hall b (List.mem_of_getElem? h))
theorem Es (s:ByteArray) (w:World) (hG:Gp w):
 Calls Tryz.prog 134 #[.string s] w fun e w' =>e= .returned (.bool (Eo s))∧Below w.heap.size w w' :=by
 have hf:=Tryz.strings_Fields resT w MF Jh hG.2.1
 have hR:=Jg
 obtain ⟨F,hF⟩:∃F,Lib.fields resT.data.toList=F:=⟨_,rfl⟩
 rw [hF]at hf hR
 have hlen:F.length=32:=by
  have:=congrArg List.length hR
  rw [List.length_map]at this
  exact this
 have hmap:(F.map fun l=>Value.string ⟨l.toArray⟩)=Af.map Value.string:=by
  rw [←hR,List.map_map];rfl
 rw [hlen,hmap]at hf
 have hc:=Tryz.slices_Contains_string w.heap.size 0 32 32 Af s (w.alloc (.cells (Af.map Value.string).toArray 9)) (by decide) (by decide) (fun j hj=>by
  rw [aj (aB w _)]
  rw [List.getElem?_toArray,Nat.zero_add,List.getElem?_map,List.getD_eq_getElem?_getD,List.getElem?_eq_getElem hj];rfl)
 rw [show Af.take 32=Af from rfl,nL]at hc
 have hB:=(Below.refl w.heap.size w).alloc (Nat.le_refl _) (.cells (Af.map Value.string).toArray 9)
 unfold Eo
 generalize qI s Af=q at *
 generalize w.alloc (.cells (Af.map Value.string).toArray 9)=w1 at *
 clear hF hR hlen hmap
 go_enter Tryz.func134,Tryz.ntmps134
 go_wp2_with fail
 refine hf.mono ?_;rintro e w2 ⟨rfl,rfl⟩
 go_wp2_with fail
 refine hc.mono ?_;rintro e w3 ⟨rfl,rfl⟩
 go_wp2_with fail
 go_ret
 exact ⟨rfl,hB⟩
theorem eT {K:PK}{w:World}{σ:Ps}(h:PQ K w σ):
 Calls Tryz.prog 86 #[.pointer (some ⟨K.b,0,none⟩)] w (qP K w (.string (K.X.name σ).1) (K.X.name σ).2):=by
 have hD:=Did.refl h
 have n1:=F6 h 1
 unfold tkA at n1
 cases hx:K.X.next σ 1 with
 |none=>
  rw [hx]at n1
  have HE:Hid (K.X.name σ=(⟨#[]⟩,K.X.fail σ)):=by show _=_;unfold Tx.name;rw [hx]
  go_enter Tryz.func86,Tryz.ntmps86
  go_wp2_with fail
  refine n1.mono ?_;rintro e w1 ⟨rfl,hb⟩
  replace hD:=(hD.below hb).alloc (.cells #[.int .i64 0, .string ⟨#[]⟩, .int .i64 0, .int .i64 0] 119)
  have ha:=iB hD.1
  go_wp2_with fail
  refine ha.mono ?_;rintro e w2 ⟨rfl,m,rfl⟩
  have hd2:=hD.drewN m
  have hw:=gB hd2.1 (K.X.here σ)
  go_wp2_with fail
  refine hw.mono ?_;rintro e w3 ⟨rfl,hd3⟩
  go_wp2_with fail
  go_ret
  rw [HE.out]
  exact ⟨rfl,hd2.trans hd3⟩
 |some t=>
  rw [hx]at n1
  replace n1:Calls Tryz.prog 133 #[.pointer (some ⟨K.b,0,none⟩), .int .i64 1] w fun e w' =>e= .returned (.tuple #[.agg #[.int .i64 t.kind, .string t.s, .int .i64 t.n, .int .i64 t.at_], .bool true])∧Below w.heap.size w w' :=n1
  have HR:=fun w=>Es t.s w
  cases hr:Eo t.s with
  |true=>
   rw [hr]at HR
   have HE:Hid (K.X.name σ=(⟨#[]⟩,K.X.fail σ)):=by show _=_;unfold Tx.name;rw [hx];simp only;rw [hr];rfl
   go_enter Tryz.func86,Tryz.ntmps86
   go_wp2_with fail
   refine n1.mono ?_;rintro e w1 ⟨rfl,hb⟩
   replace hD:=(hD.below hb).alloc (.cells #[.int .i64 t.kind, .string t.s, .int .i64 t.n, .int .i64 t.at_] 119)
   have hr2:=HR _ hD.1.glob
   go_wp2_with fail
   refine hr2.mono ?_;rintro e w2 ⟨rfl,hb2⟩
   replace hD:=hD.below hb2
   have ha:=iB hD.1
   go_wp2_with fail
   refine ha.mono ?_;rintro e w3 ⟨rfl,m,rfl⟩
   have hd2:=hD.drewN m
   have hw:=gB hd2.1 (K.X.here σ)
   go_wp2_with fail
   refine hw.mono ?_;rintro e w4 ⟨rfl,hd3⟩
   go_wp2_with fail
   go_ret
   rw [HE.out]
   exact ⟨rfl,hd2.trans hd3⟩
  |false=>
   rw [hr]at HR
   obtain ⟨hlt,_⟩:=next_lt (X:=K.X) (σ:=σ) (k:=1) (by rw [hx];rfl)
   have hT:=K.hT
   have hov:IntKind.i64.wrap ((σ.i:Int)+1)=(σ.i:Int)+1:=IntWalk.i64_in _ (by omega)
   have HE:Hid (K.X.name σ=(t.s,σ.step)):=by show _=_;unfold Tx.name;rw [hx];simp only;rw [hr];rfl
   go_enter Tryz.func86,Tryz.ntmps86
   go_wp2_with fail
   refine n1.mono ?_;rintro e w1 ⟨rfl,hb⟩
   replace hD:=(hD.below hb).alloc (.cells #[.int .i64 t.kind, .string t.s, .int .i64 t.n, .int .i64 t.at_] 119)
   have hr2:=HR _ hD.1.glob
   go_wp2_with fail
   refine hr2.mono ?_;rintro e w2 ⟨rfl,hb2⟩
   have s1:w2.cell? ⟨w1.heap.size,1,none⟩=some (.string t.s):=by
    rw [hb2.cell (p:=⟨w1.heap.size,1,none⟩) (by simp),aj (aB w1 _)];rfl
   replace hD:=hD.below hb2
   obtain ⟨_,_,c0,c1,_,_,f1,_,_⟩:=hD.1.cells
   have hne:w1.heap.size≠K.b:=by have:=h.lt;have:=hb.size;omega
   go_wp2_with fail
   go_ret
   rw [HE.out]
   exact ⟨rfl,hD.step⟩
open Go.RowKit
open aH
def tmV (t:Tm):Value:= .agg #[.int .i64 t.ty, .string t.s, .int .i64 t.n]
theorem YM {w:World}{g:Nat}{x0 x1 x2:Value}{T:TypeId}(h:w.heap[g]? =some (.cells #[x0,x1,x2] T (0,0))) (v0 v1 v2:Value):
 (((w.setCell ⟨g,0,none⟩ v0).setCell ⟨g,1,none⟩ v1).setCell ⟨g,2,none⟩ v2).heap[g]? =some (.cells #[v0,v1,v2] T (0,0)):=by
 have:=bU (bU (bU h 0 v0) 1 v1) 2 v2
 rw [this]
 simp
theorem Wy {K:PK}{w w1:World}{σ:Ps}{k:Nat}{x0 x1 x2:Value}{T:TypeId}(h1:w1.heap[k]? =some (.cells #[x0,x1,x2] T (0,0))) (hD:Did K w σ w1) (hk:w.heap.size≤k) (v0 v1 v2:Value) (W:World)
 (hW:W=((w1.setCell ⟨k,0,none⟩ v0).setCell ⟨k,1,none⟩ v1).setCell ⟨k,2,none⟩ v2):
 W.cell? ⟨k,0,none⟩=some v0∧W.cell? ⟨k,1,none⟩=some v1∧W.cell? ⟨k,2,none⟩=some v2∧Did K w σ W:=by
 subst hW
 have hp:=YM h1 v0 v1 v2
 exact ⟨by rw [aj hp];rfl,by rw [aj hp];rfl,by rw [aj hp];rfl,((hD.own hk _ _).own hk _ _).own hk _ _⟩
theorem MG {w:World}{g:Nat}{x0 x1 x2:Value}{T:TypeId}(h:w.heap[g]? =some (.cells #[x0,x1,x2] T (0,0))):
 w.cell? ⟨g,0,none⟩=some x0∧w.cell? ⟨g,1,none⟩=some x1∧w.cell? ⟨g,2,none⟩=some x2∧w.frozen? ⟨g,0,none⟩=false∧w.frozen? ⟨g,1,none⟩=false∧w.frozen? ⟨g,2,none⟩=false:=
 ⟨by rw [aj h];rfl,by rw [aj h];rfl,by rw [aj h];rfl,ah h 0,ah h 1,ah h 2⟩
theorem PS {K:PK}{w:World}{σ:Ps}(h:PQ K w σ) (k:Int) {t:Tk}(hx:K.X.next σ k=some t):
 Calls Tryz.prog 133 #[.pointer (some ⟨K.b,0,none⟩), .int .i64 k] w fun e w' =>e= .returned (.tuple #[.agg #[.int .i64 t.kind, .string t.s, .int .i64 t.n, .int .i64 t.at_], .bool true])∧Below w.heap.size w w' :=
 Er h k t true (by rw [hx];rfl) (by rw [hx];rfl)
theorem PU {K:PK}{w:World}{σ:Ps}(h:PQ K w σ) (k:Int) (hx:K.X.next σ k=none):
 Calls Tryz.prog 133 #[.pointer (some ⟨K.b,0,none⟩), .int .i64 k] w fun e w' =>e= .returned (.tuple #[.agg #[.int .i64 0, .string ⟨#[]⟩, .int .i64 0, .int .i64 0], .bool false])∧Below w.heap.size w w' :=
 Er h k tk0 false (by rw [hx];rfl) (by rw [hx];rfl)
theorem kG {w:World}{a:Addr}{v:Value}(h:w.cell? a=some v) (o:Obj):(w.alloc o).cell? a=some v:=
 (((Below.refl w.heap.size w).alloc (Nat.le_refl _) o).cell (eY h)).trans h
theorem xB {W:World}{tm:Array Value}{k:Nat}{v0 v1 v2:Value}(ht:tm[2]? =some (.pointer (some ⟨k,0,none⟩))) (r0:W.cell? ⟨k,0,none⟩=some v0) (r1:W.cell? ⟨k,1,none⟩=some v1) (r2:W.cell? ⟨k,2,none⟩=some v2):
 (results Tryz.f127 tm).run Tryz.prog W= .ok (.agg #[v0,v1,v2]) W:=by
 simp [results,Tryz.results127,go_sem,ht,r0,r1,r2]
theorem MH {K:PK}{w:World}{σ:Ps}(h:PQ K w σ):
 Calls Tryz.prog 127 #[.pointer (some ⟨K.b,0,none⟩)] w (qP K w (tmV (K.X.value σ).1) (K.X.value σ).2):=by
 have hD:=(Did.refl h).alloc (.cells #[.int .i64 0, .string ⟨#[]⟩, .int .i64 0] 59)
 have hbl:=aB w (.cells #[.int .i64 0, .string ⟨#[]⟩, .int .i64 0] 59)
 have hne:w.heap.size≠K.b:=by have:=h.lt;omega
 have hT:=K.hT
 cases hx:K.X.next σ 3 with
 |some t=>
  obtain ⟨hlt,_⟩:=next_lt (X:=K.X) (σ:=σ) (k:=3) (by rw [hx];rfl)
  have hov:IntKind.i64.wrap ((σ.i:Int)+1)=(σ.i:Int)+1:=IntWalk.i64_in _ (by omega)
  have HE:Hid (K.X.value σ=(⟨1,t.s,0⟩,σ.step)):=by show _=_;unfold Tx.value;rw [hx]
  have n3:=PS hD.1 3 hx
  go_enter Tryz.func127,Tryz.ntmps127
  go_wp2_with fail
  refine n3.mono ?_;rintro e w1 ⟨rfl,hb⟩
  have Jj:=bf hbl hb (by simp)
  have qQ:=au Jj (.cells #[.int .i64 t.kind, .string t.s, .int .i64 t.n, .int .i64 t.at_] 119)
  replace hD:=hD.below hb
  have hs1:w.heap.size<w1.heap.size:=by have:=hb.size;simp at this;omega
  have hs2:=hD.1.lt
  have hne1:w1.heap.size≠K.b:=by omega
  have hne2:w1.heap.size≠w.heap.size:=by omega
  obtain ⟨_,_,c0,c1,_,_,f1,_,_⟩:=hD.1.cells
  obtain ⟨t0,t1,t2,u0,u1,u2⟩:=MG Jj
  go_wp2_with fail
  obtain ⟨r0,r1,r2,hD2⟩:=Wy (bN Jj _ _ (by show w.heap.size≠K.b;exact hne)) hD.step (Nat.le_refl _) (.int .i64 1) (.string t.s) (.int .i64 0) _ rfl
  refine bodyPost_ret (xB rfl (kG r0 _) (kG r1 _) (kG r2 _)) rfl ?_
  rw [HE.out]
  exact ⟨rfl,hD2.alloc _⟩
 |none=>
  have n3:=PU hD.1 3 hx
  cases hy:K.X.next σ 2 with
  |some t=>
   obtain ⟨hlt,_⟩:=next_lt (X:=K.X) (σ:=σ) (k:=2) (by rw [hy];rfl)
   have hov:IntKind.i64.wrap ((σ.i:Int)+1)=(σ.i:Int)+1:=IntWalk.i64_in _ (by omega)
   have HE:Hid (K.X.value σ=(⟨2,⟨#[]⟩,t.n⟩,σ.step)):=by show _=_;unfold Tx.value;rw [hx,hy]
   have n2:=fun w h=>PS (K:=K) (w:=w) (σ:=σ) h 2 hy
   go_enter Tryz.func127,Tryz.ntmps127
   go_wp2_with fail
   refine n3.mono ?_;rintro e w1 ⟨rfl,hb⟩
   have qQ:=au (bf hbl hb (by simp)) (.cells #[.int .i64 0, .string ⟨#[]⟩, .int .i64 0, .int .i64 0] 119)
   replace hD:=(hD.below hb).alloc (.cells #[.int .i64 0, .string ⟨#[]⟩, .int .i64 0, .int .i64 0] 119)
   have hs1:w.heap.size<w1.heap.size:=by have:=hb.size;simp at this;omega
   have nn:=n2 _ hD.1
   go_wp2_with fail
   refine nn.mono ?_;rintro e w3 ⟨rfl,hb3⟩
   have hs3:w1.heap.size<w3.heap.size:=by have:=hb3.size;simp at this;omega
   have Jj:=bf qQ hb3 (by simp;omega)
   replace qQ:=au Jj (.cells #[.int .i64 t.kind, .string t.s, .int .i64 t.n, .int .i64 t.at_] 119)
   replace hD:=hD.below hb3
   have hs2:=hD.1.lt
   have hs4:w.heap.size<w3.heap.size:=by omega
   have hne1:w3.heap.size≠K.b:=by omega
   have hne2:w3.heap.size≠w.heap.size:=by omega
   obtain ⟨_,_,c0,c1,_,_,f1,_,_⟩:=hD.1.cells
   obtain ⟨t0,t1,t2,u0,u1,u2⟩:=MG Jj
   go_wp2_with fail
   obtain ⟨r0,r1,r2,hD2⟩:=Wy (bN Jj _ _ (by show w.heap.size≠K.b;exact hne)) hD.step (Nat.le_refl _) (.int .i64 2) (.string ⟨#[]⟩) (.int .i64 t.n) _ rfl
   refine bodyPost_ret (xB rfl (kG r0 _) (kG r1 _) (kG r2 _)) rfl ?_
   rw [HE.out]
   exact ⟨rfl,hD2.alloc _⟩
  |none=>
   have HE:Hid (K.X.value σ=(Tm.zero,K.X.fail σ)):=by show _=_;unfold Tx.value;rw [hx,hy]
   have n2:=fun w h=>PU (K:=K) (w:=w) (σ:=σ) h 2 hy
   go_enter Tryz.func127,Tryz.ntmps127
   go_wp2_with fail
   refine n3.mono ?_;rintro e w1 ⟨rfl,hb⟩
   have qQ:=au (bf hbl hb (by simp)) (.cells #[.int .i64 0, .string ⟨#[]⟩, .int .i64 0, .int .i64 0] 119)
   replace hD:=(hD.below hb).alloc (.cells #[.int .i64 0, .string ⟨#[]⟩, .int .i64 0, .int .i64 0] 119)
   have hs1:w.heap.size<w1.heap.size:=by have:=hb.size;simp at this;omega
   have nn:=n2 _ hD.1
   go_wp2_with fail
   refine nn.mono ?_;rintro e w3 ⟨rfl,hb3⟩
   replace qQ:=au (bf qQ hb3 (by simp;omega)) (.cells #[.int .i64 0, .string ⟨#[]⟩, .int .i64 0, .int .i64 0] 119)
   replace hD:=(hD.below hb3).alloc (.cells #[.int .i64 0, .string ⟨#[]⟩, .int .i64 0, .int .i64 0] 119)
   have ha:=iB hD.1
   go_wp2_with fail
   refine ha.mono ?_;rintro e w4 ⟨rfl,m,rfl⟩
   have hd2:=hD.drewN m
   have hw:=gB hd2.1 (K.X.here σ)
   go_wp2_with fail
   refine hw.mono ?_;rintro e w5 ⟨rfl,hd3⟩
   have TJ:=hd3.blk qQ h.le
   replace hD:=hd2.trans hd3
   obtain ⟨t0,t1,t2,u0,u1,u2⟩:=MG TJ
   go_wp2_with fail
   obtain ⟨r0,r1,r2,hD2⟩:=Wy TJ hD (Nat.le_refl _) (.int .i64 0) (.string ⟨#[]⟩) (.int .i64 0) _ rfl
   refine bodyPost_ret (xB rfl r0 r1 r2) rfl ?_
   rw [HE.out]
   exact ⟨rfl,hD2⟩
theorem vG {K:PK}{w:World}{σ:Ps}(h:PQ K w σ) {t:Tm}{σ' :Ps}(hv:K.X.value σ=(t,σ')):
 Calls Tryz.prog 127 #[.pointer (some ⟨K.b,0,none⟩)] w (qP K w (.agg #[.int .i64 t.ty, .string t.s, .int .i64 t.n]) σ'):=by
 have:=MH h;rw [hv]at this;exact this
theorem kH {K:PK}{w:World}{σ:Ps}(h:PQ K w σ):
 Calls Tryz.prog 132 #[.pointer (some ⟨K.b,0,none⟩)] w (qP K w (.int .i64 (K.X.count σ).1) (K.X.count σ).2):=by
 have hD:=Did.refl h
 have ha:=iB h
 obtain ⟨⟨t,σ'⟩,hv⟩:∃r,K.X.value σ=r:=⟨_,rfl⟩
 have hval:=fun w h=>vG (K:=K) (w:=w) h hv
 have HE:Hid (K.X.count σ=(t.n,if t.ty≠2∨t.n<1∨1099511627776<t.n then σ'.wrong (K.X.here σ)else σ')):=by show _=_;unfold Tx.count;rw [hv]
 generalize K.X.here σ=PV at *
 by_cases hbad:t.ty≠2∨t.n<1∨1099511627776<t.n
 · have hq:((t.ty !=2)=true)∨((t.ty !=2)=false∧t.n<1)∨((t.ty !=2)=false∧¬t.n<1∧1099511627776<t.n):=by
    by_cases h1:t.ty=2
    · have h2:(t.ty !=2)=false:=by rw [h1];rfl
      rcases hbad with h|h|h
      · exact absurd h1 h
      · exact .inr (.inl ⟨h2,h⟩)
      · exact .inr (.inr ⟨h2,by omega,h⟩)
    · exact .inl (bne_iff_ne.2 h1)
   have HE2:Hid (K.X.count σ=(t.n,σ'.wrong PV)):=by show _=_;rw [HE.out,if_pos hbad]
   clear hbad HE
   rcases hq with q1|⟨q1,q2⟩|⟨q1,q2,q3⟩
   all_goals
    go_enter Tryz.func132,Tryz.ntmps132
    go_wp2_with fail
    refine ha.mono ?_;rintro e w1 ⟨rfl,m,rfl⟩
    replace hD:=hD.drewN m
    have hv2:=hval _ hD.1
    go_wp2_with fail
    refine hv2.mono ?_;rintro e w2 ⟨rfl,hd2⟩
    replace hD:=(hD.trans hd2).alloc (.cells #[.int .i64 t.ty, .string t.s, .int .i64 t.n] 59)
    have hbl:=aB w2 (.cells #[.int .i64 t.ty, .string t.s, .int .i64 t.n] 59)
    have hw:=gB hD.1 PV
    go_wp2_with fail
    refine hw.mono ?_;rintro e w3 ⟨rfl,hd3⟩
    obtain ⟨t0,t1,t2,_,_,_⟩:=MG (hd3.blk hbl hd2.1.le)
    go_wp2_with fail
    go_ret
    rw [HE2.out]
    exact ⟨rfl,hD.trans hd3⟩
 · have q1:(t.ty !=2)=false:=by have:t.ty=2:=by omega
                                rw [this];rfl
   have q2:¬t.n<1:=by omega
   have q3:¬1099511627776<t.n:=by omega
   have HE2:Hid (K.X.count σ=(t.n,σ')):=by show _=_;rw [HE.out,if_neg hbad]
   clear hbad HE
   go_enter Tryz.func132,Tryz.ntmps132
   go_wp2_with fail
   refine ha.mono ?_;rintro e w1 ⟨rfl,m,rfl⟩
   replace hD:=hD.drewN m
   have hv2:=hval _ hD.1
   go_wp2_with fail
   refine hv2.mono ?_;rintro e w2 ⟨rfl,hd2⟩
   replace hD:=(hD.trans hd2).alloc (.cells #[.int .i64 t.ty, .string t.s, .int .i64 t.n] 59)
   go_wp2_with fail
   go_ret
   rw [HE2.out]
   exact ⟨rfl,hD⟩
open Go.RowKit
open aH
theorem Tryz.vH:O5 Tryz.prog 27 9 (.string ⟨#[]⟩) 1 16:=xA Tryz.underlying27 (by kernel_rfl) rfl (by decide)
def Else (K:PK) (w w' :World) (v v' :Value):Prop:=(∀k o,K.L≤k→v.ownBlock≠some k→w.heap[k]? =some o→w'.heap[k]? =some o)∧(∀g,v'.ownBlock=some g→v.ownBlock=some g∨w.heap.size≤g)
section
variable {K:PK}{w0 w w1 w' :World}{σ σ' :Ps}{v v' u:Value}
theorem Did.grown (h:Did K w0 σ w) {r:Option Nat}(hg:w.grownBy w' r) (hr:∀g,r=some g→w0.heap.size≤g):Did K w0 σ w' :=by
 have hK:=h.2.2
 have hL:=K.hL
 have hs:=h.2.1.size
 have hw:=K.hb
 refine ⟨h.1.keep hg.size (fun k hk=>hg.block k (by have:=h.1.le;omega) (fun e=>by have:=hr k e.symm;omega)) (h.1.2.1.trans ⟨hg.os,hg.tape,hg.output,hg.size,fun i hi=>hg.block i (by have:=h.1.lt;omega) (fun e=>by have:=hr i e.symm;omega)⟩), ?_,hK⟩
 exact ⟨hg.os.trans h.2.1.os,hg.tape.trans h.2.1.tape,hg.output.trans h.2.1.output,Nat.le_trans hs hg.size,fun i hi hne=>(hg.block i (by omega) (fun e=>by have:=hr i e.symm;omega)).trans (h.2.1.block i hi hne)⟩
theorem Else.of (hd:Did K w σ w1) (hg:w1.grownBy w' v.ownBlock) (hn:PL w1 v v'):Else K w w' v v' :=
 ⟨fun k o hk hv hb=>by
  have:=hd.blk hb hk
  rw [hg.block k (aC this) (fun e=>hv e.symm)];exact this,
  fun g hv=>(hn g hv).imp_right (fun h=>Nat.le_trans hd.2.1.size h)⟩
theorem Else.row (h:Else K w w' v v') (ha:Apart v u) {base:Nat}{e:TypeId}{size n:Nat}{xs:List Value}(hu:w.ownsRow base e size u n xs) (hb:K.L≤base):w'.ownsRow base e size u n xs:=by
 obtain ⟨h1,h2⟩:=hu
 refine ⟨h1, ?_⟩
 rcases h2 with h2|⟨g,cap,cur,a,b,c,d⟩
 · exact .inl h2
 · refine .inr ⟨g,cap,cur,a,b,h.1 g _ (by omega) (fun e=>ha g e (by rw [a];rfl)) c,d⟩
theorem Else.apart (h:Else K w w' v v') (ha:Apart v u) {base:Nat}{e:TypeId}{size n:Nat}{xs:List Value}(hu:w.ownsRow base e size u n xs):Apart v' u:=by
 intro g hv hg
 rcases h.2 g hv with h1|h1
 · exact ha g h1 hg
 · have:=(hu.lt g hg).2;omega
end
theorem pE {w:World}{base:Nat}{v:Value}{l:List ByteArray}(hown:w.ownsRow base 9 1 v l.length (l.map Value.string)) (hl:l.length≤100000) (x:ByteArray):
 Calls Tryz.prog 164 #[v, .string x] w fun e w' =>e= .returned (.bool (qI x l))∧w' =w:=by
 obtain ⟨a,cap,rfl,hr⟩:=aY hown
 by_cases h0:0<l.length
 · obtain ⟨g,rfl,_,_,hc⟩:=hr h0
   have:=Tryz.slices_Contains_string g 0 l.length cap l x w (Nat.le_refl _) (by omega) (fun j hj=>by
    rw [Nat.zero_add,List.getD_eq_getElem?_getD,List.getElem?_eq_getElem hj]
    exact hc j _ (by rw [List.getElem?_map,List.getElem?_eq_getElem hj];rfl))
   rw [List.take_length,nL]at this
   exact this
 · have hl0:l= []:=List.eq_nil_of_length_eq_zero (by omega)
   subst hl0
   exact Tryz.slices_Contains_string_empty a cap x w
theorem pF {K:PK}{w0 w:World}{σ:Ps}(hD:Did K w0 σ w) (base:Nat) (hb0:w0.heap.size≤base) (hb1:base≤w.heap.size) (v:Value) (l:List ByteArray) (most:Nat) (hown:w.ownsRow base 9 1 v l.length (l.map Value.string)) (hl:l.length≤100000) (_hm:most≤100):
 Calls Tryz.prog 129 #[.pointer (some ⟨K.b,0,none⟩),v, .int .i64 most] w fun e w' =>
  ∃a' c',e= .returned (.slice a' (l.length+1) c')∧Did K w0 (K.X.column σ l most).2 w' ∧w'.ownsRow base 9 1 (.slice a' (l.length+1) c') (l.length+1) ((K.X.column σ l most).1.map Value.string)∧Else K w w' v (.slice a' (l.length+1) c'):=by
 have ha:=iB hD.1
 have HE:Hid (∀σ1 x σ2 (b:Bool),(if most≤l.length then σ.wrong (K.X.here σ)else σ)=σ1→K.X.name σ1=(x,σ2)→qI x l=b→K.X.column σ l most=(l++ [x],if b then σ2.wrong (K.X.here σ)else σ2)):=by
  show∀σ1 x σ2 b,_
  intro σ1 x σ2 b h1 h2 h3
  unfold Tx.column
  simp only [h1,h2,h3]
 obtain ⟨a0,cap0,rfl,_⟩:=aY hown
 have hbK:K.L≤base:=Nat.le_trans hD.2.2 hb0
 obtain ⟨PV,YN⟩:∃x,K.X.here σ=x:=⟨_,rfl⟩
 rw [YN]at ha HE
 clear YN
 have hfin:Hid (∀(w3:World) (x:ByteArray) (σ3:Ps),Did K w σ3 w3→∀a' c' w',w'.ownsRow base 9 1 (.slice a' (l.length+1) c') (l.length+1) (l.map Value.string++ [.string x])→(w3.alloc (.cells #[.string x] 9)).grownBy w' (Value.slice a0 l.length cap0).ownBlock→PL (w3.alloc (.cells #[.string x] 9)) (.slice a0 l.length cap0) (.slice a' (l.length+1) c')→
  Did K w0 σ3 w' ∧Else K w w' (.slice a0 l.length cap0) (.slice a' (l.length+1) c')):=by
  show∀(w3:World) (x:ByteArray) (σ3:Ps),_
  intro w3 x σ3 hd a' c' w' _ hg hn
  have hd2:=hd.alloc (.cells #[.string x] 9)
  exact ⟨(hD.trans hd2).grown hg (fun g hg2=>Nat.le_trans hb0 (hown.lt g hg2).1),Else.of hd2 hg hn⟩
 have hD1:=Did.refl hD.1
 have HD0:Hid (K.L≤base):=hbK
 by_cases VL:most≤l.length
 · have q0:(most:Int)≤(l.length:Int):=by omega
   obtain ⟨⟨x,σ2⟩,hx⟩:∃r,K.X.name (σ.wrong PV)=r:=⟨_,rfl⟩
   cases hc:qI x l
   all_goals
    have HE2:=HE.out _ x σ2 _ (if_pos VL) hx hc
    go_enter Tryz.func129,Tryz.ntmps129
    go_wp2_with fail
    refine ha.mono ?_;rintro e w1 ⟨rfl,m,rfl⟩
    replace hD1:=hD1.drewN m
    have hw:=gB hD1.1 PV
    go_wp2_with fail
    refine hw.mono ?_;rintro e w2 ⟨rfl,hd2⟩
    replace hD1:=hD1.trans hd2
    have hnm:=eT hD1.1
    rw [hx]at hnm
    go_wp2_with fail
    refine hnm.mono ?_;rintro e w3 ⟨rfl,hd3⟩
    replace hD1:=hD1.trans hd3
    have hcon:=pE (hD1.row hown HD0.out) hl x
    rw [hc]at hcon
    go_wp2_with fail
    refine hcon.mono ?_;rintro e w4 ⟨rfl,rfl⟩
   · have hown3:=hD1.row hown HD0.out
     have hs3:=hD1.size
     have F:=hfin.out _ x _ hD1
     go_wp2_with (at_builtin;refine app1 Tryz.vH rfl _ _ rfl base _ _ _ rfl (hown3.alloc _) _ _ [.string x] rfl rfl (bn _ _ _) (by intro u hu;rw [List.mem_singleton.1 hu];rfl) (by omega) (by simp;omega) ?_;intro a' c' w5 h5 hg hn)
     go_ret
     rw [HE2]
     have F2:=F a' c' w5 h5 hg hn
     exact ⟨a',c',rfl,F2.1,by rw [List.map_append];exact h5,F2.2⟩
   · have hw2:=gB hD1.1 PV
     go_wp2_with fail
     refine hw2.mono ?_;rintro e w4 ⟨rfl,hd4⟩
     replace hD1:=hD1.trans hd4
     have hown3:=hD1.row hown HD0.out
     have hs3:=hD1.size
     have F:=hfin.out _ x _ hD1
     go_wp2_with (at_builtin;refine app1 Tryz.vH rfl _ _ rfl base _ _ _ rfl (hown3.alloc _) _ _ [.string x] rfl rfl (bn _ _ _) (by intro u hu;rw [List.mem_singleton.1 hu];rfl) (by omega) (by simp;omega) ?_;intro a' c' w5 h5 hg hn)
     go_ret
     rw [HE2]
     have F2:=F a' c' w5 h5 hg hn
     exact ⟨a',c',rfl,F2.1,by rw [List.map_append];exact h5,F2.2⟩
 · have q0:¬(most:Int)≤(l.length:Int):=by omega
   obtain ⟨⟨x,σ2⟩,hx⟩:∃r,K.X.name σ=r:=⟨_,rfl⟩
   cases hc:qI x l
   all_goals
    have HE2:=HE.out _ x σ2 _ (if_neg VL) hx hc
    go_enter Tryz.func129,Tryz.ntmps129
    go_wp2_with fail
    refine ha.mono ?_;rintro e w1 ⟨rfl,m,rfl⟩
    replace hD1:=hD1.drewN m
    have hnm:=eT hD1.1
    rw [hx]at hnm
    go_wp2_with fail
    refine hnm.mono ?_;rintro e w3 ⟨rfl,hd3⟩
    replace hD1:=hD1.trans hd3
    have hcon:=pE (hD1.row hown HD0.out) hl x
    rw [hc]at hcon
    go_wp2_with fail
    refine hcon.mono ?_;rintro e w4 ⟨rfl,rfl⟩
   · have hown3:=hD1.row hown HD0.out
     have hs3:=hD1.size
     have F:=hfin.out _ x _ hD1
     go_wp2_with (at_builtin;refine app1 Tryz.vH rfl _ _ rfl base _ _ _ rfl (hown3.alloc _) _ _ [.string x] rfl rfl (bn _ _ _) (by intro u hu;rw [List.mem_singleton.1 hu];rfl) (by omega) (by simp;omega) ?_;intro a' c' w5 h5 hg hn)
     go_ret
     rw [HE2]
     have F2:=F a' c' w5 h5 hg hn
     exact ⟨a',c',rfl,F2.1,by rw [List.map_append];exact h5,F2.2⟩
   · have hw2:=gB hD1.1 PV
     go_wp2_with fail
     refine hw2.mono ?_;rintro e w4 ⟨rfl,hd4⟩
     replace hD1:=hD1.trans hd4
     have hown3:=hD1.row hown HD0.out
     have hs3:=hD1.size
     have F:=hfin.out _ x _ hD1
     go_wp2_with (at_builtin;refine app1 Tryz.vH rfl _ _ rfl base _ _ _ rfl (hown3.alloc _) _ _ [.string x] rfl rfl (bn _ _ _) (by intro u hu;rw [List.mem_singleton.1 hu];rfl) (by omega) (by simp;omega) ?_;intro a' c' w5 h5 hg hn)
     go_ret
     rw [HE2]
     have F2:=F a' c' w5 h5 hg hn
     exact ⟨a',c',rfl,F2.1,by rw [List.map_append];exact h5,F2.2⟩
open Go.RowKit
open aH
theorem mZ (σ:Ps) (a:Nat):(σ.wrong a).i=σ.i:=by unfold Ps.wrong;split<;>rfl
theorem Wz (X:Tx) (σ:Ps):σ.i≤(X.name σ).2.i:=by
 unfold Tx.name
 split
 · split
   · show σ.i≤(σ.wrong _).i;rw [mZ];exact Nat.le_refl _
   · show σ.i≤σ.i+1;omega
 · show σ.i≤(σ.wrong _).i;rw [mZ];exact Nat.le_refl _
theorem Ah (X:Tx) (σ:Ps) (l:List ByteArray) (most:Nat):σ.i≤(X.column σ l most).2.i:=by
 unfold Tx.column
 have h1:∀(b:Bool) (τ:Ps) (a:Nat),(if b=true then τ.wrong a else τ).i=τ.i:=by intro b τ a;cases b<;>simp [mZ]
 simp only [h1]
 refine Nat.le_trans (Nat.le_of_eq ?_) (Wz X _)
 split
 · rw [mZ]
 · rfl
theorem pG (X:Tx) (σ:Ps) (l:List ByteArray) (most:Nat):(X.column σ l most).1.length=l.length+1:=by
 unfold Tx.column;simp
def TK (K:PK) (w:World):Nat:=match w.cell? ⟨K.b,1,none⟩with|some (.int _ i)=>i.toNat|_=>0
theorem uj {K:PK}{w:World}{σ:Ps}(h:PQ K w σ):TK K w=σ.i:=by
 obtain ⟨_,_,_,c1,_⟩:=h.cells
 unfold TK;rw [c1];simp
theorem qR {K:PK}{w:World}{σ:Ps}(h:PQ K w σ) (most:Nat) (hm:most≤100):
 Calls Tryz.prog 126 #[.pointer (some ⟨K.b,0,none⟩), .int .i64 most] w fun e w' =>
  ∃a' c',e= .returned (.slice a' (K.X.columns σ most).1.length c')∧Did K w (K.X.columns σ most).2 w' ∧w'.ownsRow w.heap.size 9 1 (.slice a' (K.X.columns σ most).1.length c') (K.X.columns σ most).1.length ((K.X.columns σ most).1.map Value.string):=by
 have hT:=K.hT
 have hc0:=pF (Did.refl h) w.heap.size (Nat.le_refl _) (Nat.le_refl _) (.slice none 0 0) [] most (World.ownsRow_nil _ _ _ _) (by simp) hm
 have hi0:=Ah K.X σ [] most
 have hl0:=pG K.X σ [] most
 have HF:Hid (K.X.columns σ most=K.X.dA most K.X.T.length (K.X.column σ [] most).2 (K.X.column σ [] most).1):=rfl
 obtain ⟨⟨l0,WA⟩,hx⟩:∃r,K.X.column σ [] most=r:=⟨_,rfl⟩
 rw [hx]at hc0 hi0 hl0 HF
 replace hl0:l0.length=1:=hl0
 clear hx hi0
 obtain ⟨R,hR⟩:∃R,K.X.columns σ most=R:=⟨_,rfl⟩
 rw [hR]at HF⊢
 clear hR
 go_enter Tryz.func126,Tryz.ntmps126
 go_wp2_with fail
 refine hc0.mono ?_;rintro e w1 ⟨a1,c1,rfl,hD,hown,_⟩
 clear hc0
 go_wp2_with fail
 go_loopw [5] (fun v wr=>∃(l:List ByteArray) (a:Option Addr) (c:Nat) (σ2:Ps) (n:Nat),v= .slice a l.length c∧Did K w σ2 wr∧wr.ownsRow w.heap.size 9 1 (.slice a l.length c) l.length (l.map Value.string)∧Hid (R=K.X.dA most n σ2 l)∧K.X.T.length - σ2.i≤n∧l.length+n≤K.X.T.length+1) (fun _ wr=>K.X.T.length - TK K wr)
 case atStart=>
  refine ⟨l0,a1,c1,WA,K.X.T.length, ?_,hD, ?_,HF.out,by omega,by omega⟩
  · rw [hl0]
  · have:=hown;rw [hl0];exact this
 case round=>
  clear hD hown HF
  obtain ⟨l,a,c,σ2,n,rfl,hD,hown,HR,hn,hln⟩:=hrel
  have hmay:=aS hD.1 (⟨#[44]⟩:ByteArray)
  have YO:=uj hD.1
  have hsz:=hD.size
  cases hs:K.X.sees σ2 (⟨#[44]⟩:ByteArray)with
  |false=>
   unfold Tx.may at hmay
   rw [hs]at hmay
   have HR2:Hid (R=(l,σ2)):=by
    show _=_
    rw [HR.out]
    cases n with
    |zero=>rfl
    |succ n=>unfold Tx.dA;rw [hs];rfl
   go_wp2_with fail
   refine hmay.mono ?_;rintro e w2 ⟨rfl,hd2⟩
   go_wp2_with fail
   go_ret
   rw [HR2.out]
   exact ⟨a,c,rfl,hD.trans hd2,hd2.row hown hD.2.2⟩
  |true=>
   obtain ⟨hlt,_⟩:=vD hs
   unfold Tx.may at hmay
   rw [hs]at hmay
   obtain ⟨n,rfl⟩:∃m,n=m+1:=⟨n - 1,by omega⟩
   have hst:σ2.step.i=σ2.i+1:=rfl
   have hi:=Ah K.X σ2.step l most
   have hle:=pG K.X σ2.step l most
   have HR2:Hid (R=K.X.dA most n (K.X.column σ2.step l most).2 (K.X.column σ2.step l most).1):=by
    show _=_
    rw [HR.out,Tx.dA,hs];rfl
   go_wp2_with fail
   refine hmay.mono ?_;rintro e w2 ⟨rfl,hd2⟩
   have hD2:Did K w σ2.step w2:=hD.trans hd2
   have hc:=pF hD2 w.heap.size (Nat.le_refl _) hD2.size _ l most (hd2.row hown hD.2.2) (by omega) hm
   obtain ⟨⟨l3,σ3⟩,hx⟩:∃r,K.X.column σ2.step l most=r:=⟨_,rfl⟩
   rw [hx]at hc hi hle HR2
   replace hi:σ2.step.i≤σ3.i:=hi
   replace hle:l3.length=l.length+1:=hle
   clear hx HR hown hD
   go_wp2_with fail
   refine hc.mono ?_;rintro e w3 ⟨a3,c3,rfl,hD3,hown3,_⟩
   have aa0:=uj hD3.1
   go_wp2_with fail
   go_roundw
   case rel=>
    refine ⟨l3,a3,c3,σ3,n,by rw [hle],hD3, ?_,HR2.out,by omega,by omega⟩
    rw [hle];exact hown3
   case measure=>rw [YO,aa0];omega
theorem Ai {K:PK}{w:World}{σ:Ps}(h:PQ K w σ):
 Calls Tryz.prog 131 #[.pointer (some ⟨K.b,0,none⟩)] w fun e w' =>
  ∃a' c',e= .returned (.slice a' (K.X.some_ σ).1.length c')∧Did K w (K.X.some_ σ).2 w' ∧w'.ownsRow w.heap.size 9 1 (.slice a' (K.X.some_ σ).1.length c') (K.X.some_ σ).1.length ((K.X.some_ σ).1.map Value.string):=by
 have hmay:=aS h (⟨#[42]⟩:ByteArray)
 unfold Tx.may at hmay
 unfold Tx.some_
 cases hs:K.X.sees σ (⟨#[42]⟩:ByteArray)with
 |true=>
  rw [hs]at hmay
  go_enter Tryz.func131,Tryz.ntmps131
  go_wp2_with fail
  refine hmay.mono ?_;rintro e w2 ⟨rfl,hd2⟩
  go_wp2_with fail
  go_ret
  exact ⟨none,0,rfl,hd2,World.ownsRow_nil _ _ _ _⟩
 |false=>
  rw [hs]at hmay
  go_enter Tryz.func131,Tryz.ntmps131
  go_wp2_with fail
  refine hmay.mono ?_;rintro e w2 ⟨rfl,hd2⟩
  replace hd2:Did K w σ w2:=hd2
  have hc:=qR hd2.1 8 (by omega)
  go_wp2_with fail
  refine hc.mono ?_;rintro e w3 ⟨a3,c3,rfl,hd3,hown3⟩
  go_wp2_with fail
  go_ret
  exact ⟨a3,c3,rfl,hd2.trans hd3,bF hown3 hd2.size⟩
theorem TL {K:PK}{w:World}{σ:Ps}(h:PQ K w σ) {base:Nat}{v:Value}{l:List ByteArray}(hown:w.ownsRow base 9 1 v l.length (l.map Value.string)) (hb:K.L≤base) (hl:l.length≤100000) (but:ByteArray):
 Calls Tryz.prog 136 #[.pointer (some ⟨K.b,0,none⟩),v, .string but] w (qP K w (.string (K.X.one σ l but).1) (K.X.one σ l but).2):=by
 have hD:=Did.refl h
 have ha:=iB h
 obtain ⟨a0,cap0,rfl,_⟩:=aY hown
 obtain ⟨⟨x,σ2⟩,hx⟩:∃r,K.X.name σ=r:=⟨_,rfl⟩
 have HE:Hid (K.X.one σ l but=(x,if !qI x l||iW x but then σ2.wrong (K.X.here σ)else σ2)):=by show _=_;unfold Tx.one;simp only [hx]
 generalize K.X.here σ=PV at *
 have e1:=eO x but
 cases hc:qI x l<;>cases hq:iW x but
 all_goals
  rw [hc,hq]at HE
  rw [hq]at e1
  go_enter Tryz.func136,Tryz.ntmps136
  go_wp2_with fail
  refine ha.mono ?_;rintro e w1 ⟨rfl,m,rfl⟩
  replace hD:=hD.drewN m
  have hnm:=eT hD.1
  rw [hx]at hnm
  go_wp2_with fail
  refine hnm.mono ?_;rintro e w3 ⟨rfl,hd3⟩
  replace hD:=hD.trans hd3
  have hcon:=pE (hD.row hown hb) hl x
  rw [hc]at hcon
  go_wp2_with fail
  refine hcon.mono ?_;rintro e w4 ⟨rfl,rfl⟩
  have hw2:=gB hD.1 PV
  go_wp2_with fail
  first
   |(refine hw2.mono ?_;rintro e w5 ⟨rfl,hd5⟩
     go_wp2_with fail
     go_ret
     rw [HE.out]
     exact ⟨rfl,hD.trans hd5⟩)
   |(go_ret
     rw [HE.out]
     exact ⟨rfl,hD⟩)
theorem bV {K:PK}{w:World}{σ:Ps}(h:PQ K w σ) (s:ByteArray):
 Calls Tryz.prog 125 #[.pointer (some ⟨K.b,0,none⟩), .slice (some ⟨w.heap.size,0,none⟩) 1 1] (w.alloc (.cells #[.string s] 9)) (qP K w (.tuple #[]) (K.X.must σ [s])):=vE h [s] (by simp)
theorem F7 {K:PK}{w:World}{σ:Ps}(h:PQ K w σ) (s t:ByteArray):
 Calls Tryz.prog 125 #[.pointer (some ⟨K.b,0,none⟩), .slice (some ⟨w.heap.size,0,none⟩) 2 2] (w.alloc (.cells #[.string s, .string t] 9)) (qP K w (.tuple #[]) (K.X.must σ [s,t])):=vE h [s,t] (by simp)
theorem YP {K:PK}{w:World}{σ:Ps}(h:PQ K w σ) (s t u:ByteArray):
 Calls Tryz.prog 125 #[.pointer (some ⟨K.b,0,none⟩), .slice (some ⟨w.heap.size,0,none⟩) 3 3] (w.alloc (.cells #[.string s, .string t, .string u] 9)) (qP K w (.tuple #[]) (K.X.must σ [s,t,u])):=vE h [s,t,u] (by simp)
theorem YQ {K:PK}{w:World}{σ:Ps}(h:PQ K w σ) (s t u x y z:ByteArray):
 Calls Tryz.prog 125 #[.pointer (some ⟨K.b,0,none⟩), .slice (some ⟨w.heap.size,0,none⟩) 6 6] (w.alloc (.cells #[.string s, .string t, .string u, .string x, .string y, .string z] 9)) (qP K w (.tuple #[]) (K.X.must σ [s,t,u,x,y,z])):=vE h [s,t,u,x,y,z] (by simp)
theorem PW {K:PK}{w:World}{σ:Ps}(h:PQ K w σ):
 Calls Tryz.prog 135 #[.pointer (some ⟨K.b,0,none⟩)] w (qP K w (.int .i64 (K.X.kind σ).1) (K.X.kind σ).2):=by
 have hmay:=aS h (⟨#[116,101,120,116]⟩:ByteArray)
 unfold Tx.may at hmay
 unfold Tx.kind
 cases hs:K.X.sees σ (⟨#[116,101,120,116]⟩:ByteArray)with
 |true=>
  rw [hs]at hmay
  go_enter Tryz.func135,Tryz.ntmps135
  go_wp2_with fail
  refine hmay.mono ?_;rintro e w2 ⟨rfl,hd2⟩
  go_wp2_with fail
  go_ret
  exact ⟨rfl,hd2⟩
 |false=>
  rw [hs]at hmay
  go_enter Tryz.func135,Tryz.ntmps135
  go_wp2_with fail
  refine hmay.mono ?_;rintro e w2 ⟨rfl,hd2⟩
  replace hd2:Did K w σ w2:=hd2
  go_wp2_with fail
  refine (bV hd2.1 _).mono ?_;rintro e w3 ⟨rfl,hd3⟩
  go_wp2_with fail
  go_ret
  exact ⟨rfl,hd2.trans hd3⟩
open Go.RowKit
open aH
def jX (p:Pr):List Value:= [.string p.name, .int .i64 p.t.ty, .string p.t.s, .int .i64 p.t.n]
def bQ (l:List Pr):List Value:=l.flatMap jX
theorem Tryz.vI:O5 Tryz.prog 28 61 (.agg #[.string ⟨#[]⟩, .int .i64 0, .string ⟨#[]⟩, .int .i64 0]) 4 48:=xA Tryz.underlying28 (by kernel_rfl) rfl (by decide)
theorem aA (w:World) (o:Obj):(w.alloc o).heap.size=w.heap.size+1:=by simp
theorem ng (w:World) (L:List Value) (T:TypeId) (n size base:Nat) (hl:L.length=n*size) (hn:n≤maxLen) (hb:base≤w.heap.size):(w.alloc (.cells L.toArray T)).ownsRow base T size (.slice (some ⟨w.heap.size,0,none⟩) n n) n L:=by
 refine ⟨hl, .inr ⟨w.heap.size,n,L.toArray,rfl,hb,aB w _,Nat.le_refl _,hn,by simp [hl], ?_⟩⟩
 rw [←hl];simp
theorem YR {K:PK}{w w1:World}{σ:Ps}{k:Nat}{x0 x1 x2 x3:Value}{T:TypeId}(h1:w1.heap[k]? =some (.cells #[x0,x1,x2,x3] T (0,0))) (hD:Did K w σ w1) (hk:w.heap.size≤k) (v0 v1 v2 v3:Value) (W:World)
 (hW:W=(((w1.setCell ⟨k,0,none⟩ v0).setCell ⟨k,1,none⟩ v1).setCell ⟨k,2,none⟩ v2).setCell ⟨k,3,none⟩ v3):
 W.cell? ⟨k,0,none⟩=some v0∧W.cell? ⟨k,1,none⟩=some v1∧W.cell? ⟨k,2,none⟩=some v2∧W.cell? ⟨k,3,none⟩=some v3∧Did K w σ W:=by
 subst hW
 have hp:=Ms h1 v0 v1 v2 v3
 exact ⟨by rw [aj hp];rfl,by rw [aj hp];rfl,by rw [aj hp];rfl,by rw [aj hp];rfl,(((hD.own hk _ _).own hk _ _).own hk _ _).own hk _ _⟩
theorem fP {w:World}{g:Nat}{x0 x1 x2 x3:Value}{T:TypeId}(h:w.heap[g]? =some (.cells #[x0,x1,x2,x3] T (0,0))):
 w.cell? ⟨g,0,none⟩=some x0∧w.cell? ⟨g,1,none⟩=some x1∧w.cell? ⟨g,2,none⟩=some x2∧w.cell? ⟨g,3,none⟩=some x3∧w.frozen? ⟨g,0,none⟩=false∧w.frozen? ⟨g,1,none⟩=false∧w.frozen? ⟨g,2,none⟩=false∧w.frozen? ⟨g,3,none⟩=false:=
 ⟨by rw [aj h];rfl,by rw [aj h];rfl,by rw [aj h];rfl,by rw [aj h];rfl,ah h 0,ah h 1,ah h 2,ah h 3⟩
theorem MI {W:World}{tm:Array Value}{k:Nat}{v0 v1 v2 v3:Value}(ht:tm[2]? =some (.pointer (some ⟨k,0,none⟩))) (r0:W.cell? ⟨k,0,none⟩=some v0) (r1:W.cell? ⟨k,1,none⟩=some v1) (r2:W.cell? ⟨k,2,none⟩=some v2) (r3:W.cell? ⟨k,3,none⟩=some v3):
 (results Tryz.f165 tm).run Tryz.prog W= .ok (.agg #[v0,v1,v2,v3]) W:=by
 simp [results,Tryz.results165,go_sem,ht,r0,r1,r2,r3]
theorem MJ {K:PK}{w:World}{σ:Ps}(h:PQ K w σ):
 Calls Tryz.prog 165 #[.pointer (some ⟨K.b,0,none⟩)] w (qP K w (.agg (jX (K.X.equal σ).1).toArray) (K.X.equal σ).2):=by
 obtain ⟨⟨x,σ1⟩,hx⟩:∃r,K.X.name σ=r:=⟨_,rfl⟩
 obtain ⟨⟨t,σ3⟩,hv⟩:∃r,K.X.value (K.X.must σ1 [(⟨#[61]⟩:ByteArray)])=r:=⟨_,rfl⟩
 have HE:Hid (K.X.equal σ=(⟨x,t⟩,σ3)):=by show _=_;unfold Tx.equal;simp only [hx,hv]
 have hD0:=(Did.refl h).alloc (.cells #[.string ⟨#[]⟩, .int .i64 0, .string ⟨#[]⟩, .int .i64 0] 61)
 have hbl:=aB w (.cells #[.string ⟨#[]⟩, .int .i64 0, .string ⟨#[]⟩, .int .i64 0] 61)
 have hle:=h.le
 have hnm:=eT hD0.1
 rw [hx]at hnm
 go_enter Tryz.func165,Tryz.ntmps165
 go_wp2_with fail
 refine hnm.mono ?_;rintro e w1 ⟨rfl,hd1⟩
 have qQ:=hd1.blk hbl hle
 have hs1:=hd1.size
 simp only [aA]at hs1
 have hD1:=(hD0.trans hd1).alloc (.cells #[.string x, .int .i64 0, .string ⟨#[]⟩, .int .i64 0] 61)
 have aa1:=aB w1 (.cells #[.string x, .int .i64 0, .string ⟨#[]⟩, .int .i64 0] 61)
 have aa2:=au qQ (.cells #[.string x, .int .i64 0, .string ⟨#[]⟩, .int .i64 0] 61)
 have hm:=bV hD1.1 (⟨#[61]⟩:ByteArray)
 simp only [aA]at hm
 go_wp2_with fail
 refine hm.mono ?_;rintro e w2 ⟨rfl,hd2⟩
 have aa3:=hd2.blk aa1 (by omega)
 have aa4:=hd2.blk aa2 hle
 have hs2:=hd2.size
 simp only [aA]at hs2
 have hD2:=hD1.trans hd2
 have hval:=vG hD2.1 hv
 go_wp2_with fail
 refine hval.mono ?_;rintro e w3 ⟨rfl,hd3⟩
 have aa5:=hd3.blk aa3 (by omega)
 have YS:=hd3.blk aa4 hle
 have hD3:=hD2.trans hd3
 have hne:w.heap.size≠w1.heap.size:=by omega
 obtain ⟨t0,t1,t2,t3,u0,u1,u2,u3⟩:=fP aa5
 obtain ⟨y0,y1,y2,y3,z0,z1,z2,z3⟩:=fP YS
 go_wp2_with fail
 have hD4:=((hD3.own (k:=w1.heap.size) (by omega) 1 (.int .i64 t.ty)).own (k:=w1.heap.size) (by omega) 2 (.string t.s)).own (k:=w1.heap.size) (by omega) 3 (.int .i64 t.n)
 have aa6:=bN (bN (bN YS ⟨w1.heap.size,1,none⟩ (.int .i64 t.ty) hne) ⟨w1.heap.size,2,none⟩ (.string t.s) hne) ⟨w1.heap.size,3,none⟩ (.int .i64 t.n) hne
 obtain ⟨r0,r1,r2,r3,hD5⟩:=YR aa6 hD4 (Nat.le_refl _) (.string x) (.int .i64 t.ty) (.string t.s) (.int .i64 t.n) _ rfl
 refine bodyPost_ret (MI rfl r0 r1 r2 r3) rfl ?_
 rw [HE.out]
 exact ⟨rfl,hD5⟩
theorem vJ {K:PK}{w:World}{σ:Ps}(h:PQ K w σ) {p:Pr}{σ' :Ps}(hv:K.X.equal σ=(p,σ')):
 Calls Tryz.prog 165 #[.pointer (some ⟨K.b,0,none⟩)] w (qP K w (.agg #[.string p.name, .int .i64 p.t.ty, .string p.t.s, .int .i64 p.t.n]) σ'):=by
 have:=MJ h;rw [hv]at this;exact this
theorem nZ {K:PK}{w:World}{σ:Ps}(h:PQ K w σ) (both:Bool):
 Calls Tryz.prog 130 #[.pointer (some ⟨K.b,0,none⟩), .bool both] w fun e w' =>
  ∃a' c',e= .returned (.slice a' (K.X.aP σ both).1.length c')∧Did K w (K.X.aP σ both).2 w' ∧w'.ownsRow w.heap.size 61 4 (.slice a' (K.X.aP σ both).1.length c') (K.X.aP σ both).1.length (bQ (K.X.aP σ both).1):=by
 have hm0:=bV h (⟨#[119,104,101,114,101]⟩:ByteArray)
 obtain ⟨σ1,hs1⟩:∃x,K.X.must σ [(⟨#[119,104,101,114,101]⟩:ByteArray)]=x:=⟨_,rfl⟩
 obtain ⟨⟨p,σ2⟩,hp⟩:∃r,K.X.equal σ1=r:=⟨_,rfl⟩
 have hle:=h.le
 rw [hs1]at hm0
 cases both with
 |true=>
  obtain ⟨⟨q,σ3⟩,hq⟩:∃r,K.X.equal (K.X.must σ2 [(⟨#[97,110,100]⟩:ByteArray)])=r:=⟨_,rfl⟩
  have HE:Hid (K.X.aP σ true=([p,q],σ3)):=by show _=_;unfold Tx.aP;simp only [hs1,hp,hq,if_true]
  go_enter Tryz.func130,Tryz.ntmps130
  go_wp2_with fail
  refine hm0.mono ?_;rintro e w1 ⟨rfl,hd1⟩
  have he:=vJ hd1.1 hp
  go_wp2_with fail
  refine he.mono ?_;rintro e w2 ⟨rfl,hd2⟩
  have hD2:=(hd1.trans hd2).alloc (.cells #[.string p.name, .int .i64 p.t.ty, .string p.t.s, .int .i64 p.t.n] 61)
  have hr2:=ng w2 [.string p.name, .int .i64 p.t.ty, .string p.t.s, .int .i64 p.t.n] 61 1 4 w.heap.size rfl (by decide) (hd1.trans hd2).size
  have hm:=bV hD2.1 (⟨#[97,110,100]⟩:ByteArray)
  simp only [aA]at hm
  go_wp2_with fail
  refine hm.mono ?_;rintro e w3 ⟨rfl,hd3⟩
  have hr3:=hd3.row hr2 hle
  have hD3:=hD2.trans hd3
  have he2:=vJ hD3.1 hq
  go_wp2_with fail
  refine he2.mono ?_;rintro e w4 ⟨rfl,hd4⟩
  have hr4:=hd4.row hr3 hle
  have hD4:=hD3.trans hd4
  have hs4:=hD4.size
  go_wp2_with (at_builtin;refine app1 Tryz.vI rfl _ _ rfl w.heap.size _ _ _ rfl (hr4.alloc _) _ _ [.string q.name, .int .i64 q.t.ty, .string q.t.s, .int .i64 q.t.n] rfl rfl (bn _ _ _) (by intro u hu;simp at hu;rcases hu with rfl|rfl|rfl|rfl<;>rfl) (by omega) (by simp;omega) ?_;intro a' c' w5 h5 hg hn)
  go_ret
  rw [HE.out]
  exact ⟨a',c',rfl,(hD4.alloc _).grown hg (fun g hg2=>(hr4.lt g hg2).1),h5⟩
 |false=>
  cases hs:K.X.sees σ2 (⟨#[97,110,100]⟩:ByteArray)with
  |true=>
   obtain ⟨⟨q,σ3⟩,hq⟩:∃r,K.X.equal σ2.step=r:=⟨_,rfl⟩
   have HE:Hid (K.X.aP σ false=([p,q],σ3)):=by show _=_;unfold Tx.aP;simp only [hs1,hp,hs,hq,if_true,if_neg (show¬(false=true)by decide)]
   go_enter Tryz.func130,Tryz.ntmps130
   go_wp2_with fail
   refine hm0.mono ?_;rintro e w1 ⟨rfl,hd1⟩
   have he:=vJ hd1.1 hp
   go_wp2_with fail
   refine he.mono ?_;rintro e w2 ⟨rfl,hd2⟩
   have hD2:=(hd1.trans hd2).alloc (.cells #[.string p.name, .int .i64 p.t.ty, .string p.t.s, .int .i64 p.t.n] 61)
   have hr2:=ng w2 [.string p.name, .int .i64 p.t.ty, .string p.t.s, .int .i64 p.t.n] 61 1 4 w.heap.size rfl (by decide) (hd1.trans hd2).size
   have hm:=aS hD2.1 (⟨#[97,110,100]⟩:ByteArray)
   unfold Tx.may at hm
   rw [hs]at hm
   go_wp2_with fail
   refine hm.mono ?_;rintro e w3 ⟨rfl,hd3⟩
   have hr3:=hd3.row hr2 hle
   have hD3:Did K w σ2.step w3:=hD2.trans hd3
   have he2:=vJ hD3.1 hq
   go_wp2_with fail
   refine he2.mono ?_;rintro e w4 ⟨rfl,hd4⟩
   have hr4:=hd4.row hr3 hle
   have hD4:=hD3.trans hd4
   have hs4:=hD4.size
   go_wp2_with (at_builtin;refine app1 Tryz.vI rfl _ _ rfl w.heap.size _ _ _ rfl (hr4.alloc _) _ _ [.string q.name, .int .i64 q.t.ty, .string q.t.s, .int .i64 q.t.n] rfl rfl (bn _ _ _) (by intro u hu;simp at hu;rcases hu with rfl|rfl|rfl|rfl<;>rfl) (by omega) (by simp;omega) ?_;intro a' c' w5 h5 hg hn)
   go_ret
   rw [HE.out]
   exact ⟨a',c',rfl,(hD4.alloc _).grown hg (fun g hg2=>(hr4.lt g hg2).1),h5⟩
  |false=>
   have HE:Hid (K.X.aP σ false=([p],σ2)):=by show _=_;unfold Tx.aP;simp only [hs1,hp,hs,if_neg (show¬(false=true)by decide)]
   go_enter Tryz.func130,Tryz.ntmps130
   go_wp2_with fail
   refine hm0.mono ?_;rintro e w1 ⟨rfl,hd1⟩
   have he:=vJ hd1.1 hp
   go_wp2_with fail
   refine he.mono ?_;rintro e w2 ⟨rfl,hd2⟩
   have hD2:=(hd1.trans hd2).alloc (.cells #[.string p.name, .int .i64 p.t.ty, .string p.t.s, .int .i64 p.t.n] 61)
   have hr2:=ng w2 [.string p.name, .int .i64 p.t.ty, .string p.t.s, .int .i64 p.t.n] 61 1 4 w.heap.size rfl (by decide) (hd1.trans hd2).size
   have hm:=aS hD2.1 (⟨#[97,110,100]⟩:ByteArray)
   unfold Tx.may at hm
   rw [hs]at hm
   go_wp2_with fail
   refine hm.mono ?_;rintro e w3 ⟨rfl,hd3⟩
   have hr3:=hd3.row hr2 hle
   have hD3:Did K w σ2 w3:=hD2.trans hd3
   go_wp2_with fail
   go_ret
   rw [HE.out]
   exact ⟨_,_,rfl,hD3,hr3⟩
end Go.Proofs.YtfbgdjcnlnfoaaaGreatDoor
