/- Parts of the proof, joined: PrsH PrsS PrsI PrsJ PrsK. -/
import Derived.Deep.WholeRow
import Derived.Deep.MidRow
import Derived.Deep.AppendLies
import Derived.Deep.RegionLaw
import Derived.Test.YtfbgdjcnlnfoaaaGreatDoorB03
set_option maxHeartbeats 4000000
set_option maxRecDepth 100000
namespace Go.Proofs.YtfbgdjcnlnfoaaaGreatDoor
open Go.RowKit
open aH
abbrev aF (x:Sx) (tc c s wv pv:Value):Array Value:= #[.int .i64 x.kind, .string x.name, .string x.bM, .string x.on, .string x.aW, .int .i64 x.tid, .string x.part.name, .int .i64 x.part.ty, .string x.aI.name, .int .i64 x.aI.ty,tc,c,s,wv, .int .i64 x.stamp, .int .i64 x.ttl, .int .i64 x.limit,pv]
abbrev ak:Value:= .slice none 0 0
def kU (c:Cl):List Value:= [.string c.name, .int .i64 c.ty]
def iM (l:List Cl):List Value:=l.flatMap kU
def gN (w:World) (base:Nat) (x:Sx) (tc c s wv:Value):Prop:=
 w.ownsRow base 23 2 tc x.aN.length (iM x.aN)∧w.ownsRow base 9 1 c x.aO.length (x.aO.map Value.string)∧w.ownsRow base 61 4 s x.sets.length (bQ x.sets)∧w.ownsRow base 61 4 wv x.aP.length (bQ x.aP)
def fK (K:PK) (w:World) (T:TypeId) (x:Sx) (σ:Ps):Ending→World→Prop:=fun e w' =>
 ∃tc c s wv,e= .returned (.iface T (.agg (aF x tc c s wv ak)))∧Did K w σ w' ∧gN w' w.heap.size x tc c s wv
theorem lX (w:World) (base:Nat) (x:Sx) (h1:x.aN= []) (h2:x.aO= []) (h3:x.sets= []) (h4:x.aP= []):gN w base x ak ak ak ak:=by
 unfold gN
 rw [h1,h2,h3,h4]
 exact ⟨World.ownsRow_nil _ _ _ _,World.ownsRow_nil _ _ _ _,World.ownsRow_nil _ _ _ _,World.ownsRow_nil _ _ _ _⟩
section
variable {w:World}{b:Nat}{x:Sx}{tc c s wv pv:Value}{T:TypeId}
theorem aM (h:w.heap[b]? =some (.cells (aF x tc c s wv pv) T (0,0))):
 w.cell? ⟨b,0,none⟩=some (.int .i64 x.kind)∧w.cell? ⟨b,1,none⟩=some (.string x.name)∧w.cell? ⟨b,2,none⟩=some (.string x.bM)∧w.cell? ⟨b,3,none⟩=some (.string x.on)∧w.cell? ⟨b,4,none⟩=some (.string x.aW)∧w.cell? ⟨b,5,none⟩=some (.int .i64 x.tid)∧w.cell? ⟨b,6,none⟩=some (.string x.part.name)∧w.cell? ⟨b,7,none⟩=some (.int .i64 x.part.ty)∧w.cell? ⟨b,8,none⟩=some (.string x.aI.name)∧w.cell? ⟨b,9,none⟩=some (.int .i64 x.aI.ty)∧w.cell? ⟨b,10,none⟩=some (tc)∧w.cell? ⟨b,11,none⟩=some (c)∧w.cell? ⟨b,12,none⟩=some (s)∧w.cell? ⟨b,13,none⟩=some (wv)∧w.cell? ⟨b,14,none⟩=some (.int .i64 x.stamp)∧w.cell? ⟨b,15,none⟩=some (.int .i64 x.ttl)∧w.cell? ⟨b,16,none⟩=some (.int .i64 x.limit)∧w.cell? ⟨b,17,none⟩=some (pv):=
 ⟨by rw [aj h];rfl,by rw [aj h];rfl,by rw [aj h];rfl,by rw [aj h];rfl,by rw [aj h];rfl,by rw [aj h];rfl,by rw [aj h];rfl,by rw [aj h];rfl,by rw [aj h];rfl,by rw [aj h];rfl,by rw [aj h];rfl,by rw [aj h];rfl,by rw [aj h];rfl,by rw [aj h];rfl,by rw [aj h];rfl,by rw [aj h];rfl,by rw [aj h];rfl,by rw [aj h];rfl⟩
theorem xC (h:w.heap[b]? =some (.cells (aF x tc c s wv pv) T (0,0))) (v:ByteArray):(w.setCell ⟨b,2,none⟩ (.string v)).heap[b]? =some (.cells (aF {x with bM:=v} tc c s wv pv) T (0,0)):=by
 rw [bU h 2 _];rfl
theorem PX (h:w.heap[b]? =some (.cells (aF x tc c s wv pv) T (0,0))) (v:ByteArray):(w.setCell ⟨b,3,none⟩ (.string v)).heap[b]? =some (.cells (aF {x with on:=v} tc c s wv pv) T (0,0)):=by
 rw [bU h 3 _];rfl
theorem PY (h:w.heap[b]? =some (.cells (aF x tc c s wv pv) T (0,0))) (v:Value):(w.setCell ⟨b,10,none⟩ v).heap[b]? =some (.cells (aF x v c s wv pv) T (0,0)):=by
 rw [bU h 10 _];rfl
theorem F8 (h:w.heap[b]? =some (.cells (aF x tc c s wv pv) T (0,0))) (v:Value):(w.setCell ⟨b,11,none⟩ v).heap[b]? =some (.cells (aF x tc v s wv pv) T (0,0)):=by
 rw [bU h 11 _];rfl
theorem og (h:w.heap[b]? =some (.cells (aF x tc c s wv pv) T (0,0))) (v:Value):(w.setCell ⟨b,12,none⟩ v).heap[b]? =some (.cells (aF x tc c v wv pv) T (0,0)):=by
 rw [bU h 12 _];rfl
theorem oh (h:w.heap[b]? =some (.cells (aF x tc c s wv pv) T (0,0))) (v:Value):(w.setCell ⟨b,13,none⟩ v).heap[b]? =some (.cells (aF x tc c s v pv) T (0,0)):=by
 rw [bU h 13 _];rfl
theorem xD (h:w.heap[b]? =some (.cells (aF x tc c s wv pv) T (0,0))) (v:Int):(w.setCell ⟨b,14,none⟩ (.int .i64 v)).heap[b]? =some (.cells (aF {x with stamp:=v} tc c s wv pv) T (0,0)):=by
 rw [bU h 14 _];rfl
theorem K3 (h:w.heap[b]? =some (.cells (aF x tc c s wv pv) T (0,0))) (v:Int):(w.setCell ⟨b,15,none⟩ (.int .i64 v)).heap[b]? =some (.cells (aF {x with ttl:=v} tc c s wv pv) T (0,0)):=by
 rw [bU h 15 _];rfl
theorem MK (h:w.heap[b]? =some (.cells (aF x tc c s wv pv) T (0,0))) (v:Int):(w.setCell ⟨b,16,none⟩ (.int .i64 v)).heap[b]? =some (.cells (aF {x with limit:=v} tc c s wv pv) T (0,0)):=by
 rw [bU h 16 _];rfl
end
def Kept (K:PK) (w w' :World) (bx:Nat):Prop:=∀k o,K.L≤k→k≠bx→w.heap[k]? =some o→w'.heap[k]? =some o
section
variable {K:PK}{w0 w w1 w' :World}{σ σ' :Ps}{bx:Nat}
theorem Kept.refl:Kept K w w bx:=fun _ _ _ _ h=>h
theorem Kept.did (h:Kept K w w1 bx) (hd:Did K w1 σ w'):Kept K w w' bx:=fun k o hk hn hb=>hd.blk (h k o hk hn hb) hk
theorem Kept.set (h:Kept K w w1 bx) (o:Nat) (v:Value):Kept K w (w1.setCell ⟨bx,o,none⟩ v) bx:=fun k o' hk hn hb=>bN (h k o' hk hn hb) _ _ hn
theorem Kept.trans (h:Kept K w w1 bx) (h' :Kept K w1 w' bx):Kept K w w' bx:=fun k o hk hn hb=>h' k o hk hn (h k o hk hn hb)
theorem Kept.row (h:Kept K w w' bx) {base:Nat}{e T:TypeId}{size n:Nat}{u:Value}{xs:List Value}{C:Array Value}{fr:Nat×Nat}(hu:w.ownsRow base e size u n xs) (hb:K.L≤base) (hx:w.heap[bx]? =some (.cells C T fr)) (hne:e≠T):w'.ownsRow base e size u n xs:=by
 obtain ⟨h1,h2⟩:=hu
 refine ⟨h1, ?_⟩
 rcases h2 with h2|⟨g,cap,cur,a,b,c,d⟩
 · exact .inl h2
 · refine .inr ⟨g,cap,cur,a,b,h g _ (by omega) (fun e2=> ?_) c,d⟩
   rw [e2,hx]at c
   injection c with c
   injection c with _ c _
   exact hne c.symm
theorem aL {base:Nat}{e T:TypeId}{size n:Nat}{u:Value}{xs:List Value}{C:Array Value}{fr:Nat×Nat}(hu:w.ownsRow base e size u n xs) (hx:w.heap[bx]? =some (.cells C T fr)) (hne:e≠T) (o:Nat) (v:Value):(w.setCell ⟨bx,o,none⟩ v).ownsRow base e size u n xs:=by
 obtain ⟨h1,h2⟩:=hu
 refine ⟨h1, ?_⟩
 rcases h2 with h2|⟨g,cap,cur,a,b,c,d⟩
 · exact .inl h2
 · refine .inr ⟨g,cap,cur,a,b,bN c _ _ (fun e2=> ?_),d⟩
   rw [e2,hx]at c
   injection c with c
   injection c with _ c _
   exact hne c.symm
end
theorem jN {K:PK}{w0 w:World}{σ:Ps}(hD:Did K w0 σ w) {bx:Nat}(hbx:w0.heap.size≤bx) {x:Sx}{tc c s wv pv:Value}(hblk:w.heap[bx]? =some (.cells (aF x tc c s wv pv) 31 (0,0))) (ttl:Bool):
 Calls Tryz.prog 128 #[.pointer (some ⟨K.b,0,none⟩), .pointer (some ⟨bx,0,none⟩), .bool ttl] w fun e w' =>
  e= .returned (.tuple #[])∧Did K w0 (K.X.using_ σ ttl x).2 w' ∧w'.heap[bx]? =some (.cells (aF (K.X.using_ σ ttl x).1 tc c s wv pv) 31 (0,0))∧Kept K w w' bx:=by
 have dH:K.L≤bx:=Nat.le_trans hD.2.2 hbx
 have hm0:=aS hD.1 (⟨#[117,115,105,110,103]⟩:ByteArray)
 have YT:Kept K w w bx:=Kept.refl
 unfold Tx.may at hm0
 unfold Tx.using_
 cases hs:K.X.sees σ (⟨#[117,115,105,110,103]⟩:ByteArray)with
 |false=>
  rw [hs]at hm0
  go_enter Tryz.func128,Tryz.ntmps128
  go_wp2_with fail
  refine hm0.mono ?_;rintro e w1 ⟨rfl,hd1⟩
  go_wp2_with fail
  (first|go_end0|refine bodyPost_ret (v:= .tuple #[]) (by simp [results,Tryz.results128,go_sem]) rfl ?_)
  exact ⟨rfl,hD.trans hd1,hd1.blk hblk dH,YT.did hd1⟩
 |true=>
  rw [hs]at hm0
  cases ttl with
  |true=>
   cases ht:K.X.sees σ.step (⟨#[116,116,108]⟩:ByteArray)with
   |true=>
    obtain ⟨⟨n,σ2⟩,hc⟩:∃r,K.X.count σ.step.step=r:=⟨_,rfl⟩
    go_enter Tryz.func128,Tryz.ntmps128
    go_wp2_with fail
    refine hm0.mono ?_;rintro e w1 ⟨rfl,hd1⟩
    have hD1:Did K w0 σ.step w1:=hD.trans hd1
    have hm1:=aS hD1.1 (⟨#[116,116,108]⟩:ByteArray)
    unfold Tx.may at hm1
    rw [ht]at hm1
    go_wp2_with fail
    refine hm1.mono ?_;rintro e w2 ⟨rfl,hd2⟩
    have hD2:Did K w0 σ.step.step w2:=hD1.trans hd2
    have hct:=kH hD2.1
    rw [hc]at hct
    go_wp2_with fail
    refine hct.mono ?_;rintro e w3 ⟨rfl,hd3⟩
    have hblk3:=hd3.blk (hd2.blk (hd1.blk hblk dH) dH) dH
    have Yt:=(aM hblk3).2.2.2.2.2.2.2.2.2.2.2.2.2.2.2.1
    have u15:=ah hblk3 15
    go_wp2_with fail
    (first|go_end0|refine bodyPost_ret (v:= .tuple #[]) (by simp [results,Tryz.results128,go_sem]) rfl ?_)
    simp only
    exact ⟨trivial,(hD2.trans hd3).own hbx 15 _,K3 hblk3 n,(((YT.did hd1).did hd2).did hd3).set 15 _⟩
   |false=>
    obtain ⟨⟨n,σ2⟩,hc⟩:∃r,K.X.count (K.X.must σ.step [(⟨#[116,105,109,101,115,116,97,109,112]⟩:ByteArray)])=r:=⟨_,rfl⟩
    cases ha:K.X.sees σ2 (⟨#[97,110,100]⟩:ByteArray)with
    |true=>
     obtain ⟨⟨n3,σ3⟩,hc3⟩:∃r,K.X.count (K.X.must σ2.step [(⟨#[116,116,108]⟩:ByteArray)])=r:=⟨_,rfl⟩
     go_enter Tryz.func128,Tryz.ntmps128
     go_wp2_with fail
     refine hm0.mono ?_;rintro e w1 ⟨rfl,hd1⟩
     have hD1:Did K w0 σ.step w1:=hD.trans hd1
     have hm1:=aS hD1.1 (⟨#[116,116,108]⟩:ByteArray)
     unfold Tx.may at hm1
     rw [ht]at hm1
     go_wp2_with fail
     refine hm1.mono ?_;rintro e w2 ⟨rfl,hd2⟩
     have hD2:Did K w0 σ.step w2:=hD1.trans hd2
     go_wp2_with fail
     refine (bV hD2.1 _).mono ?_;rintro e w3 ⟨rfl,hd3⟩
     have hD3:=hD2.trans hd3
     have hct:=kH hD3.1
     rw [hc]at hct
     go_wp2_with fail
     refine hct.mono ?_;rintro e w4 ⟨rfl,hd4⟩
     have eF:=hd4.blk (hd3.blk (hd2.blk (hd1.blk hblk dH) dH) dH) dH
     have TM:=(aM eF).2.2.2.2.2.2.2.2.2.2.2.2.2.2.1
     have u14:=ah eF 14
     have hD5:=(hD3.trans hd4).own hbx 14 (.int .i64 n)
     have hblk5:=xD eF n
     have hK5:=((((YT.did hd1).did hd2).did hd3).did hd4).set 14 (.int .i64 n)
     have l9:=aS hD5.1 (⟨#[97,110,100]⟩:ByteArray)
     unfold Tx.may at l9
     rw [ha]at l9
     go_wp2_with fail
     refine l9.mono ?_;rintro e w6 ⟨rfl,hd6⟩
     have hD6:Did K w0 σ2.step w6:=hD5.trans hd6
     go_wp2_with fail
     refine (bV hD6.1 _).mono ?_;rintro e w7 ⟨rfl,hd7⟩
     have hD7:=hD6.trans hd7
     have YU:=kH hD7.1
     rw [hc3]at YU
     go_wp2_with fail
     refine YU.mono ?_;rintro e w8 ⟨rfl,yK⟩
     have jO:=yK.blk (hd7.blk (hd6.blk hblk5 dH) dH) dH
     have Yt:=(aM jO).2.2.2.2.2.2.2.2.2.2.2.2.2.2.2.1
     have u15:=ah jO 15
     go_wp2_with fail
     (first|go_end0|refine bodyPost_ret (v:= .tuple #[]) (by simp [results,Tryz.results128,go_sem]) rfl ?_)
     simp only
     exact ⟨trivial,(hD7.trans yK).own hbx 15 _,K3 jO n3,(((hK5.did hd6).did hd7).did yK).set 15 _⟩
    |false=>
     go_enter Tryz.func128,Tryz.ntmps128
     go_wp2_with fail
     refine hm0.mono ?_;rintro e w1 ⟨rfl,hd1⟩
     have hD1:Did K w0 σ.step w1:=hD.trans hd1
     have hm1:=aS hD1.1 (⟨#[116,116,108]⟩:ByteArray)
     unfold Tx.may at hm1
     rw [ht]at hm1
     go_wp2_with fail
     refine hm1.mono ?_;rintro e w2 ⟨rfl,hd2⟩
     have hD2:Did K w0 σ.step w2:=hD1.trans hd2
     go_wp2_with fail
     refine (bV hD2.1 _).mono ?_;rintro e w3 ⟨rfl,hd3⟩
     have hD3:=hD2.trans hd3
     have hct:=kH hD3.1
     rw [hc]at hct
     go_wp2_with fail
     refine hct.mono ?_;rintro e w4 ⟨rfl,hd4⟩
     have eF:=hd4.blk (hd3.blk (hd2.blk (hd1.blk hblk dH) dH) dH) dH
     have TM:=(aM eF).2.2.2.2.2.2.2.2.2.2.2.2.2.2.1
     have u14:=ah eF 14
     have hD5:=(hD3.trans hd4).own hbx 14 (.int .i64 n)
     have hblk5:=xD eF n
     have hK5:=((((YT.did hd1).did hd2).did hd3).did hd4).set 14 (.int .i64 n)
     have l9:=aS hD5.1 (⟨#[97,110,100]⟩:ByteArray)
     unfold Tx.may at l9
     rw [ha]at l9
     go_wp2_with fail
     refine l9.mono ?_;rintro e w6 ⟨rfl,hd6⟩
     go_wp2_with fail
     (first|go_end0|refine bodyPost_ret (v:= .tuple #[]) (by simp [results,Tryz.results128,go_sem]) rfl ?_)
     simp only
     exact ⟨trivial,hD5.trans hd6,hd6.blk hblk5 dH,hK5.did hd6⟩
  |false=>
   obtain ⟨⟨n,σ2⟩,hc⟩:∃r,K.X.count (K.X.must σ.step [(⟨#[116,105,109,101,115,116,97,109,112]⟩:ByteArray)])=r:=⟨_,rfl⟩
   go_enter Tryz.func128,Tryz.ntmps128
   go_wp2_with fail
   refine hm0.mono ?_;rintro e w1 ⟨rfl,hd1⟩
   have hD2:Did K w0 σ.step w1:=hD.trans hd1
   go_wp2_with fail
   refine (bV hD2.1 _).mono ?_;rintro e w3 ⟨rfl,hd3⟩
   have hD3:=hD2.trans hd3
   have hct:=kH hD3.1
   rw [hc]at hct
   go_wp2_with fail
   refine hct.mono ?_;rintro e w4 ⟨rfl,hd4⟩
   have eF:=hd4.blk (hd3.blk (hd1.blk hblk dH) dH) dH
   have TM:=(aM eF).2.2.2.2.2.2.2.2.2.2.2.2.2.2.1
   have u14:=ah eF 14
   go_wp2_with fail
   (first|go_end0|refine bodyPost_ret (v:= .tuple #[]) (by simp [results,Tryz.results128,go_sem]) rfl ?_)
   simp only
   exact ⟨trivial,(hD3.trans hd4).own hbx 14 _,xD eF n,(((YT.did hd1).did hd3).did hd4).set 14 _⟩
theorem dJ (w:World) (a:Addr) (v:Value):(w.setCell a v).heap.size=w.heap.size:=by simp [World.setCell]
theorem Tryz.qU:(Tryz.prog.info? 31).map (·.size)=some 18:=by kernel_rfl
theorem Tryz.F9:∃d,Tryz.prog.underlying 31=some d∧d.isRow=true:=⟨_,Tryz.underlying31,rfl⟩
theorem zL (k:Int)  (w:World):(Instr.build 31 #[(0, .int .i64 k)]).run Tryz.prog w= .ok (.agg #[.int .i64 k, .string ⟨#[]⟩, .string ⟨#[]⟩, .string ⟨#[]⟩, .string ⟨#[]⟩, .int .i64 0, .string ⟨#[]⟩, .int .i64 0, .string ⟨#[]⟩, .int .i64 0, .slice none 0 0, .slice none 0 0, .slice none 0 0, .slice none 0 0, .int .i64 0, .int .i64 0, .int .i64 0, .slice none 0 0]) w:=by kernel_rfl
theorem vK (k:Int) (x:ByteArray) (w:World):(Instr.build 31 #[(0, .int .i64 k),(1, .string x)]).run Tryz.prog w= .ok (.agg #[.int .i64 k, .string x, .string ⟨#[]⟩, .string ⟨#[]⟩, .string ⟨#[]⟩, .int .i64 0, .string ⟨#[]⟩, .int .i64 0, .string ⟨#[]⟩, .int .i64 0, .slice none 0 0, .slice none 0 0, .slice none 0 0, .slice none 0 0, .int .i64 0, .int .i64 0, .int .i64 0, .slice none 0 0]) w:=by kernel_rfl
theorem Ga (k:Int) (x:ByteArray) (w:World):(Instr.build 31 #[(0, .int .i64 k),(2, .string x)]).run Tryz.prog w= .ok (.agg #[.int .i64 k, .string ⟨#[]⟩, .string x, .string ⟨#[]⟩, .string ⟨#[]⟩, .int .i64 0, .string ⟨#[]⟩, .int .i64 0, .string ⟨#[]⟩, .int .i64 0, .slice none 0 0, .slice none 0 0, .slice none 0 0, .slice none 0 0, .int .i64 0, .int .i64 0, .int .i64 0, .slice none 0 0]) w:=by kernel_rfl
theorem Gb (k:Int) (n c:Nat) (a:Option Addr) (w:World):(Instr.build 31 #[(0, .int .i64 k),(5, .slice a n c)]).run Tryz.prog w= .ok (.agg #[.int .i64 k, .string ⟨#[]⟩, .string ⟨#[]⟩, .string ⟨#[]⟩, .string ⟨#[]⟩, .int .i64 0, .string ⟨#[]⟩, .int .i64 0, .string ⟨#[]⟩, .int .i64 0, .slice none 0 0, .slice a n c, .slice none 0 0, .slice none 0 0, .int .i64 0, .int .i64 0, .int .i64 0, .slice none 0 0]) w:=by kernel_rfl
theorem PZ (w:World) (V:Array Value) (hV:V.size=18) (h1' :V.toList.all (·.oneCell')=true):
 (Instr.storeAt 31 (.pointer (some ⟨w.heap.size,0,none⟩)) (.agg V)).run Tryz.prog (w.alloc (.cells #[.int .i64 0, .string ⟨#[]⟩, .string ⟨#[]⟩, .string ⟨#[]⟩, .string ⟨#[]⟩, .int .i64 0, .string ⟨#[]⟩, .int .i64 0, .string ⟨#[]⟩, .int .i64 0, .slice none 0 0, .slice none 0 0, .slice none 0 0, .slice none 0 0, .int .i64 0, .int .i64 0, .int .i64 0, .slice none 0 0] 31))= .ok () (w.alloc (.cells V 31))∧
 (storeCells ⟨w.heap.size,0,none⟩ V.toList 0).run Tryz.prog (w.alloc (.cells #[.int .i64 0, .string ⟨#[]⟩, .string ⟨#[]⟩, .string ⟨#[]⟩, .string ⟨#[]⟩, .int .i64 0, .string ⟨#[]⟩, .int .i64 0, .string ⟨#[]⟩, .int .i64 0, .slice none 0 0, .slice none 0 0, .slice none 0 0, .slice none 0 0, .int .i64 0, .int .i64 0, .int .i64 0, .slice none 0 0] 31))= .ok () (w.alloc (.cells V 31)):=
 have h1:V.all (·.oneCell')=true:=by rw [←Array.all_toList];exact h1'
 ⟨run_storeAt_new w _ _ V (by rw [hV];exact Tryz.qU) (by rw [hV];rfl) h1,run_storeCells_new w _ _ V (by rw [hV];exact Tryz.qU) (by rw [hV];rfl) h1⟩
theorem bA {ops:Array Oper}{rest:List Oper}{op:Oper}{a:Act}{w:World}{Q:Exit→Act→World→Prop}{b:Nat}{V:Array Value}{T:TypeId}(hgd:op.guard=none) (x:Operand) (ho:op.op= .load 31 x)
 (hx:a.eval x= .pointer (some ⟨b,0,none⟩)) (hV:V.size=18) (hb:w.heap[b]? =some (.cells V T (0,0))) (h:wpList Tryz.prog ops Q rest (a.put op.dst (.agg V)) w):wpList Tryz.prog ops Q (op::rest) a w:=by
 obtain ⟨d,hu,hd⟩:=Tryz.F9
 refine wpList_load_mid hgd 31 x ho b 0 hx V.toList d (fun j v hv=> ?_) hu hd (by rw [show V.toList.length=18 by simpa using hV];exact Tryz.qU) (by simpa using h)
 rw [Nat.zero_add,aj hb];simpa using hv
theorem kV {ops:Array Oper}{rest:List Oper}{op:Oper}{a:Act}{w:World}{Q:Exit→Act→World→Prop}{V:Array Value}(hgd:op.guard=none) (x y:Operand) (ho:op.op= .store 31 x y)
 (hx:a.eval x= .pointer (some ⟨w.heap.size,0,none⟩)) (hy:a.eval y= .agg V) (hV:V.size=18) (h1' :V.toList.all (·.oneCell')=true) (h:wpList Tryz.prog ops Q rest (a.put op.dst undef) (w.alloc (.cells V 31))):
 wpList Tryz.prog ops Q (op::rest) a (w.alloc (.cells #[.int .i64 0, .string ⟨#[]⟩, .string ⟨#[]⟩, .string ⟨#[]⟩, .string ⟨#[]⟩, .int .i64 0, .string ⟨#[]⟩, .int .i64 0, .string ⟨#[]⟩, .int .i64 0, .slice none 0 0, .slice none 0 0, .slice none 0 0, .slice none 0 0, .int .i64 0, .int .i64 0, .int .i64 0, .slice none 0 0] 31)):=by
 refine wpList_plain hgd fun K hK=> ?_
 unfold Oper.wp execOp
 have:=(PZ w V hV h1').1
 simp only [ho,hx,hy,Sem.run_bind,this,Result.andThen_ok,Sem.run_pure]
 exact hK _ _ h
theorem mg (v0 v1 v2 v3 v4 v5 v6 v7 v8 v9 v10 v11 v12 v13 v14 v15 v16 v17:Value) (w:World):(Instr.build 124 #[(0, .agg #[v0,v1,v2,v3,v4,v5,v6,v7,v8,v9,v10,v11,v12,v13,v14,v15,v16,v17])]).run Tryz.prog w= .ok (.agg #[v0,v1,v2,v3,v4,v5,v6,v7,v8,v9,v10,v11,v12,v13,v14,v15,v16,v17]) w:=by kernel_rfl
theorem lu (v0 v1 v2 v3 v4 v5 v6 v7 v8 v9 v10 v11 v12 v13 v14 v15 v16 v17:Value) (w:World):(Instr.build 156 #[(0, .agg #[v0,v1,v2,v3,v4,v5,v6,v7,v8,v9,v10,v11,v12,v13,v14,v15,v16,v17])]).run Tryz.prog w= .ok (.agg #[v0,v1,v2,v3,v4,v5,v6,v7,v8,v9,v10,v11,v12,v13,v14,v15,v16,v17]) w:=by kernel_rfl
theorem qV (v0 v1 v2 v3 v4 v5 v6 v7 v8 v9 v10 v11 v12 v13 v14 v15 v16 v17:Value) (w:World):(Instr.makeInterface 124 (.agg #[v0,v1,v2,v3,v4,v5,v6,v7,v8,v9,v10,v11,v12,v13,v14,v15,v16,v17])).run Tryz.prog w= .ok (.iface 124 (.agg #[v0,v1,v2,v3,v4,v5,v6,v7,v8,v9,v10,v11,v12,v13,v14,v15,v16,v17])) w:=by kernel_rfl
theorem qW (v0 v1 v2 v3 v4 v5 v6 v7 v8 v9 v10 v11 v12 v13 v14 v15 v16 v17:Value) (w:World):(Instr.makeInterface 156 (.agg #[v0,v1,v2,v3,v4,v5,v6,v7,v8,v9,v10,v11,v12,v13,v14,v15,v16,v17])).run Tryz.prog w= .ok (.iface 156 (.agg #[v0,v1,v2,v3,v4,v5,v6,v7,v8,v9,v10,v11,v12,v13,v14,v15,v16,v17])) w:=by kernel_rfl
theorem lC (X:Tx) (σ:Ps) (ttl:Bool) (x y:Sx) (σ' :Ps) (h:X.using_ σ ttl x=(y,σ')):∃a b,y={x with stamp:=a,ttl:=b}:=by
 unfold Tx.using_ at h
 simp only at h
 split at h
 · split at h
   · cases h;exact ⟨x.stamp,_,rfl⟩
   · split at h
     · cases h;exact ⟨_,_,rfl⟩
     · cases h;exact ⟨_,x.ttl,rfl⟩
 · cases h;exact ⟨x.stamp,x.ttl,rfl⟩
theorem P5 {w:World}{base:Nat}{x y:Sx}{tc c s wv:Value}{q:List Pr}(hu:Hid (∃a b,y={x with stamp:=a,ttl:=b})) (h1:w.ownsRow base 23 2 tc x.aN.length (iM x.aN)) (h2:w.ownsRow base 9 1 c x.aO.length (x.aO.map Value.string)) (h3:w.ownsRow base 61 4 s x.sets.length (bQ x.sets)) (h4:w.ownsRow base 61 4 wv q.length (bQ q)):gN w base {y with aP:=q} tc c s wv:=by
 obtain ⟨a,b,rfl⟩:=hu.out
 exact ⟨h1,h2,h3,h4⟩
theorem ML {K:PK}{w:World}{σ:Ps}(h:PQ K w σ):
 Calls Tryz.prog 89 #[.pointer (some ⟨K.b,0,none⟩)] w (fK K w 124 (K.X.index σ).1 (K.X.index σ).2):=by
 have hle:=h.le
 have hD0:=Did.refl h
 obtain ⟨σ1,hq1⟩:∃r,K.X.must σ [(⟨#[105,110,100,101,120]⟩:ByteArray)]=r:=⟨_,rfl⟩
 obtain ⟨⟨x,σ2⟩,hq2⟩:∃r,K.X.name σ1=r:=⟨_,rfl⟩
 obtain ⟨σ3,hq3⟩:∃r,K.X.must σ2 [(⟨#[111,110]⟩:ByteArray)]=r:=⟨_,rfl⟩
 obtain ⟨⟨o,je⟩,hq4⟩:∃r,K.X.name σ3=r:=⟨_,rfl⟩
 obtain ⟨lY,FQ⟩:∃r,K.X.must je [(⟨#[40]⟩:ByteArray)]=r:=⟨_,rfl⟩
 obtain ⟨⟨n,Jl⟩,MC⟩:∃r,K.X.name lY=r:=⟨_,rfl⟩
 obtain ⟨σ7,YV⟩:∃r,K.X.must Jl [(⟨#[41]⟩:ByteArray)]=r:=⟨_,rfl⟩
 have HE:Hid (K.X.index σ=({Sx.zero with kind:=3,name:=x,bM:=o,on:=n},σ7)):=by show _=_;unfold Tx.index;simp only [hq1,hq2,hq3,hq4,FQ,MC,YV]
 go_enter Tryz.func89,Tryz.ntmps89
 have hm1:=bV hD0.1 (⟨#[105,110,100,101,120]⟩:ByteArray)
 rw [hq1]at hm1
 try simp only [aA,dJ]at hm1
 go_wp2_with fail
 refine hm1.mono ?_;rintro e w1 ⟨rfl,hd1⟩
 have hD1:=hD0.trans hd1
 have hm2:=eT hD1.1
 rw [hq2]at hm2
 try simp only at hm2
 go_wp2_with fail
 refine hm2.mono ?_;rintro e w2 ⟨rfl,hd2⟩
 have hD2:=hD1.trans hd2
 have hB3:=vK 3 x
 have dH:K.L≤w2.heap.size:=Nat.le_trans hle hD2.size
 have hbx:w.heap.size≤w2.heap.size:=hD2.size
 have hblk3:(w2.alloc (.cells (aF {Sx.zero with kind:=3,name:=x} ak ak ak ak ak) 31)).heap[w2.heap.size]? =some (.cells (aF {Sx.zero with kind:=3,name:=x} ak ak ak ak ak) 31 (0,0)):=aB w2 _
 have hD3:=hD2.alloc (.cells (aF {Sx.zero with kind:=3,name:=x} ak ak ak ak ak) 31)
 have kI:=bV hD3.1 (⟨#[111,110]⟩:ByteArray)
 rw [hq3]at kI
 try simp only [aA]at kI
 go_wp2_with (refine kV rfl _ _ rfl rfl rfl rfl rfl ?_)
 refine kI.mono ?_;rintro e w4 ⟨rfl,hd4⟩
 have hD4:=hD3.trans hd4
 have eF:=hd4.blk hblk3 dH
 have l9:=eT hD4.1
 rw [hq4]at l9
 try simp only at l9
 go_wp2_with fail
 refine l9.mono ?_;rintro e w5 ⟨rfl,hd5⟩
 have hD5:=hD4.trans hd5
 have hblk5:=hd5.blk eF dH
 have tt5:=(aM hblk5).2.2.1
 have uu5:=ah hblk5 2
 have hD6:=hD5.own hbx 2 (.string o)
 have hblk6:=xC hblk5 o
 have uR:=bV hD6.1 (⟨#[40]⟩:ByteArray)
 rw [FQ]at uR
 try simp only [dJ]at uR
 go_wp2_with fail
 refine uR.mono ?_;rintro e w7 ⟨rfl,hd7⟩
 have hD7:=hD6.trans hd7
 have hblk7:=hd7.blk hblk6 dH
 have tJ:=eT hD7.1
 rw [MC]at tJ
 try simp only at tJ
 go_wp2_with fail
 refine tJ.mono ?_;rintro e w8 ⟨rfl,yK⟩
 have yL:=hD7.trans yK
 have jO:=yK.blk hblk7 dH
 have tt8:=(aM jO).2.2.2.1
 have uu8:=ah jO 3
 have tK:=yL.own hbx 3 (.string n)
 have mh:=PX jO n
 have Jm:=bV tK.1 (⟨#[41]⟩:ByteArray)
 rw [YV]at Jm
 try simp only [dJ]at Jm
 go_wp2_with fail
 refine Jm.mono ?_;rintro e YW ⟨rfl,Et⟩
 have jY:=tK.trans Et
 have um:=Et.blk mh dH
 have hBx:=mg
 have Jo:=qV
 go_wp2_with (refine bA rfl _ rfl rfl rfl um ?_)
 go_ret
 rw [HE.out]
 exact ⟨ak,ak,ak,ak,rfl,jY,lX _ _ _ rfl rfl rfl rfl⟩
theorem TN {K:PK}{w:World}{σ:Ps}(h:PQ K w σ):
 Calls Tryz.prog 84 #[.pointer (some ⟨K.b,0,none⟩)] w (fK K w 124 (K.X.ask σ).1 (K.X.ask σ).2):=by
 have hle:=h.le
 have hD0:=Did.refl h
 obtain ⟨⟨c,σ1⟩,hq1⟩:∃r,K.X.some_ σ=r:=⟨_,rfl⟩
 obtain ⟨σ2,hq2⟩:∃r,K.X.must σ1 [(⟨#[102,114,111,109]⟩:ByteArray)]=r:=⟨_,rfl⟩
 obtain ⟨⟨o,σ3⟩,hq3⟩:∃r,K.X.name σ2=r:=⟨_,rfl⟩
 obtain ⟨⟨q,je⟩,hq4⟩:∃r,K.X.aP σ3 false=r:=⟨_,rfl⟩
 cases sW:K.X.sees je (⟨#[108,105,109,105,116]⟩:ByteArray)with
 |true=>
  obtain ⟨⟨k,lY⟩,FQ⟩:∃r,K.X.count je.step=r:=⟨_,rfl⟩
  have HE:Hid (K.X.ask σ=({Sx.zero with kind:=8,aO:=c,bM:=o,aP:=q,limit:=k},lY)):=by show _=_;unfold Tx.ask;simp only [hq1,hq2,hq3,hq4,FQ,sW,if_true]
  go_enter Tryz.func84,Tryz.ntmps84
  have hm1:=Ai hD0.1
  rw [hq1]at hm1
  try simp only at hm1
  go_wp2_with fail
  refine hm1.mono ?_;rintro e w1 ⟨ac,cc,rfl,hd1,hr1⟩
  have hD1:=hD0.trans hd1
  have hz1:=hD0.size
  try simp only [aA,dJ]at hz1 hr1
  replace hr1:=bF hr1 hz1
  have hB2:=Gb 8 c.length cc ac
  have dH:K.L≤w1.heap.size:=Nat.le_trans hle hD1.size
  have hbx:w.heap.size≤w1.heap.size:=hD1.size
  have hblk2:(w1.alloc (.cells (aF {Sx.zero with kind:=8,aO:=c} ak (.slice ac c.length cc) ak ak ak) 31)).heap[w1.heap.size]? =some (.cells (aF {Sx.zero with kind:=8,aO:=c} ak (.slice ac c.length cc) ak ak ak) 31 (0,0)):=aB w1 _
  have hD2:=hD1.alloc (.cells (aF {Sx.zero with kind:=8,aO:=c} ak (.slice ac c.length cc) ak ak ak) 31)
  have P6:=hr1.alloc (.cells (aF {Sx.zero with kind:=8,aO:=c} ak (.slice ac c.length cc) ak ak ak) 31)
  have jS:=bV hD2.1 (⟨#[102,114,111,109]⟩:ByteArray)
  rw [hq2]at jS
  try simp only [aA]at jS
  go_wp2_with (refine kV rfl _ _ rfl rfl rfl rfl rfl ?_)
  refine jS.mono ?_;rintro e w3 ⟨rfl,hd3⟩
  have hD3:=hD2.trans hd3
  have hblk3:=hd3.blk hblk2 dH
  have P7:=hd3.row P6 hle
  have kI:=eT hD3.1
  rw [hq3]at kI
  try simp only at kI
  go_wp2_with fail
  refine kI.mono ?_;rintro e w4 ⟨rfl,hd4⟩
  have hD4:=hD3.trans hd4
  have eF:=hd4.blk hblk3 dH
  have Gc:=hd4.row P7 hle
  have tt4:=(aM eF).2.2.1
  have uu4:=ah eF 2
  have hD5:=hD4.own hbx 2 (.string o)
  have hblk5:=xC eF o
  have Gd:=aL Gc eF (by decide) 2 (.string o)
  have om:=nZ hD5.1 false
  rw [hq4]at om
  try simp only [dJ]at om
  go_wp2_with fail
  refine om.mono ?_;rintro e w6 ⟨aq,cq,rfl,hd6,Jp⟩
  have hD6:=hD5.trans hd6
  have hblk6:=hd6.blk hblk5 dH
  have vL:=hd6.row Gd hle
  have YX:=hD5.size
  try simp only [dJ]at YX Jp
  replace Jp:=bF Jp YX
  have tt6:=(aM hblk6).2.2.2.2.2.2.2.2.2.2.2.2.2.1
  have uu6:=ah hblk6 13
  have hD7:=hD6.own hbx 13 (.slice aq q.length cq)
  have hblk7:=oh hblk6 (.slice aq q.length cq)
  have vM:=aL vL hblk6 (by decide) 13 (.slice aq q.length cq)
  have P8:=aL Jp hblk6 (by decide) 13 (.slice aq q.length cq)
  have tJ:=aS hD7.1 (⟨#[108,105,109,105,116]⟩:ByteArray)
  unfold Tx.may at tJ
  rw [sW,if_pos rfl]at tJ
  try simp only [aA,dJ]at tJ
  go_wp2_with fail
  refine tJ.mono ?_;rintro e w8 ⟨rfl,yK⟩
  have yL:=hD7.trans yK
  have jO:=yK.blk hblk7 dH
  have Aj:=yK.row vM hle
  have Gf:=yK.row P8 hle
  have Jq:=kH yL.1
  rw [FQ]at Jq
  try simp only at Jq
  go_wp2_with fail
  refine Jq.mono ?_;rintro e w9 ⟨rfl,K4⟩
  have tK:=yL.trans K4
  have mh:=K4.blk jO dH
  have Gg:=K4.row Aj hle
  have YZ:=K4.row Gf hle
  have tt9:=(aM mh).2.2.2.2.2.2.2.2.2.2.2.2.2.2.2.2.1
  have uu9:=ah mh 16
  have jY:=tK.own hbx 16 (.int .i64 k)
  have um:=MK mh k
  have Ak:=aL Gg mh (by decide) 16 (.int .i64 k)
  have Jr:=aL YZ mh (by decide) 16 (.int .i64 k)
  have hBx:=mg
  have Jo:=qV
  go_wp2_with (refine bA rfl _ rfl rfl rfl um ?_)
  go_ret
  rw [HE.out]
  exact ⟨ak,_,ak,_,rfl,jY,⟨World.ownsRow_nil _ _ _ _,Ak,World.ownsRow_nil _ _ _ _,Jr⟩⟩
 |false=>
  have HE:Hid (K.X.ask σ=({Sx.zero with kind:=8,aO:=c,bM:=o,aP:=q},je)):=by show _=_;unfold Tx.ask;simp only [hq1,hq2,hq3,hq4,sW,if_neg (show¬(false=true)by decide)]
  go_enter Tryz.func84,Tryz.ntmps84
  have hm1:=Ai hD0.1
  rw [hq1]at hm1
  try simp only at hm1
  go_wp2_with fail
  refine hm1.mono ?_;rintro e w1 ⟨ac,cc,rfl,hd1,hr1⟩
  have hD1:=hD0.trans hd1
  have hz1:=hD0.size
  try simp only [aA,dJ]at hz1 hr1
  replace hr1:=bF hr1 hz1
  have hB2:=Gb 8 c.length cc ac
  have dH:K.L≤w1.heap.size:=Nat.le_trans hle hD1.size
  have hbx:w.heap.size≤w1.heap.size:=hD1.size
  have hblk2:(w1.alloc (.cells (aF {Sx.zero with kind:=8,aO:=c} ak (.slice ac c.length cc) ak ak ak) 31)).heap[w1.heap.size]? =some (.cells (aF {Sx.zero with kind:=8,aO:=c} ak (.slice ac c.length cc) ak ak ak) 31 (0,0)):=aB w1 _
  have hD2:=hD1.alloc (.cells (aF {Sx.zero with kind:=8,aO:=c} ak (.slice ac c.length cc) ak ak ak) 31)
  have P6:=hr1.alloc (.cells (aF {Sx.zero with kind:=8,aO:=c} ak (.slice ac c.length cc) ak ak ak) 31)
  have jS:=bV hD2.1 (⟨#[102,114,111,109]⟩:ByteArray)
  rw [hq2]at jS
  try simp only [aA]at jS
  go_wp2_with (refine kV rfl _ _ rfl rfl rfl rfl rfl ?_)
  refine jS.mono ?_;rintro e w3 ⟨rfl,hd3⟩
  have hD3:=hD2.trans hd3
  have hblk3:=hd3.blk hblk2 dH
  have P7:=hd3.row P6 hle
  have kI:=eT hD3.1
  rw [hq3]at kI
  try simp only at kI
  go_wp2_with fail
  refine kI.mono ?_;rintro e w4 ⟨rfl,hd4⟩
  have hD4:=hD3.trans hd4
  have eF:=hd4.blk hblk3 dH
  have Gc:=hd4.row P7 hle
  have tt4:=(aM eF).2.2.1
  have uu4:=ah eF 2
  have hD5:=hD4.own hbx 2 (.string o)
  have hblk5:=xC eF o
  have Gd:=aL Gc eF (by decide) 2 (.string o)
  have om:=nZ hD5.1 false
  rw [hq4]at om
  try simp only [dJ]at om
  go_wp2_with fail
  refine om.mono ?_;rintro e w6 ⟨aq,cq,rfl,hd6,Jp⟩
  have hD6:=hD5.trans hd6
  have hblk6:=hd6.blk hblk5 dH
  have vL:=hd6.row Gd hle
  have YX:=hD5.size
  try simp only [dJ]at YX Jp
  replace Jp:=bF Jp YX
  have tt6:=(aM hblk6).2.2.2.2.2.2.2.2.2.2.2.2.2.1
  have uu6:=ah hblk6 13
  have hD7:=hD6.own hbx 13 (.slice aq q.length cq)
  have hblk7:=oh hblk6 (.slice aq q.length cq)
  have vM:=aL vL hblk6 (by decide) 13 (.slice aq q.length cq)
  have P8:=aL Jp hblk6 (by decide) 13 (.slice aq q.length cq)
  have tJ:=aS hD7.1 (⟨#[108,105,109,105,116]⟩:ByteArray)
  unfold Tx.may at tJ
  rw [sW,if_neg (by decide)]at tJ
  try simp only [aA,dJ]at tJ
  go_wp2_with fail
  refine tJ.mono ?_;rintro e w8 ⟨rfl,yK⟩
  have yL:=hD7.trans yK
  have jO:=yK.blk hblk7 dH
  have Aj:=yK.row vM hle
  have Gf:=yK.row P8 hle
  have hBx:=mg
  have Jo:=qV
  go_wp2_with (refine bA rfl _ rfl rfl rfl jO ?_)
  go_ret
  rw [HE.out]
  exact ⟨ak,_,ak,_,rfl,yL,⟨World.ownsRow_nil _ _ _ _,Aj,World.ownsRow_nil _ _ _ _,Gf⟩⟩
theorem Jv {K:PK}{w:World}{σ:Ps}(h:PQ K w σ):
 Calls Tryz.prog 83 #[.pointer (some ⟨K.b,0,none⟩)] w (fK K w 156 (K.X.remove σ).1 (K.X.remove σ).2):=by
 have hle:=h.le
 have hD0:=Did.refl h
 cases sW:K.X.sees σ (⟨#[102,114,111,109]⟩:ByteArray)with
 |true=>
  obtain ⟨σ1,hq1⟩:∃r,K.X.must σ [(⟨#[102,114,111,109]⟩:ByteArray)]=r:=⟨_,rfl⟩
  obtain ⟨⟨o,σ2⟩,hq2⟩:∃r,K.X.name σ1=r:=⟨_,rfl⟩
  obtain ⟨⟨xu,σ3⟩,hq3⟩:∃r,K.X.using_ σ2 false {Sx.zero with kind:=7,aO:=([]:List ByteArray),bM:=o}=r:=⟨_,rfl⟩
  obtain ⟨⟨q,je⟩,hq4⟩:∃r,K.X.aP σ3 false=r:=⟨_,rfl⟩
  have HU:=Lib.hid (lC K.X _ _ _ _ _ hq3)
  have HE:Hid (K.X.remove σ=({xu with aP:=q},je)):=by show _=_;unfold Tx.remove;simp only [hq1,hq2,hq3,hq4,sW,if_true]
  go_enter Tryz.func83,Tryz.ntmps83
  have hB1:=zL 7
  have dH:K.L≤w.heap.size:=Nat.le_trans hle hD0.size
  have hbx:w.heap.size≤w.heap.size:=hD0.size
  have hblk1:(w.alloc (.cells (aF {Sx.zero with kind:=7} ak ak ak ak ak) 31)).heap[w.heap.size]? =some (.cells (aF {Sx.zero with kind:=7} ak ak ak ak ak) 31 (0,0)):=aB w _
  have hD1:=hD0.alloc (.cells (aF {Sx.zero with kind:=7} ak ak ak ak ak) 31)
  have hm2:=vC hD1.1 (⟨#[102,114,111,109]⟩:ByteArray)
  rw [sW]at hm2
  go_wp2_with (refine kV rfl _ _ rfl rfl rfl rfl rfl ?_)
  refine hm2.mono ?_;rintro e w2 ⟨rfl,hb2⟩
  have hd2:=(Did.refl hD1.1).below hb2
  have hD2:=hD1.trans hd2
  have hblk2:=hd2.blk hblk1 dH
  have jS:=bV hD2.1 (⟨#[102,114,111,109]⟩:ByteArray)
  rw [hq1]at jS
  try simp only [aA,dJ]at jS
  go_wp2_with fail
  refine jS.mono ?_;rintro e w3 ⟨rfl,hd3⟩
  have hD3:=hD2.trans hd3
  have hblk3:=hd3.blk hblk2 dH
  have kI:=eT hD3.1
  rw [hq2]at kI
  try simp only at kI
  go_wp2_with fail
  refine kI.mono ?_;rintro e w4 ⟨rfl,hd4⟩
  have hD4:=hD3.trans hd4
  have eF:=hd4.blk hblk3 dH
  have tt4:=(aM eF).2.2.1
  have uu4:=ah eF 2
  have hD5:=hD4.own hbx 2 (.string o)
  have hblk5:=xC eF o
  have om:=jN hD5 hbx (x:={Sx.zero with kind:=7,aO:=([]:List ByteArray),bM:=o}) hblk5 false
  rw [hq3]at om
  go_wp2_with fail
  refine om.mono ?_;rintro e w6 ⟨rfl,hD6,hblk6,hk6⟩
  have uR:=nZ hD6.1 false
  rw [hq4]at uR
  try simp only at uR
  go_wp2_with fail
  refine uR.mono ?_;rintro e w7 ⟨aq,cq,rfl,hd7,hr7⟩
  have hD7:=hD6.trans hd7
  have hblk7:=hd7.blk hblk6 dH
  have hz7:=hD6.size
  try simp only [aA,dJ]at hz7 hr7
  replace hr7:=bF hr7 hz7
  have tt7:=(aM hblk7).2.2.2.2.2.2.2.2.2.2.2.2.2.1
  have uu7:=ah hblk7 13
  have yL:=hD7.own hbx 13 (.slice aq q.length cq)
  have jO:=oh hblk7 (.slice aq q.length cq)
  have Gf:=aL hr7 hblk7 (by decide) 13 (.slice aq q.length cq)
  have hBx:=lu
  have Jo:=qW
  go_wp2_with (refine bA rfl _ rfl rfl rfl jO ?_)
  go_ret
  rw [HE.out]
  exact ⟨_,_,_,_,rfl,yL,P5 (x:={Sx.zero with kind:=7,aO:=([]:List ByteArray),bM:=o}) HU (World.ownsRow_nil _ _ _ _) (World.ownsRow_nil _ _ _ _) (World.ownsRow_nil _ _ _ _) Gf⟩
 |false=>
  obtain ⟨⟨c,σ1⟩,hq1⟩:∃r,K.X.columns σ 8=r:=⟨_,rfl⟩
  obtain ⟨σ2,hq2⟩:∃r,K.X.must σ1 [(⟨#[102,114,111,109]⟩:ByteArray)]=r:=⟨_,rfl⟩
  obtain ⟨⟨o,σ3⟩,hq3⟩:∃r,K.X.name σ2=r:=⟨_,rfl⟩
  obtain ⟨⟨xu,je⟩,hq4⟩:∃r,K.X.using_ σ3 false {Sx.zero with kind:=7,aO:=c,bM:=o}=r:=⟨_,rfl⟩
  obtain ⟨⟨q,lY⟩,FQ⟩:∃r,K.X.aP je false=r:=⟨_,rfl⟩
  have HU:=Lib.hid (lC K.X _ _ _ _ _ hq4)
  have HE:Hid (K.X.remove σ=({xu with aP:=q},lY)):=by show _=_;unfold Tx.remove;simp only [hq1,hq2,hq3,hq4,FQ,sW,if_neg (show¬(false=true)by decide)]
  go_enter Tryz.func83,Tryz.ntmps83
  have hB1:=zL 7
  have dH:K.L≤w.heap.size:=Nat.le_trans hle hD0.size
  have hbx:w.heap.size≤w.heap.size:=hD0.size
  have hblk1:(w.alloc (.cells (aF {Sx.zero with kind:=7} ak ak ak ak ak) 31)).heap[w.heap.size]? =some (.cells (aF {Sx.zero with kind:=7} ak ak ak ak ak) 31 (0,0)):=aB w _
  have hD1:=hD0.alloc (.cells (aF {Sx.zero with kind:=7} ak ak ak ak ak) 31)
  have hm2:=vC hD1.1 (⟨#[102,114,111,109]⟩:ByteArray)
  rw [sW]at hm2
  go_wp2_with (refine kV rfl _ _ rfl rfl rfl rfl rfl ?_)
  refine hm2.mono ?_;rintro e w2 ⟨rfl,hb2⟩
  have hd2:=(Did.refl hD1.1).below hb2
  have hD2:=hD1.trans hd2
  have hblk2:=hd2.blk hblk1 dH
  have jS:=qR hD2.1 8 (by omega)
  rw [hq1]at jS
  try simp only at jS
  go_wp2_with fail
  refine jS.mono ?_;rintro e w3 ⟨ac,cc,rfl,hd3,hr3⟩
  have hD3:=hD2.trans hd3
  have hblk3:=hd3.blk hblk2 dH
  have hz3:=hD2.size
  try simp only [aA,dJ]at hz3 hr3
  replace hr3:=bF hr3 hz3
  have tt3:=(aM hblk3).2.2.2.2.2.2.2.2.2.2.2.1
  have uu3:=ah hblk3 11
  have hD4:=hD3.own hbx 11 (.slice ac c.length cc)
  have eF:=F8 hblk3 (.slice ac c.length cc)
  have Gc:=aL hr3 hblk3 (by decide) 11 (.slice ac c.length cc)
  have l9:=bV hD4.1 (⟨#[102,114,111,109]⟩:ByteArray)
  rw [hq2]at l9
  try simp only [dJ]at l9
  go_wp2_with fail
  refine l9.mono ?_;rintro e w5 ⟨rfl,hd5⟩
  have hD5:=hD4.trans hd5
  have hblk5:=hd5.blk eF dH
  have Gd:=hd5.row Gc hle
  have om:=eT hD5.1
  rw [hq3]at om
  try simp only at om
  go_wp2_with fail
  refine om.mono ?_;rintro e w6 ⟨rfl,hd6⟩
  have hD6:=hD5.trans hd6
  have hblk6:=hd6.blk hblk5 dH
  have vL:=hd6.row Gd hle
  have tt6:=(aM hblk6).2.2.1
  have uu6:=ah hblk6 2
  have hD7:=hD6.own hbx 2 (.string o)
  have hblk7:=xC hblk6 o
  have vM:=aL vL hblk6 (by decide) 2 (.string o)
  have tJ:=jN hD7 hbx (x:={Sx.zero with kind:=7,aO:=c,bM:=o}) hblk7 false
  rw [hq4]at tJ
  go_wp2_with fail
  refine tJ.mono ?_;rintro e w8 ⟨rfl,yL,jO,hk8⟩
  have Aj:=hk8.row vM hle hblk7 (by decide)
  have Jq:=nZ yL.1 false
  rw [FQ]at Jq
  try simp only at Jq
  go_wp2_with fail
  refine Jq.mono ?_;rintro e w9 ⟨aq,cq,rfl,K4,hr9⟩
  have tK:=yL.trans K4
  have mh:=K4.blk jO dH
  have Gg:=K4.row Aj hle
  have hz9:=yL.size
  try simp only [aA,dJ]at hz9 hr9
  replace hr9:=bF hr9 hz9
  have tt9:=(aM mh).2.2.2.2.2.2.2.2.2.2.2.2.2.1
  have uu9:=ah mh 13
  have jY:=tK.own hbx 13 (.slice aq q.length cq)
  have um:=oh mh (.slice aq q.length cq)
  have Ak:=aL Gg mh (by decide) 13 (.slice aq q.length cq)
  have Jr:=aL hr9 mh (by decide) 13 (.slice aq q.length cq)
  have hBx:=lu
  have Jo:=qW
  go_wp2_with (refine bA rfl _ rfl rfl rfl um ?_)
  go_ret
  rw [HE.out]
  exact ⟨_,_,_,_,rfl,jY,P5 (x:={Sx.zero with kind:=7,aO:=c,bM:=o}) HU (World.ownsRow_nil _ _ _ _) Ak (World.ownsRow_nil _ _ _ _) Jr⟩
theorem Tryz.aa9:O5 Tryz.prog 153 59 (.agg #[.int .i64 0, .string ⟨#[]⟩, .int .i64 0]) 3 32:=xA Tryz.underlying153 (by kernel_rfl) rfl (by decide)
def pI (t:Tm):List Value:= [.int .i64 t.ty, .string t.s, .int .i64 t.n]
def oo (l:List Tm):List Value:=l.flatMap pI
theorem K5 (X:Tx) (σ:Ps):σ.i≤(X.value σ).2.i:=by
 unfold Tx.value
 split
 · show σ.i≤σ.i+1;omega
 · split
   · show σ.i≤σ.i+1;omega
   · show σ.i≤(σ.wrong _).i;rw [mZ];exact Nat.le_refl _
theorem eG {w:World}{b1 b2:Nat}{e1 e2:TypeId}{s1 s2 n1 n2:Nat}{v u:Value}{xs ys:List Value}(hv:w.ownsRow b1 e1 s1 v n1 xs) (hu:w.ownsRow b2 e2 s2 u n2 ys) (hne:e1≠e2):Apart v u:=by
 intro g h1 h2
 rcases hv.2 with ⟨rfl,_⟩|⟨g1,c1,Y0,rfl,_,k1,_⟩
 · cases h1
 · rcases hu.2 with ⟨rfl,_⟩|⟨g2,c2,ad1,rfl,_,k2,_⟩
   · cases h2
   · cases h1;cases h2
     rw [k1]at k2
     injection k2 with k2
     injection k2 with _ k2 _
     exact hne k2
theorem fG {w:World}{b1 bx:Nat}{e1 T:TypeId}{s1 n1:Nat}{v:Value}{xs:List Value}{C:Array Value}{fr:Nat×Nat}(hv:w.ownsRow b1 e1 s1 v n1 xs) (hx:w.heap[bx]? =some (.cells C T fr)) (hne:e1≠T):v.ownBlock≠some bx:=by
 intro h1
 rcases hv.2 with ⟨rfl,_⟩|⟨g1,c1,Y0,rfl,_,k1,_⟩
 · cases h1
 · cases h1
   rw [hx]at k1
   injection k1 with k1
   injection k1 with _ k1 _
   exact hne k1.symm
theorem Eu {w:World}{b1:Nat}{e1:TypeId}{s1 n:Nat}{a:Option Addr}{c:Nat}{xs:List Value}(hv:w.ownsRow b1 e1 s1 (.slice a n c) n xs):n≤c:=by
 rcases hv.2 with ⟨h,h0⟩|⟨g1,c1,Y0,h,_,k1,h2,_⟩
 · omega
 · cases h;exact h2
theorem gK:∀(l:List Tm) (k j:Nat) (h:k<l.length) (_:j<3),(oo l)[k*3+j]? =(pI l[k])[j]?
 |p::l,0,j,_,hj=>by
  simp only [oo,List.flatMap_cons,Nat.zero_mul,Nat.zero_add,List.getElem_cons_zero]
  rw [List.getElem?_append_left (by simp [pI];omega)]
 |p::l,k+1,j,h,hj=>by
  have:=gK l k j (by simp at h;omega) hj
  simp only [oo,List.flatMap_cons,List.getElem_cons_succ]at this⊢
  rw [List.getElem?_append_right (by simp [pI];omega)]
  have e:(k+1)*3+j - (pI p).length=k*3+j:=by simp [pI];omega
  rw [e];exact this
theorem qX (c:List ByteArray) (l:List Tm) (j:Nat) (h1:j<c.length) (h2:j<l.length):
 bQ (List.zipWith Pr.mk (c.take (j+1)) (l.take (j+1)))=bQ (List.zipWith Pr.mk (c.take j) (l.take j))++ [.string c[j], .int .i64 l[j].ty, .string l[j].s, .int .i64 l[j].n]:=by
 rw [List.take_succ_eq_append_getElem h1,List.take_succ_eq_append_getElem h2,List.zipWith_append (by rw [List.length_take,List.length_take];omega)]
 simp [bQ,jX]
theorem vN (c:List ByteArray) (l:List Tm) (m:Nat) (h:min c.length l.length=m):List.zipWith Pr.mk (c.take m) (l.take m)=List.zipWith Pr.mk c l:=by
 rw [←List.take_zipWith]
 exact List.take_of_length_le (by rw [List.length_zipWith];omega)
theorem vO (c:List ByteArray) (l:List Tm):(List.zipWith Pr.mk c l).length=min c.length l.length:=by rw [List.length_zipWith]
theorem vP (X:Tx) (most:Nat):∀n σ l,l.length≤(X.dA most n σ l).1.length∧(X.dA most n σ l).1.length≤l.length+n
 |0,σ,l=>⟨Nat.le_refl _,Nat.le_refl _⟩
 |n+1,σ,l=>by
  rw [Tx.dA]
  split
  · have h:=vP X most n (X.column σ.step l most).2 (X.column σ.step l most).1
    have:=pG X σ.step l most
    simp only
    omega
  · simp only;omega
theorem Gh (X:Tx) (σ:Ps) (most:Nat):1≤(X.columns σ most).1.length∧(X.columns σ most).1.length≤X.T.length+1:=by
 have h:=vP X most X.T.length (X.column σ [] most).2 (X.column σ [] most).1
 have:=pG X σ [] most
 unfold Tx.columns
 simp only [List.length_nil]at *
 omega
theorem yM (X:Tx):∀n σ l,l.length≤(X.fE n σ l).1.length
 |0,σ,l=>Nat.le_refl _
 |n+1,σ,l=>by
  rw [Tx.fE]
  split
  · have h:=yM X n (X.value σ.step).2 (l++ [(X.value σ.step).1])
    rw [List.length_append]at h
    simp only
    have:([(X.value σ.step).1]:List Tm).length=1:=rfl
    omega
  · simp only;omega
theorem iY {P:Program}{t e:TypeId}{z:Value}{size bytes:Nat}(E:O5 P t e z size bytes) {w:World}{ops:Array Oper}{o:Oper}{a:Act}{K:Act→World→Prop}{Q:Exit→Act→World→Prop}{G:Prop}(hgd:o.guard=none) (s x:Operand)
 (ho:o.op= .call {callee:= .builtin .append,args:= #[s,x],argTypes:= #[t,t]})
 (base:Nat) (v:Value) (n:Nat) (xs:List Value) (hs:a.eval s=v) (hown:w.ownsRow base e size v n xs)
 (ad:Addr) (c:Nat) (news:List Value) (hx:a.eval x= .slice (some ad) 1 c) (hl:news.length=size) (hnews:∀j u,news[j]? =some u→w.cell? (ad.add j)=some u) (h1:∀u∈news,u.oneCell' =true)
 (hn:(n+1)*bytes≤140737488355328∧n<140737488355328) (hbase:base≤w.heap.size)
 (h:∀g cap w',w'.ownsRow base e size (.slice (some ⟨g,0,none⟩) (n+1) cap) (n+1) (xs++news)→w.grownBy w' v.ownBlock→(v.ownBlock=some g∨g=w.heap.size)→g<w'.heap.size→K (a.put o.dst (.slice (some ⟨g,0,none⟩) (n+1) cap)) w'):
 if Region.wanted o (yielded ops a.tmps)=true then Oper.wp P o a w K Q else G:=by
 obtain ⟨i,hi,hz,hsize,hby⟩:=E.info
 exact step_append_lies w hgd s x t ho base e i z size bytes E.und hi hz hsize hby E.zs E.pos v n xs hs hown ad 1 c news hx (by rw [Nat.one_mul];exact hl) hnews h1 (by omega) (by have:=hn.2;unfold maxLen;omega) hn.1 hbase _ rfl h
theorem Jy {K:PK}{w:World}{σ:Ps}(h:PQ K w σ):
 Calls Tryz.prog 81 #[.pointer (some ⟨K.b,0,none⟩)] w (fK K w 156 (K.X.insert σ).1 (K.X.insert σ).2):=by
 have hle:=h.le
 have hD0:=Did.refl h
 obtain ⟨σ1,hq1⟩:∃r,K.X.must σ [(⟨#[105,110,116,111]⟩:ByteArray)]=r:=⟨_,rfl⟩
 obtain ⟨⟨o,σ2⟩,hq2⟩:∃r,K.X.name σ1=r:=⟨_,rfl⟩
 obtain ⟨σ3,hq3⟩:∃r,K.X.must σ2 [(⟨#[40]⟩:ByteArray)]=r:=⟨_,rfl⟩
 obtain ⟨⟨c,je⟩,hq4⟩:∃r,K.X.columns σ3 10=r:=⟨_,rfl⟩
 obtain ⟨lY,FQ⟩:∃r,K.X.must je [(⟨#[41]⟩:ByteArray),(⟨#[118,97,108,117,101,115]⟩:ByteArray),(⟨#[40]⟩:ByteArray)]=r:=⟨_,rfl⟩
 obtain ⟨⟨v0,Jl⟩,MC⟩:∃r,K.X.value lY=r:=⟨_,rfl⟩
 obtain ⟨⟨vs,σv⟩,hR⟩:∃r,K.X.fE K.X.T.length Jl [v0]=r:=⟨_,rfl⟩
 have hcl:0<c.length∧c.length≤K.X.T.length+1:=by have h:=Gh K.X σ3 10;rw [hq4]at h;exact h
 have HT:=Lib.hid K.hT
 go_enter Tryz.func81,Tryz.ntmps81
 have hm1:=bV hD0.1 (⟨#[105,110,116,111]⟩:ByteArray)
 rw [hq1]at hm1
 try simp only [aA,dJ]at hm1
 go_wp2_with fail
 refine hm1.mono ?_;rintro e w1 ⟨rfl,hd1⟩
 have hD1:=hD0.trans hd1
 have hm2:=eT hD1.1
 rw [hq2]at hm2
 try simp only at hm2
 go_wp2_with fail
 refine hm2.mono ?_;rintro e w2 ⟨rfl,hd2⟩
 have hD2:=hD1.trans hd2
 have hB3:=Ga 5 o
 have dH:K.L≤w2.heap.size:=Nat.le_trans hle hD2.size
 have hbx:w.heap.size≤w2.heap.size:=hD2.size
 have hblk3:(w2.alloc (.cells (aF {Sx.zero with kind:=5,bM:=o} ak ak ak ak ak) 31)).heap[w2.heap.size]? =some (.cells (aF {Sx.zero with kind:=5,bM:=o} ak ak ak ak ak) 31 (0,0)):=aB w2 _
 have hD3:=hD2.alloc (.cells (aF {Sx.zero with kind:=5,bM:=o} ak ak ak ak ak) 31)
 have kI:=bV hD3.1 (⟨#[40]⟩:ByteArray)
 rw [hq3]at kI
 try simp only [aA]at kI
 go_wp2_with (refine kV rfl _ _ rfl rfl rfl rfl rfl ?_)
 refine kI.mono ?_;rintro e w4 ⟨rfl,hd4⟩
 have hD4:=hD3.trans hd4
 have eF:=hd4.blk hblk3 dH
 have l9:=qR hD4.1 10 (by omega)
 rw [hq4]at l9
 try simp only at l9
 go_wp2_with fail
 refine l9.mono ?_;rintro e w5 ⟨ac,cc,rfl,hd5,sZ⟩
 have hD5:=hD4.trans hd5
 have hblk5:=hd5.blk eF dH
 have Y1:=hD4.size
 try simp only [aA,dJ]at Y1 sZ
 replace sZ:=bF sZ Y1
 have om:=YP hD5.1 (⟨#[41]⟩:ByteArray) (⟨#[118,97,108,117,101,115]⟩:ByteArray) (⟨#[40]⟩:ByteArray)
 rw [FQ]at om
 try simp only [aA,dJ]at om
 go_wp2_with fail
 refine om.mono ?_;rintro e w6 ⟨rfl,hd6⟩
 have hD6:=hD5.trans hd6
 have hblk6:=hd6.blk hblk5 dH
 have vL:=hd6.row sZ hle
 have uR:=vG hD6.1 MC
 try simp only [aA,dJ]at uR
 go_wp2_with fail
 refine uR.mono ?_;rintro e w7 ⟨rfl,hd7⟩
 have hD7:=hD6.trans hd7
 have hblk7:=hd7.blk hblk6 dH
 have vM:=hd7.row vL hle
 have hv:=ng w7 [.int .i64 v0.ty, .string v0.s, .int .i64 v0.n] 59 1 3 w.heap.size rfl (by decide) hD7.size
 have hDv:=hD7.alloc (.cells #[.int .i64 v0.ty, .string v0.s, .int .i64 v0.n] 59)
 have VN:=au hblk7 (.cells #[.int .i64 v0.ty, .string v0.s, .int .i64 v0.n] 59)
 have hcv:=vM.alloc (.cells #[.int .i64 v0.ty, .string v0.s, .int .i64 v0.n] 59)
 go_wp2_with fail
 go_loopw [5] (fun v wr=>∃(l:List Tm) (a:Option Addr) (c2:Nat) (σ2:Ps) (n:Nat),v= .slice a l.length c2∧Did K w σ2 wr∧wr.ownsRow w.heap.size 59 3 (.slice a l.length c2) l.length (oo l)∧wr.heap[w2.heap.size]? =some (.cells (aF {Sx.zero with kind:=5,bM:=o} ak ak ak ak ak) 31 (0,0))∧wr.ownsRow w.heap.size 9 1 (.slice ac c.length cc) c.length (c.map Value.string)∧Hid (K.X.fE n σ2 l=(vs,σv))∧K.X.T.length - σ2.i≤n∧l.length+n≤K.X.T.length+1) (fun _ wr=>K.X.T.length - TK K wr)
 case atStart=>exact ⟨[v0],_,_,Jl,K.X.T.length,rfl,hDv,hv,VN,hcv,hR,by omega,by show 1+_≤_;omega⟩
 case round=>
  clear hv hDv VN hcv
  obtain ⟨l,a,c2,σ2,n,rfl,hD,hown,hblk,hcr,HR,hn,hln⟩:=hrel
  have hmay:=aS hD.1 (⟨#[44]⟩:ByteArray)
  have YO:=uj hD.1
  have hsz:=hD.size
  unfold Tx.may at hmay
  cases hs:K.X.sees σ2 (⟨#[44]⟩:ByteArray)with
  |true=>
   obtain ⟨hlt,_⟩:=vD hs
   rw [hs,if_pos rfl]at hmay
   obtain ⟨n,rfl⟩:∃m,n=m+1:=⟨n - 1,by omega⟩
   have hst:σ2.step.i=σ2.i+1:=rfl
   have hi:=K5 K.X σ2.step
   obtain ⟨⟨t,σ3⟩,hx⟩:∃r,K.X.value σ2.step=r:=⟨_,rfl⟩
   have HR2:Hid (K.X.fE n σ3 (l++ [t])=(vs,σv)):=by
    have h:=HR.out
    rw [Tx.fE,hs,if_pos rfl]at h
    simp only [hx]at h
    exact Lib.hid h
   rw [hx]at hi
   replace hi:σ2.step.i≤σ3.i:=hi
   have hT:=HT.out
   go_wp2_with fail
   refine hmay.mono ?_;rintro e Cn ⟨rfl,bX⟩
   have eX:=hD.trans bX
   have hval:=vG eX.1 hx
   go_wp2_with fail
   refine hval.mono ?_;rintro e TP ⟨rfl,jr⟩
   have lS:=eX.trans jr
   have Ev:=jr.row (bX.row hown hle) hle
   have P9:=jr.blk (bX.blk hblk dH) dH
   have VO:=jr.row (bX.row hcr hle) hle
   have TQ:=lS.size
   go_wp2_with (at_builtin;refine app1 Tryz.aa9 rfl _ _ rfl w.heap.size _ _ _ rfl (Ev.alloc _) _ _ [.int .i64 t.ty, .string t.s, .int .i64 t.n] rfl rfl (bn _ _ _) (by intro u hu;simp at hu;rcases hu with rfl|rfl|rfl<;>rfl) (by omega) (by simp;omega) ?_;intro a' c' WB h22 hg MN)
   have ji:=(lS.alloc (.cells #[.int .i64 t.ty, .string t.s, .int .i64 t.n] 59)).grown hg (fun g hg2=>(Ev.lt g hg2).1)
   have Y2:=uj ji.1
   go_roundw
   case rel=>
    refine ⟨l++ [t],a',c',σ3,n,by rw [List.length_append];rfl,ji, ?_, ?_, ?_,HR2.out,by omega,by rw [List.length_append];show l.length+1+n≤_;omega⟩
    · rw [List.length_append];show WB.ownsRow _ _ _ (.slice a' (l.length+1) c') (l.length+1) (oo (l++ [t]));rw [show oo (l++ [t])=oo l++pI t by simp [oo]];exact h22
    · have hb:=au P9 (.cells #[.int .i64 t.ty, .string t.s, .int .i64 t.n] 59)
      rw [hg.block _ (aC hb) (fun e=>fG Ev P9 (by decide) e.symm)];exact hb
    · exact (eG (Ev.alloc (.cells #[.int .i64 t.ty, .string t.s, .int .i64 t.n] 59)) (VO.alloc _) (by decide)).keep (VO.alloc _) hg
   case measure=>rw [YO,Y2];omega
  |false=>
   rw [hs,if_neg (by decide)]at hmay
   have HR2:l=vs∧σ2=σv:=by
    have h:=HR.out
    cases n with
    |zero=>cases h;exact ⟨rfl,rfl⟩
    |succ n=>rw [Tx.fE,hs,if_neg (by decide)]at h;cases h;exact ⟨rfl,rfl⟩
   obtain ⟨rfl,rfl⟩:=HR2
   have hlv:0<l.length:=by have h:=yM K.X K.X.T.length Jl [v0];rw [hR]at h;exact h
   have hlc:0<c.length:=hcl.1
   have ad2:=hcl.2
   have hT:=HT.out
   go_wp2_with fail
   refine hmay.mono ?_;rintro e Cn ⟨rfl,bX⟩
   have eX:=hD.trans bX
   have kJ:=bX.row hown hle
   have gY:=bX.blk hblk dH
   have WC:=bX.row hcr hle
   have hse:=vC eX.1 (⟨#[41]⟩:ByteArray)
   cases hs2:K.X.sees σ2 (⟨#[41]⟩:ByteArray)with
   |false=>
    have WE:Hid ((if (K.X.sees σ2 (⟨#[41]⟩:ByteArray)&&l.length !=c.length)=true then K.X.fail σ2 else σ2)=σ2):=by show _=_;rw [hs2];rfl
    rw [hs2]at hse
    go_wp2_with fail
    refine hse.mono ?_;rintro e TP ⟨rfl,qF⟩
    have jr:=(Did.refl eX.1).below qF
    have lS:=eX.trans jr
    have Al:=jr.row kJ hle
    have Gi:=jr.blk gY dH
    have hc21:=jr.row WC hle
    have Qa:=bV lS.1 (⟨#[41]⟩:ByteArray)
    go_wp2_with fail
    refine Qa.mono ?_;rintro e WB ⟨rfl,jZ⟩
    have ji:=lS.trans jZ
    have mU:=jZ.row Al hle
    have Am:=jZ.blk Gi dH
    have hc22:=jZ.row hc21 hle
    have hcap:=Eu hc22
    obtain ⟨_,_,hsl,hgc⟩:=aY hc22
    cases hsl
    obtain ⟨gc,rfl,_,Y3,hcc⟩:=hgc hlc
    obtain ⟨_,_,hsl,hgv⟩:=aY mU
    cases hsl
    obtain ⟨gv,rfl,_,Y4,hvv⟩:=hgv hlv
    clear hcc hgc hvv hgv
    have q0:(0:Int)≤(c.length:Int):=by omega
    have q1:(0:Int)≤(l.length:Int):=by omega
    by_cases hcv:c.length≤l.length
    · have q2:¬(l.length:Int)<(c.length:Int):=by omega
      have q3:(c.length:Int)≤(l.length:Int):=by omega
      have q4:(c.length:Int)≤(cc:Int):=by omega
      go_wp2_with fail
      go_loopw [6,7,56] (fun _ _ i wr=>∃(j:Nat) (a3:Option Addr) (c3:Nat),i= .int .i64 j∧j≤c.length∧Did K w (K.X.must σ2 [(⟨#[41]⟩:ByteArray)]) wr∧wr.heap[w2.heap.size]? =some (.cells (aF {Sx.zero with kind:=5,bM:=o} ak ak (.slice a3 j c3) ak ak) 31 (0,0))∧wr.ownsRow w.heap.size 61 4 (.slice a3 j c3) j (bQ (List.zipWith Pr.mk (c.take j) (l.take j)))∧wr.ownsRow w.heap.size 9 1 (.slice (some ⟨gc,0,none⟩) c.length cc) c.length (c.map Value.string)∧wr.ownsRow w.heap.size 59 3 (.slice (some ⟨gv,0,none⟩) l.length c2) l.length (oo l)) (fun _ _ i _=>c.length - (intOf i).toNat)
      case atStart=>exact ⟨0,none,0,rfl,by omega,ji,Am,World.ownsRow_nil _ _ _ _,hc22,mU⟩
      case round=>
       obtain ⟨j,a3,c3,rfl,hj,uo,hbr,hsr,hnr,zM⟩:=hrel
       by_cases TR:j<c.length
       · have p0:(j:Int)<(c.length:Int):=by omega
         have hjl:j<c.length:=by omega
         have p1:(0:Int)≤(j:Int):=by omega
         have p2:(j:Int)<(l.length:Int):=by omega
         have p3:(j:Int)<(c.length:Int):=by omega
         have k0:wr.cell? ⟨gc,j,none⟩=some (.string c[j]):=aV hnr j _ (by rw [List.getElem?_map,List.getElem?_eq_getElem hjl];rfl)
         have vQ:j<l.length:=by omega
         have k1:wr.cell? ⟨gv,j*3,none⟩=some (.int .i64 l[j].ty):=aV zM (j*3) _ (by have:=gK l j 0 vQ (by omega);rw [Nat.add_zero]at this;rw [this];rfl)
         have k2:wr.cell? ⟨gv,j*3+1,none⟩=some (.string l[j].s):=aV zM (j*3+1) _ (by rw [gK l j 1 vQ (by omega)];rfl)
         have k3:wr.cell? ⟨gv,j*3+2,none⟩=some (.int .i64 l[j].n):=aV zM (j*3+2) _ (by rw [gK l j 2 vQ (by omega)];rfl)
         have Y5:=(aM hbr).2.2.2.2.2.2.2.2.2.2.2.2.1
         have SL:=ah hbr 12
         have TS:=uo.size
         have z0:=aC hbr
         have z1:gc<wr.heap.size:=eY k0
         have z2:gv<wr.heap.size:=eY k1
         have HX:=Lib.hid (qX c l j hjl vQ)
         generalize c[j]=nm at *
         generalize l[j]=tm at *
         clear vQ
         go_wp2_with fail
         go_region_law (refine iY Tryz.vI rfl _ _ rfl w.heap.size _ _ _ rfl (hsr.alloc _) _ _ [.string nm, .int .i64 tm.ty, .string tm.s, .int .i64 tm.n] rfl rfl (fun j u hj=>by rw [jy,Nat.zero_add];exact bn _ _ _ j u hj) (by intro u hu;simp at hu;rcases hu with rfl|rfl|rfl|rfl<;>rfl) (by omega) (by simp;omega) ?_;intro g3 iH w3 h3 hg3 O6 hl3;have hb3:w3.heap[w2.heap.size]? =some (.cells (aF {Sx.zero with kind:=5,bM:=o} ak ak (.slice a3 j c3) ak ak) 31 (0,0)):=(hg3.block _ (aC (au hbr _)) (fun e=>fG hsr hbr (by decide) e.symm)).trans (au hbr _);have y3:=(aM hb3).2.2.2.2.2.2.2.2.2.2.2.2.1;have u3:=ah hb3 12)
         all_goals
          have hg4:(wr.alloc (.cells #[.string nm, .int .i64 tm.ty, .string tm.s, .int .i64 tm.n] 61)).grownBy w3 (Value.slice a3 j c3).ownBlock:=⟨hg3.os,hg3.tape,hg3.output,hg3.size,hg3.block⟩
          have hap:∀{e:TypeId} {sz nn:Nat} {u:Value} {ys:List Value},wr.ownsRow w.heap.size e sz u nn ys→61≠e→w3.ownsRow w.heap.size e sz u nn ys:=fun hu hne=>(eG hsr hu hne).keep (hu.alloc _) hg4
          have hD3:=(uo.alloc _).grown hg4 (fun g hg2=>(hsr.lt g hg2).1)
          rw [←HX.out]at h3
          go_wp2_with fail
          go_roundw
          case rel=>exact ⟨j+1,some ⟨g3,0,none⟩,iH,by go_num,by omega,hD3.own hbx 12 _,og hb3 _,aL h3 hb3 (by decide) 12 _,aL (hap hnr (by decide)) hb3 (by decide) 12 _,aL (hap zM (by decide)) hb3 (by decide) 12 _⟩
          case measure=>simp [intOf];omega
       · have mo:j=c.length:=by omega
         subst mo
         have HZ:=vN c l (c.length) (by omega)
         have TT:=vO c l
         rw [HZ]at hsr
         clear HZ
         obtain ⟨Z,hZ⟩:∃Z,List.zipWith Pr.mk c l=Z:=⟨_,rfl⟩
         rw [hZ]at hsr TT
         obtain ⟨⟨xu,TU⟩,hu⟩:∃r,K.X.using_ (K.X.must σ2 [(⟨#[41]⟩:ByteArray)]) true {Sx.zero with kind:=5,bM:=o,sets:=Z}=r:=⟨_,rfl⟩
         have HU:=Lib.hid (lC K.X _ _ _ _ _ hu)
         have Gj:=jN uo hbx (x:={Sx.zero with kind:=5,bM:=o,sets:=Z}) hbr true
         rw [hu]at Gj
         go_wp2_with fail
         refine Gj.mono ?_;rintro e yN ⟨rfl,Ew,kK,Ey⟩
         have Ez:=Ey.row hsr hle hbr (by decide)
         have hBx:=lu
         have Jo:=qW
         go_wp2_with (refine bA rfl _ rfl rfl rfl kK ?_)
         go_ret
         have HE:Hid (K.X.insert σ=(xu,TU)):=by
          show _=_
          have hi:=WE.out
          unfold Tx.insert
          simp only [hq1,hq2,hq3,hq4,FQ,MC,hR,hi,hZ,hu]
         rw [HE.out]
         refine ⟨ak,ak,_,ak,rfl,Ew, ?_⟩
         obtain ⟨u1,u2,rfl⟩:=HU.out
         refine ⟨World.ownsRow_nil _ _ _ _,World.ownsRow_nil _ _ _ _, ?_,World.ownsRow_nil _ _ _ _⟩
         show yN.ownsRow w.heap.size _ 4 _ Z.length (bQ Z)
         rw [show Z.length=c.length by omega]
         exact Ez
    · have q2:(l.length:Int)<(c.length:Int):=by omega
      have q3:¬(c.length:Int)≤(l.length:Int):=by omega
      have q4:(l.length:Int)≤(cc:Int):=by omega
      go_wp2_with fail
      go_loopw [6,7,56] (fun _ _ i wr=>∃(j:Nat) (a3:Option Addr) (c3:Nat),i= .int .i64 j∧j≤l.length∧Did K w (K.X.must σ2 [(⟨#[41]⟩:ByteArray)]) wr∧wr.heap[w2.heap.size]? =some (.cells (aF {Sx.zero with kind:=5,bM:=o} ak ak (.slice a3 j c3) ak ak) 31 (0,0))∧wr.ownsRow w.heap.size 61 4 (.slice a3 j c3) j (bQ (List.zipWith Pr.mk (c.take j) (l.take j)))∧wr.ownsRow w.heap.size 9 1 (.slice (some ⟨gc,0,none⟩) c.length cc) c.length (c.map Value.string)∧wr.ownsRow w.heap.size 59 3 (.slice (some ⟨gv,0,none⟩) l.length c2) l.length (oo l)) (fun _ _ i _=>l.length - (intOf i).toNat)
      case atStart=>exact ⟨0,none,0,rfl,by omega,ji,Am,World.ownsRow_nil _ _ _ _,hc22,mU⟩
      case round=>
       obtain ⟨j,a3,c3,rfl,hj,uo,hbr,hsr,hnr,zM⟩:=hrel
       by_cases TR:j<l.length
       · have p0:(j:Int)<(l.length:Int):=by omega
         have hjl:j<c.length:=by omega
         have p1:(0:Int)≤(j:Int):=by omega
         have p2:(j:Int)<(l.length:Int):=by omega
         have p3:(j:Int)<(c.length:Int):=by omega
         have k0:wr.cell? ⟨gc,j,none⟩=some (.string c[j]):=aV hnr j _ (by rw [List.getElem?_map,List.getElem?_eq_getElem hjl];rfl)
         have vQ:j<l.length:=by omega
         have k1:wr.cell? ⟨gv,j*3,none⟩=some (.int .i64 l[j].ty):=aV zM (j*3) _ (by have:=gK l j 0 vQ (by omega);rw [Nat.add_zero]at this;rw [this];rfl)
         have k2:wr.cell? ⟨gv,j*3+1,none⟩=some (.string l[j].s):=aV zM (j*3+1) _ (by rw [gK l j 1 vQ (by omega)];rfl)
         have k3:wr.cell? ⟨gv,j*3+2,none⟩=some (.int .i64 l[j].n):=aV zM (j*3+2) _ (by rw [gK l j 2 vQ (by omega)];rfl)
         have Y5:=(aM hbr).2.2.2.2.2.2.2.2.2.2.2.2.1
         have SL:=ah hbr 12
         have TS:=uo.size
         have z0:=aC hbr
         have z1:gc<wr.heap.size:=eY k0
         have z2:gv<wr.heap.size:=eY k1
         have HX:=Lib.hid (qX c l j hjl vQ)
         generalize c[j]=nm at *
         generalize l[j]=tm at *
         clear vQ
         go_wp2_with fail
         go_region_law (refine iY Tryz.vI rfl _ _ rfl w.heap.size _ _ _ rfl (hsr.alloc _) _ _ [.string nm, .int .i64 tm.ty, .string tm.s, .int .i64 tm.n] rfl rfl (fun j u hj=>by rw [jy,Nat.zero_add];exact bn _ _ _ j u hj) (by intro u hu;simp at hu;rcases hu with rfl|rfl|rfl|rfl<;>rfl) (by omega) (by simp;omega) ?_;intro g3 iH w3 h3 hg3 O6 hl3;have hb3:w3.heap[w2.heap.size]? =some (.cells (aF {Sx.zero with kind:=5,bM:=o} ak ak (.slice a3 j c3) ak ak) 31 (0,0)):=(hg3.block _ (aC (au hbr _)) (fun e=>fG hsr hbr (by decide) e.symm)).trans (au hbr _);have y3:=(aM hb3).2.2.2.2.2.2.2.2.2.2.2.2.1;have u3:=ah hb3 12)
         all_goals
          have hg4:(wr.alloc (.cells #[.string nm, .int .i64 tm.ty, .string tm.s, .int .i64 tm.n] 61)).grownBy w3 (Value.slice a3 j c3).ownBlock:=⟨hg3.os,hg3.tape,hg3.output,hg3.size,hg3.block⟩
          have hap:∀{e:TypeId} {sz nn:Nat} {u:Value} {ys:List Value},wr.ownsRow w.heap.size e sz u nn ys→61≠e→w3.ownsRow w.heap.size e sz u nn ys:=fun hu hne=>(eG hsr hu hne).keep (hu.alloc _) hg4
          have hD3:=(uo.alloc _).grown hg4 (fun g hg2=>(hsr.lt g hg2).1)
          rw [←HX.out]at h3
          go_wp2_with fail
          go_roundw
          case rel=>exact ⟨j+1,some ⟨g3,0,none⟩,iH,by go_num,by omega,hD3.own hbx 12 _,og hb3 _,aL h3 hb3 (by decide) 12 _,aL (hap hnr (by decide)) hb3 (by decide) 12 _,aL (hap zM (by decide)) hb3 (by decide) 12 _⟩
          case measure=>simp [intOf];omega
       · have mo:j=l.length:=by omega
         subst mo
         have HZ:=vN c l (l.length) (by omega)
         have TT:=vO c l
         rw [HZ]at hsr
         clear HZ
         obtain ⟨Z,hZ⟩:∃Z,List.zipWith Pr.mk c l=Z:=⟨_,rfl⟩
         rw [hZ]at hsr TT
         obtain ⟨⟨xu,TU⟩,hu⟩:∃r,K.X.using_ (K.X.must σ2 [(⟨#[41]⟩:ByteArray)]) true {Sx.zero with kind:=5,bM:=o,sets:=Z}=r:=⟨_,rfl⟩
         have HU:=Lib.hid (lC K.X _ _ _ _ _ hu)
         have Gj:=jN uo hbx (x:={Sx.zero with kind:=5,bM:=o,sets:=Z}) hbr true
         rw [hu]at Gj
         go_wp2_with fail
         refine Gj.mono ?_;rintro e yN ⟨rfl,Ew,kK,Ey⟩
         have Ez:=Ey.row hsr hle hbr (by decide)
         have hBx:=lu
         have Jo:=qW
         go_wp2_with (refine bA rfl _ rfl rfl rfl kK ?_)
         go_ret
         have HE:Hid (K.X.insert σ=(xu,TU)):=by
          show _=_
          have hi:=WE.out
          unfold Tx.insert
          simp only [hq1,hq2,hq3,hq4,FQ,MC,hR,hi,hZ,hu]
         rw [HE.out]
         refine ⟨ak,ak,_,ak,rfl,Ew, ?_⟩
         obtain ⟨u1,u2,rfl⟩:=HU.out
         refine ⟨World.ownsRow_nil _ _ _ _,World.ownsRow_nil _ _ _ _, ?_,World.ownsRow_nil _ _ _ _⟩
         show yN.ownsRow w.heap.size _ 4 _ Z.length (bQ Z)
         rw [show Z.length=l.length by omega]
         exact Ez
   |true=>
    rw [hs2]at hse
    by_cases hll:l.length=c.length
    · have WE:Hid ((if (K.X.sees σ2 (⟨#[41]⟩:ByteArray)&&l.length !=c.length)=true then K.X.fail σ2 else σ2)=σ2):=by show _=_;rw [hs2,hll];simp
      have q9:((l.length:Int) !=(c.length:Int))=false:=by rw [hll];simp
      go_wp2_with fail
      refine hse.mono ?_;rintro e TP ⟨rfl,qF⟩
      have jr:=(Did.refl eX.1).below qF
      have lS:=eX.trans jr
      have Al:=jr.row kJ hle
      have Gi:=jr.blk gY dH
      have hc21:=jr.row WC hle
      have Qa:=bV lS.1 (⟨#[41]⟩:ByteArray)
      go_wp2_with fail
      refine Qa.mono ?_;rintro e WB ⟨rfl,jZ⟩
      have ji:=lS.trans jZ
      have mU:=jZ.row Al hle
      have Am:=jZ.blk Gi dH
      have hc22:=jZ.row hc21 hle
      have hcap:=Eu hc22
      obtain ⟨_,_,hsl,hgc⟩:=aY hc22
      cases hsl
      obtain ⟨gc,rfl,_,Y3,hcc⟩:=hgc hlc
      obtain ⟨_,_,hsl,hgv⟩:=aY mU
      cases hsl
      obtain ⟨gv,rfl,_,Y4,hvv⟩:=hgv hlv
      clear hcc hgc hvv hgv
      have q0:(0:Int)≤(c.length:Int):=by omega
      have q1:(0:Int)≤(l.length:Int):=by omega
      by_cases hcv:c.length≤l.length
      · have q2:¬(l.length:Int)<(c.length:Int):=by omega
        have q3:(c.length:Int)≤(l.length:Int):=by omega
        have q4:(c.length:Int)≤(cc:Int):=by omega
        go_wp2_with fail
        go_loopw [6,7,56] (fun _ _ i wr=>∃(j:Nat) (a3:Option Addr) (c3:Nat),i= .int .i64 j∧j≤c.length∧Did K w (K.X.must σ2 [(⟨#[41]⟩:ByteArray)]) wr∧wr.heap[w2.heap.size]? =some (.cells (aF {Sx.zero with kind:=5,bM:=o} ak ak (.slice a3 j c3) ak ak) 31 (0,0))∧wr.ownsRow w.heap.size 61 4 (.slice a3 j c3) j (bQ (List.zipWith Pr.mk (c.take j) (l.take j)))∧wr.ownsRow w.heap.size 9 1 (.slice (some ⟨gc,0,none⟩) c.length cc) c.length (c.map Value.string)∧wr.ownsRow w.heap.size 59 3 (.slice (some ⟨gv,0,none⟩) l.length c2) l.length (oo l)) (fun _ _ i _=>c.length - (intOf i).toNat)
        case atStart=>exact ⟨0,none,0,rfl,by omega,ji,Am,World.ownsRow_nil _ _ _ _,hc22,mU⟩
        case round=>
         obtain ⟨j,a3,c3,rfl,hj,uo,hbr,hsr,hnr,zM⟩:=hrel
         by_cases TR:j<c.length
         · have p0:(j:Int)<(c.length:Int):=by omega
           have hjl:j<c.length:=by omega
           have p1:(0:Int)≤(j:Int):=by omega
           have p2:(j:Int)<(l.length:Int):=by omega
           have p3:(j:Int)<(c.length:Int):=by omega
           have k0:wr.cell? ⟨gc,j,none⟩=some (.string c[j]):=aV hnr j _ (by rw [List.getElem?_map,List.getElem?_eq_getElem hjl];rfl)
           have vQ:j<l.length:=by omega
           have k1:wr.cell? ⟨gv,j*3,none⟩=some (.int .i64 l[j].ty):=aV zM (j*3) _ (by have:=gK l j 0 vQ (by omega);rw [Nat.add_zero]at this;rw [this];rfl)
           have k2:wr.cell? ⟨gv,j*3+1,none⟩=some (.string l[j].s):=aV zM (j*3+1) _ (by rw [gK l j 1 vQ (by omega)];rfl)
           have k3:wr.cell? ⟨gv,j*3+2,none⟩=some (.int .i64 l[j].n):=aV zM (j*3+2) _ (by rw [gK l j 2 vQ (by omega)];rfl)
           have Y5:=(aM hbr).2.2.2.2.2.2.2.2.2.2.2.2.1
           have SL:=ah hbr 12
           have TS:=uo.size
           have z0:=aC hbr
           have z1:gc<wr.heap.size:=eY k0
           have z2:gv<wr.heap.size:=eY k1
           have HX:=Lib.hid (qX c l j hjl vQ)
           generalize c[j]=nm at *
           generalize l[j]=tm at *
           clear vQ
           go_wp2_with fail
           go_region_law (refine iY Tryz.vI rfl _ _ rfl w.heap.size _ _ _ rfl (hsr.alloc _) _ _ [.string nm, .int .i64 tm.ty, .string tm.s, .int .i64 tm.n] rfl rfl (fun j u hj=>by rw [jy,Nat.zero_add];exact bn _ _ _ j u hj) (by intro u hu;simp at hu;rcases hu with rfl|rfl|rfl|rfl<;>rfl) (by omega) (by simp;omega) ?_;intro g3 iH w3 h3 hg3 O6 hl3;have hb3:w3.heap[w2.heap.size]? =some (.cells (aF {Sx.zero with kind:=5,bM:=o} ak ak (.slice a3 j c3) ak ak) 31 (0,0)):=(hg3.block _ (aC (au hbr _)) (fun e=>fG hsr hbr (by decide) e.symm)).trans (au hbr _);have y3:=(aM hb3).2.2.2.2.2.2.2.2.2.2.2.2.1;have u3:=ah hb3 12)
           all_goals
            have hg4:(wr.alloc (.cells #[.string nm, .int .i64 tm.ty, .string tm.s, .int .i64 tm.n] 61)).grownBy w3 (Value.slice a3 j c3).ownBlock:=⟨hg3.os,hg3.tape,hg3.output,hg3.size,hg3.block⟩
            have hap:∀{e:TypeId} {sz nn:Nat} {u:Value} {ys:List Value},wr.ownsRow w.heap.size e sz u nn ys→61≠e→w3.ownsRow w.heap.size e sz u nn ys:=fun hu hne=>(eG hsr hu hne).keep (hu.alloc _) hg4
            have hD3:=(uo.alloc _).grown hg4 (fun g hg2=>(hsr.lt g hg2).1)
            rw [←HX.out]at h3
            go_wp2_with fail
            go_roundw
            case rel=>exact ⟨j+1,some ⟨g3,0,none⟩,iH,by go_num,by omega,hD3.own hbx 12 _,og hb3 _,aL h3 hb3 (by decide) 12 _,aL (hap hnr (by decide)) hb3 (by decide) 12 _,aL (hap zM (by decide)) hb3 (by decide) 12 _⟩
            case measure=>simp [intOf];omega
         · have mo:j=c.length:=by omega
           subst mo
           have HZ:=vN c l (c.length) (by omega)
           have TT:=vO c l
           rw [HZ]at hsr
           clear HZ
           obtain ⟨Z,hZ⟩:∃Z,List.zipWith Pr.mk c l=Z:=⟨_,rfl⟩
           rw [hZ]at hsr TT
           obtain ⟨⟨xu,TU⟩,hu⟩:∃r,K.X.using_ (K.X.must σ2 [(⟨#[41]⟩:ByteArray)]) true {Sx.zero with kind:=5,bM:=o,sets:=Z}=r:=⟨_,rfl⟩
           have HU:=Lib.hid (lC K.X _ _ _ _ _ hu)
           have Gj:=jN uo hbx (x:={Sx.zero with kind:=5,bM:=o,sets:=Z}) hbr true
           rw [hu]at Gj
           go_wp2_with fail
           refine Gj.mono ?_;rintro e yN ⟨rfl,Ew,kK,Ey⟩
           have Ez:=Ey.row hsr hle hbr (by decide)
           have hBx:=lu
           have Jo:=qW
           go_wp2_with (refine bA rfl _ rfl rfl rfl kK ?_)
           go_ret
           have HE:Hid (K.X.insert σ=(xu,TU)):=by
            show _=_
            have hi:=WE.out
            unfold Tx.insert
            simp only [hq1,hq2,hq3,hq4,FQ,MC,hR,hi,hZ,hu]
           rw [HE.out]
           refine ⟨ak,ak,_,ak,rfl,Ew, ?_⟩
           obtain ⟨u1,u2,rfl⟩:=HU.out
           refine ⟨World.ownsRow_nil _ _ _ _,World.ownsRow_nil _ _ _ _, ?_,World.ownsRow_nil _ _ _ _⟩
           show yN.ownsRow w.heap.size _ 4 _ Z.length (bQ Z)
           rw [show Z.length=c.length by omega]
           exact Ez
      · exact absurd hll (by omega)
    · have WE:Hid ((if (K.X.sees σ2 (⟨#[41]⟩:ByteArray)&&l.length !=c.length)=true then K.X.fail σ2 else σ2)=K.X.fail σ2):=by show _=_;rw [hs2,if_pos (by simp [hll])]
      have q9:((l.length:Int) !=(c.length:Int))=true:=bne_iff_ne.2 (by omega)
      go_wp2_with fail
      refine hse.mono ?_;rintro e w31 ⟨rfl,Qb⟩
      have hd31:=(Did.refl eX.1).below Qb
      have Gl:=eX.trans hd31
      have abd:=iB Gl.1
      go_wp2_with fail
      refine abd.mono ?_;rintro e w32 ⟨rfl,m32,rfl⟩
      have hd32:=(Did.refl Gl.1).drewN m32
      have hw32:=gB hd32.1 (K.X.here σ2)
      go_wp2_with fail
      refine hw32.mono ?_;rintro e TP ⟨rfl,Ao⟩
      have jr:=(hd31.trans hd32).trans Ao
      have lS:Did K w (K.X.fail σ2) TP:=eX.trans jr
      have Al:=jr.row kJ hle
      have Gi:=jr.blk gY dH
      have hc21:=jr.row WC hle
      have Qa:=bV lS.1 (⟨#[41]⟩:ByteArray)
      go_wp2_with fail
      refine Qa.mono ?_;rintro e WB ⟨rfl,jZ⟩
      have ji:=lS.trans jZ
      have mU:=jZ.row Al hle
      have Am:=jZ.blk Gi dH
      have hc22:=jZ.row hc21 hle
      have hcap:=Eu hc22
      obtain ⟨_,_,hsl,hgc⟩:=aY hc22
      cases hsl
      obtain ⟨gc,rfl,_,Y3,hcc⟩:=hgc hlc
      obtain ⟨_,_,hsl,hgv⟩:=aY mU
      cases hsl
      obtain ⟨gv,rfl,_,Y4,hvv⟩:=hgv hlv
      clear hcc hgc hvv hgv
      have q0:(0:Int)≤(c.length:Int):=by omega
      have q1:(0:Int)≤(l.length:Int):=by omega
      by_cases hcv:c.length≤l.length
      · have q2:¬(l.length:Int)<(c.length:Int):=by omega
        have q3:(c.length:Int)≤(l.length:Int):=by omega
        have q4:(c.length:Int)≤(cc:Int):=by omega
        go_wp2_with fail
        go_loopw [6,7,56] (fun _ _ i wr=>∃(j:Nat) (a3:Option Addr) (c3:Nat),i= .int .i64 j∧j≤c.length∧Did K w (K.X.must (K.X.fail σ2) [(⟨#[41]⟩:ByteArray)]) wr∧wr.heap[w2.heap.size]? =some (.cells (aF {Sx.zero with kind:=5,bM:=o} ak ak (.slice a3 j c3) ak ak) 31 (0,0))∧wr.ownsRow w.heap.size 61 4 (.slice a3 j c3) j (bQ (List.zipWith Pr.mk (c.take j) (l.take j)))∧wr.ownsRow w.heap.size 9 1 (.slice (some ⟨gc,0,none⟩) c.length cc) c.length (c.map Value.string)∧wr.ownsRow w.heap.size 59 3 (.slice (some ⟨gv,0,none⟩) l.length c2) l.length (oo l)) (fun _ _ i _=>c.length - (intOf i).toNat)
        case atStart=>exact ⟨0,none,0,rfl,by omega,ji,Am,World.ownsRow_nil _ _ _ _,hc22,mU⟩
        case round=>
         obtain ⟨j,a3,c3,rfl,hj,uo,hbr,hsr,hnr,zM⟩:=hrel
         by_cases TR:j<c.length
         · have p0:(j:Int)<(c.length:Int):=by omega
           have hjl:j<c.length:=by omega
           have p1:(0:Int)≤(j:Int):=by omega
           have p2:(j:Int)<(l.length:Int):=by omega
           have p3:(j:Int)<(c.length:Int):=by omega
           have k0:wr.cell? ⟨gc,j,none⟩=some (.string c[j]):=aV hnr j _ (by rw [List.getElem?_map,List.getElem?_eq_getElem hjl];rfl)
           have vQ:j<l.length:=by omega
           have k1:wr.cell? ⟨gv,j*3,none⟩=some (.int .i64 l[j].ty):=aV zM (j*3) _ (by have:=gK l j 0 vQ (by omega);rw [Nat.add_zero]at this;rw [this];rfl)
           have k2:wr.cell? ⟨gv,j*3+1,none⟩=some (.string l[j].s):=aV zM (j*3+1) _ (by rw [gK l j 1 vQ (by omega)];rfl)
           have k3:wr.cell? ⟨gv,j*3+2,none⟩=some (.int .i64 l[j].n):=aV zM (j*3+2) _ (by rw [gK l j 2 vQ (by omega)];rfl)
           have Y5:=(aM hbr).2.2.2.2.2.2.2.2.2.2.2.2.1
           have SL:=ah hbr 12
           have TS:=uo.size
           have z0:=aC hbr
           have z1:gc<wr.heap.size:=eY k0
           have z2:gv<wr.heap.size:=eY k1
           have HX:=Lib.hid (qX c l j hjl vQ)
           generalize c[j]=nm at *
           generalize l[j]=tm at *
           clear vQ
           go_wp2_with fail
           go_region_law (refine iY Tryz.vI rfl _ _ rfl w.heap.size _ _ _ rfl (hsr.alloc _) _ _ [.string nm, .int .i64 tm.ty, .string tm.s, .int .i64 tm.n] rfl rfl (fun j u hj=>by rw [jy,Nat.zero_add];exact bn _ _ _ j u hj) (by intro u hu;simp at hu;rcases hu with rfl|rfl|rfl|rfl<;>rfl) (by omega) (by simp;omega) ?_;intro g3 iH w3 h3 hg3 O6 hl3;have hb3:w3.heap[w2.heap.size]? =some (.cells (aF {Sx.zero with kind:=5,bM:=o} ak ak (.slice a3 j c3) ak ak) 31 (0,0)):=(hg3.block _ (aC (au hbr _)) (fun e=>fG hsr hbr (by decide) e.symm)).trans (au hbr _);have y3:=(aM hb3).2.2.2.2.2.2.2.2.2.2.2.2.1;have u3:=ah hb3 12)
           all_goals
            have hg4:(wr.alloc (.cells #[.string nm, .int .i64 tm.ty, .string tm.s, .int .i64 tm.n] 61)).grownBy w3 (Value.slice a3 j c3).ownBlock:=⟨hg3.os,hg3.tape,hg3.output,hg3.size,hg3.block⟩
            have hap:∀{e:TypeId} {sz nn:Nat} {u:Value} {ys:List Value},wr.ownsRow w.heap.size e sz u nn ys→61≠e→w3.ownsRow w.heap.size e sz u nn ys:=fun hu hne=>(eG hsr hu hne).keep (hu.alloc _) hg4
            have hD3:=(uo.alloc _).grown hg4 (fun g hg2=>(hsr.lt g hg2).1)
            rw [←HX.out]at h3
            go_wp2_with fail
            go_roundw
            case rel=>exact ⟨j+1,some ⟨g3,0,none⟩,iH,by go_num,by omega,hD3.own hbx 12 _,og hb3 _,aL h3 hb3 (by decide) 12 _,aL (hap hnr (by decide)) hb3 (by decide) 12 _,aL (hap zM (by decide)) hb3 (by decide) 12 _⟩
            case measure=>simp [intOf];omega
         · have mo:j=c.length:=by omega
           subst mo
           have HZ:=vN c l (c.length) (by omega)
           have TT:=vO c l
           rw [HZ]at hsr
           clear HZ
           obtain ⟨Z,hZ⟩:∃Z,List.zipWith Pr.mk c l=Z:=⟨_,rfl⟩
           rw [hZ]at hsr TT
           obtain ⟨⟨xu,TU⟩,hu⟩:∃r,K.X.using_ (K.X.must (K.X.fail σ2) [(⟨#[41]⟩:ByteArray)]) true {Sx.zero with kind:=5,bM:=o,sets:=Z}=r:=⟨_,rfl⟩
           have HU:=Lib.hid (lC K.X _ _ _ _ _ hu)
           have Gj:=jN uo hbx (x:={Sx.zero with kind:=5,bM:=o,sets:=Z}) hbr true
           rw [hu]at Gj
           go_wp2_with fail
           refine Gj.mono ?_;rintro e yN ⟨rfl,Ew,kK,Ey⟩
           have Ez:=Ey.row hsr hle hbr (by decide)
           have hBx:=lu
           have Jo:=qW
           go_wp2_with (refine bA rfl _ rfl rfl rfl kK ?_)
           go_ret
           have HE:Hid (K.X.insert σ=(xu,TU)):=by
            show _=_
            have hi:=WE.out
            unfold Tx.insert
            simp only [hq1,hq2,hq3,hq4,FQ,MC,hR,hi,hZ,hu]
           rw [HE.out]
           refine ⟨ak,ak,_,ak,rfl,Ew, ?_⟩
           obtain ⟨u1,u2,rfl⟩:=HU.out
           refine ⟨World.ownsRow_nil _ _ _ _,World.ownsRow_nil _ _ _ _, ?_,World.ownsRow_nil _ _ _ _⟩
           show yN.ownsRow w.heap.size _ 4 _ Z.length (bQ Z)
           rw [show Z.length=c.length by omega]
           exact Ez
      · have q2:(l.length:Int)<(c.length:Int):=by omega
        have q3:¬(c.length:Int)≤(l.length:Int):=by omega
        have q4:(l.length:Int)≤(cc:Int):=by omega
        go_wp2_with fail
        go_loopw [6,7,56] (fun _ _ i wr=>∃(j:Nat) (a3:Option Addr) (c3:Nat),i= .int .i64 j∧j≤l.length∧Did K w (K.X.must (K.X.fail σ2) [(⟨#[41]⟩:ByteArray)]) wr∧wr.heap[w2.heap.size]? =some (.cells (aF {Sx.zero with kind:=5,bM:=o} ak ak (.slice a3 j c3) ak ak) 31 (0,0))∧wr.ownsRow w.heap.size 61 4 (.slice a3 j c3) j (bQ (List.zipWith Pr.mk (c.take j) (l.take j)))∧wr.ownsRow w.heap.size 9 1 (.slice (some ⟨gc,0,none⟩) c.length cc) c.length (c.map Value.string)∧wr.ownsRow w.heap.size 59 3 (.slice (some ⟨gv,0,none⟩) l.length c2) l.length (oo l)) (fun _ _ i _=>l.length - (intOf i).toNat)
        case atStart=>exact ⟨0,none,0,rfl,by omega,ji,Am,World.ownsRow_nil _ _ _ _,hc22,mU⟩
        case round=>
         obtain ⟨j,a3,c3,rfl,hj,uo,hbr,hsr,hnr,zM⟩:=hrel
         by_cases TR:j<l.length
         · have p0:(j:Int)<(l.length:Int):=by omega
           have hjl:j<c.length:=by omega
           have p1:(0:Int)≤(j:Int):=by omega
           have p2:(j:Int)<(l.length:Int):=by omega
           have p3:(j:Int)<(c.length:Int):=by omega
           have k0:wr.cell? ⟨gc,j,none⟩=some (.string c[j]):=aV hnr j _ (by rw [List.getElem?_map,List.getElem?_eq_getElem hjl];rfl)
           have vQ:j<l.length:=by omega
           have k1:wr.cell? ⟨gv,j*3,none⟩=some (.int .i64 l[j].ty):=aV zM (j*3) _ (by have:=gK l j 0 vQ (by omega);rw [Nat.add_zero]at this;rw [this];rfl)
           have k2:wr.cell? ⟨gv,j*3+1,none⟩=some (.string l[j].s):=aV zM (j*3+1) _ (by rw [gK l j 1 vQ (by omega)];rfl)
           have k3:wr.cell? ⟨gv,j*3+2,none⟩=some (.int .i64 l[j].n):=aV zM (j*3+2) _ (by rw [gK l j 2 vQ (by omega)];rfl)
           have Y5:=(aM hbr).2.2.2.2.2.2.2.2.2.2.2.2.1
           have SL:=ah hbr 12
           have TS:=uo.size
           have z0:=aC hbr
           have z1:gc<wr.heap.size:=eY k0
           have z2:gv<wr.heap.size:=eY k1
           have HX:=Lib.hid (qX c l j hjl vQ)
           generalize c[j]=nm at *
           generalize l[j]=tm at *
           clear vQ
           go_wp2_with fail
           go_region_law (refine iY Tryz.vI rfl _ _ rfl w.heap.size _ _ _ rfl (hsr.alloc _) _ _ [.string nm, .int .i64 tm.ty, .string tm.s, .int .i64 tm.n] rfl rfl (fun j u hj=>by rw [jy,Nat.zero_add];exact bn _ _ _ j u hj) (by intro u hu;simp at hu;rcases hu with rfl|rfl|rfl|rfl<;>rfl) (by omega) (by simp;omega) ?_;intro g3 iH w3 h3 hg3 O6 hl3;have hb3:w3.heap[w2.heap.size]? =some (.cells (aF {Sx.zero with kind:=5,bM:=o} ak ak (.slice a3 j c3) ak ak) 31 (0,0)):=(hg3.block _ (aC (au hbr _)) (fun e=>fG hsr hbr (by decide) e.symm)).trans (au hbr _);have y3:=(aM hb3).2.2.2.2.2.2.2.2.2.2.2.2.1;have u3:=ah hb3 12)
           all_goals
            have hg4:(wr.alloc (.cells #[.string nm, .int .i64 tm.ty, .string tm.s, .int .i64 tm.n] 61)).grownBy w3 (Value.slice a3 j c3).ownBlock:=⟨hg3.os,hg3.tape,hg3.output,hg3.size,hg3.block⟩
            have hap:∀{e:TypeId} {sz nn:Nat} {u:Value} {ys:List Value},wr.ownsRow w.heap.size e sz u nn ys→61≠e→w3.ownsRow w.heap.size e sz u nn ys:=fun hu hne=>(eG hsr hu hne).keep (hu.alloc _) hg4
            have hD3:=(uo.alloc _).grown hg4 (fun g hg2=>(hsr.lt g hg2).1)
            rw [←HX.out]at h3
            go_wp2_with fail
            go_roundw
            case rel=>exact ⟨j+1,some ⟨g3,0,none⟩,iH,by go_num,by omega,hD3.own hbx 12 _,og hb3 _,aL h3 hb3 (by decide) 12 _,aL (hap hnr (by decide)) hb3 (by decide) 12 _,aL (hap zM (by decide)) hb3 (by decide) 12 _⟩
            case measure=>simp [intOf];omega
         · have mo:j=l.length:=by omega
           subst mo
           have HZ:=vN c l (l.length) (by omega)
           have TT:=vO c l
           rw [HZ]at hsr
           clear HZ
           obtain ⟨Z,hZ⟩:∃Z,List.zipWith Pr.mk c l=Z:=⟨_,rfl⟩
           rw [hZ]at hsr TT
           obtain ⟨⟨xu,TU⟩,hu⟩:∃r,K.X.using_ (K.X.must (K.X.fail σ2) [(⟨#[41]⟩:ByteArray)]) true {Sx.zero with kind:=5,bM:=o,sets:=Z}=r:=⟨_,rfl⟩
           have HU:=Lib.hid (lC K.X _ _ _ _ _ hu)
           have Gj:=jN uo hbx (x:={Sx.zero with kind:=5,bM:=o,sets:=Z}) hbr true
           rw [hu]at Gj
           go_wp2_with fail
           refine Gj.mono ?_;rintro e yN ⟨rfl,Ew,kK,Ey⟩
           have Ez:=Ey.row hsr hle hbr (by decide)
           have hBx:=lu
           have Jo:=qW
           go_wp2_with (refine bA rfl _ rfl rfl rfl kK ?_)
           go_ret
           have HE:Hid (K.X.insert σ=(xu,TU)):=by
            show _=_
            have hi:=WE.out
            unfold Tx.insert
            simp only [hq1,hq2,hq3,hq4,FQ,MC,hR,hi,hZ,hu]
           rw [HE.out]
           refine ⟨ak,ak,_,ak,rfl,Ew, ?_⟩
           obtain ⟨u1,u2,rfl⟩:=HU.out
           refine ⟨World.ownsRow_nil _ _ _ _,World.ownsRow_nil _ _ _ _, ?_,World.ownsRow_nil _ _ _ _⟩
           show yN.ownsRow w.heap.size _ 4 _ Z.length (bQ Z)
           rw [show Z.length=l.length by omega]
           exact Ez
theorem EA (X:Tx) (σ:Ps) (s:ByteArray):σ.i≤(X.must σ [s]).i:=by
 show σ.i≤(X.bV σ s).i
 unfold Tx.bV
 split
 · show σ.i≤σ.i+1;omega
 · show σ.i≤(σ.wrong _).i;rw [mZ];exact Nat.le_refl _
def Y6 (K:PK) (v:Value) (w:World):Nat:=match v with| .bool true=>K.X.T.length - TK K w+1|_=>0
theorem pJ (l:List Pr) (p:Pr):bQ (l++ [p])=bQ l++jX p:=by simp [bQ]
theorem Gm (l:List ByteArray) (x:ByteArray):(l++ [x]).getLastD ⟨#[]⟩=x:=by simp
theorem yO (X:Tx) (σ:Ps) (l:List ByteArray) (most:Nat):∃x,(X.column σ l most).1=l++ [x]:=⟨_,rfl⟩
theorem Jz {K:PK}{w:World}{σ:Ps}(h:PQ K w σ):
 Calls Tryz.prog 82 #[.pointer (some ⟨K.b,0,none⟩)] w (fK K w 156 (K.X.update σ).1 (K.X.update σ).2):=by
 have hle:=h.le
 have hD0:=Did.refl h
 obtain ⟨⟨o,σ1⟩,hq1⟩:∃r,K.X.name σ=r:=⟨_,rfl⟩
 obtain ⟨⟨xu,σ2⟩,hq2⟩:∃r,K.X.using_ σ1 true {Sx.zero with kind:=6,bM:=o}=r:=⟨_,rfl⟩
 obtain ⟨σ3,hq3⟩:∃r,K.X.must σ2 [(⟨#[115,101,116]⟩:ByteArray)]=r:=⟨_,rfl⟩
 obtain ⟨⟨Zf,tL⟩,hR⟩:∃r,K.X.ku (K.X.T.length+1) σ3 [] []=r:=⟨_,rfl⟩
 obtain ⟨⟨q,σq⟩,hQ⟩:∃r,K.X.aP tL true=r:=⟨_,rfl⟩
 have HU:=Lib.hid (lC K.X _ _ _ _ _ hq2)
 have HE:Hid (K.X.update σ=({xu with sets:=Zf,aP:=q},σq)):=by show _=_;unfold Tx.update;simp only [hq1,hq2,hq3,hR,hQ]
 have HT:=Lib.hid K.hT
 go_enter Tryz.func82,Tryz.ntmps82
 have hm1:=eT hD0.1
 rw [hq1]at hm1
 try simp only at hm1
 go_wp2_with fail
 refine hm1.mono ?_;rintro e w1 ⟨rfl,hd1⟩
 have hD1:=hD0.trans hd1
 have hB2:=Ga 6 o
 have dH:K.L≤w1.heap.size:=Nat.le_trans hle hD1.size
 have hbx:w.heap.size≤w1.heap.size:=hD1.size
 have hblk2:(w1.alloc (.cells (aF {Sx.zero with kind:=6,bM:=o} ak ak ak ak ak) 31)).heap[w1.heap.size]? =some (.cells (aF {Sx.zero with kind:=6,bM:=o} ak ak ak ak ak) 31 (0,0)):=aB w1 _
 have hD2:=hD1.alloc (.cells (aF {Sx.zero with kind:=6,bM:=o} ak ak ak ak ak) 31)
 have jS:=jN hD2 hbx (x:={Sx.zero with kind:=6,bM:=o}) hblk2 true
 rw [hq2]at jS
 go_wp2_with (refine kV rfl _ _ rfl rfl rfl rfl rfl ?_)
 refine jS.mono ?_;rintro e w3 ⟨rfl,hD3,hblk3,hk3⟩
 have kI:=bV hD3.1 (⟨#[115,101,116]⟩:ByteArray)
 rw [hq3]at kI
 try simp only [aA,dJ]at kI
 go_wp2_with fail
 refine kI.mono ?_;rintro e w4 ⟨rfl,hd4⟩
 have hD4:=hD3.trans hd4
 have eF:=hd4.blk hblk3 dH
 go_wp2_with fail
 go_loopw [4,5] (fun names more wr=>∃(mb:Bool) (l:List ByteArray) (a:Option Addr) (c:Nat) (Z:List Pr) (a3:Option Addr) (c3:Nat) (σ2:Ps) (n:Nat),more= .bool mb∧names= .slice a l.length c∧Did K w σ2 wr∧wr.heap[w1.heap.size]? =some (.cells (aF xu ak ak (.slice a3 Z.length c3) ak ak) 31 (0,0))∧wr.ownsRow w.heap.size 61 4 (.slice a3 Z.length c3) Z.length (bQ Z)∧wr.ownsRow w.heap.size 9 1 (.slice a l.length c) l.length (l.map Value.string)∧Hid ((if mb then K.X.ku n σ2 l Z else (Z,σ2))=(Zf,tL))∧(mb=true→K.X.T.length - σ2.i<n)∧l.length+n≤K.X.T.length+1∧Hid (Z.length=l.length)) (fun _ more wr=>Y6 K more wr)
 case atStart=>exact ⟨true, [],none,0, [],none,0,σ3,K.X.T.length+1,rfl,rfl,hD4,eF,World.ownsRow_nil _ _ _ _,World.ownsRow_nil _ _ _ _,hR,fun _=>by omega,by simp,rfl⟩
 case round=>
  obtain ⟨mb,l,a,c,Z,a3,c3,σ2,n,rfl,rfl,hD,hb,hs,hnr,HR,hn,hln,TV⟩:=hrel
  have hT:=HT.out
  have YO:=uj hD.1
  have hsz:=hD.size
  cases mb with
  |false=>
   have HR2:(Z,σ2)=(Zf,tL):=HR.out
   cases HR2
   have hw:=nZ hD.1 true
   rw [hQ]at hw
   go_wp2_with fail
   refine hw.mono ?_;rintro e Cn ⟨aq,cq,rfl,bX,WG⟩
   have eX:=hD.trans bX
   have gY:=bX.blk hb dH
   have lD:=bX.row hs hle
   replace WG:=bF WG hsz
   have y20:=(aM gY).2.2.2.2.2.2.2.2.2.2.2.2.2.1
   have u20:=ah gY 13
   have qF:=oh gY (.slice aq q.length cq)
   have hBx:=lu
   have Jo:=qW
   go_wp2_with (refine bA rfl _ rfl rfl rfl qF ?_)
   go_ret
   rw [HE.out]
   refine ⟨ak,ak,_,_,rfl,eX.own hbx 13 _, ?_⟩
   obtain ⟨u1,u2,rfl⟩:=HU.out
   exact ⟨World.ownsRow_nil _ _ _ _,World.ownsRow_nil _ _ _ _,aL lD gY (by decide) 13 _,aL WG gY (by decide) 13 _⟩
  |true=>
   have hnn:=hn rfl
   clear hn
   obtain ⟨n,rfl⟩:∃m,n=m+1:=⟨n - 1,by omega⟩
   have Qc:=pF hD w.heap.size (Nat.le_refl _) hsz _ l 8 hnr (by omega) (by omega)
   have hi1:=Ah K.X σ2 l 8
   obtain ⟨nm,hnm⟩:=yO K.X σ2 l 8
   obtain ⟨⟨l3,σ3⟩,hc3⟩:∃r,K.X.column σ2 l 8=r:=⟨_,rfl⟩
   rw [hc3]at Qc hi1 hnm
   replace hnm:l3=l++ [nm]:=hnm
   replace hi1:σ2.i≤σ3.i:=hi1
   subst hnm
   have hi2:=EA K.X σ3 (⟨#[61]⟩:ByteArray)
   obtain ⟨je,h4⟩:∃r,K.X.must σ3 [(⟨#[61]⟩:ByteArray)]=r:=⟨_,rfl⟩
   rw [h4]at hi2
   have hi3:=K5 K.X je
   obtain ⟨⟨t,lY⟩,hv4⟩:∃r,K.X.value je=r:=⟨_,rfl⟩
   rw [hv4]at hi3
   replace hi3:je.i≤lY.i:=hi3
   have HR2:Hid ((if K.X.sees lY (⟨#[44]⟩:ByteArray)then K.X.ku n lY.step (l++ [nm]) (Z++ [⟨nm,t⟩])else (Z++ [⟨nm,t⟩],lY))=(Zf,tL)):=by
    have h:=HR.out
    rw [if_pos rfl,Tx.ku]at h
    simp only [hc3,h4,hv4,Gm]at h
    exact Lib.hid h
   go_wp2_with fail
   refine Qc.mono ?_;rintro e TP ⟨a2,c2,rfl,lS,Qd,hel⟩
   have qF:=hel.1 _ _ dH (fG hnr hb (by decide)) hb
   have TQ:=hel.row (eG hnr hs (by decide)) hs hle
   have Qe:=bV lS.1 (⟨#[61]⟩:ByteArray)
   rw [h4]at Qe
   go_wp2_with fail
   refine Qe.mono ?_;rintro e WB ⟨rfl,jZ⟩
   have ji:=lS.trans jZ
   have pK:=jZ.blk qF dH
   have WH:=jZ.row TQ hle
   have MN:=jZ.row Qd hle
   obtain ⟨_,_,hsl,hgn⟩:=aY MN
   cases hsl
   obtain ⟨gn,rfl,_,abe,_⟩:=hgn (by omega)
   have k22:=aV MN l.length (.string nm) (by simp)
   have y22:=(aM pK).2.2.2.2.2.2.2.2.2.2.2.2.1
   have z22:=aC pK
   have p0:IntKind.i64.wrap (((l.length+1:Nat):Int) - 1)=(l.length:Int):=by rw [IntWalk.i64_in _ (by omega)];omega
   have p0' :IntKind.i64.wrap (((l.length:Int)+1) - 1)=(l.length:Int):=by rw [IntWalk.i64_in _ (by omega)];omega
   have p3:IntKind.i64.wrap (l.length:Int)=(l.length:Int):=IntWalk.i64_in _ (by omega)
   have p1:(0:Int)≤(l.length:Int):=by omega
   have p2:(l.length:Int)<((l.length+1:Nat):Int):=by omega
   have p2' :(l.length:Int)<(l.length:Int)+1:=by omega
   have hZb:Z.length≤100001:=by have:=TV.out;omega
   go_wp2_with fail
   go_region_law (first|(refine iY Tryz.vI rfl _ _ rfl w.heap.size _ _ _ rfl (vR.alloc _) _ _ [.string nm, .int .i64 t.ty, .string t.s, .int .i64 t.n] rfl rfl (fun j u hj=>by rw [jy,Nat.zero_add];exact bn _ _ _ j u hj) (by intro u hu;simp at hu;rcases hu with rfl|rfl|rfl|rfl<;>rfl) (by omega) (by simp;omega) ?_;intro g3 iH w3 h3 hg3 O6 hl3;have hb3:w3.heap[w1.heap.size]? =some (.cells (aF xu ak ak (.slice a3 Z.length c3) ak ak) 31 (0,0)):=(hg3.block _ (aC (au qY _)) (fun e=>fG vR qY (by decide) e.symm)).trans (au qY _);have y3:=(aM hb3).2.2.2.2.2.2.2.2.2.2.2.2.1;have u3:=ah hb3 12)|(go_simp;go_at_call 127;refine (vG (K:=K) (σ:=je) (ji.drewN 1).1 hv4).mono ?_;rintro e Y7 ⟨rfl,vS⟩;have qY:=vS.blk pK dH;have vR:=vS.row WH hle;have Cw:=vS.row MN hle;have Gn:=(ji.drewN 1).trans vS;have y30:=(aM qY).2.2.2.2.2.2.2.2.2.2.2.2.1;have u30:=ah qY 12;have k30:=aV Cw l.length (.string nm) (by simp);have z30:=aC qY;have abg:=eY k30;have VP:=Gn.size))
   all_goals
    have hg4:(Y7.alloc (.cells #[.string nm, .int .i64 t.ty, .string t.s, .int .i64 t.n] 61)).grownBy w3 (Value.slice a3 Z.length c3).ownBlock:=⟨hg3.os,hg3.tape,hg3.output,hg3.size,hg3.block⟩
    have hD4:=((Gn.alloc _).grown hg4 (fun g hg2=>(vR.lt g hg2).1)).own hbx 12 (.slice (some ⟨g3,0,none⟩) (Z.length+1) iH)
    have hb4:=og hb3 (.slice (some ⟨g3,0,none⟩) (Z.length+1) iH)
    have hs4:=aL h3 hb3 (by decide) 12 (.slice (some ⟨g3,0,none⟩) (Z.length+1) iH)
    have Yu:=aL ((eG vR Cw (by decide)).keep (Cw.alloc _) hg4) hb3 (by decide) 12 (.slice (some ⟨g3,0,none⟩) (Z.length+1) iH)
    have hmay:=aS hD4.1 (⟨#[44]⟩:ByteArray)
    unfold Tx.may at hmay
    cases hse:K.X.sees lY (⟨#[44]⟩:ByteArray)with
    |true=>
     rw [hse,if_pos rfl]at hmay
     obtain ⟨hlt,_⟩:=vD hse
     go_wp2_with fail
     refine hmay.mono ?_;rintro e w6 ⟨rfl,hd6⟩
     have hD6:=hD4.trans hd6
     have hb6:=hd6.blk hb4 dH
     have hs6:=hd6.row hs4 hle
     have MO:=hd6.row Yu hle
     have WI:=uj hD6.1
     have hst:lY.step.i=lY.i+1:=rfl
     go_wp2_with fail
     go_roundw
     case rel=>
      refine ⟨true,l++ [nm],some ⟨gn,0,none⟩,c2,Z++ [⟨nm,t⟩],some ⟨g3,0,none⟩,iH,lY.step,n,rfl,by rw [List.length_append];rfl,hD6,by rw [List.length_append];exact hb6, ?_, ?_, ?_,(fun _=>by omega),by rw [List.length_append];show l.length+1+n≤_;omega,by show _=_;rw [List.length_append,List.length_append,TV.out];rfl⟩
      · rw [List.length_append,pJ];exact hs6
      · rw [List.length_append];exact MO
      · have h:=HR2.out;rw [hse,if_pos rfl]at h;show _=_;rw [if_pos rfl];exact h
     case measure=>
      show K.X.T.length - TK K w6+1<K.X.T.length - TK K wr+1
      rw [WI,YO];omega
    |false=>
     rw [hse,if_neg (by decide)]at hmay
     go_wp2_with fail
     refine hmay.mono ?_;rintro e w6 ⟨rfl,hd6⟩
     have hD6:=hD4.trans hd6
     have hb6:=hd6.blk hb4 dH
     have hs6:=hd6.row hs4 hle
     have MO:=hd6.row Yu hle
     go_wp2_with fail
     go_roundw
     case rel=>
      refine ⟨false,l++ [nm],some ⟨gn,0,none⟩,c2,Z++ [⟨nm,t⟩],some ⟨g3,0,none⟩,iH,lY,n,rfl,by rw [List.length_append];rfl,hD6,by rw [List.length_append];exact hb6, ?_, ?_, ?_,(fun h=>absurd h (by decide)),by rw [List.length_append];show l.length+1+n≤_;omega,by show _=_;rw [List.length_append,List.length_append,TV.out];rfl⟩
      · rw [List.length_append,pJ];exact hs6
      · rw [List.length_append];exact MO
      · have h:=HR2.out;rw [hse,if_neg (by decide)]at h;show _=_;rw [if_neg (by decide)];exact h
     case measure=>
      show 0<K.X.T.length - TK K wr+1
      omega
end Go.Proofs.YtfbgdjcnlnfoaaaGreatDoor
