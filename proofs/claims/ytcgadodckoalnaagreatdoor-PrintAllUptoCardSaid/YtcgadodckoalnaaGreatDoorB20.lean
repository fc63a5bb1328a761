/- Parts of a proof. -/
import Derived.Lib.AppendIntMem
import Derived.Deep.RegionHeld3
import Derived.Test.YtcgadodckoalnaaGreatDoorB06
import Derived.Test.YtcgadodckoalnaaGreatDoorB11
import Derived.Test.YtcgadodckoalnaaGreatDoorB19
set_option maxHeartbeats 2000000
set_option maxRecDepth 100000
namespace Go.Proofs.YtcgadodckoalnaaGreatDoor
open Go.Proofs.Tryz
open Go.RowKit
open aN
def Rd (w:World) (u:Value) (n:Nat) (xs:List Value):Prop:=
 ∃a cap,u= .slice a n cap∧(0<n→∃g o,a=some ⟨g,o,none⟩∧∀k v,xs[k]? =some v→w.cell? ⟨g,o+k,none⟩=some v)
theorem cell_of_block {w w' :World}{a:Addr}(h:w'.heap[a.block]? =w.heap[a.block]?):w'.cell? a=w.cell? a:=by
 unfold World.cell?;rw [h]
theorem aJ {w w' :World}{a:Addr}{v:Value}(hb:Below w.heap.size w w') (h:w.cell? a=some v):w'.cell? a=some v:=by
 have:=dZ h;rw [cell_of_block (hb.block _ this)];exact h
theorem Rd.below {w w' :World}{u:Value}{n:Nat}{xs:List Value}(h:Rd w u n xs) (hb:Below w.heap.size w w'):Rd w' u n xs:=by
 obtain ⟨a,cap,hu,hx⟩:=h;refine ⟨a,cap,hu,fun hn=> ?_⟩;obtain ⟨g,o,ha,hc⟩:=hx hn;exact ⟨g,o,ha,fun k v hk=>aJ hb (hc k v hk)⟩
theorem Rd.own {w:World}{base:Nat}{e:TypeId}{size n:Nat}{u:Value}{xs:List Value}(h:w.ownsRow base e size u n xs):Rd w u n xs:=by
 obtain ⟨a,cap,hu,hx⟩:=aY h;refine ⟨a,cap,hu,fun hn=> ?_⟩;obtain ⟨g,ha,_⟩:=hx hn;subst ha;refine ⟨g,0,rfl,fun k v hk=> ?_⟩;rw [Nat.zero_add];exact aS (hu▸h) k v hk
theorem jA {L:List Cl}{j:Nat}{q:Cl}(h:L[j]? =some q) (i:Nat) (hi:i<2):(iO L)[j*2+i]? =(mJ q)[i]? :=by
 obtain ⟨hj,rfl⟩:=List.getElem?_eq_some_iff.1 h;exact oZ L j i hj hi
theorem bF:∀{L:List Pr}{j:Nat}{q:Pr}(_:L[j]? =some q) (i:Nat) (_:i<4),(dI L)[j*4+i]? =(kI q)[i]?
 |p::l,0,q,h,i,hi=>by
  cases h;simp only [dI,List.flatMap_cons,Nat.zero_mul,Nat.zero_add];rw [List.getElem?_append_left (by simp [kI];omega)]
 |p::l,k+1,q,h,i,hi=>by
  have:=bF (L:=l) (j:=k) (q:=q) (by simpa using h) i hi;simp only [dI,List.flatMap_cons]at this⊢;rw [List.getElem?_append_right (by simp [kI];omega)];have e:(k+1)*4+i - (kI p).length=k*4+i:=by simp [kI];omega
  rw [e];exact this
def dF (sep:ByteArray) (l:List ByteArray):ByteArray:=⟨(Lib.join (l.map (·.data.toList)) sep.data.toList).toArray⟩
theorem uR (u:Value) (l:List ByteArray) (sep:ByteArray) (w:World) (hr:Rd w u l.length (l.map Value.string)) (hcap:∀a c,u= .slice a l.length c→l.length≤c) (hs:(dF sep l).size≤140737488355328) (hl:l.length≤1000):
 Calls prog 73 #[u, .string sep] w fun e w' =>e= .returned (.string (dF sep l))∧Below w.heap.size w w' :=by
 obtain ⟨a,cap,rfl,hx⟩:=hr;have hc:=hcap a cap rfl;cases l with
 |nil=>
  refine (Tryz.strings_Join_none a cap sep w).mono ?_;rintro e w' ⟨rfl,rfl⟩;exact ⟨rfl,Below.refl _ _⟩
 |cons x l=>
  obtain ⟨g,o,rfl,hg⟩:=hx (by simp);refine Tryz.strings_Join g o cap (x::l) sep w (fun j y hj=>hg j _ (by rw [List.getElem?_map,hj];rfl)) ?_ (by omega) hc ?_
  · have:=dZ (hg 0 (.string x) rfl);exact this
  · have:(dF sep (x::l)).size=(Lib.join ((x::l).map (·.data.toList)) sep.data.toList).length:=by unfold dF;simp [ByteArray.size]
    rw [←this];exact hs
theorem lH {w:World}{base:Nat}{e:TypeId}{size n:Nat}{u:Value}{xs:List Value}(h:w.ownsRow base e size u n xs):∀a c,u= .slice a n c→n≤c:=by
 intro a c hu;rcases h.2 with ⟨_,h0⟩|⟨g,cap,cur,rfl,_,_,hnc,_⟩
 · omega
 · cases hu;exact hnc
theorem LM {w:World}{u:Value}{L:List ByteArray}{sep:ByteArray}{T:ByteArray→ByteArray}(hl:L.length≤100) (hr:Rd w u L.length (L.map Value.string))
 (hf:∀q∈L,∀w',Below w.heap.size w w' →Calls prog 75 #[.string q] w' fun e w'' =>e= .returned (.string (T q))∧Below w'.heap.size w' w'')
 (hs:(dF sep (L.map T)).size≤140737488355328):
 Calls prog 74 #[u, .string sep, .func (.func 75) #[] #[]] w fun e w' =>e= .returned (.string (dF sep (L.map T)))∧Below w.heap.size w w' :=by
 obtain ⟨a,cap,rfl,hx0⟩:=hr;go_enter func74,ntmps74;go_wp2_with fail
 go_loopw [7,12] (fun out i wr=>∃(j:Nat) (a3:Option Addr) (c3:Nat),out= .slice a3 j c3∧i= .int .i64 j∧j≤L.length∧Below w.heap.size w wr∧wr.ownsRow w.heap.size 9 1 (.slice a3 j c3) j (((L.take j).map T).map Value.string)) (fun _ i _=>L.length - (intOf i).toNat)
 case atStart=>exact ⟨0,none,0,rfl,rfl,Nat.zero_le _,Below.refl _ _,World.ownsRow_nil _ _ _ _⟩
 case round=>
  obtain ⟨j,a3,c3,rfl,rfl,hj,hBr,hown⟩:=hrel;have hsz:=hBr.size;by_cases hjl:j<L.length
  · have p0:(j:Int)<(L.length:Int):=by omega
    have p1:(0:Int)≤(j:Int):=by omega
    have HJ:=Lib.hid (show j+1≤L.length from hjl);obtain ⟨g,o,rfl,hx⟩:=hx0 (by omega);obtain ⟨q,hq⟩:∃q,L[j]? =some q:=⟨_,List.getElem?_eq_getElem hjl⟩;have k0:=hx j (.string q) (by rw [List.getElem?_map,hq];rfl);have k0' :=aJ hBr k0;have hB1:=hBr;have hc:=hf q (List.mem_of_getElem? hq) _ hB1
    have HT:Hid (((L.take (j+1)).map T).map Value.string=((L.take j).map T).map Value.string++ [.string (T q)]):=by
     obtain ⟨hj2,rfl⟩:=List.getElem?_eq_some_iff.1 hq;show _=_;rw [List.take_succ_eq_append_getElem hj2,List.map_append,List.map_append];rfl
    clear hq;go_wp2_with fail;refine hc.mono ?_;rintro e w2 ⟨rfl,hb2⟩;have hB2:=hB1.trans (hb2.mono hB1.size);have hown2:=fC (hown) hb2;have hs2:=hB2.size;go_wp2_with (at_builtin;refine app1 Tryz.yg rfl _ _ rfl w.heap.size _ _ _ rfl (hown2.alloc _) _ _ [.string (T q)] rfl rfl (bg _ _ _) (by intro u hu;rw [List.mem_singleton.1 hu];rfl) (by have:=HJ.out;omega) (by simp;omega) ?_;intro a5 c5 w5 h5 hg5 I7);have AA:=below_app (hB2.alloc hs2 _) (by rw [av];omega) hg5 (fun g2 hg2=>(hown2.lt g2 hg2).1);go_wp2_with fail;go_roundw
    case rel=>exact ⟨j+1,a5,c5,rfl,by go_num,HJ.out,AA,by rw [HT.out];exact h5⟩
    case measure=>have hjj:=HJ.out;simp [intOf];omega
  · have mF:j=L.length:=by omega
    subst mF;rw [List.take_length]at hown;have hlen:(L.map T).length=L.length:=List.length_map ..;have hj:=uR (.slice a3 L.length c3) (L.map T) sep wr (by rw [hlen];exact Rd.own hown) (by rw [hlen];exact lH hown) hs (by omega);go_wp2_with fail;refine hj.mono ?_;rintro e w9 ⟨rfl,Oj⟩;go_wp2_with fail;go_ret;exact ⟨rfl,hBr.trans (Oj.mono hsz)⟩
theorem adO {w:World}{u:Value}{L:List Cl}{sep:ByteArray}{T:Cl→ByteArray}(hl:L.length≤100) (hr:Rd w u L.length (iO L))
 (hf:∀q∈L,∀w',Below w.heap.size w w' →Calls prog 30 #[.agg #[.string q.name, .int .i64 q.ty]] w' fun e w'' =>e= .returned (.string (T q))∧Below w'.heap.size w' w'')
 (hs:(dF sep (L.map T)).size≤140737488355328):
 Calls prog 29 #[u, .string sep, .func (.func 30) #[] #[]] w fun e w' =>e= .returned (.string (dF sep (L.map T)))∧Below w.heap.size w w' :=by
 obtain ⟨a,cap,rfl,hx0⟩:=hr;go_enter func29,ntmps29;go_wp2_with fail
 go_loopw [7,12] (fun out i wr=>∃(j:Nat) (a3:Option Addr) (c3:Nat),out= .slice a3 j c3∧i= .int .i64 j∧j≤L.length∧Below w.heap.size w wr∧wr.ownsRow w.heap.size 9 1 (.slice a3 j c3) j (((L.take j).map T).map Value.string)) (fun _ i _=>L.length - (intOf i).toNat)
 case atStart=>exact ⟨0,none,0,rfl,rfl,Nat.zero_le _,Below.refl _ _,World.ownsRow_nil _ _ _ _⟩
 case round=>
  obtain ⟨j,a3,c3,rfl,rfl,hj,hBr,hown⟩:=hrel;have hsz:=hBr.size;by_cases hjl:j<L.length
  · have p0:(j:Int)<(L.length:Int):=by omega
    have p1:(0:Int)≤(j:Int):=by omega
    have HJ:=Lib.hid (show j+1≤L.length from hjl);obtain ⟨g,o,rfl,hx⟩:=hx0 (by omega);obtain ⟨q,hq⟩:∃q,L[j]? =some q:=⟨_,List.getElem?_eq_getElem hjl⟩;have k0:=hx (j*2) (.string q.name) (by rw [show j*2=j*2+0 from rfl,jA hq 0 (by omega)];rfl);have k1:=hx (j*2+1) (.int .i64 q.ty) (by rw [jA hq 1 (by omega)];rfl);have k0' :wr.cell? ⟨g,o+j*2,none⟩=_:=aJ hBr k0;have k1' :wr.cell? ⟨g,o+j*2+1,none⟩=_:=aJ hBr k1;have hB1:=hBr.alloc hBr.size (.cells #[.string q.name, .int .i64 q.ty] 23);have hc:=hf q (List.mem_of_getElem? hq) _ hB1
    have HT:Hid (((L.take (j+1)).map T).map Value.string=((L.take j).map T).map Value.string++ [.string (T q)]):=by
     obtain ⟨hj2,rfl⟩:=List.getElem?_eq_some_iff.1 hq;show _=_;rw [List.take_succ_eq_append_getElem hj2,List.map_append,List.map_append];rfl
    clear hq;go_wp2_with fail;refine hc.mono ?_;rintro e w2 ⟨rfl,hb2⟩;have hB2:=hB1.trans (hb2.mono hB1.size);have hown2:=fC (hown.alloc _) hb2;have hs2:=hB2.size;go_wp2_with (at_builtin;refine app1 Tryz.yg rfl _ _ rfl w.heap.size _ _ _ rfl (hown2.alloc _) _ _ [.string (T q)] rfl rfl (bg _ _ _) (by intro u hu;rw [List.mem_singleton.1 hu];rfl) (by have:=HJ.out;omega) (by simp;omega) ?_;intro a5 c5 w5 h5 hg5 I7);have AA:=below_app (hB2.alloc hs2 _) (by rw [av];omega) hg5 (fun g2 hg2=>(hown2.lt g2 hg2).1);go_wp2_with fail;go_roundw
    case rel=>exact ⟨j+1,a5,c5,rfl,by go_num,HJ.out,AA,by rw [HT.out];exact h5⟩
    case measure=>have hjj:=HJ.out;simp [intOf];omega
  · have mF:j=L.length:=by omega
    subst mF;rw [List.take_length]at hown;have hlen:(L.map T).length=L.length:=List.length_map ..;have hj:=uR (.slice a3 L.length c3) (L.map T) sep wr (by rw [hlen];exact Rd.own hown) (by rw [hlen];exact lH hown) hs (by omega);go_wp2_with fail;refine hj.mono ?_;rintro e w9 ⟨rfl,Oj⟩;go_wp2_with fail;go_ret;exact ⟨rfl,hBr.trans (Oj.mono hsz)⟩
theorem YT {w:World}{u:Value}{L:List Pr}{sep:ByteArray}{T:Pr→ByteArray}(hl:L.length≤100) (hr:Rd w u L.length (dI L))
 (hf:∀q∈L,∀w',Below w.heap.size w w' →Calls prog 33 #[.agg #[.string q.name, .int .i64 q.t.ty, .string q.t.s, .int .i64 q.t.n]] w' fun e w'' =>e= .returned (.string (T q))∧Below w'.heap.size w' w'')
 (hs:(dF sep (L.map T)).size≤140737488355328):
 Calls prog 32 #[u, .string sep, .func (.func 33) #[] #[]] w fun e w' =>e= .returned (.string (dF sep (L.map T)))∧Below w.heap.size w w' :=by
 obtain ⟨a,cap,rfl,hx0⟩:=hr;go_enter func32,ntmps32;go_wp2_with fail
 go_loopw [7,12] (fun out i wr=>∃(j:Nat) (a3:Option Addr) (c3:Nat),out= .slice a3 j c3∧i= .int .i64 j∧j≤L.length∧Below w.heap.size w wr∧wr.ownsRow w.heap.size 9 1 (.slice a3 j c3) j (((L.take j).map T).map Value.string)) (fun _ i _=>L.length - (intOf i).toNat)
 case atStart=>exact ⟨0,none,0,rfl,rfl,Nat.zero_le _,Below.refl _ _,World.ownsRow_nil _ _ _ _⟩
 case round=>
  obtain ⟨j,a3,c3,rfl,rfl,hj,hBr,hown⟩:=hrel;have hsz:=hBr.size;by_cases hjl:j<L.length
  · have p0:(j:Int)<(L.length:Int):=by omega
    have p1:(0:Int)≤(j:Int):=by omega
    have HJ:=Lib.hid (show j+1≤L.length from hjl);obtain ⟨g,o,rfl,hx⟩:=hx0 (by omega);obtain ⟨q,hq⟩:∃q,L[j]? =some q:=⟨_,List.getElem?_eq_getElem hjl⟩;have k0:=hx (j*4) (.string q.name) (by rw [show j*4=j*4+0 from rfl,bF hq 0 (by omega)];rfl);have k1:=hx (j*4+1) (.int .i64 q.t.ty) (by rw [bF hq 1 (by omega)];rfl);have k2:=hx (j*4+2) (.string q.t.s) (by rw [bF hq 2 (by omega)];rfl);have k3:=hx (j*4+3) (.int .i64 q.t.n) (by rw [bF hq 3 (by omega)];rfl);have k0' :wr.cell? ⟨g,o+j*4,none⟩=_:=aJ hBr k0;have k1' :wr.cell? ⟨g,o+j*4+1,none⟩=_:=aJ hBr k1;have k2' :wr.cell? ⟨g,o+j*4+2,none⟩=_:=aJ hBr k2;have k3' :wr.cell? ⟨g,o+j*4+3,none⟩=_:=aJ hBr k3;have hB1:=hBr.alloc hBr.size (.cells #[.string q.name, .int .i64 q.t.ty, .string q.t.s, .int .i64 q.t.n] 62);have hc:=hf q (List.mem_of_getElem? hq) _ hB1
    have HT:Hid (((L.take (j+1)).map T).map Value.string=((L.take j).map T).map Value.string++ [.string (T q)]):=by
     obtain ⟨hj2,rfl⟩:=List.getElem?_eq_some_iff.1 hq;show _=_;rw [List.take_succ_eq_append_getElem hj2,List.map_append,List.map_append];rfl
    clear hq;go_wp2_with fail;refine hc.mono ?_;rintro e w2 ⟨rfl,hb2⟩;have hB2:=hB1.trans (hb2.mono hB1.size);have hown2:=fC (hown.alloc _) hb2;have hs2:=hB2.size;go_wp2_with (at_builtin;refine app1 Tryz.yg rfl _ _ rfl w.heap.size _ _ _ rfl (hown2.alloc _) _ _ [.string (T q)] rfl rfl (bg _ _ _) (by intro u hu;rw [List.mem_singleton.1 hu];rfl) (by have:=HJ.out;omega) (by simp;omega) ?_;intro a5 c5 w5 h5 hg5 I7);have AA:=below_app (hB2.alloc hs2 _) (by rw [av];omega) hg5 (fun g2 hg2=>(hown2.lt g2 hg2).1);go_wp2_with fail;go_roundw
    case rel=>exact ⟨j+1,a5,c5,rfl,by go_num,HJ.out,AA,by rw [HT.out];exact h5⟩
    case measure=>have hjj:=HJ.out;simp [intOf];omega
  · have mF:j=L.length:=by omega
    subst mF;rw [List.take_length]at hown;have hlen:(L.map T).length=L.length:=List.length_map ..;have hj:=uR (.slice a3 L.length c3) (L.map T) sep wr (by rw [hlen];exact Rd.own hown) (by rw [hlen];exact lH hown) hs (by omega);go_wp2_with fail;refine hj.mono ?_;rintro e w9 ⟨rfl,Oj⟩;go_wp2_with fail;go_ret;exact ⟨rfl,hBr.trans (Oj.mono hsz)⟩
theorem adP {w:World}{u:Value}{L:List Pr}{sep:ByteArray}{T:Pr→ByteArray}(hl:L.length≤100) (hr:Rd w u L.length (dI L))
 (hf:∀q∈L,∀w',Below w.heap.size w w' →Calls prog 34 #[.agg #[.string q.name, .int .i64 q.t.ty, .string q.t.s, .int .i64 q.t.n]] w' fun e w'' =>e= .returned (.string (T q))∧Below w'.heap.size w' w'')
 (hs:(dF sep (L.map T)).size≤140737488355328):
 Calls prog 32 #[u, .string sep, .func (.func 34) #[] #[]] w fun e w' =>e= .returned (.string (dF sep (L.map T)))∧Below w.heap.size w w' :=by
 obtain ⟨a,cap,rfl,hx0⟩:=hr;go_enter func32,ntmps32;go_wp2_with fail
 go_loopw [7,12] (fun out i wr=>∃(j:Nat) (a3:Option Addr) (c3:Nat),out= .slice a3 j c3∧i= .int .i64 j∧j≤L.length∧Below w.heap.size w wr∧wr.ownsRow w.heap.size 9 1 (.slice a3 j c3) j (((L.take j).map T).map Value.string)) (fun _ i _=>L.length - (intOf i).toNat)
 case atStart=>exact ⟨0,none,0,rfl,rfl,Nat.zero_le _,Below.refl _ _,World.ownsRow_nil _ _ _ _⟩
 case round=>
  obtain ⟨j,a3,c3,rfl,rfl,hj,hBr,hown⟩:=hrel;have hsz:=hBr.size;by_cases hjl:j<L.length
  · have p0:(j:Int)<(L.length:Int):=by omega
    have p1:(0:Int)≤(j:Int):=by omega
    have HJ:=Lib.hid (show j+1≤L.length from hjl);obtain ⟨g,o,rfl,hx⟩:=hx0 (by omega);obtain ⟨q,hq⟩:∃q,L[j]? =some q:=⟨_,List.getElem?_eq_getElem hjl⟩;have k0:=hx (j*4) (.string q.name) (by rw [show j*4=j*4+0 from rfl,bF hq 0 (by omega)];rfl);have k1:=hx (j*4+1) (.int .i64 q.t.ty) (by rw [bF hq 1 (by omega)];rfl);have k2:=hx (j*4+2) (.string q.t.s) (by rw [bF hq 2 (by omega)];rfl);have k3:=hx (j*4+3) (.int .i64 q.t.n) (by rw [bF hq 3 (by omega)];rfl);have k0' :wr.cell? ⟨g,o+j*4,none⟩=_:=aJ hBr k0;have k1' :wr.cell? ⟨g,o+j*4+1,none⟩=_:=aJ hBr k1;have k2' :wr.cell? ⟨g,o+j*4+2,none⟩=_:=aJ hBr k2;have k3' :wr.cell? ⟨g,o+j*4+3,none⟩=_:=aJ hBr k3;have hB1:=hBr.alloc hBr.size (.cells #[.string q.name, .int .i64 q.t.ty, .string q.t.s, .int .i64 q.t.n] 62);have hc:=hf q (List.mem_of_getElem? hq) _ hB1
    have HT:Hid (((L.take (j+1)).map T).map Value.string=((L.take j).map T).map Value.string++ [.string (T q)]):=by
     obtain ⟨hj2,rfl⟩:=List.getElem?_eq_some_iff.1 hq;show _=_;rw [List.take_succ_eq_append_getElem hj2,List.map_append,List.map_append];rfl
    clear hq;go_wp2_with fail;refine hc.mono ?_;rintro e w2 ⟨rfl,hb2⟩;have hB2:=hB1.trans (hb2.mono hB1.size);have hown2:=fC (hown.alloc _) hb2;have hs2:=hB2.size;go_wp2_with (at_builtin;refine app1 Tryz.yg rfl _ _ rfl w.heap.size _ _ _ rfl (hown2.alloc _) _ _ [.string (T q)] rfl rfl (bg _ _ _) (by intro u hu;rw [List.mem_singleton.1 hu];rfl) (by have:=HJ.out;omega) (by simp;omega) ?_;intro a5 c5 w5 h5 hg5 I7);have AA:=below_app (hB2.alloc hs2 _) (by rw [av];omega) hg5 (fun g2 hg2=>(hown2.lt g2 hg2).1);go_wp2_with fail;go_roundw
    case rel=>exact ⟨j+1,a5,c5,rfl,by go_num,HJ.out,AA,by rw [HT.out];exact h5⟩
    case measure=>have hjj:=HJ.out;simp [intOf];omega
  · have mF:j=L.length:=by omega
    subst mF;rw [List.take_length]at hown;have hlen:(L.map T).length=L.length:=List.length_map ..;have hj:=uR (.slice a3 L.length c3) (L.map T) sep wr (by rw [hlen];exact Rd.own hown) (by rw [hlen];exact lH hown) hs (by omega);go_wp2_with fail;refine hj.mono ?_;rintro e w9 ⟨rfl,Oj⟩;go_wp2_with fail;go_ret;exact ⟨rfl,hBr.trans (Oj.mono hsz)⟩
theorem adQ {w:World}{u:Value}{L:List Pr}{sep:ByteArray}{T:Pr→ByteArray}(hl:L.length≤100) (hr:Rd w u L.length (dI L))
 (hf:∀q∈L,∀w',Below w.heap.size w w' →Calls prog 37 #[.agg #[.string q.name, .int .i64 q.t.ty, .string q.t.s, .int .i64 q.t.n]] w' fun e w'' =>e= .returned (.string (T q))∧Below w'.heap.size w' w'')
 (hs:(dF sep (L.map T)).size≤140737488355328):
 Calls prog 32 #[u, .string sep, .func (.func 37) #[] #[]] w fun e w' =>e= .returned (.string (dF sep (L.map T)))∧Below w.heap.size w w' :=by
 obtain ⟨a,cap,rfl,hx0⟩:=hr;go_enter func32,ntmps32;go_wp2_with fail
 go_loopw [7,12] (fun out i wr=>∃(j:Nat) (a3:Option Addr) (c3:Nat),out= .slice a3 j c3∧i= .int .i64 j∧j≤L.length∧Below w.heap.size w wr∧wr.ownsRow w.heap.size 9 1 (.slice a3 j c3) j (((L.take j).map T).map Value.string)) (fun _ i _=>L.length - (intOf i).toNat)
 case atStart=>exact ⟨0,none,0,rfl,rfl,Nat.zero_le _,Below.refl _ _,World.ownsRow_nil _ _ _ _⟩
 case round=>
  obtain ⟨j,a3,c3,rfl,rfl,hj,hBr,hown⟩:=hrel;have hsz:=hBr.size;by_cases hjl:j<L.length
  · have p0:(j:Int)<(L.length:Int):=by omega
    have p1:(0:Int)≤(j:Int):=by omega
    have HJ:=Lib.hid (show j+1≤L.length from hjl);obtain ⟨g,o,rfl,hx⟩:=hx0 (by omega);obtain ⟨q,hq⟩:∃q,L[j]? =some q:=⟨_,List.getElem?_eq_getElem hjl⟩;have k0:=hx (j*4) (.string q.name) (by rw [show j*4=j*4+0 from rfl,bF hq 0 (by omega)];rfl);have k1:=hx (j*4+1) (.int .i64 q.t.ty) (by rw [bF hq 1 (by omega)];rfl);have k2:=hx (j*4+2) (.string q.t.s) (by rw [bF hq 2 (by omega)];rfl);have k3:=hx (j*4+3) (.int .i64 q.t.n) (by rw [bF hq 3 (by omega)];rfl);have k0' :wr.cell? ⟨g,o+j*4,none⟩=_:=aJ hBr k0;have k1' :wr.cell? ⟨g,o+j*4+1,none⟩=_:=aJ hBr k1;have k2' :wr.cell? ⟨g,o+j*4+2,none⟩=_:=aJ hBr k2;have k3' :wr.cell? ⟨g,o+j*4+3,none⟩=_:=aJ hBr k3;have hB1:=hBr.alloc hBr.size (.cells #[.string q.name, .int .i64 q.t.ty, .string q.t.s, .int .i64 q.t.n] 62);have hc:=hf q (List.mem_of_getElem? hq) _ hB1
    have HT:Hid (((L.take (j+1)).map T).map Value.string=((L.take j).map T).map Value.string++ [.string (T q)]):=by
     obtain ⟨hj2,rfl⟩:=List.getElem?_eq_some_iff.1 hq;show _=_;rw [List.take_succ_eq_append_getElem hj2,List.map_append,List.map_append];rfl
    clear hq;go_wp2_with fail;refine hc.mono ?_;rintro e w2 ⟨rfl,hb2⟩;have hB2:=hB1.trans (hb2.mono hB1.size);have hown2:=fC (hown.alloc _) hb2;have hs2:=hB2.size;go_wp2_with (at_builtin;refine app1 Tryz.yg rfl _ _ rfl w.heap.size _ _ _ rfl (hown2.alloc _) _ _ [.string (T q)] rfl rfl (bg _ _ _) (by intro u hu;rw [List.mem_singleton.1 hu];rfl) (by have:=HJ.out;omega) (by simp;omega) ?_;intro a5 c5 w5 h5 hg5 I7);have AA:=below_app (hB2.alloc hs2 _) (by rw [av];omega) hg5 (fun g2 hg2=>(hown2.lt g2 hg2).1);go_wp2_with fail;go_roundw
    case rel=>exact ⟨j+1,a5,c5,rfl,by go_num,HJ.out,AA,by rw [HT.out];exact h5⟩
    case measure=>have hjj:=HJ.out;simp [intOf];omega
  · have mF:j=L.length:=by omega
    subst mF;rw [List.take_length]at hown;have hlen:(L.map T).length=L.length:=List.length_map ..;have hj:=uR (.slice a3 L.length c3) (L.map T) sep wr (by rw [hlen];exact Rd.own hown) (by rw [hlen];exact lH hown) hs (by omega);go_wp2_with fail;refine hj.mono ?_;rintro e w9 ⟨rfl,Oj⟩;go_wp2_with fail;go_ret;exact ⟨rfl,hBr.trans (Oj.mono hsz)⟩
theorem zL:∀n:Nat,Lib.decDigits n=dec n:=
 K6 (C:=fun n=>Lib.decDigits n=dec n) (fun n h=>by rw [yU h,Lib.decDigits,dif_pos h]) (fun n h ih=>by rw [xJ h,Lib.decDigits,dif_neg (by omega),ih])
theorem abj (n:Int):(⟨(Lib.itoa n).toArray⟩:ah)=gY n:=by
 unfold Lib.itoa gY;by_cases h:n<0
 · rw [if_pos h,zL];simp [h,gJ]
 · rw [if_neg h,zL];have e:n.toNat=n.natAbs:=by omega
   simp [h,gJ,e]
theorem Cq (n:Int) (h0: -9223372036854775808≤n) (h1:n≤9223372036854775807) (w:World) (hG:Gp w):
 Calls prog 39 #[.int .i64 n] w fun e w' =>e= .returned (.string (gY n))∧Below w.heap.size w w' :=by
 refine (Tryz.strconv_Itoa n h0 h1 w hG.2.2).mono ?_;rintro e w' ⟨rfl,k,os,rfl⟩;rw [abj];exact ⟨rfl,Lib.below_grow _ _ (Nat.le_refl _) _ _⟩
theorem cZ (a b:ByteArray) (h:a.size+b.size≤1000000000000000):∀w,(Op.stringOp .add a b).run prog w= .ok (.string (a++b)) w:=fun w=>run_string_add_sum w _ _ (by omega)
theorem aM {a b:ByteArray}{m n:Nat}(h1:a.size≤m) (h2:b.size≤n) (h:m+n≤1000000000000000):∃r,a++b=r∧(∀w,(Op.stringOp .add a b).run prog w= .ok (.string r) w)∧r.size≤m+n:=
 ⟨_,rfl,cZ a b (by omega),by rw [ByteArray.size_append];omega⟩
def Ba (n:Int):Prop:= -9223372036854775808≤n∧n≤9223372036854775807
def DR (t:Tm):Prop:=Ba t.ty∧Ba t.n∧t.s.size≤2000000
theorem Cr (s:ByteArray) (w:World):Calls prog 75 #[.string s] w fun e w' =>e= .returned (.string s)∧Below w.heap.size w w' :=by
 go_enter func75,ntmps75;go_wp2_with fail;go_ret;exact ⟨rfl,Below.refl _ _⟩
theorem EH (q:Pr) (w:World):Calls prog 33 #[.agg #[.string q.name, .int .i64 q.t.ty, .string q.t.s, .int .i64 q.t.n]] w fun e w' =>e= .returned (.string q.name)∧Below w.heap.size w w' :=by
 have hB:=(Below.refl w.heap.size w).alloc (Nat.le_refl _) (.cells #[.string q.name, .int .i64 q.t.ty, .string q.t.s, .int .i64 q.t.n] 62);go_enter func33,ntmps33;go_wp2_with fail;go_ret;exact ⟨rfl,hB⟩
theorem U2 (q:Cl) (w:World) (hs:q.name.size≤2000000):Calls prog 30 #[.agg #[.string q.name, .int .i64 q.ty]] w fun e w' =>e= .returned (.string (aF (dN q)))∧Below w.heap.size w w' :=by
 have hB:=(Below.refl w.heap.size w).alloc (Nat.le_refl _) (.cells #[.string q.name, .int .i64 q.ty] 23);by_cases ht:q.ty=1
 · have ha:=cZ q.name (⟨#[32,84,69,88,84]⟩:ah) (by show _+5≤_;omega);have h1:(q.ty==1)=true:=by rw [ht];rfl
   have HE:Hid (q.name++(⟨#[32,84,69,88,84]⟩:ah)=aF (dN q)):=by
    show _=_;unfold dN;rw [if_pos ht];apply ByteArray.ext;apply Array.ext';simp [aF,Pc.text]
   clear ht;go_enter func30,ntmps30;go_wp2_with fail;go_ret;rw [←HE.out];exact ⟨rfl,hB⟩
 · have ha:=cZ q.name (⟨#[32,73,78,84]⟩:ah) (by show _+4≤_;omega);have h1:(q.ty==1)=false:=by rw [beq_eq_false_iff_ne];exact ht
   have HE:Hid (q.name++(⟨#[32,73,78,84]⟩:ah)=aF (dN q)):=by
    show _=_;unfold dN;rw [if_neg ht];apply ByteArray.ext;apply Array.ext';simp [aF,Pc.text]
   clear ht;go_enter func30,ntmps30;go_wp2_with fail;go_ret;rw [←HE.out];exact ⟨rfl,hB⟩
theorem QI (s:ByteArray) (w:World) (hG:Glob w) (hs:s.size≤2000000):
 Calls prog 76 #[.string s] w fun e w' =>e= .returned (.string (quote s))∧Below w.heap.size w w' :=by
 obtain ⟨m,hm⟩:=hG.2
 have hlen:s.size+Lib.countB s ⟨#[39]⟩*(⟨#[39,39]⟩:ah).size≤140737488355328:=by
  have h1:=Lib.countB_mul_le ⟨#[39]⟩ (by decide) s.size s (Nat.le_refl _);have e1:(⟨#[39]⟩:ah).size=1:=rfl;have e2:(⟨#[39,39]⟩:ah).size=2:=rfl;rw [e1]at h1;rw [e2];omega
 have hr:=Tryz.strings_ReplaceAll s ⟨#[39]⟩ ⟨#[39,39]⟩ m w (by omega) hm (by decide) hlen;have e:Lib.replaceAll s.data.toList (⟨#[39]⟩:ah).data.toList (⟨#[39,39]⟩:ah).data.toList=s.data.toList.flatMap rW:=FP _;rw [e]at hr;have HQ:Hid (quote s=⟨(39::(s.data.toList.flatMap rW++ [39])).toArray⟩):=yO s;have hL:=JH s.data.toList;obtain ⟨L,hLe⟩:∃L,s.data.toList.flatMap rW=L:=⟨_,rfl⟩;rw [hLe]at hr HQ hL
 have hXs:(⟨L.toArray⟩:ah).size≤4000000:=by
  show L.toArray.size≤_;have:s.data.toList.length=s.size:=by simp
  simp;omega
 obtain ⟨X,hX⟩:∃X:ByteArray,⟨L.toArray⟩=X:=⟨_,rfl⟩;rw [hX]at hr hXs;have HX:Hid (⟨L.toArray⟩=X):=hX;clear hLe e hlen hm hG hX hL;go_enter func76,ntmps76;go_wp2_with (go_at_call 119;refine hr.mono ?_;rintro e w' ⟨rfl,hb⟩);go_ret;refine ⟨Fw ?_,hb⟩;rw [HQ.out,←HX.out];apply ByteArray.ext;apply Array.ext';simp
theorem Ol (t:Tm) (w:World) (hG:Gp w) (hs:DR t):Calls prog 35 #[.agg #[.int .i64 t.ty, .string t.s, .int .i64 t.n]] w fun e w' =>e= .returned (.string (dM t).text)∧Below w.heap.size w w' :=by
 have hB:=(Below.refl w.heap.size w).alloc (Nat.le_refl _) (.cells #[.int .i64 t.ty, .string t.s, .int .i64 t.n] 60);have hG1:=hG.below hB;obtain ⟨ht0,hn,hz⟩:=hs;have hq:=QI t.s _ hG1.1 hz;have hi:=Cq t.n hn.1 hn.2 _ hG1;clear ht0 hn;by_cases ht:t.ty=1
 · have h1:(t.ty==1)=true:=by rw [ht];rfl
   have HE:Hid ((dM t).text=quote t.s):=by show _=_;unfold dM;rw [if_pos ht];rfl
   clear ht hi;go_enter func35,ntmps35;go_wp2_with fail;refine hq.mono ?_;rintro e w2 ⟨rfl,hb2⟩;go_wp2_with fail;go_ret;rw [HE.out];exact ⟨rfl,hB.trans (hb2.mono hB.size)⟩
 · have h1:(t.ty==1)=false:=by rw [beq_eq_false_iff_ne];exact ht
   have HE:Hid ((dM t).text=gY t.n):=by show _=_;unfold dM;rw [if_neg ht];rfl
   clear ht hq;go_enter func35,ntmps35;go_wp2_with fail;refine hi.mono ?_;rintro e w2 ⟨rfl,hb2⟩;go_wp2_with fail;go_ret;rw [HE.out];exact ⟨rfl,hB.trans (hb2.mono hB.size)⟩
theorem U3 (q:Pr) (w:World) (hG:Gp w) (hs:DR q.t):Calls prog 34 #[.agg #[.string q.name, .int .i64 q.t.ty, .string q.t.s, .int .i64 q.t.n]] w fun e w' =>e= .returned (.string (dM q.t).text)∧Below w.heap.size w w' :=by
 have hB:=(Below.refl w.heap.size w).alloc (Nat.le_refl _) (.cells #[.string q.name, .int .i64 q.t.ty, .string q.t.s, .int .i64 q.t.n] 62);have hc:=Ol q.t _ (hG.below hB) hs;go_enter func34,ntmps34;go_wp2_with fail;refine hc.mono ?_;rintro e w2 ⟨rfl,hb2⟩;go_wp2_with fail;go_ret;exact ⟨rfl,hB.trans (hb2.mono hB.size)⟩
theorem YU (s:ByteArray):(quote s).size≤2*s.size+2:=by
 have:=JH s.data.toList;rw [zW];have e:s.data.toList.length=s.size:=rfl;omega
theorem DT (n:Nat) (h:n≤9223372036854775808):(dec n).length≤20:=by
 have:∀k m,m<10 ^ (k+1)→(dec m).length≤k+1:=by
  intro k
  induction k with
  |zero=>intro m hm;rw [yU (by omega)];simp
  |succ k ih=>
   intro m hm;by_cases h10:m<10
   · rw [yU h10];simp
   · rw [xJ (by omega),List.length_append];have:=ih (m / 10) (by rw [Nat.pow_succ]at hm;omega);simp;omega
 exact this 19 n (by have:(10:Nat) ^ (19+1)=100000000000000000000:=by decide
                     omega)
theorem o9 (n:Int) (h:Ba n):(gY n).size≤21:=by
 have:=DT n.natAbs (by have:=h.1;have:=h.2;omega);unfold gY;simp only [ByteArray.size,List.size_toArray,List.length_append];have:(gJ (decide (n<0))).length≤1:=by unfold gJ;split<;>simp
 omega
theorem FD (t:Tm) (h:DR t):(dM t).text.size≤4000042:=by
 unfold dM;split
 · show (quote t.s).size≤_;have:=YU t.s;have:=h.2.2;omega
 · show (gY t.n).size≤_;have:=o9 t.n h.2.1;omega
theorem tw4 {w0 w w' :World}{b:Nat}{v0 v1 v2 v3:Value}(h:w.cell? ⟨b,0,none⟩=some v0∧w.cell? ⟨b,1,none⟩=some v1∧w.cell? ⟨b,2,none⟩=some v2∧w.cell? ⟨b,3,none⟩=some v3∧Below w0.heap.size w0 w) (hb:Below w.heap.size w w'):
 w'.cell? ⟨b,0,none⟩=some v0∧w'.cell? ⟨b,1,none⟩=some v1∧w'.cell? ⟨b,2,none⟩=some v2∧w'.cell? ⟨b,3,none⟩=some v3∧Below w0.heap.size w0 w' :=by
 obtain ⟨h0,h1,h2,h3,h4⟩:=h;exact ⟨aJ hb h0,aJ hb h1,aJ hb h2,aJ hb h3,h4.trans (hb.mono h4.size)⟩
theorem QJ (q:Pr) (w:World) (hG:Gp w) (hs:DR q.t) (hn:q.name.size≤2000000):Calls prog 37 #[.agg #[.string q.name, .int .i64 q.t.ty, .string q.t.s, .int .i64 q.t.n]] w fun e w' =>e= .returned (.string (aF (bJ q)))∧Below w.heap.size w w' :=by
 have hB:=(Below.refl w.heap.size w).alloc (Nat.le_refl _) (.cells #[.string q.name, .int .i64 q.t.ty, .string q.t.s, .int .i64 q.t.n] 62);have hG1:=hG.below hB;have hbl:(w.alloc (.cells #[.string q.name, .int .i64 q.t.ty, .string q.t.s, .int .i64 q.t.n] 62)).heap[w.heap.size]? =some (.cells #[.string q.name, .int .i64 q.t.ty, .string q.t.s, .int .i64 q.t.n] 62 (0,0)):=aA w _;have hle:=FD q.t hs;have ha:=cZ q.name (⟨#[32,61,32]⟩:ah) (by show _+3≤_;omega);have ha2:=cZ (q.name++(⟨#[32,61,32]⟩:ah)) (dM q.t).text (by rw [ByteArray.size_append];show _+3+_≤_;omega)
 have HE:Hid ((q.name++(⟨#[32,61,32]⟩:ah))++(dM q.t).text=aF (bJ q)):=by
  show _=_;unfold bJ;apply ByteArray.ext;apply Array.ext';simp [aF,Pc.text]
 have hc:=Lib.hid (fun (w' :World) (hB' :Below (w.alloc (.cells #[.string q.name, .int .i64 q.t.ty, .string q.t.s, .int .i64 q.t.n] 62)).heap.size (w.alloc (.cells #[.string q.name, .int .i64 q.t.ty, .string q.t.s, .int .i64 q.t.n] 62)) w')=>Ol q.t w' (hG1.below hB') hs);clear hle hG1 hG hs hn;go_enter func37,ntmps37;go_wp2_with fail;obtain ⟨w1,hw1⟩:∃w1,w1=w.alloc (.cells #[.string q.name, .int .i64 q.t.ty, .string q.t.s, .int .i64 q.t.n] 62):=⟨_,rfl⟩;rw [←hw1]at hB hbl hc⊢;clear hw1;have c0:w1.cell? ⟨w.heap.size,0,none⟩=some (.string q.name):=by rw [au hbl];rfl
 have c1:w1.cell? ⟨w.heap.size,1,none⟩=some (.int .i64 q.t.ty):=by rw [au hbl];rfl
 have c2:w1.cell? ⟨w.heap.size,2,none⟩=some (.string q.t.s):=by rw [au hbl];rfl
 have c3:w1.cell? ⟨w.heap.size,3,none⟩=some (.int .i64 q.t.n):=by rw [au hbl];rfl
 have hS:w1.cell? ⟨w.heap.size,0,none⟩=some (.string q.name)∧w1.cell? ⟨w.heap.size,1,none⟩=some (.int .i64 q.t.ty)∧w1.cell? ⟨w.heap.size,2,none⟩=some (.string q.t.s)∧w1.cell? ⟨w.heap.size,3,none⟩=some (.int .i64 q.t.n)∧Below w1.heap.size w1 w1:=⟨c0,c1,c2,c3,Below.refl _ _⟩
 go_region_held3 (fun w' =>w'.cell? ⟨w.heap.size,0,none⟩=some (.string q.name)∧w'.cell? ⟨w.heap.size,1,none⟩=some (.int .i64 q.t.ty)∧w'.cell? ⟨w.heap.size,2,none⟩=some (.string q.t.s)∧w'.cell? ⟨w.heap.size,3,none⟩=some (.int .i64 q.t.n)∧Below w1.heap.size w1 w') (first|exact tw4 (by assumption) hb2|exact ⟨c0,c1,c2,c3,(Below.refl _ _).drew⟩)
  (first
   |(go_at_call 35;refine (hc.out _ (And.right (And.right (And.right (And.right (by assumption)))))).mono ?_;rintro e w2 ⟨rfl,hb2⟩))
 have hT:w2.cell? ⟨w.heap.size,0,none⟩=some (.string q.name)∧w2.cell? ⟨w.heap.size,1,none⟩=some (.int .i64 q.t.ty)∧w2.cell? ⟨w.heap.size,2,none⟩=some (.string q.t.s)∧w2.cell? ⟨w.heap.size,3,none⟩=some (.int .i64 q.t.n)∧Below w1.heap.size w1 w2:=by assumption
 go_wp2_with fail;go_ret;rw [←HE.out];exact ⟨rfl,hB.trans (hT.2.2.2.2.mono hB.size)⟩
theorem Ct (sep:List Pc):∀(l:List (List Pc)),Lib.joinTail (aF sep).data.toList ((l.map aF).map (·.data.toList))=(aF (l.flatMap fun b=>sep++b)).data.toList
 | []=>rfl
 |a::l=>by
  have ih:=Ct sep l;unfold Lib.joinTail at ih⊢;rw [List.flatMap_cons,bq,bq,List.map_cons,List.map_cons,List.map_cons,List.flatten_cons,ih];simp
theorem iQ (sep:List Pc) (l:List (List Pc)):dF (aF sep) (l.map aF)=aF (eB sep l):=by
 cases l with
 |nil=>rfl
 |cons a l=>
  unfold dF eB;rw [List.map_cons,List.map_cons,Lib.join_cons,Ct,bq];apply ByteArray.ext;apply Array.ext';simp
theorem Cu (sep:List UInt8) (M:Nat):∀(l:List (List UInt8)),(∀x∈l,x.length≤M)→(Lib.joinTail sep l).length≤l.length*(M+sep.length)
 | [],_=>by simp [Lib.joinTail]
 |x::l,h=>by
  have ih:=Cu sep M l fun y hy=>h y (List.mem_cons_of_mem _ hy)
  have hx:=h x (List.mem_cons_self ..);unfold Lib.joinTail at ih⊢;rw [List.map_cons,List.flatten_cons,List.length_append,List.length_append,List.length_cons,Nat.succ_mul];omega
theorem iB (sep:ByteArray) (l:List ByteArray) (M:Nat) (h:∀x∈l,x.size≤M):(dF sep l).size≤l.length*(M+sep.size):=by
 have e:(dF sep l).size=(Lib.join (l.map (·.data.toList)) sep.data.toList).length:=by
  show (dF sep l).data.size=_;unfold dF;simp
 rw [e];cases l with
 |nil=>simp [Lib.join_nil]
 |cons x l=>
  rw [List.map_cons,Lib.join_cons,List.length_append]
  have h1:=Cu sep.data.toList M (l.map (·.data.toList)) (fun y hy=>by
   obtain ⟨z,hz,rfl⟩:=List.mem_map.1 hy;exact h z (List.mem_cons_of_mem _ hz))
  rw [List.length_map]at h1;have h2:=h x (List.mem_cons_self ..);have h3:x.data.toList.length=x.size:=rfl;have h4:sep.data.toList.length=sep.size:=rfl;rw [h4]at h1;rw [List.length_cons,Nat.succ_mul];omega
theorem LP (l:List ByteArray):l=(l.map fun s=> [Pc.wd s]).map aF:=by
 rw [List.map_map]
 conv=>lhs;rw [←List.map_id' l]
 refine List.map_congr_left fun s _=> ?_
 show s=s++⟨#[]⟩;rw [Bo]
theorem iI:aF bA=(⟨#[44,32]⟩:ah):=by decide+kernel
theorem wo:aF rY=(⟨#[32,65,78,68,32]⟩:ah):=by decide+kernel
theorem zh {w:World}{u:Value}{L:List ByteArray}(hl:L.length≤100) (hr:Rd w u L.length (L.map Value.string)) (hs:∀x∈L,x.size≤2000000):
 Calls prog 31 #[u] w fun e w' =>e= .returned (.string (aF (fZ L)))∧Below w.heap.size w w' :=by
 have hJ:=iB (⟨#[44,32]⟩:ah) (L.map fun s=>s) 2000000 (fun x hx=>by rw [List.map_id']at hx;exact hs x hx);rw [List.length_map]at hJ
 have hc:=LM (T:=fun s=>s) (sep:=(⟨#[44,32]⟩:ah)) hl hr (fun q _ w' _=>Cr q w') (Nat.le_trans hJ (by
  have:L.length*(2000000+2)≤100*(2000000+2):=Nat.mul_le_mul_right _ hl;show L.length*(2000000+2)≤_;omega))
 obtain ⟨a,cap,rfl,_⟩:=hr;by_cases h0:L.length=0
 · have p0:((L.length:Int)==0)=true:=by rw [beq_iff_eq];omega
   have HE:Hid (aF (fZ L)=(⟨#[42]⟩:ah)):=by
    have:=List.length_eq_zero_iff.1 h0;subst this;show _=_;decide+kernel
   clear hc hs hJ h0;go_enter func31,ntmps31;go_wp2_with fail;go_ret;rw [HE.out];exact ⟨rfl,Below.refl _ _⟩
 · have p0:((L.length:Int)==0)=false:=by rw [beq_eq_false_iff_ne];omega
   rw [List.map_id']at hc
   have HE:Hid (dF (⟨#[44,32]⟩:ah) L=aF (fZ L)):=by
    show _=_;unfold fZ;rw [if_neg (by intro e;rw [e]at h0;exact h0 rfl),←iQ,iI,←LP]
   clear hs hJ h0;go_enter func31,ntmps31;go_wp2_with fail;refine hc.mono ?_;rintro e w2 ⟨rfl,hb2⟩;go_wp2_with fail;go_ret;rw [←HE.out];exact ⟨rfl,hb2⟩
def qD (L:List Pr):Prop:=L.length≤100∧∀q∈L,DR q.t∧q.name.size≤2000000
theorem oU (q:Pr) (h:DR q.t∧q.name.size≤2000000):(aF (bJ q)).size≤8000000:=by
 have e:aF (bJ q)=(q.name++(⟨#[32,61,32]⟩:ah))++(dM q.t).text:=by
  unfold bJ;apply ByteArray.ext;apply Array.ext';simp [aF,Pc.text]
 have:=FD q.t h.1;have:=h.2;rw [e,ByteArray.size_append,ByteArray.size_append];show _+3+_≤_;omega
theorem Kk {w:World}{u:Value}{L:List Pr}{sep:ByteArray}(hG:Gp w) (hL:qD L) (hr:Rd w u L.length (dI L)) (hsep:sep.size≤10):
 Calls prog 32 #[u, .string sep, .func (.func 37) #[] #[]] w fun e w' =>e= .returned (.string (dF sep (L.map fun q=>aF (bJ q))))∧Below w.heap.size w w' :=by
 have hJ:=iB sep (L.map fun q=>aF (bJ q)) 8000000 (fun x hx=>by
  obtain ⟨q,hq,rfl⟩:=List.mem_map.1 hx;exact oU q (hL.2 q hq))
 rw [List.length_map]at hJ;refine adQ (T:=fun q=>aF (bJ q)) hL.1 hr (fun q hq w' hb=>QJ q w' (hG.below hb) (hL.2 q hq).1 (hL.2 q hq).2) (Nat.le_trans hJ ?_);have:L.length*(8000000+sep.size)≤100*(8000000+10):=Nat.mul_le_mul hL.1 (by omega);omega
theorem rQ {w:World}{u:Value}{L:List Pr}(hG:Gp w) (hL:qD L) (hr:Rd w u L.length (dI L)):
 Calls prog 38 #[u] w fun e w' =>e= .returned (.string (aF (eF L)))∧Below w.heap.size w w' :=by
 have hc:=Kk (sep:=(⟨#[32,65,78,68,32]⟩:ah)) hG hL hr (by decide)
 have hJ:=iB (⟨#[32,65,78,68,32]⟩:ah) (L.map fun q=>aF (bJ q)) 8000000 (fun x hx=>by
  obtain ⟨q,hq,rfl⟩:=List.mem_map.1 hx;exact oU q (hL.2 q hq))
 rw [List.length_map]at hJ;have hJ2:L.length*(8000000+5)≤100*(8000000+5):=Nat.mul_le_mul_right _ hL.1
 have ha:=cZ (⟨#[32,87,72,69,82,69,32]⟩:ah) (dF (⟨#[32,65,78,68,32]⟩:ah) (L.map fun q=>aF (bJ q))) (by
  change _≤L.length*(8000000+5)at hJ;show 7+_≤_;omega)
 have HE:Hid ((⟨#[32,87,72,69,82,69,32]⟩:ah)++dF (⟨#[32,65,78,68,32]⟩:ah) (L.map fun q=>aF (bJ q))=aF (eF L)):=by
  show _=_;unfold eF;rw [bq,←iQ,wo,List.map_map];rfl
 obtain ⟨a,cap,rfl,_⟩:=hr;clear hJ hJ2 hL hG;go_enter func38,ntmps38;go_wp2_with fail;refine hc.mono ?_;rintro e w2 ⟨rfl,hb2⟩;go_wp2_with fail;go_ret;rw [←HE.out];exact ⟨rfl,hb2⟩
theorem wu {w:World}{stamp ttl:Int}(hG:Gp w) (hs:Ba stamp) (ht:Ba ttl):
 Calls prog 36 #[.int .i64 stamp, .int .i64 ttl] w fun e w' =>e= .returned (.string (aF (dA stamp ttl)))∧Below w.heap.size w w' :=by
 have HI1:=Lib.hid (fun (w' :World) (hB:Below w.heap.size w w')=>Cq stamp hs.1 hs.2 w' (hG.below hB));have HI2:=Lib.hid (fun (w' :World) (hB:Below w.heap.size w w')=>Cq ttl ht.1 ht.2 w' (hG.below hB));have l1:=o9 stamp hs;have l2:=o9 ttl ht;have ha1:=cZ (⟨#[84,73,77,69,83,84,65,77,80,32]⟩:ah) (gY stamp) (by show 10+_≤_;omega);have ha2:=cZ (⟨#[84,84,76,32]⟩:ah) (gY ttl) (by show 4+_≤_;omega);have s1:((⟨#[84,73,77,69,83,84,65,77,80,32]⟩:ah)++gY stamp).size≤31:=by rw [ByteArray.size_append];show 10+_≤_;omega
 have s2:((⟨#[84,84,76,32]⟩:ah)++gY ttl).size≤31:=by rw [ByteArray.size_append];show 4+_≤_;omega
 have hB0:=Below.refl w.heap.size w;obtain ⟨A,hA⟩:∃r,(⟨#[84,73,77,69,83,84,65,77,80,32]⟩:ah)++gY stamp=r:=⟨_,rfl⟩;obtain ⟨B,hB⟩:∃r,(⟨#[84,84,76,32]⟩:ah)++gY ttl=r:=⟨_,rfl⟩;rw [hA]at ha1 s1;rw [hB]at ha2 s2;have HA:=Lib.hid hA;have HB:=Lib.hid hB;clear hA hB hs ht l1 l2 hG;by_cases h1:stamp=0
 · by_cases h2:ttl=0
   · skip
     have q1:(stamp !=0)=false:=by rw [h1];rfl
     have q2:(ttl !=0)=false:=by rw [h2];rfl
     have HE:Hid (aF (dA stamp ttl)=⟨#[]⟩):=by show _=_;unfold dA;rw [if_pos h1,if_pos h2];rfl
     clear h1 h2;go_enter func36,ntmps36;go_wp2_with fail;go_ret;rw [HE.out];exact ⟨rfl,hB0⟩
   · skip
     have q1:(stamp !=0)=false:=by rw [h1];rfl
     have q2:(ttl !=0)=true:=bne_iff_ne.2 h2;have hj:(dF (⟨#[32,65,78,68,32]⟩:ah) [B]).size≤2*36:=Nat.le_trans (iB _ _ 31 (by intro x hx;simp only [List.mem_cons,List.not_mem_nil,or_false]at hx;rcases hx with rfl<;>assumption)) (by show _*(31+5)≤_;simp);have ha3:=cZ (⟨#[32,85,83,73,78,71,32]⟩:ah) (dF (⟨#[32,65,78,68,32]⟩:ah) [B]) (by show 7+_≤_;omega)
     have HE:Hid ((⟨#[32,85,83,73,78,71,32]⟩:ah)++dF (⟨#[32,65,78,68,32]⟩:ah) [B]=aF (dA stamp ttl)):=by
      show _=_;unfold dA;rw [if_pos h1,if_neg h2,←HB.out];apply ByteArray.ext;apply Array.ext';simp [dF,Lib.join,List.intercalate,aF,Pc.text]
     have hj' :(dF (⟨#[32,65,78,68,32]⟩:ah) ([B].map fun s=>s)).size≤140737488355328:=by rw [List.map_id'];omega
     clear h1 h2 s1 s2 hj;go_enter func36,ntmps36;have hc0:=HI2.out _ hB0;go_wp2_with fail;refine hc0.mono ?_;rintro e w1 ⟨rfl,hb1⟩;have hB1:=hB0.trans (hb1.mono hB0.size);have hr1:w1.ownsRow w.heap.size 9 1 (.slice none 0 0) 0 []:=World.ownsRow_nil _ _ _ _;go_wp2_with (at_builtin;refine app1 Tryz.yg rfl _ _ rfl w.heap.size _ _ _ rfl (hr1.alloc _) _ _ [.string B] rfl rfl (bg _ _ _) (by intro u hu;rw [List.mem_singleton.1 hu];rfl) (by omega) (by have:=hB1.size;simp;omega) ?_;intro a1 c1 v1 h1 hg1 hn1);have hB2:=below_app (hB1.alloc hB1.size (.cells #[.string B] 9)) (by have:=hB1.size;rw [av];omega) hg1 (fun g2 hg2=>(hr1.lt g2 hg2).1);have hq:=LM (w:=v1) (L:= [B]) (T:=fun s=>s) (sep:=(⟨#[32,65,78,68,32]⟩:ah)) (by simp) (Rd.own h1) (fun q _ w' _=>Cr q w') hj';rw [List.map_id']at hq;go_wp2_with fail;refine hq.mono ?_;rintro e wz ⟨rfl,hbz⟩;go_wp2_with fail;go_ret;rw [←HE.out];exact ⟨rfl,hB2.trans (hbz.mono hB2.size)⟩
 · by_cases h2:ttl=0
   · skip
     have q1:(stamp !=0)=true:=bne_iff_ne.2 h1;have q2:(ttl !=0)=false:=by rw [h2];rfl
     have hj:(dF (⟨#[32,65,78,68,32]⟩:ah) [A]).size≤2*36:=Nat.le_trans (iB _ _ 31 (by intro x hx;simp only [List.mem_cons,List.not_mem_nil,or_false]at hx;rcases hx with rfl<;>assumption)) (by show _*(31+5)≤_;simp);have ha3:=cZ (⟨#[32,85,83,73,78,71,32]⟩:ah) (dF (⟨#[32,65,78,68,32]⟩:ah) [A]) (by show 7+_≤_;omega)
     have HE:Hid ((⟨#[32,85,83,73,78,71,32]⟩:ah)++dF (⟨#[32,65,78,68,32]⟩:ah) [A]=aF (dA stamp ttl)):=by
      show _=_;unfold dA;rw [if_neg h1,if_pos h2,←HA.out];apply ByteArray.ext;apply Array.ext';simp [dF,Lib.join,List.intercalate,aF,Pc.text]
     have hj' :(dF (⟨#[32,65,78,68,32]⟩:ah) ([A].map fun s=>s)).size≤140737488355328:=by rw [List.map_id'];omega
     clear h1 h2 s1 s2 hj;go_enter func36,ntmps36;have hc0:=HI1.out _ hB0;go_wp2_with fail;refine hc0.mono ?_;rintro e w1 ⟨rfl,hb1⟩;have hB1:=hB0.trans (hb1.mono hB0.size);have hr1:w1.ownsRow w.heap.size 9 1 (.slice none 0 0) 0 []:=World.ownsRow_nil _ _ _ _;go_wp2_with (at_builtin;refine app1 Tryz.yg rfl _ _ rfl w.heap.size _ _ _ rfl (hr1.alloc _) _ _ [.string A] rfl rfl (bg _ _ _) (by intro u hu;rw [List.mem_singleton.1 hu];rfl) (by omega) (by have:=hB1.size;simp;omega) ?_;intro a1 c1 v1 h1 hg1 hn1);have hB2:=below_app (hB1.alloc hB1.size (.cells #[.string A] 9)) (by have:=hB1.size;rw [av];omega) hg1 (fun g2 hg2=>(hr1.lt g2 hg2).1);have hq:=LM (w:=v1) (L:= [A]) (T:=fun s=>s) (sep:=(⟨#[32,65,78,68,32]⟩:ah)) (by simp) (Rd.own h1) (fun q _ w' _=>Cr q w') hj';rw [List.map_id']at hq;go_wp2_with fail;refine hq.mono ?_;rintro e wz ⟨rfl,hbz⟩;go_wp2_with fail;go_ret;rw [←HE.out];exact ⟨rfl,hB2.trans (hbz.mono hB2.size)⟩
   · skip
     have q1:(stamp !=0)=true:=bne_iff_ne.2 h1;have q2:(ttl !=0)=true:=bne_iff_ne.2 h2;have hj:(dF (⟨#[32,65,78,68,32]⟩:ah) [A,B]).size≤2*36:=Nat.le_trans (iB _ _ 31 (by intro x hx;simp only [List.mem_cons,List.not_mem_nil,or_false]at hx;rcases hx with rfl|rfl<;>assumption)) (by show _*(31+5)≤_;simp);have ha3:=cZ (⟨#[32,85,83,73,78,71,32]⟩:ah) (dF (⟨#[32,65,78,68,32]⟩:ah) [A,B]) (by show 7+_≤_;omega)
     have HE:Hid ((⟨#[32,85,83,73,78,71,32]⟩:ah)++dF (⟨#[32,65,78,68,32]⟩:ah) [A,B]=aF (dA stamp ttl)):=by
      show _=_;unfold dA;rw [if_neg h1,if_neg h2,←HA.out,←HB.out];apply ByteArray.ext;apply Array.ext';simp [dF,Lib.join,List.intercalate,aF,Pc.text]
     have hj' :(dF (⟨#[32,65,78,68,32]⟩:ah) ([A,B].map fun s=>s)).size≤140737488355328:=by rw [List.map_id'];omega
     clear h1 h2 s1 s2 hj;go_enter func36,ntmps36;have hc0:=HI1.out _ hB0;go_wp2_with fail;refine hc0.mono ?_;rintro e w1 ⟨rfl,hb1⟩;have hB1:=hB0.trans (hb1.mono hB0.size);have hr1:w1.ownsRow w.heap.size 9 1 (.slice none 0 0) 0 []:=World.ownsRow_nil _ _ _ _;go_wp2_with (at_builtin;refine app1 Tryz.yg rfl _ _ rfl w.heap.size _ _ _ rfl (hr1.alloc _) _ _ [.string A] rfl rfl (bg _ _ _) (by intro u hu;rw [List.mem_singleton.1 hu];rfl) (by omega) (by have:=hB1.size;simp;omega) ?_;intro a1 c1 v1 h1 hg1 hn1);have hB2:=below_app (hB1.alloc hB1.size (.cells #[.string A] 9)) (by have:=hB1.size;rw [av];omega) hg1 (fun g2 hg2=>(hr1.lt g2 hg2).1);have hc2:=HI2.out _ hB2;go_wp2_with fail;refine hc2.mono ?_;rintro e w3 ⟨rfl,hb3⟩;have hB3:=hB2.trans (hb3.mono hB2.size);have hr3:=fC h1 hb3;go_wp2_with (at_builtin;refine app1 Tryz.yg rfl _ _ rfl w.heap.size _ _ _ rfl (hr3.alloc _) _ _ [.string B] rfl rfl (bg _ _ _) (by intro u hu;rw [List.mem_singleton.1 hu];rfl) (by omega) (by have:=hB3.size;simp;omega) ?_;intro a3 c3 v3 h3 hg3 wU);have hB4:=below_app (hB3.alloc hB3.size (.cells #[.string B] 9)) (by have:=hB3.size;rw [av];omega) hg3 (fun g2 hg2=>(hr3.lt g2 hg2).1);have hq:=LM (w:=v3) (L:= [A,B]) (T:=fun s=>s) (sep:=(⟨#[32,65,78,68,32]⟩:ah)) (by simp) (Rd.own h3) (fun q _ w' _=>Cr q w') hj';rw [List.map_id']at hq;go_wp2_with fail;refine hq.mono ?_;rintro e wz ⟨rfl,hbz⟩;go_wp2_with fail;go_ret;rw [←HE.out];exact ⟨rfl,hB4.trans (hbz.mono hB4.size)⟩
end Go.Proofs.YtcgadodckoalnaaGreatDoor
