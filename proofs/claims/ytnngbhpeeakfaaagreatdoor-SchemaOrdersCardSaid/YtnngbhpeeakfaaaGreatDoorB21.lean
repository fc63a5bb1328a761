/- Parts of a proof. -/
import Derived.Lib.AppendIntMem
import Derived.Deep.RegionHeld3
import Derived.Test.YtnngbhpeeakfaaaGreatDoorB06
import Derived.Test.YtnngbhpeeakfaaaGreatDoorB08
import Derived.Test.YtnngbhpeeakfaaaGreatDoorB20
set_option maxHeartbeats 2000000
set_option maxRecDepth 100000
namespace Go.Proofs.YtnngbhpeeakfaaaGreatDoor
open Go.Proofs.Tryz
open Go.RowKit
open aK
theorem dM:∀{L:List Pr}{j:Nat}{q:Pr}(_:L[j]? =some q) (i:Nat) (_:i<4),(fG L)[j*4+i]? =(lM q)[i]?
 |p::l,0,q,h,i,hi=>by
  cases h;simp only [fG,List.flatMap_cons,Nat.zero_mul,Nat.zero_add];rw [List.getElem?_append_left (by simp [lM];omega)]
 |p::l,k+1,q,h,i,hi=>by
  have:=dM (L:=l) (j:=k) (q:=q) (by simpa using h) i hi;simp only [fG,List.flatMap_cons]at this⊢;rw [List.getElem?_append_right (by simp [lM];omega)];have e:(k+1)*4+i - (lM p).length=k*4+i:=by simp [lM];omega
  rw [e];exact this
def dh (sep:ByteArray) (l:List ByteArray):ByteArray:=⟨(Lib.join (l.map (·.data.toList)) sep.data.toList).toArray⟩
theorem rC (u:Value) (l:List ByteArray) (sep:ByteArray) (w:World) (hr:Rd w u l.length (l.map Value.string)) (hcap:∀a c,u= .slice a l.length c→l.length≤c) (hs:(dh sep l).size≤140737488355328) (hl:l.length≤1000):
 Calls prog 200 #[u, .string sep] w fun e w' =>e= .returned (.string (dh sep l))∧Below w.heap.size w w' :=by
 obtain ⟨a,cap,rfl,hx⟩:=hr;have hc:=hcap a cap rfl;cases l with
 |nil=>
  refine (Tryz.strings_Join_none a cap sep w).mono ?_;rintro e w' ⟨rfl,rfl⟩;exact ⟨rfl,Below.refl _ _⟩
 |cons x l=>
  obtain ⟨g,o,rfl,hg⟩:=hx (by simp);refine Tryz.strings_Join g o cap (x::l) sep w (fun j y hj=>hg j _ (by rw [List.getElem?_map,hj];rfl)) ?_ (by omega) hc ?_
  · have:=eH (hg 0 (.string x) rfl);exact this
  · have:(dh sep (x::l)).size=(Lib.join ((x::l).map (·.data.toList)) sep.data.toList).length:=by unfold dh;simp [ByteArray.size]
    rw [←this];exact hs
theorem IJ {w:World}{u:Value}{L:List ByteArray}{sep:ByteArray}{T:ByteArray→ByteArray}(hl:L.length≤100) (hr:Rd w u L.length (L.map Value.string))
 (hf:∀q∈L,∀w',Below w.heap.size w w' →Calls prog 202 #[.string q] w' fun e w'' =>e= .returned (.string (T q))∧Below w'.heap.size w' w'')
 (hs:(dh sep (L.map T)).size≤140737488355328):
 Calls prog 201 #[u, .string sep, .func (.func 202) #[] #[]] w fun e w' =>e= .returned (.string (dh sep (L.map T)))∧Below w.heap.size w w' :=by
 obtain ⟨a,cap,rfl,hx0⟩:=hr;go_enter func201,ntmps201;go_wp2_with fail
 go_loopw [7,12] (fun out i wr=>∃(j:Nat) (a3:Option Addr) (c3:Nat),out= .slice a3 j c3∧i= .int .i64 j∧j≤L.length∧Below w.heap.size w wr∧wr.ownsRow w.heap.size 9 1 (.slice a3 j c3) j (((L.take j).map T).map Value.string)) (fun _ i _=>L.length - (intOf i).toNat)
 case atStart=>exact ⟨0,none,0,rfl,rfl,Nat.zero_le _,Below.refl _ _,World.ownsRow_nil _ _ _ _⟩
 case round=>
  obtain ⟨j,a3,c3,rfl,rfl,hj,hBr,hown⟩:=hrel;have hsz:=hBr.size;by_cases hjl:j<L.length
  · have p0:(j:Int)<(L.length:Int):=by omega
    have p1:(0:Int)≤(j:Int):=by omega
    have HJ:=Lib.hid (show j+1≤L.length from hjl);obtain ⟨g,o,rfl,hx⟩:=hx0 (by omega);obtain ⟨q,hq⟩:∃q,L[j]? =some q:=⟨_,List.getElem?_eq_getElem hjl⟩;have k0:=hx j (.string q) (by rw [List.getElem?_map,hq];rfl);have k0' :=aI hBr k0;have hB1:=hBr;have hc:=hf q (List.mem_of_getElem? hq) _ hB1
    have HT:Hid (((L.take (j+1)).map T).map Value.string=((L.take j).map T).map Value.string++ [.string (T q)]):=by
     obtain ⟨hj2,rfl⟩:=List.getElem?_eq_some_iff.1 hq;show _=_;rw [List.take_succ_eq_append_getElem hj2,List.map_append,List.map_append];rfl
    clear hq;go_wp2_with fail;refine hc.mono ?_;rintro e w2 ⟨rfl,hb2⟩;have hB2:=hB1.trans (hb2.mono hB1.size);have hown2:=bP (hown) hb2;have hs2:=hB2.size;go_wp2_with (at_builtin;refine app1 Tryz.tY rfl _ _ rfl w.heap.size _ _ _ rfl (hown2.alloc _) _ _ [.string (T q)] rfl rfl (bA _ _ _) (by intro u hu;rw [List.mem_singleton.1 hu];rfl) (by have:=HJ.out;omega) (by simp;omega) ?_;intro a5 c5 w5 h5 hg5 Ab);have kU:=below_app (hB2.alloc hs2 _) (by rw [av];omega) hg5 (fun g2 hg2=>(hown2.lt g2 hg2).1);go_wp2_with fail;go_roundw
    case rel=>exact ⟨j+1,a5,c5,rfl,by go_num,HJ.out,kU,by rw [HT.out];exact h5⟩
    case measure=>have hjj:=HJ.out;simp [intOf];omega
  · have jV:j=L.length:=by omega
    subst jV;rw [List.take_length]at hown;have hlen:(L.map T).length=L.length:=List.length_map ..;have hj:=rC (.slice a3 L.length c3) (L.map T) sep wr (by rw [hlen];exact Rd.own hown) (by rw [hlen];exact jQ hown) hs (by omega);go_wp2_with fail;refine hj.mono ?_;rintro e w9 ⟨rfl,El⟩;go_wp2_with fail;go_ret;exact ⟨rfl,hBr.trans (El.mono hsz)⟩
theorem aa8 {w:World}{u:Value}{L:List Cl}{sep:ByteArray}{T:Cl→ByteArray}(hl:L.length≤100) (hr:Rd w u L.length (gH L))
 (hf:∀q∈L,∀w',Below w.heap.size w w' →Calls prog 129 #[.agg #[.string q.name, .int .i64 q.ty]] w' fun e w'' =>e= .returned (.string (T q))∧Below w'.heap.size w' w'')
 (hs:(dh sep (L.map T)).size≤140737488355328):
 Calls prog 128 #[u, .string sep, .func (.func 129) #[] #[]] w fun e w' =>e= .returned (.string (dh sep (L.map T)))∧Below w.heap.size w w' :=by
 obtain ⟨a,cap,rfl,hx0⟩:=hr;go_enter func128,ntmps128;go_wp2_with fail
 go_loopw [7,12] (fun out i wr=>∃(j:Nat) (a3:Option Addr) (c3:Nat),out= .slice a3 j c3∧i= .int .i64 j∧j≤L.length∧Below w.heap.size w wr∧wr.ownsRow w.heap.size 9 1 (.slice a3 j c3) j (((L.take j).map T).map Value.string)) (fun _ i _=>L.length - (intOf i).toNat)
 case atStart=>exact ⟨0,none,0,rfl,rfl,Nat.zero_le _,Below.refl _ _,World.ownsRow_nil _ _ _ _⟩
 case round=>
  obtain ⟨j,a3,c3,rfl,rfl,hj,hBr,hown⟩:=hrel;have hsz:=hBr.size;by_cases hjl:j<L.length
  · have p0:(j:Int)<(L.length:Int):=by omega
    have p1:(0:Int)≤(j:Int):=by omega
    have HJ:=Lib.hid (show j+1≤L.length from hjl);obtain ⟨g,o,rfl,hx⟩:=hx0 (by omega);obtain ⟨q,hq⟩:∃q,L[j]? =some q:=⟨_,List.getElem?_eq_getElem hjl⟩;have k0:=hx (j*2) (.string q.name) (by rw [show j*2=j*2+0 from rfl,iH hq 0 (by omega)];rfl);have k1:=hx (j*2+1) (.int .i64 q.ty) (by rw [iH hq 1 (by omega)];rfl);have k0' :wr.cell? ⟨g,o+j*2,none⟩=_:=aI hBr k0;have k1' :wr.cell? ⟨g,o+j*2+1,none⟩=_:=aI hBr k1;have hB1:=hBr.alloc hBr.size (.cells #[.string q.name, .int .i64 q.ty] 24);have hc:=hf q (List.mem_of_getElem? hq) _ hB1
    have HT:Hid (((L.take (j+1)).map T).map Value.string=((L.take j).map T).map Value.string++ [.string (T q)]):=by
     obtain ⟨hj2,rfl⟩:=List.getElem?_eq_some_iff.1 hq;show _=_;rw [List.take_succ_eq_append_getElem hj2,List.map_append,List.map_append];rfl
    clear hq;go_wp2_with fail;refine hc.mono ?_;rintro e w2 ⟨rfl,hb2⟩;have hB2:=hB1.trans (hb2.mono hB1.size);have hown2:=bP (hown.alloc _) hb2;have hs2:=hB2.size;go_wp2_with (at_builtin;refine app1 Tryz.tY rfl _ _ rfl w.heap.size _ _ _ rfl (hown2.alloc _) _ _ [.string (T q)] rfl rfl (bA _ _ _) (by intro u hu;rw [List.mem_singleton.1 hu];rfl) (by have:=HJ.out;omega) (by simp;omega) ?_;intro a5 c5 w5 h5 hg5 Ab);have kU:=below_app (hB2.alloc hs2 _) (by rw [av];omega) hg5 (fun g2 hg2=>(hown2.lt g2 hg2).1);go_wp2_with fail;go_roundw
    case rel=>exact ⟨j+1,a5,c5,rfl,by go_num,HJ.out,kU,by rw [HT.out];exact h5⟩
    case measure=>have hjj:=HJ.out;simp [intOf];omega
  · have jV:j=L.length:=by omega
    subst jV;rw [List.take_length]at hown;have hlen:(L.map T).length=L.length:=List.length_map ..;have hj:=rC (.slice a3 L.length c3) (L.map T) sep wr (by rw [hlen];exact Rd.own hown) (by rw [hlen];exact jQ hown) hs (by omega);go_wp2_with fail;refine hj.mono ?_;rintro e w9 ⟨rfl,El⟩;go_wp2_with fail;go_ret;exact ⟨rfl,hBr.trans (El.mono hsz)⟩
theorem VD {w:World}{u:Value}{L:List Pr}{sep:ByteArray}{T:Pr→ByteArray}(hl:L.length≤100) (hr:Rd w u L.length (fG L))
 (hf:∀q∈L,∀w',Below w.heap.size w w' →Calls prog 132 #[.agg #[.string q.name, .int .i64 q.t.ty, .string q.t.s, .int .i64 q.t.n]] w' fun e w'' =>e= .returned (.string (T q))∧Below w'.heap.size w' w'')
 (hs:(dh sep (L.map T)).size≤140737488355328):
 Calls prog 131 #[u, .string sep, .func (.func 132) #[] #[]] w fun e w' =>e= .returned (.string (dh sep (L.map T)))∧Below w.heap.size w w' :=by
 obtain ⟨a,cap,rfl,hx0⟩:=hr;go_enter func131,ntmps131;go_wp2_with fail
 go_loopw [7,12] (fun out i wr=>∃(j:Nat) (a3:Option Addr) (c3:Nat),out= .slice a3 j c3∧i= .int .i64 j∧j≤L.length∧Below w.heap.size w wr∧wr.ownsRow w.heap.size 9 1 (.slice a3 j c3) j (((L.take j).map T).map Value.string)) (fun _ i _=>L.length - (intOf i).toNat)
 case atStart=>exact ⟨0,none,0,rfl,rfl,Nat.zero_le _,Below.refl _ _,World.ownsRow_nil _ _ _ _⟩
 case round=>
  obtain ⟨j,a3,c3,rfl,rfl,hj,hBr,hown⟩:=hrel;have hsz:=hBr.size;by_cases hjl:j<L.length
  · have p0:(j:Int)<(L.length:Int):=by omega
    have p1:(0:Int)≤(j:Int):=by omega
    have HJ:=Lib.hid (show j+1≤L.length from hjl);obtain ⟨g,o,rfl,hx⟩:=hx0 (by omega);obtain ⟨q,hq⟩:∃q,L[j]? =some q:=⟨_,List.getElem?_eq_getElem hjl⟩;have k0:=hx (j*4) (.string q.name) (by rw [show j*4=j*4+0 from rfl,dM hq 0 (by omega)];rfl);have k1:=hx (j*4+1) (.int .i64 q.t.ty) (by rw [dM hq 1 (by omega)];rfl);have k2:=hx (j*4+2) (.string q.t.s) (by rw [dM hq 2 (by omega)];rfl);have k3:=hx (j*4+3) (.int .i64 q.t.n) (by rw [dM hq 3 (by omega)];rfl);have k0' :wr.cell? ⟨g,o+j*4,none⟩=_:=aI hBr k0;have k1' :wr.cell? ⟨g,o+j*4+1,none⟩=_:=aI hBr k1;have k2' :wr.cell? ⟨g,o+j*4+2,none⟩=_:=aI hBr k2;have k3' :wr.cell? ⟨g,o+j*4+3,none⟩=_:=aI hBr k3;have hB1:=hBr.alloc hBr.size (.cells #[.string q.name, .int .i64 q.t.ty, .string q.t.s, .int .i64 q.t.n] 43);have hc:=hf q (List.mem_of_getElem? hq) _ hB1
    have HT:Hid (((L.take (j+1)).map T).map Value.string=((L.take j).map T).map Value.string++ [.string (T q)]):=by
     obtain ⟨hj2,rfl⟩:=List.getElem?_eq_some_iff.1 hq;show _=_;rw [List.take_succ_eq_append_getElem hj2,List.map_append,List.map_append];rfl
    clear hq;go_wp2_with fail;refine hc.mono ?_;rintro e w2 ⟨rfl,hb2⟩;have hB2:=hB1.trans (hb2.mono hB1.size);have hown2:=bP (hown.alloc _) hb2;have hs2:=hB2.size;go_wp2_with (at_builtin;refine app1 Tryz.tY rfl _ _ rfl w.heap.size _ _ _ rfl (hown2.alloc _) _ _ [.string (T q)] rfl rfl (bA _ _ _) (by intro u hu;rw [List.mem_singleton.1 hu];rfl) (by have:=HJ.out;omega) (by simp;omega) ?_;intro a5 c5 w5 h5 hg5 Ab);have kU:=below_app (hB2.alloc hs2 _) (by rw [av];omega) hg5 (fun g2 hg2=>(hown2.lt g2 hg2).1);go_wp2_with fail;go_roundw
    case rel=>exact ⟨j+1,a5,c5,rfl,by go_num,HJ.out,kU,by rw [HT.out];exact h5⟩
    case measure=>have hjj:=HJ.out;simp [intOf];omega
  · have jV:j=L.length:=by omega
    subst jV;rw [List.take_length]at hown;have hlen:(L.map T).length=L.length:=List.length_map ..;have hj:=rC (.slice a3 L.length c3) (L.map T) sep wr (by rw [hlen];exact Rd.own hown) (by rw [hlen];exact jQ hown) hs (by omega);go_wp2_with fail;refine hj.mono ?_;rintro e w9 ⟨rfl,El⟩;go_wp2_with fail;go_ret;exact ⟨rfl,hBr.trans (El.mono hsz)⟩
theorem aa9 {w:World}{u:Value}{L:List Pr}{sep:ByteArray}{T:Pr→ByteArray}(hl:L.length≤100) (hr:Rd w u L.length (fG L))
 (hf:∀q∈L,∀w',Below w.heap.size w w' →Calls prog 133 #[.agg #[.string q.name, .int .i64 q.t.ty, .string q.t.s, .int .i64 q.t.n]] w' fun e w'' =>e= .returned (.string (T q))∧Below w'.heap.size w' w'')
 (hs:(dh sep (L.map T)).size≤140737488355328):
 Calls prog 131 #[u, .string sep, .func (.func 133) #[] #[]] w fun e w' =>e= .returned (.string (dh sep (L.map T)))∧Below w.heap.size w w' :=by
 obtain ⟨a,cap,rfl,hx0⟩:=hr;go_enter func131,ntmps131;go_wp2_with fail
 go_loopw [7,12] (fun out i wr=>∃(j:Nat) (a3:Option Addr) (c3:Nat),out= .slice a3 j c3∧i= .int .i64 j∧j≤L.length∧Below w.heap.size w wr∧wr.ownsRow w.heap.size 9 1 (.slice a3 j c3) j (((L.take j).map T).map Value.string)) (fun _ i _=>L.length - (intOf i).toNat)
 case atStart=>exact ⟨0,none,0,rfl,rfl,Nat.zero_le _,Below.refl _ _,World.ownsRow_nil _ _ _ _⟩
 case round=>
  obtain ⟨j,a3,c3,rfl,rfl,hj,hBr,hown⟩:=hrel;have hsz:=hBr.size;by_cases hjl:j<L.length
  · have p0:(j:Int)<(L.length:Int):=by omega
    have p1:(0:Int)≤(j:Int):=by omega
    have HJ:=Lib.hid (show j+1≤L.length from hjl);obtain ⟨g,o,rfl,hx⟩:=hx0 (by omega);obtain ⟨q,hq⟩:∃q,L[j]? =some q:=⟨_,List.getElem?_eq_getElem hjl⟩;have k0:=hx (j*4) (.string q.name) (by rw [show j*4=j*4+0 from rfl,dM hq 0 (by omega)];rfl);have k1:=hx (j*4+1) (.int .i64 q.t.ty) (by rw [dM hq 1 (by omega)];rfl);have k2:=hx (j*4+2) (.string q.t.s) (by rw [dM hq 2 (by omega)];rfl);have k3:=hx (j*4+3) (.int .i64 q.t.n) (by rw [dM hq 3 (by omega)];rfl);have k0' :wr.cell? ⟨g,o+j*4,none⟩=_:=aI hBr k0;have k1' :wr.cell? ⟨g,o+j*4+1,none⟩=_:=aI hBr k1;have k2' :wr.cell? ⟨g,o+j*4+2,none⟩=_:=aI hBr k2;have k3' :wr.cell? ⟨g,o+j*4+3,none⟩=_:=aI hBr k3;have hB1:=hBr.alloc hBr.size (.cells #[.string q.name, .int .i64 q.t.ty, .string q.t.s, .int .i64 q.t.n] 43);have hc:=hf q (List.mem_of_getElem? hq) _ hB1
    have HT:Hid (((L.take (j+1)).map T).map Value.string=((L.take j).map T).map Value.string++ [.string (T q)]):=by
     obtain ⟨hj2,rfl⟩:=List.getElem?_eq_some_iff.1 hq;show _=_;rw [List.take_succ_eq_append_getElem hj2,List.map_append,List.map_append];rfl
    clear hq;go_wp2_with fail;refine hc.mono ?_;rintro e w2 ⟨rfl,hb2⟩;have hB2:=hB1.trans (hb2.mono hB1.size);have hown2:=bP (hown.alloc _) hb2;have hs2:=hB2.size;go_wp2_with (at_builtin;refine app1 Tryz.tY rfl _ _ rfl w.heap.size _ _ _ rfl (hown2.alloc _) _ _ [.string (T q)] rfl rfl (bA _ _ _) (by intro u hu;rw [List.mem_singleton.1 hu];rfl) (by have:=HJ.out;omega) (by simp;omega) ?_;intro a5 c5 w5 h5 hg5 Ab);have kU:=below_app (hB2.alloc hs2 _) (by rw [av];omega) hg5 (fun g2 hg2=>(hown2.lt g2 hg2).1);go_wp2_with fail;go_roundw
    case rel=>exact ⟨j+1,a5,c5,rfl,by go_num,HJ.out,kU,by rw [HT.out];exact h5⟩
    case measure=>have hjj:=HJ.out;simp [intOf];omega
  · have jV:j=L.length:=by omega
    subst jV;rw [List.take_length]at hown;have hlen:(L.map T).length=L.length:=List.length_map ..;have hj:=rC (.slice a3 L.length c3) (L.map T) sep wr (by rw [hlen];exact Rd.own hown) (by rw [hlen];exact jQ hown) hs (by omega);go_wp2_with fail;refine hj.mono ?_;rintro e w9 ⟨rfl,El⟩;go_wp2_with fail;go_ret;exact ⟨rfl,hBr.trans (El.mono hsz)⟩
theorem abb {w:World}{u:Value}{L:List Pr}{sep:ByteArray}{T:Pr→ByteArray}(hl:L.length≤100) (hr:Rd w u L.length (fG L))
 (hf:∀q∈L,∀w',Below w.heap.size w w' →Calls prog 136 #[.agg #[.string q.name, .int .i64 q.t.ty, .string q.t.s, .int .i64 q.t.n]] w' fun e w'' =>e= .returned (.string (T q))∧Below w'.heap.size w' w'')
 (hs:(dh sep (L.map T)).size≤140737488355328):
 Calls prog 131 #[u, .string sep, .func (.func 136) #[] #[]] w fun e w' =>e= .returned (.string (dh sep (L.map T)))∧Below w.heap.size w w' :=by
 obtain ⟨a,cap,rfl,hx0⟩:=hr;go_enter func131,ntmps131;go_wp2_with fail
 go_loopw [7,12] (fun out i wr=>∃(j:Nat) (a3:Option Addr) (c3:Nat),out= .slice a3 j c3∧i= .int .i64 j∧j≤L.length∧Below w.heap.size w wr∧wr.ownsRow w.heap.size 9 1 (.slice a3 j c3) j (((L.take j).map T).map Value.string)) (fun _ i _=>L.length - (intOf i).toNat)
 case atStart=>exact ⟨0,none,0,rfl,rfl,Nat.zero_le _,Below.refl _ _,World.ownsRow_nil _ _ _ _⟩
 case round=>
  obtain ⟨j,a3,c3,rfl,rfl,hj,hBr,hown⟩:=hrel;have hsz:=hBr.size;by_cases hjl:j<L.length
  · have p0:(j:Int)<(L.length:Int):=by omega
    have p1:(0:Int)≤(j:Int):=by omega
    have HJ:=Lib.hid (show j+1≤L.length from hjl);obtain ⟨g,o,rfl,hx⟩:=hx0 (by omega);obtain ⟨q,hq⟩:∃q,L[j]? =some q:=⟨_,List.getElem?_eq_getElem hjl⟩;have k0:=hx (j*4) (.string q.name) (by rw [show j*4=j*4+0 from rfl,dM hq 0 (by omega)];rfl);have k1:=hx (j*4+1) (.int .i64 q.t.ty) (by rw [dM hq 1 (by omega)];rfl);have k2:=hx (j*4+2) (.string q.t.s) (by rw [dM hq 2 (by omega)];rfl);have k3:=hx (j*4+3) (.int .i64 q.t.n) (by rw [dM hq 3 (by omega)];rfl);have k0' :wr.cell? ⟨g,o+j*4,none⟩=_:=aI hBr k0;have k1' :wr.cell? ⟨g,o+j*4+1,none⟩=_:=aI hBr k1;have k2' :wr.cell? ⟨g,o+j*4+2,none⟩=_:=aI hBr k2;have k3' :wr.cell? ⟨g,o+j*4+3,none⟩=_:=aI hBr k3;have hB1:=hBr.alloc hBr.size (.cells #[.string q.name, .int .i64 q.t.ty, .string q.t.s, .int .i64 q.t.n] 43);have hc:=hf q (List.mem_of_getElem? hq) _ hB1
    have HT:Hid (((L.take (j+1)).map T).map Value.string=((L.take j).map T).map Value.string++ [.string (T q)]):=by
     obtain ⟨hj2,rfl⟩:=List.getElem?_eq_some_iff.1 hq;show _=_;rw [List.take_succ_eq_append_getElem hj2,List.map_append,List.map_append];rfl
    clear hq;go_wp2_with fail;refine hc.mono ?_;rintro e w2 ⟨rfl,hb2⟩;have hB2:=hB1.trans (hb2.mono hB1.size);have hown2:=bP (hown.alloc _) hb2;have hs2:=hB2.size;go_wp2_with (at_builtin;refine app1 Tryz.tY rfl _ _ rfl w.heap.size _ _ _ rfl (hown2.alloc _) _ _ [.string (T q)] rfl rfl (bA _ _ _) (by intro u hu;rw [List.mem_singleton.1 hu];rfl) (by have:=HJ.out;omega) (by simp;omega) ?_;intro a5 c5 w5 h5 hg5 Ab);have kU:=below_app (hB2.alloc hs2 _) (by rw [av];omega) hg5 (fun g2 hg2=>(hown2.lt g2 hg2).1);go_wp2_with fail;go_roundw
    case rel=>exact ⟨j+1,a5,c5,rfl,by go_num,HJ.out,kU,by rw [HT.out];exact h5⟩
    case measure=>have hjj:=HJ.out;simp [intOf];omega
  · have jV:j=L.length:=by omega
    subst jV;rw [List.take_length]at hown;have hlen:(L.map T).length=L.length:=List.length_map ..;have hj:=rC (.slice a3 L.length c3) (L.map T) sep wr (by rw [hlen];exact Rd.own hown) (by rw [hlen];exact jQ hown) hs (by omega);go_wp2_with fail;refine hj.mono ?_;rintro e w9 ⟨rfl,El⟩;go_wp2_with fail;go_ret;exact ⟨rfl,hBr.trans (El.mono hsz)⟩
theorem wK:∀n:Nat,Lib.decDigits n=dec n:=
 Cn (C:=fun n=>Lib.decDigits n=dec n) (fun n h=>by rw [p8 h,Lib.decDigits,dif_pos h]) (fun n h ih=>by rw [oP h,Lib.decDigits,dif_neg (by omega),ih])
theorem Yo (n:Int):(⟨(Lib.itoa n).toArray⟩:ah)=kr n:=by
 unfold Lib.itoa kr;by_cases h:n<0
 · rw [if_pos h,wK];simp [h,fT]
 · rw [if_neg h,wK];have e:n.toNat=n.natAbs:=by omega
   simp [h,fT,e]
theorem vD (n:Int) (h0: -9223372036854775808≤n) (h1:n≤9223372036854775807) (w:World) (hG:Gp w):
 Calls prog 39 #[.int .i64 n] w fun e w' =>e= .returned (.string (kr n))∧Below w.heap.size w w' :=by
 refine (Tryz.strconv_Itoa n h0 h1 w hG.2.2).mono ?_;rintro e w' ⟨rfl,k,os,rfl⟩;rw [Yo];exact ⟨rfl,Lib.below_grow _ _ (Nat.le_refl _) _ _⟩
theorem fU (a b:ByteArray) (h:a.size+b.size≤1000000000000000):∀w,(Op.stringOp .add a b).run prog w= .ok (.string (a++b)) w:=fun w=>run_string_add_sum w _ _ (by omega)
theorem bE {a b:ByteArray}{m n:Nat}(h1:a.size≤m) (h2:b.size≤n) (h:m+n≤1000000000000000):∃r,a++b=r∧(∀w,(Op.stringOp .add a b).run prog w= .ok (.string r) w)∧r.size≤m+n:=
 ⟨_,rfl,fU a b (by omega),by rw [ByteArray.size_append];omega⟩
def Jr (n:Int):Prop:= -9223372036854775808≤n∧n≤9223372036854775807
def Fh (t:Tm):Prop:=Jr t.ty∧Jr t.n∧t.s.size≤2000000
theorem zA (s:ByteArray) (w:World):Calls prog 202 #[.string s] w fun e w' =>e= .returned (.string s)∧Below w.heap.size w w' :=by
 go_enter func202,ntmps202;go_wp2_with fail;go_ret;exact ⟨rfl,Below.refl _ _⟩
theorem BL (q:Pr) (w:World):Calls prog 132 #[.agg #[.string q.name, .int .i64 q.t.ty, .string q.t.s, .int .i64 q.t.n]] w fun e w' =>e= .returned (.string q.name)∧Below w.heap.size w w' :=by
 have hB:=(Below.refl w.heap.size w).alloc (Nat.le_refl _) (.cells #[.string q.name, .int .i64 q.t.ty, .string q.t.s, .int .i64 q.t.n] 43);go_enter func132,ntmps132;go_wp2_with fail;go_ret;exact ⟨rfl,hB⟩
theorem Ra (q:Cl) (w:World) (hs:q.name.size≤2000000):Calls prog 129 #[.agg #[.string q.name, .int .i64 q.ty]] w fun e w' =>e= .returned (.string (aW (dB q)))∧Below w.heap.size w w' :=by
 have hB:=(Below.refl w.heap.size w).alloc (Nat.le_refl _) (.cells #[.string q.name, .int .i64 q.ty] 24);by_cases ht:q.ty=1
 · have ha:=fU q.name (⟨#[32,84,69,88,84]⟩:ah) (by show _+5≤_;omega);have h1:(q.ty==1)=true:=by rw [ht];rfl
   have HE:Hid (q.name++(⟨#[32,84,69,88,84]⟩:ah)=aW (dB q)):=by
    show _=_;unfold dB;rw [if_pos ht];apply ByteArray.ext;apply Array.ext';simp [aW,Pc.text]
   clear ht;go_enter func129,ntmps129;go_wp2_with fail;go_ret;rw [←HE.out];exact ⟨rfl,hB⟩
 · have ha:=fU q.name (⟨#[32,73,78,84]⟩:ah) (by show _+4≤_;omega);have h1:(q.ty==1)=false:=by rw [beq_eq_false_iff_ne];exact ht
   have HE:Hid (q.name++(⟨#[32,73,78,84]⟩:ah)=aW (dB q)):=by
    show _=_;unfold dB;rw [if_neg ht];apply ByteArray.ext;apply Array.ext';simp [aW,Pc.text]
   clear ht;go_enter func129,ntmps129;go_wp2_with fail;go_ret;rw [←HE.out];exact ⟨rfl,hB⟩
theorem Nb (s:ByteArray) (w:World) (hG:Glob w) (hs:s.size≤2000000):
 Calls prog 203 #[.string s] w fun e w' =>e= .returned (.string (quote s))∧Below w.heap.size w w' :=by
 obtain ⟨m,hm⟩:=hG.2
 have hlen:s.size+Lib.countB s ⟨#[39]⟩*(⟨#[39,39]⟩:ah).size≤140737488355328:=by
  have h1:=Lib.countB_mul_le ⟨#[39]⟩ (by decide) s.size s (Nat.le_refl _);have e1:(⟨#[39]⟩:ah).size=1:=rfl;have e2:(⟨#[39,39]⟩:ah).size=2:=rfl;rw [e1]at h1;rw [e2];omega
 have hr:=Tryz.strings_ReplaceAll s ⟨#[39]⟩ ⟨#[39,39]⟩ m w (by omega) hm (by decide) hlen;have e:Lib.replaceAll s.data.toList (⟨#[39]⟩:ah).data.toList (⟨#[39,39]⟩:ah).data.toList=s.data.toList.flatMap tQ:=CF _;rw [e]at hr;have HQ:Hid (quote s=⟨(39::(s.data.toList.flatMap tQ++ [39])).toArray⟩):=Ad s;have hL:=FL s.data.toList;obtain ⟨L,hLe⟩:∃L,s.data.toList.flatMap tQ=L:=⟨_,rfl⟩;rw [hLe]at hr HQ hL
 have hXs:(⟨L.toArray⟩:ah).size≤4000000:=by
  show L.toArray.size≤_;have:s.data.toList.length=s.size:=by simp
  simp;omega
 obtain ⟨X,hX⟩:∃X:ByteArray,⟨L.toArray⟩=X:=⟨_,rfl⟩;rw [hX]at hr hXs;have HX:Hid (⟨L.toArray⟩=X):=hX;clear hLe e hlen hm hG hX hL;go_enter func203,ntmps203;go_wp2_with (go_at_call 279;refine hr.mono ?_;rintro e w' ⟨rfl,hb⟩);go_ret;refine ⟨Ib ?_,hb⟩;rw [HQ.out,←HX.out];apply ByteArray.ext;apply Array.ext';simp
theorem K4 (t:Tm) (w:World) (hG:Gp w) (hs:Fh t):Calls prog 134 #[.agg #[.int .i64 t.ty, .string t.s, .int .i64 t.n]] w fun e w' =>e= .returned (.string (gP t).text)∧Below w.heap.size w w' :=by
 have hB:=(Below.refl w.heap.size w).alloc (Nat.le_refl _) (.cells #[.int .i64 t.ty, .string t.s, .int .i64 t.n] 41);have hG1:=hG.below hB;obtain ⟨ht0,hn,hz⟩:=hs;have hq:=Nb t.s _ hG1.1 hz;have hi:=vD t.n hn.1 hn.2 _ hG1;clear ht0 hn;by_cases ht:t.ty=1
 · have h1:(t.ty==1)=true:=by rw [ht];rfl
   have HE:Hid ((gP t).text=quote t.s):=by show _=_;unfold gP;rw [if_pos ht];rfl
   clear ht hi;go_enter func134,ntmps134;go_wp2_with fail;refine hq.mono ?_;rintro e w2 ⟨rfl,hb2⟩;go_wp2_with fail;go_ret;rw [HE.out];exact ⟨rfl,hB.trans (hb2.mono hB.size)⟩
 · have h1:(t.ty==1)=false:=by rw [beq_eq_false_iff_ne];exact ht
   have HE:Hid ((gP t).text=kr t.n):=by show _=_;unfold gP;rw [if_neg ht];rfl
   clear ht hq;go_enter func134,ntmps134;go_wp2_with fail;refine hi.mono ?_;rintro e w2 ⟨rfl,hb2⟩;go_wp2_with fail;go_ret;rw [HE.out];exact ⟨rfl,hB.trans (hb2.mono hB.size)⟩
theorem Rb (q:Pr) (w:World) (hG:Gp w) (hs:Fh q.t):Calls prog 133 #[.agg #[.string q.name, .int .i64 q.t.ty, .string q.t.s, .int .i64 q.t.n]] w fun e w' =>e= .returned (.string (gP q.t).text)∧Below w.heap.size w w' :=by
 have hB:=(Below.refl w.heap.size w).alloc (Nat.le_refl _) (.cells #[.string q.name, .int .i64 q.t.ty, .string q.t.s, .int .i64 q.t.n] 43);have hc:=K4 q.t _ (hG.below hB) hs;go_enter func133,ntmps133;go_wp2_with fail;refine hc.mono ?_;rintro e w2 ⟨rfl,hb2⟩;go_wp2_with fail;go_ret;exact ⟨rfl,hB.trans (hb2.mono hB.size)⟩
theorem VE (s:ByteArray):(quote s).size≤2*s.size+2:=by
 have:=FL s.data.toList;rw [wU];have e:s.data.toList.length=s.size:=rfl;omega
theorem Rc (n:Nat) (h:n≤9223372036854775808):(dec n).length≤20:=by
 have:∀k m,m<10 ^ (k+1)→(dec m).length≤k+1:=by
  intro k
  induction k with
  |zero=>intro m hm;rw [p8 (by omega)];simp
  |succ k ih=>
   intro m hm;by_cases h10:m<10
   · rw [p8 h10];simp
   · rw [oP (by omega),List.length_append];have:=ih (m / 10) (by rw [Nat.pow_succ]at hm;omega);simp;omega
 exact this 19 n (by have:(10:Nat) ^ (19+1)=100000000000000000000:=by decide
                     omega)
theorem lS (n:Int) (h:Jr n):(kr n).size≤21:=by
 have:=Rc n.natAbs (by have:=h.1;have:=h.2;omega);unfold kr;simp only [ByteArray.size,List.size_toArray,List.length_append];have:(fT (decide (n<0))).length≤1:=by unfold fT;split<;>simp
 omega
theorem IK (t:Tm) (h:Fh t):(gP t).text.size≤4000042:=by
 unfold gP;split
 · show (quote t.s).size≤_;have:=VE t.s;have:=h.2.2;omega
 · show (kr t.n).size≤_;have:=lS t.n h.2.1;omega
theorem tw4 {w0 w w' :World}{b:Nat}{v0 v1 v2 v3:Value}(h:w.cell? ⟨b,0,none⟩=some v0∧w.cell? ⟨b,1,none⟩=some v1∧w.cell? ⟨b,2,none⟩=some v2∧w.cell? ⟨b,3,none⟩=some v3∧Below w0.heap.size w0 w) (hb:Below w.heap.size w w'):
 w'.cell? ⟨b,0,none⟩=some v0∧w'.cell? ⟨b,1,none⟩=some v1∧w'.cell? ⟨b,2,none⟩=some v2∧w'.cell? ⟨b,3,none⟩=some v3∧Below w0.heap.size w0 w' :=by
 obtain ⟨h0,h1,h2,h3,h4⟩:=h;exact ⟨aI hb h0,aI hb h1,aI hb h2,aI hb h3,h4.trans (hb.mono h4.size)⟩
theorem Nc (q:Pr) (w:World) (hG:Gp w) (hs:Fh q.t) (hn:q.name.size≤2000000):Calls prog 136 #[.agg #[.string q.name, .int .i64 q.t.ty, .string q.t.s, .int .i64 q.t.n]] w fun e w' =>e= .returned (.string (aW (eU q)))∧Below w.heap.size w w' :=by
 have hB:=(Below.refl w.heap.size w).alloc (Nat.le_refl _) (.cells #[.string q.name, .int .i64 q.t.ty, .string q.t.s, .int .i64 q.t.n] 43);have hG1:=hG.below hB;have hbl:(w.alloc (.cells #[.string q.name, .int .i64 q.t.ty, .string q.t.s, .int .i64 q.t.n] 43)).heap[w.heap.size]? =some (.cells #[.string q.name, .int .i64 q.t.ty, .string q.t.s, .int .i64 q.t.n] 43 (0,0)):=aB w _;have hle:=IK q.t hs;have ha:=fU q.name (⟨#[32,61,32]⟩:ah) (by show _+3≤_;omega);have ha2:=fU (q.name++(⟨#[32,61,32]⟩:ah)) (gP q.t).text (by rw [ByteArray.size_append];show _+3+_≤_;omega)
 have HE:Hid ((q.name++(⟨#[32,61,32]⟩:ah))++(gP q.t).text=aW (eU q)):=by
  show _=_;unfold eU;apply ByteArray.ext;apply Array.ext';simp [aW,Pc.text]
 have hc:=Lib.hid (fun (w' :World) (hB' :Below (w.alloc (.cells #[.string q.name, .int .i64 q.t.ty, .string q.t.s, .int .i64 q.t.n] 43)).heap.size (w.alloc (.cells #[.string q.name, .int .i64 q.t.ty, .string q.t.s, .int .i64 q.t.n] 43)) w')=>K4 q.t w' (hG1.below hB') hs);clear hle hG1 hG hs hn;go_enter func136,ntmps136;go_wp2_with fail;obtain ⟨w1,hw1⟩:∃w1,w1=w.alloc (.cells #[.string q.name, .int .i64 q.t.ty, .string q.t.s, .int .i64 q.t.n] 43):=⟨_,rfl⟩;rw [←hw1]at hB hbl hc⊢;clear hw1;have c0:w1.cell? ⟨w.heap.size,0,none⟩=some (.string q.name):=by rw [aj hbl];rfl
 have c1:w1.cell? ⟨w.heap.size,1,none⟩=some (.int .i64 q.t.ty):=by rw [aj hbl];rfl
 have c2:w1.cell? ⟨w.heap.size,2,none⟩=some (.string q.t.s):=by rw [aj hbl];rfl
 have c3:w1.cell? ⟨w.heap.size,3,none⟩=some (.int .i64 q.t.n):=by rw [aj hbl];rfl
 have hS:w1.cell? ⟨w.heap.size,0,none⟩=some (.string q.name)∧w1.cell? ⟨w.heap.size,1,none⟩=some (.int .i64 q.t.ty)∧w1.cell? ⟨w.heap.size,2,none⟩=some (.string q.t.s)∧w1.cell? ⟨w.heap.size,3,none⟩=some (.int .i64 q.t.n)∧Below w1.heap.size w1 w1:=⟨c0,c1,c2,c3,Below.refl _ _⟩
 go_region_held3 (fun w' =>w'.cell? ⟨w.heap.size,0,none⟩=some (.string q.name)∧w'.cell? ⟨w.heap.size,1,none⟩=some (.int .i64 q.t.ty)∧w'.cell? ⟨w.heap.size,2,none⟩=some (.string q.t.s)∧w'.cell? ⟨w.heap.size,3,none⟩=some (.int .i64 q.t.n)∧Below w1.heap.size w1 w') (first|exact tw4 (by assumption) hb2|exact ⟨c0,c1,c2,c3,(Below.refl _ _).drew⟩)
  (first
   |(go_at_call 134;refine (hc.out _ (And.right (And.right (And.right (And.right (by assumption)))))).mono ?_;rintro e w2 ⟨rfl,hb2⟩))
 have hT:w2.cell? ⟨w.heap.size,0,none⟩=some (.string q.name)∧w2.cell? ⟨w.heap.size,1,none⟩=some (.int .i64 q.t.ty)∧w2.cell? ⟨w.heap.size,2,none⟩=some (.string q.t.s)∧w2.cell? ⟨w.heap.size,3,none⟩=some (.int .i64 q.t.n)∧Below w1.heap.size w1 w2:=by assumption
 go_wp2_with fail;go_ret;rw [←HE.out];exact ⟨rfl,hB.trans (hT.2.2.2.2.mono hB.size)⟩
theorem zB (sep:List Pc):∀(l:List (List Pc)),Lib.joinTail (aW sep).data.toList ((l.map aW).map (·.data.toList))=(aW (l.flatMap fun b=>sep++b)).data.toList
 | []=>rfl
 |a::l=>by
  have ih:=zB sep l;unfold Lib.joinTail at ih⊢;rw [List.flatMap_cons,bM,bM,List.map_cons,List.map_cons,List.map_cons,List.flatten_cons,ih];simp
theorem iI (sep:List Pc) (l:List (List Pc)):dh (aW sep) (l.map aW)=aW (gG sep l):=by
 cases l with
 |nil=>rfl
 |cons a l=>
  unfold dh gG;rw [List.map_cons,List.map_cons,Lib.join_cons,zB,bM];apply ByteArray.ext;apply Array.ext';simp
theorem zC (sep:List UInt8) (M:Nat):∀(l:List (List UInt8)),(∀x∈l,x.length≤M)→(Lib.joinTail sep l).length≤l.length*(M+sep.length)
 | [],_=>by simp [Lib.joinTail]
 |x::l,h=>by
  have ih:=zC sep M l fun y hy=>h y (List.mem_cons_of_mem _ hy)
  have hx:=h x (List.mem_cons_self ..);unfold Lib.joinTail at ih⊢;rw [List.map_cons,List.flatten_cons,List.length_append,List.length_append,List.length_cons,Nat.succ_mul];omega
theorem gJ (sep:ByteArray) (l:List ByteArray) (M:Nat) (h:∀x∈l,x.size≤M):(dh sep l).size≤l.length*(M+sep.size):=by
 have e:(dh sep l).size=(Lib.join (l.map (·.data.toList)) sep.data.toList).length:=by
  show (dh sep l).data.size=_;unfold dh;simp
 rw [e];cases l with
 |nil=>simp [Lib.join_nil]
 |cons x l=>
  rw [List.map_cons,Lib.join_cons,List.length_append]
  have h1:=zC sep.data.toList M (l.map (·.data.toList)) (fun y hy=>by
   obtain ⟨z,hz,rfl⟩:=List.mem_map.1 hy;exact h z (List.mem_cons_of_mem _ hz))
  rw [List.length_map]at h1;have h2:=h x (List.mem_cons_self ..);have h3:x.data.toList.length=x.size:=rfl;have h4:sep.data.toList.length=sep.size:=rfl;rw [h4]at h1;rw [List.length_cons,Nat.succ_mul];omega
theorem IL (l:List ByteArray):l=(l.map fun s=> [Pc.wd s]).map aW:=by
 rw [List.map_map]
 conv=>lhs;rw [←List.map_id' l]
 refine List.map_congr_left fun s _=> ?_
 show s=s++⟨#[]⟩;rw [He]
theorem jy:aW dx=(⟨#[44,32]⟩:ah):=by decide+kernel
theorem Pb:aW Mk=(⟨#[32,65,78,68,32]⟩:ah):=by decide+kernel
theorem vY {w:World}{u:Value}{L:List ByteArray}(hl:L.length≤100) (hr:Rd w u L.length (L.map Value.string)) (hs:∀x∈L,x.size≤2000000):
 Calls prog 130 #[u] w fun e w' =>e= .returned (.string (aW (jo L)))∧Below w.heap.size w w' :=by
 have hJ:=gJ (⟨#[44,32]⟩:ah) (L.map fun s=>s) 2000000 (fun x hx=>by rw [List.map_id']at hx;exact hs x hx);rw [List.length_map]at hJ
 have hc:=IJ (T:=fun s=>s) (sep:=(⟨#[44,32]⟩:ah)) hl hr (fun q _ w' _=>zA q w') (Nat.le_trans hJ (by
  have:L.length*(2000000+2)≤100*(2000000+2):=Nat.mul_le_mul_right _ hl;show L.length*(2000000+2)≤_;omega))
 obtain ⟨a,cap,rfl,_⟩:=hr;by_cases h0:L.length=0
 · have p0:((L.length:Int)==0)=true:=by rw [beq_iff_eq];omega
   have HE:Hid (aW (jo L)=(⟨#[42]⟩:ah)):=by
    have:=List.length_eq_zero_iff.1 h0;subst this;show _=_;decide+kernel
   clear hc hs hJ h0;go_enter func130,ntmps130;go_wp2_with fail;go_ret;rw [HE.out];exact ⟨rfl,Below.refl _ _⟩
 · have p0:((L.length:Int)==0)=false:=by rw [beq_eq_false_iff_ne];omega
   rw [List.map_id']at hc
   have HE:Hid (dh (⟨#[44,32]⟩:ah) L=aW (jo L)):=by
    show _=_;unfold jo;rw [if_neg (by intro e;rw [e]at h0;exact h0 rfl),←iI,jy,←IL]
   clear hs hJ h0;go_enter func130,ntmps130;go_wp2_with fail;refine hc.mono ?_;rintro e w2 ⟨rfl,hb2⟩;go_wp2_with fail;go_ret;rw [←HE.out];exact ⟨rfl,hb2⟩
def rD (L:List Pr):Prop:=L.length≤100∧∀q∈L,Fh q.t∧q.name.size≤2000000
theorem oK (q:Pr) (h:Fh q.t∧q.name.size≤2000000):(aW (eU q)).size≤8000000:=by
 have e:aW (eU q)=(q.name++(⟨#[32,61,32]⟩:ah))++(gP q.t).text:=by
  unfold eU;apply ByteArray.ext;apply Array.ext';simp [aW,Pc.text]
 have:=IK q.t h.1;have:=h.2;rw [e,ByteArray.size_append,ByteArray.size_append];show _+3+_≤_;omega
theorem Gj {w:World}{u:Value}{L:List Pr}{sep:ByteArray}(hG:Gp w) (hL:rD L) (hr:Rd w u L.length (fG L)) (hsep:sep.size≤10):
 Calls prog 131 #[u, .string sep, .func (.func 136) #[] #[]] w fun e w' =>e= .returned (.string (dh sep (L.map fun q=>aW (eU q))))∧Below w.heap.size w w' :=by
 have hJ:=gJ sep (L.map fun q=>aW (eU q)) 8000000 (fun x hx=>by
  obtain ⟨q,hq,rfl⟩:=List.mem_map.1 hx;exact oK q (hL.2 q hq))
 rw [List.length_map]at hJ;refine abb (T:=fun q=>aW (eU q)) hL.1 hr (fun q hq w' hb=>Nc q w' (hG.below hb) (hL.2 q hq).1 (hL.2 q hq).2) (Nat.le_trans hJ ?_);have:L.length*(8000000+sep.size)≤100*(8000000+10):=Nat.mul_le_mul hL.1 (by omega);omega
theorem pE {w:World}{u:Value}{L:List Pr}(hG:Gp w) (hL:rD L) (hr:Rd w u L.length (fG L)):
 Calls prog 137 #[u] w fun e w' =>e= .returned (.string (aW (eX L)))∧Below w.heap.size w w' :=by
 have hc:=Gj (sep:=(⟨#[32,65,78,68,32]⟩:ah)) hG hL hr (by decide)
 have hJ:=gJ (⟨#[32,65,78,68,32]⟩:ah) (L.map fun q=>aW (eU q)) 8000000 (fun x hx=>by
  obtain ⟨q,hq,rfl⟩:=List.mem_map.1 hx;exact oK q (hL.2 q hq))
 rw [List.length_map]at hJ;have hJ2:L.length*(8000000+5)≤100*(8000000+5):=Nat.mul_le_mul_right _ hL.1
 have ha:=fU (⟨#[32,87,72,69,82,69,32]⟩:ah) (dh (⟨#[32,65,78,68,32]⟩:ah) (L.map fun q=>aW (eU q))) (by
  change _≤L.length*(8000000+5)at hJ;show 7+_≤_;omega)
 have HE:Hid ((⟨#[32,87,72,69,82,69,32]⟩:ah)++dh (⟨#[32,65,78,68,32]⟩:ah) (L.map fun q=>aW (eU q))=aW (eX L)):=by
  show _=_;unfold eX;rw [bM,←iI,Pb,List.map_map];rfl
 obtain ⟨a,cap,rfl,_⟩:=hr;clear hJ hJ2 hL hG;go_enter func137,ntmps137;go_wp2_with fail;refine hc.mono ?_;rintro e w2 ⟨rfl,hb2⟩;go_wp2_with fail;go_ret;rw [←HE.out];exact ⟨rfl,hb2⟩
theorem sV {w:World}{stamp ttl:Int}(hG:Gp w) (hs:Jr stamp) (ht:Jr ttl):
 Calls prog 135 #[.int .i64 stamp, .int .i64 ttl] w fun e w' =>e= .returned (.string (aW (dQ stamp ttl)))∧Below w.heap.size w w' :=by
 have HI1:=Lib.hid (fun (w' :World) (hB:Below w.heap.size w w')=>vD stamp hs.1 hs.2 w' (hG.below hB));have HI2:=Lib.hid (fun (w' :World) (hB:Below w.heap.size w w')=>vD ttl ht.1 ht.2 w' (hG.below hB));have l1:=lS stamp hs;have l2:=lS ttl ht;have ha1:=fU (⟨#[84,73,77,69,83,84,65,77,80,32]⟩:ah) (kr stamp) (by show 10+_≤_;omega);have ha2:=fU (⟨#[84,84,76,32]⟩:ah) (kr ttl) (by show 4+_≤_;omega);have s1:((⟨#[84,73,77,69,83,84,65,77,80,32]⟩:ah)++kr stamp).size≤31:=by rw [ByteArray.size_append];show 10+_≤_;omega
 have s2:((⟨#[84,84,76,32]⟩:ah)++kr ttl).size≤31:=by rw [ByteArray.size_append];show 4+_≤_;omega
 have hB0:=Below.refl w.heap.size w;obtain ⟨A,hA⟩:∃r,(⟨#[84,73,77,69,83,84,65,77,80,32]⟩:ah)++kr stamp=r:=⟨_,rfl⟩;obtain ⟨B,hB⟩:∃r,(⟨#[84,84,76,32]⟩:ah)++kr ttl=r:=⟨_,rfl⟩;rw [hA]at ha1 s1;rw [hB]at ha2 s2;have HA:=Lib.hid hA;have HB:=Lib.hid hB;clear hA hB hs ht l1 l2 hG;by_cases h1:stamp=0
 · by_cases h2:ttl=0
   · skip
     have q1:(stamp !=0)=false:=by rw [h1];rfl
     have q2:(ttl !=0)=false:=by rw [h2];rfl
     have HE:Hid (aW (dQ stamp ttl)=⟨#[]⟩):=by show _=_;unfold dQ;rw [if_pos h1,if_pos h2];rfl
     clear h1 h2;go_enter func135,ntmps135;go_wp2_with fail;go_ret;rw [HE.out];exact ⟨rfl,hB0⟩
   · skip
     have q1:(stamp !=0)=false:=by rw [h1];rfl
     have q2:(ttl !=0)=true:=bne_iff_ne.2 h2;have hj:(dh (⟨#[32,65,78,68,32]⟩:ah) [B]).size≤2*36:=Nat.le_trans (gJ _ _ 31 (by intro x hx;simp only [List.mem_cons,List.not_mem_nil,or_false]at hx;rcases hx with rfl<;>assumption)) (by show _*(31+5)≤_;simp);have ha3:=fU (⟨#[32,85,83,73,78,71,32]⟩:ah) (dh (⟨#[32,65,78,68,32]⟩:ah) [B]) (by show 7+_≤_;omega)
     have HE:Hid ((⟨#[32,85,83,73,78,71,32]⟩:ah)++dh (⟨#[32,65,78,68,32]⟩:ah) [B]=aW (dQ stamp ttl)):=by
      show _=_;unfold dQ;rw [if_pos h1,if_neg h2,←HB.out];apply ByteArray.ext;apply Array.ext';simp [dh,Lib.join,List.intercalate,aW,Pc.text]
     have hj' :(dh (⟨#[32,65,78,68,32]⟩:ah) ([B].map fun s=>s)).size≤140737488355328:=by rw [List.map_id'];omega
     clear h1 h2 s1 s2 hj;go_enter func135,ntmps135;have hc0:=HI2.out _ hB0;go_wp2_with fail;refine hc0.mono ?_;rintro e w1 ⟨rfl,hb1⟩;have hB1:=hB0.trans (hb1.mono hB0.size);have hr1:w1.ownsRow w.heap.size 9 1 (.slice none 0 0) 0 []:=World.ownsRow_nil _ _ _ _;go_wp2_with (at_builtin;refine app1 Tryz.tY rfl _ _ rfl w.heap.size _ _ _ rfl (hr1.alloc _) _ _ [.string B] rfl rfl (bA _ _ _) (by intro u hu;rw [List.mem_singleton.1 hu];rfl) (by omega) (by have:=hB1.size;simp;omega) ?_;intro a1 c1 v1 h1 hg1 hn1);have hB2:=below_app (hB1.alloc hB1.size (.cells #[.string B] 9)) (by have:=hB1.size;rw [av];omega) hg1 (fun g2 hg2=>(hr1.lt g2 hg2).1);have hq:=IJ (w:=v1) (L:= [B]) (T:=fun s=>s) (sep:=(⟨#[32,65,78,68,32]⟩:ah)) (by simp) (Rd.own h1) (fun q _ w' _=>zA q w') hj';rw [List.map_id']at hq;go_wp2_with fail;refine hq.mono ?_;rintro e wz ⟨rfl,hbz⟩;go_wp2_with fail;go_ret;rw [←HE.out];exact ⟨rfl,hB2.trans (hbz.mono hB2.size)⟩
 · by_cases h2:ttl=0
   · skip
     have q1:(stamp !=0)=true:=bne_iff_ne.2 h1;have q2:(ttl !=0)=false:=by rw [h2];rfl
     have hj:(dh (⟨#[32,65,78,68,32]⟩:ah) [A]).size≤2*36:=Nat.le_trans (gJ _ _ 31 (by intro x hx;simp only [List.mem_cons,List.not_mem_nil,or_false]at hx;rcases hx with rfl<;>assumption)) (by show _*(31+5)≤_;simp);have ha3:=fU (⟨#[32,85,83,73,78,71,32]⟩:ah) (dh (⟨#[32,65,78,68,32]⟩:ah) [A]) (by show 7+_≤_;omega)
     have HE:Hid ((⟨#[32,85,83,73,78,71,32]⟩:ah)++dh (⟨#[32,65,78,68,32]⟩:ah) [A]=aW (dQ stamp ttl)):=by
      show _=_;unfold dQ;rw [if_neg h1,if_pos h2,←HA.out];apply ByteArray.ext;apply Array.ext';simp [dh,Lib.join,List.intercalate,aW,Pc.text]
     have hj' :(dh (⟨#[32,65,78,68,32]⟩:ah) ([A].map fun s=>s)).size≤140737488355328:=by rw [List.map_id'];omega
     clear h1 h2 s1 s2 hj;go_enter func135,ntmps135;have hc0:=HI1.out _ hB0;go_wp2_with fail;refine hc0.mono ?_;rintro e w1 ⟨rfl,hb1⟩;have hB1:=hB0.trans (hb1.mono hB0.size);have hr1:w1.ownsRow w.heap.size 9 1 (.slice none 0 0) 0 []:=World.ownsRow_nil _ _ _ _;go_wp2_with (at_builtin;refine app1 Tryz.tY rfl _ _ rfl w.heap.size _ _ _ rfl (hr1.alloc _) _ _ [.string A] rfl rfl (bA _ _ _) (by intro u hu;rw [List.mem_singleton.1 hu];rfl) (by omega) (by have:=hB1.size;simp;omega) ?_;intro a1 c1 v1 h1 hg1 hn1);have hB2:=below_app (hB1.alloc hB1.size (.cells #[.string A] 9)) (by have:=hB1.size;rw [av];omega) hg1 (fun g2 hg2=>(hr1.lt g2 hg2).1);have hq:=IJ (w:=v1) (L:= [A]) (T:=fun s=>s) (sep:=(⟨#[32,65,78,68,32]⟩:ah)) (by simp) (Rd.own h1) (fun q _ w' _=>zA q w') hj';rw [List.map_id']at hq;go_wp2_with fail;refine hq.mono ?_;rintro e wz ⟨rfl,hbz⟩;go_wp2_with fail;go_ret;rw [←HE.out];exact ⟨rfl,hB2.trans (hbz.mono hB2.size)⟩
   · skip
     have q1:(stamp !=0)=true:=bne_iff_ne.2 h1;have q2:(ttl !=0)=true:=bne_iff_ne.2 h2;have hj:(dh (⟨#[32,65,78,68,32]⟩:ah) [A,B]).size≤2*36:=Nat.le_trans (gJ _ _ 31 (by intro x hx;simp only [List.mem_cons,List.not_mem_nil,or_false]at hx;rcases hx with rfl|rfl<;>assumption)) (by show _*(31+5)≤_;simp);have ha3:=fU (⟨#[32,85,83,73,78,71,32]⟩:ah) (dh (⟨#[32,65,78,68,32]⟩:ah) [A,B]) (by show 7+_≤_;omega)
     have HE:Hid ((⟨#[32,85,83,73,78,71,32]⟩:ah)++dh (⟨#[32,65,78,68,32]⟩:ah) [A,B]=aW (dQ stamp ttl)):=by
      show _=_;unfold dQ;rw [if_neg h1,if_neg h2,←HA.out,←HB.out];apply ByteArray.ext;apply Array.ext';simp [dh,Lib.join,List.intercalate,aW,Pc.text]
     have hj' :(dh (⟨#[32,65,78,68,32]⟩:ah) ([A,B].map fun s=>s)).size≤140737488355328:=by rw [List.map_id'];omega
     clear h1 h2 s1 s2 hj;go_enter func135,ntmps135;have hc0:=HI1.out _ hB0;go_wp2_with fail;refine hc0.mono ?_;rintro e w1 ⟨rfl,hb1⟩;have hB1:=hB0.trans (hb1.mono hB0.size);have hr1:w1.ownsRow w.heap.size 9 1 (.slice none 0 0) 0 []:=World.ownsRow_nil _ _ _ _;go_wp2_with (at_builtin;refine app1 Tryz.tY rfl _ _ rfl w.heap.size _ _ _ rfl (hr1.alloc _) _ _ [.string A] rfl rfl (bA _ _ _) (by intro u hu;rw [List.mem_singleton.1 hu];rfl) (by omega) (by have:=hB1.size;simp;omega) ?_;intro a1 c1 v1 h1 hg1 hn1);have hB2:=below_app (hB1.alloc hB1.size (.cells #[.string A] 9)) (by have:=hB1.size;rw [av];omega) hg1 (fun g2 hg2=>(hr1.lt g2 hg2).1);have hc2:=HI2.out _ hB2;go_wp2_with fail;refine hc2.mono ?_;rintro e w3 ⟨rfl,hb3⟩;have hB3:=hB2.trans (hb3.mono hB2.size);have hr3:=bP h1 hb3;go_wp2_with (at_builtin;refine app1 Tryz.tY rfl _ _ rfl w.heap.size _ _ _ rfl (hr3.alloc _) _ _ [.string B] rfl rfl (bA _ _ _) (by intro u hu;rw [List.mem_singleton.1 hu];rfl) (by omega) (by have:=hB3.size;simp;omega) ?_;intro a3 c3 v3 h3 hg3 OI);have hB4:=below_app (hB3.alloc hB3.size (.cells #[.string B] 9)) (by have:=hB3.size;rw [av];omega) hg3 (fun g2 hg2=>(hr3.lt g2 hg2).1);have hq:=IJ (w:=v3) (L:= [A,B]) (T:=fun s=>s) (sep:=(⟨#[32,65,78,68,32]⟩:ah)) (by simp) (Rd.own h3) (fun q _ w' _=>zA q w') hj';rw [List.map_id']at hq;go_wp2_with fail;refine hq.mono ?_;rintro e wz ⟨rfl,hbz⟩;go_wp2_with fail;go_ret;rw [←HE.out];exact ⟨rfl,hB4.trans (hbz.mono hB4.size)⟩
end Go.Proofs.YtnngbhpeeakfaaaGreatDoor
