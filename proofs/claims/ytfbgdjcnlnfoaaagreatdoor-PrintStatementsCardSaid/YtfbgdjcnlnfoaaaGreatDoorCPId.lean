/- Parts of the proof, joined: RSmA. -/
import Derived.BigQuiet
import Derived.Test.YtfbgdjcnlnfoaaaGreatDoorB12i
import Derived.Test.YtfbgdjcnlnfoaaaGreatDoorCPIa
import Derived.Test.YtfbgdjcnlnfoaaaGreatDoorRows
set_option maxHeartbeats 4000000
set_option maxRecDepth 100000
namespace Go.Proofs.YtfbgdjcnlnfoaaaGreatDoor
open Go.RowKit
open aH
theorem Cb (s:ByteArray) (ty:Int) (w:World):
 Calls Tryz.prog 117 #[.agg #[.string s,.int .i64 ty],.agg #[.string s,.int .i64 ty]] w fun e w' =>e= .returned (.bool true)∧Below w.heap.size w w' :=by
 obtain ⟨hB,hBx,bg⟩:=eu w #[.string s,.int .i64 ty] #[.string s,.int .i64 ty] 23 23
 obtain ⟨W,hW⟩:∃W,(w.alloc (.cells #[.string s,.int .i64 ty] 23)).alloc (.cells #[.string s,.int .i64 ty] 23)=W:=⟨_,rfl⟩
 rw [hW]at hB hBx bg
 have a0:W.cell? ⟨w.heap.size,0,none⟩=some (.string s):=aj hBx 0
 have a1:W.cell? ⟨w.heap.size,1,none⟩=some (.int .i64 ty):=aj hBx 1
 have b0:W.cell? ⟨w.heap.size+1,0,none⟩=some (.string s):=aj bg 0
 have b1:W.cell? ⟨w.heap.size+1,1,none⟩=some (.int .i64 ty):=aj bg 1
 have s0:(s.toList==s.toList)=true:=bC rfl
 clear hBx bg
 go_enter Tryz.func117,Tryz.ntmps117
 go_wp2_with fail
 go_ret
 exact ⟨rfl,hB⟩
theorem KA {w:World}{u v:Value}{L:List ByteArray}(hu:Rd w u L.length (L.map Value.string)) (hv:Rd w v L.length (L.map Value.string)) (hl:L.length≤100000):
 Calls Tryz.prog 75 #[u,v] w fun e w' =>e= .returned (.bool true)∧Below w.heap.size w w' :=by
 obtain ⟨a1,k1,rfl,hx0⟩:=hu
 obtain ⟨a2,k2,rfl,hy0⟩:=hv
 obtain ⟨n,hn⟩:∃n,L.length=n:=⟨_,rfl⟩
 have HN:=Lib.hid hn
 rw [hn]at hx0 hy0 hl⊢
 clear hn
 have t0:((n:Int) !=(n:Int))=false:=by simp
 go_enter Tryz.func75,Tryz.ntmps75
 go_wp2_with fail
 go_loopw [5] (fun i wr=>∃j:Nat,i= .int .i64 j∧j≤n∧Below w.heap.size w wr) (fun i _=>n - (intOf i).toNat)
 case atStart=>exact ⟨0,rfl,Nat.zero_le _,Below.refl _ _⟩
 case round=>
  obtain ⟨j,rfl,hj,hBr⟩:=hrel
  have hsz:=hBr.size
  by_cases hjl:j<n
  · have p0:(j:Int)<(n:Int):=by omega
    have p1:(0:Int)≤(j:Int):=by omega
    have HJ:=Lib.hid (show j+1≤n from hjl)
    obtain ⟨g1,o1,rfl,hx⟩:=hx0 (by omega)
    obtain ⟨g2,o2,rfl,hy⟩:=hy0 (by omega)
    obtain ⟨q,hq⟩:∃q,L[j]? =some q:=⟨_,List.getElem?_eq_getElem (by have:=HN.out;omega)⟩
    have k0:wr.cell? ⟨g1,o1+j,none⟩=some (.string q):=aJ hBr (hx (j) _ (by rw [List.getElem?_map,hq];rfl))
    have l0:wr.cell? ⟨g2,o2+j,none⟩=some (.string q):=aJ hBr (hy (j) _ (by rw [List.getElem?_map,hq];rfl))
    have s0:(q.toList==q.toList)=true:=bC rfl
    clear hq hx hy
    go_wp2_with fail
    go_quiet (fail)
    go_wp2_with fail
    go_roundw
    case rel=>exact ⟨j+1,by go_num,HJ.out,aH.below_drewN hBr _⟩
    case measure=>have hjj:=HJ.out;simp [intOf];omega
  · have mo:j=n:=by omega
    subst mo
    go_wp2_with fail
    go_ret
    exact ⟨rfl,hBr⟩
theorem Cc {w:World}{u v:Value}{L:List Pr}(hu:Rd w u L.length (bQ L)) (hv:Rd w v L.length (bQ L)) (hl:L.length≤100000):
 Calls Tryz.prog 76 #[u,v] w fun e w' =>e= .returned (.bool true)∧Below w.heap.size w w' :=by
 obtain ⟨a1,k1,rfl,hx0⟩:=hu
 obtain ⟨a2,k2,rfl,hy0⟩:=hv
 obtain ⟨n,hn⟩:∃n,L.length=n:=⟨_,rfl⟩
 have HN:=Lib.hid hn
 rw [hn]at hx0 hy0 hl⊢
 clear hn
 have t0:((n:Int) !=(n:Int))=false:=by simp
 go_enter Tryz.func76,Tryz.ntmps76
 go_wp2_with fail
 go_loopw [5] (fun i wr=>∃j:Nat,i= .int .i64 j∧j≤n∧Below w.heap.size w wr) (fun i _=>n - (intOf i).toNat)
 case atStart=>exact ⟨0,rfl,Nat.zero_le _,Below.refl _ _⟩
 case round=>
  obtain ⟨j,rfl,hj,hBr⟩:=hrel
  have hsz:=hBr.size
  by_cases hjl:j<n
  · have p0:(j:Int)<(n:Int):=by omega
    have p1:(0:Int)≤(j:Int):=by omega
    have HJ:=Lib.hid (show j+1≤n from hjl)
    obtain ⟨g1,o1,rfl,hx⟩:=hx0 (by omega)
    obtain ⟨g2,o2,rfl,hy⟩:=hy0 (by omega)
    obtain ⟨q,hq⟩:∃q,L[j]? =some q:=⟨_,List.getElem?_eq_getElem (by have:=HN.out;omega)⟩
    have k0:wr.cell? ⟨g1,o1+j*4,none⟩=some (.string q.name):=aJ hBr (hx (j*4) _ (by have:=bO hq 0 (by omega);rw [Nat.add_zero]at this;rw [this];rfl))
    have k1:wr.cell? ⟨g1,o1+j*4+1,none⟩=some (.int .i64 q.t.ty):=by rw [Nat.add_assoc];exact aJ hBr (hx (j*4+1) _ (by rw [bO hq 1 (by omega)];rfl))
    have k2:wr.cell? ⟨g1,o1+j*4+2,none⟩=some (.string q.t.s):=by rw [Nat.add_assoc];exact aJ hBr (hx (j*4+2) _ (by rw [bO hq 2 (by omega)];rfl))
    have k3:wr.cell? ⟨g1,o1+j*4+3,none⟩=some (.int .i64 q.t.n):=by rw [Nat.add_assoc];exact aJ hBr (hx (j*4+3) _ (by rw [bO hq 3 (by omega)];rfl))
    have l0:wr.cell? ⟨g2,o2+j*4,none⟩=some (.string q.name):=aJ hBr (hy (j*4) _ (by have:=bO hq 0 (by omega);rw [Nat.add_zero]at this;rw [this];rfl))
    have l1:wr.cell? ⟨g2,o2+j*4+1,none⟩=some (.int .i64 q.t.ty):=by rw [Nat.add_assoc];exact aJ hBr (hy (j*4+1) _ (by rw [bO hq 1 (by omega)];rfl))
    have l2:wr.cell? ⟨g2,o2+j*4+2,none⟩=some (.string q.t.s):=by rw [Nat.add_assoc];exact aJ hBr (hy (j*4+2) _ (by rw [bO hq 2 (by omega)];rfl))
    have l3:wr.cell? ⟨g2,o2+j*4+3,none⟩=some (.int .i64 q.t.n):=by rw [Nat.add_assoc];exact aJ hBr (hy (j*4+3) _ (by rw [bO hq 3 (by omega)];rfl))
    have s0:(q.name.toList==q.name.toList)=true:=bC rfl
    have s1:(q.t.s.toList==q.t.s.toList)=true:=bC rfl
    clear hq hx hy
    go_wp2_with fail
    go_quiet (fail)
    go_wp2_with fail
    go_roundw
    case rel=>exact ⟨j+1,by go_num,HJ.out,aH.below_drewN hBr _⟩
    case measure=>have hjj:=HJ.out;simp [intOf];omega
  · have mo:j=n:=by omega
    subst mo
    go_wp2_with fail
    go_ret
    exact ⟨rfl,hBr⟩
theorem KC {w:World}{x:Sx}{a0 b0:Option Addr}{n k0 m0:Nat}(hn:x.aN.length=n) (hu:Rd w (.slice a0 n k0) n (iM x.aN)) (hv:Rd w (.slice b0 n m0) n (iM x.aN)) (hl:n≤100000):
 Calls Tryz.prog 74 #[.agg #[.string x.aW,.int .i64 x.tid,.string x.part.name,.int .i64 x.part.ty,.string x.aI.name,.int .i64 x.aI.ty,.slice a0 n k0],.agg #[.string x.aW,.int .i64 x.tid,.string x.part.name,.int .i64 x.part.ty,.string x.aI.name,.int .i64 x.aI.ty,.slice b0 n m0]] w fun e w' =>e= .returned (.bool true)∧Below w.heap.size w w' :=by
 have hx0:0<n→∃g o,a0=some ⟨g,o,none⟩∧∀k v,(iM x.aN)[k]? =some v→w.cell? ⟨g,o+k,none⟩=some v:=by
  obtain ⟨a1,k1,ha1,h⟩:=hu
  cases ha1
  exact h
 have hy0:0<n→∃g o,b0=some ⟨g,o,none⟩∧∀k v,(iM x.aN)[k]? =some v→w.cell? ⟨g,o+k,none⟩=some v:=by
  obtain ⟨a1,k1,ha1,h⟩:=hv
  cases ha1
  exact h
 clear hu hv
 obtain ⟨hB,hBx,bg⟩:=eu w #[.string x.aW,.int .i64 x.tid,.string x.part.name,.int .i64 x.part.ty,.string x.aI.name,.int .i64 x.aI.ty,.slice a0 n k0] #[.string x.aW,.int .i64 x.tid,.string x.part.name,.int .i64 x.part.ty,.string x.aI.name,.int .i64 x.aI.ty,.slice b0 n m0] 26 26
 obtain ⟨W,hW⟩:∃W,(w.alloc (.cells #[.string x.aW,.int .i64 x.tid,.string x.part.name,.int .i64 x.part.ty,.string x.aI.name,.int .i64 x.aI.ty,.slice a0 n k0] 26)).alloc (.cells #[.string x.aW,.int .i64 x.tid,.string x.part.name,.int .i64 x.part.ty,.string x.aI.name,.int .i64 x.aI.ty,.slice b0 n m0] 26)=W:=⟨_,rfl⟩
 rw [hW]at hB hBx bg
 have HX:=Lib.hid hBx
 have HY:=Lib.hid bg
 have HN:=Lib.hid hn
 obtain ⟨f0,f1,f2,f3,f4,f5,f6⟩:=t7 hBx
 obtain ⟨g0,g1,g2,g3,g4,g5,g6⟩:=t7 bg
 have s0:(x.aW.toList==x.aW.toList)=true:=bC rfl
 have r1:=Cb x.part.name x.part.ty
 have r2:=Cb x.aI.name x.aI.ty
 have HB:=Lib.hid hB
 have t0:((n:Int) !=(n:Int))=false:=by simp
 clear hBx bg hB hn
 go_enter Tryz.func74,Tryz.ntmps74
 go_wp2_with fail
 (try rw [hW])
 refine (r1 _).mono ?_;rintro e w1 ⟨rfl,h1⟩
 have hBx:=aD h1 HX.out
 have bg:=aD h1 HY.out
 have uT:=Lib.hid hBx
 have uU:=Lib.hid bg
 have HB1:=Lib.hid (HB.out.trans (h1.mono HB.out.size))
 obtain ⟨f0,f1,f2,f3,f4,f5,f6⟩:=t7 hBx
 obtain ⟨g0,g1,g2,g3,g4,g5,g6⟩:=t7 bg
 clear hBx bg h1 HX HY HB r1 hW
 go_wp2_with fail
 refine (r2 _).mono ?_;rintro e w2 ⟨rfl,h2⟩
 have hBx:=aD h2 uT.out
 have bg:=aD h2 uU.out
 have Co:=Lib.hid hBx
 have LV:=Lib.hid bg
 have HB2:=Lib.hid (HB1.out.trans (h2.mono HB1.out.size))
 obtain ⟨f0,f1,f2,f3,f4,f5,f6⟩:=t7 hBx
 obtain ⟨g0,g1,g2,g3,g4,g5,g6⟩:=t7 bg
 clear hBx bg h2 uT uU HB1 r2
 go_wp2_with fail
 go_loopw [5] (fun i wr=>∃j:Nat,i= .int .i64 j∧j≤n∧Hid (Below w2.heap.size w2 wr)) (fun i _=>n - (intOf i).toNat)
 case atStart=>exact ⟨0,rfl,Nat.zero_le _,Below.refl _ _⟩
 case round=>
  obtain ⟨j,rfl,hj,Sk⟩:=hrel
  have hBx:=aD Sk.out Co.out
  have bg:=aD Sk.out LV.out
  have f6:=aj hBx 6
  have g6:=aj bg 6
  have f6' :wr.cell? ⟨w.heap.size,6,none⟩=some (.slice a0 n k0):=f6
  have g6' :wr.cell? ⟨w.heap.size+1,6,none⟩=some (.slice b0 n m0):=g6
  clear f6 g6 hBx bg
  have Sl:=Lib.hid (HB2.out.trans (Sk.out.mono HB2.out.size))
  by_cases hjl:j<n
  · have p0:(j:Int)<(n:Int):=by omega
    have p1:(0:Int)≤(j:Int):=by omega
    have HJ:=Lib.hid (show j+1≤n from hjl)
    obtain ⟨ga,o1,Rp,hx⟩:=hx0 (by omega)
    obtain ⟨gb,o2,heb,hy⟩:=hy0 (by omega)
    subst Rp
    subst heb
    obtain ⟨q,hq⟩:∃q,x.aN[j]? =some q:=⟨_,List.getElem?_eq_getElem (by have:=HN.out;omega)⟩
    have ZH:wr.cell? ⟨ga,o1+j*2,none⟩=some (.string q.name):=aJ Sl.out (hx (j*2) _ (by have:=jc hq 0 (by omega);rw [Nat.add_zero]at this;rw [this];rfl))
    have k1' :wr.cell? ⟨ga,o1+j*2+1,none⟩=some (.int .i64 q.ty):=by rw [Nat.add_assoc];exact aJ Sl.out (hx (j*2+1) _ (by rw [jc hq 1 (by omega)];rfl))
    have l0' :wr.cell? ⟨gb,o2+j*2,none⟩=some (.string q.name):=aJ Sl.out (hy (j*2) _ (by have:=jc hq 0 (by omega);rw [Nat.add_zero]at this;rw [this];rfl))
    have l1' :wr.cell? ⟨gb,o2+j*2+1,none⟩=some (.int .i64 q.ty):=by rw [Nat.add_assoc];exact aJ Sl.out (hy (j*2+1) _ (by rw [jc hq 1 (by omega)];rfl))
    have rq:=Cb q.name q.ty
    clear hq hx hy hx0 hy0
    go_wp2_with fail
    go_region_law (go_simp;go_at_call 117;refine (rq _).mono ?_;rintro e w3 ⟨rfl,h3⟩)
    all_goals go_wp2_with fail
    all_goals go_roundw
    all_goals first
     |exact ⟨j+1,by go_num,HJ.out,Sk.out.trans (((aH.below_drewN (Below.refl wr.heap.size wr) _).trans h3).mono Sk.out.size)⟩
     |(have hjj:=HJ.out;simp [intOf];omega)
  · have mo:j=n:=by omega
    subst mo
    go_wp2_with fail
    go_ret
    exact ⟨rfl,Sl.out⟩
end Go.Proofs.YtfbgdjcnlnfoaaaGreatDoor
