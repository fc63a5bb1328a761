/- Parts of the proof, joined: LnB LnC. -/
import Derived.BigQuiet
import Derived.Deep.AppendLies
import Derived.Deep.RegionLaw
import Derived.Test.YtfbgdjcnlnfoaaaGreatDoorB09
import Derived.Test.YtfbgdjcnlnfoaaaGreatDoorCPIh
import Derived.Test.YtfbgdjcnlnfoaaaGreatDoorCPIi
import Derived.Test.YtfbgdjcnlnfoaaaGreatDoorRows
set_option maxHeartbeats 8000000
set_option maxRecDepth 100000
namespace Go.Proofs.YtfbgdjcnlnfoaaaGreatDoor
open Go.RowKit
open aH
theorem KH (v n:Int) (w:World) (hn:1≤n) (hn2:n≤1000000000000000000) (hv0: -9223372036854775808≤v) (hv1:v≤9223372036854775807):
 Calls Tryz.prog 23 #[.int .i64 v,.int .i64 n] w fun e w' =>e= .returned (.int .i64 (v % n))∧w=w' :=by
 have hp:=Lib.hid (zZ v n hn)
 by_cases h0:0≤v
 · have h2:=Int.emod_nonneg v (show n≠0 by omega)
   have h3:=Int.emod_lt_of_pos v (show 0<n by omega)
   clear hv0
   go_enter Tryz.func23,Tryz.ntmps23
   go_wp2_with fail
   go_ret
   exact ⟨rfl,rfl⟩
 · have hm:v.tmod n≤0:=by have:=Int.tmod_nonneg n (show 0≤ -v by omega);rw [Int.neg_tmod]at this;omega
   have hm2: -n<v.tmod n:=by
    have:=Int.tmod_lt_of_pos (-v) (show 0<n by omega);rw [Int.neg_tmod]at this;omega
   clear hv0 hv1
   by_cases hz:v.tmod n<0
   · have HE:Hid (v.tmod n+n=v % n):=by have:=hp.out;rw [if_pos hz]at this;exact this
     go_enter Tryz.func23,Tryz.ntmps23
     go_wp2_with fail
     go_ret
     exact ⟨lN HE.out,rfl⟩
   · have HE:Hid (v.tmod n=v % n):=by have:=hp.out;rw [if_neg hz]at this;exact this
     go_enter Tryz.func23,Tryz.ntmps23
     go_wp2_with fail
     go_ret
     exact ⟨lN HE.out,rfl⟩
theorem OX {w:World}{a:Option Addr}{z:Int}{r:List Int}{cap:Nat}(h:qo w (.slice a (r.length+1) cap) (z::r)):
 qo w (.slice (if cap=1 then a else a.map (·.add 1)) r.length (cap - 1)) r:=by
 obtain ⟨a0,c0,he,h1,h2,h3,h4⟩:=h
 cases he
 obtain ⟨g,off,rfl,hg,hc⟩:=h4 (by simp)
 simp only [List.length_cons]at h1
 refine ⟨_,_,rfl,by omega,by omega,fun x hx=>h3 x (List.mem_cons_of_mem _ hx),fun h0=> ?_⟩
 rw [if_neg (by omega)]
 refine ⟨g,off+1,rfl,hg,fun j hj=> ?_⟩
 have:=hc (j+1) (by simp;omega)
 rw [show off+1+j=off+(j+1)by omega]
 exact this
theorem Ch {K:LK}{w:World}(h:LQ K w):
 ∃v:Nat,v<1048576∧Calls Tryz.prog 43 #[.pointer (some ⟨K.b,0,none⟩),.int .i64 1048576] w fun e w' =>e= .returned (.int .i64 v)∧dM K w w' :=by
 have hD:=dM.refl h
 obtain ⟨_,hB,V,zs,hb,hI⟩:=h
 have hI0:=hI
 obtain ⟨a,cap,rfl,h1,h2,h3,h4⟩:=hI
 have c0:=aj hb 0
 have f0:=ah hb 0
 cases zs with
 |nil=>
  have HD:=Lib.hid hD
  clear hI0 hD h3 h4 hB
  refine ⟨0,by decide,?_⟩
  replace c0:w.cell? ⟨K.b,0,none⟩=some (.slice a 0 cap):=c0
  go_enter Tryz.func43,Tryz.ntmps43
  go_wp2_with fail
  go_ret
  exact ⟨rfl,HD.out⟩
 |cons z r=>
  obtain ⟨g,off,rfl,hg,hc⟩:=h4 (by simp)
  have hz:=h3 z (List.mem_cons_self ..)
  have cz:w.cell? ⟨g,off,none⟩=some (.int .i64 z):=by
   have:=hc 0 (by simp)
   exact (hB.cell (eY this)).trans this
  have HT:=OX hI0
  have hp:=fun w=>KH z 1048576 w (by omega) (by omega) hz.1 hz.2
  obtain ⟨v,hv⟩:∃v:Nat,z % 1048576=v:=⟨(z % 1048576).toNat,by omega⟩
  have hvl:v<1048576:=by omega
  rw [hv]at hp
  have HD:=Lib.hid hD
  replace c0:w.cell? ⟨K.b,0,none⟩=some (.slice (some ⟨g,off,none⟩) (r.length+1) cap):=c0
  have hcap:r.length+1≤cap:=h1
  clear hI0 hD h3 h4 hB hc hz hv h1 hg
  refine ⟨v,hvl,?_⟩
  by_cases hc1:cap=1
  · rw [if_pos hc1]at HT
    subst hc1
    have hr:r= []:=List.length_eq_zero_iff.1 (by omega)
    subst hr
    have HT2:Hid (qo K.ws (.slice (some ⟨g,off,none⟩) 0 0) []):=HT
    clear HT
    go_enter Tryz.func43,Tryz.ntmps43
    go_wp2_with fail
    refine (hp _).mono ?_;rintro e w1 ⟨rfl,rfl⟩
    go_wp2_with fail
    go_ret
    exact ⟨rfl,HD.out.set HT2.out⟩
  · rw [if_neg hc1]at HT
    have HT2:Hid (qo K.ws (.slice (some ⟨g,off+1,none⟩) r.length (cap - 1)) r):=HT
    clear HT
    go_enter Tryz.func43,Tryz.ntmps43
    go_wp2_with fail
    refine (hp _).mono ?_;rintro e w1 ⟨rfl,rfl⟩
    go_wp2_with fail
    go_ret
    exact ⟨rfl,HD.out.set HT2.out⟩
theorem DX {K:LK}{w:World}(h:LQ K w):
 Calls Tryz.prog 43 #[.pointer (some ⟨K.b,0,none⟩),.int .i64 1048576] w fun e w' =>∃v:Nat,e= .returned (.int .i64 v)∧v<1048576∧dM K w w' :=by
 obtain ⟨v,hv,hc⟩:=Ch h
 exact hc.mono fun e w' ⟨h1,h2⟩=>⟨v,h1,hv,h2⟩
theorem DY {W:World}{tm:Array Value}{k:Nat}{v0 v1 v2:Value}(ht:tm[4]? =some (.pointer (some ⟨k,0,none⟩))) (r0:W.cell? ⟨k,0,none⟩=some v0) (r1:W.cell? ⟨k,1,none⟩=some v1) (r2:W.cell? ⟨k,2,none⟩=some v2):
 (results Tryz.f45 tm).run Tryz.prog W= .ok (.agg #[v0,v1,v2]) W:=by
 simp [results,Tryz.results45,go_sem,ht,r0,r1,r2]
theorem Wi {K:LK}{w w1:World}{k:Nat}{x0 x1 x2:Value}{T:TypeId}(h1:w1.heap[k]? =some (.cells #[x0,x1,x2] T (0,0))) (hD:dM K w w1) (hk:w.heap.size≤k) (v0 v1 v2:Value) (W:World)
 (hW:W=((w1.setCell ⟨k,0,none⟩ v0).setCell ⟨k,1,none⟩ v1).setCell ⟨k,2,none⟩ v2):
 W.cell? ⟨k,0,none⟩=some v0∧W.cell? ⟨k,1,none⟩=some v1∧W.cell? ⟨k,2,none⟩=some v2∧dM K w W:=by
 subst hW
 have hp:=YM h1 v0 v1 v2
 exact ⟨by rw [aj hp];rfl,by rw [aj hp];rfl,by rw [aj hp];rfl,((hD.own hk _ _).own hk _ _).own hk _ _⟩
def Vw:List ByteArray:= [(⟨#[120]⟩:ByteArray),(⟨#[121]⟩:ByteArray),(⟨#[122]⟩:ByteArray),(⟨#[105,116,39,115]⟩:ByteArray),⟨#[]⟩,⟨#[195,169]⟩]
theorem Yj (k:Nat) (h:k<Vw.length):Vw[k]∈yh:=by
 have hm:Vw[k]∈Vw:=List.getElem_mem h
 have hall:∀s∈Vw,qI s yh=true:=by decide+kernel
 exact (jI _ _).1 (hall _ hm)
theorem l7 (n:Int) (w:World):(Instr.build 59 #[(0,.int .i64 2),(2,.int .i64 n)]).run Tryz.prog w= .ok (.agg #[.int .i64 2,.string ⟨#[]⟩,.int .i64 n]) w:=by kernel_rfl
theorem kR (s:ByteArray) (w:World):(Instr.build 59 #[(0,.int .i64 1),(1,.string s)]).run Tryz.prog w= .ok (.agg #[.int .i64 1,.string s,.int .i64 0]) w:=by kernel_rfl
theorem yt {K:LK}{w:World}(h:LQ K w) (ty:Int) (hty:ty=1∨ty=2):
 Calls Tryz.prog 45 #[.pointer (some ⟨K.b,0,none⟩),.int .i64 ty] w fun e w' =>∃t:Tm,e= .returned (.agg #[.int .i64 t.ty,.string t.s,.int .i64 t.n])∧Vt t∧dM K w w' :=by
 have hD:=(dM.refl h).alloc (.cells #[.int .i64 0,.string ⟨#[]⟩,.int .i64 0] 59)
 have hbl:=aB w (.cells #[.int .i64 0,.string ⟨#[]⟩,.int .i64 0] 59)
 have hn:=DX hD.1
 have hle:=h.le
 rcases hty with rfl|rfl
 · go_enter Tryz.func45,Tryz.ntmps45
   go_wp2_with fail
   refine hn.mono ?_;rintro e w1 ⟨v,rfl,hv,hd1⟩
   have qQ:=au (hd1.blk hbl hle) (.cells #[.string (⟨#[120]⟩:ByteArray),.string (⟨#[121]⟩:ByteArray),.string (⟨#[122]⟩:ByteArray),.string (⟨#[105,116,39,115]⟩:ByteArray),.string ⟨#[]⟩,.string ⟨#[195,169]⟩] 9)
   have hD1:=(hD.trans hd1).alloc (.cells #[.string (⟨#[120]⟩:ByteArray),.string (⟨#[121]⟩:ByteArray),.string (⟨#[122]⟩:ByteArray),.string (⟨#[105,116,39,115]⟩:ByteArray),.string ⟨#[]⟩,.string ⟨#[195,169]⟩] 9)
   have hk:v % 6<Vw.length:=Nat.mod_lt v (by decide)
   have hS:=Lib.hid (Yj _ hk)
   have hcl:(w1.alloc (.cells #[.string (⟨#[120]⟩:ByteArray),.string (⟨#[121]⟩:ByteArray),.string (⟨#[122]⟩:ByteArray),.string (⟨#[105,116,39,115]⟩:ByteArray),.string ⟨#[]⟩,.string ⟨#[195,169]⟩] 9)).cell? ⟨w1.heap.size,v % 6,none⟩=some (.string Vw[v % 6]):=by
    rw [aj (aB w1 _)]
    have e:(#[.string (⟨#[120]⟩:ByteArray),.string (⟨#[121]⟩:ByteArray),.string (⟨#[122]⟩:ByteArray),.string (⟨#[105,116,39,115]⟩:ByteArray),.string ⟨#[]⟩,.string ⟨#[195,169]⟩]:Array Value)=(Vw.map Value.string).toArray:=rfl
    rw [e];simp [hk]
   obtain ⟨s,hs⟩:∃s,Vw[v % 6]=s:=⟨_,rfl⟩
   rw [hs]at hcl hS
   have hk6:v % 6<6:=hk
   have hB:=kR
   obtain ⟨t0,t1,t2,u0,u1,u2⟩:=MG qQ
   clear hs hk
   go_wp2_with fail
   obtain ⟨r0,r1,r2,hD2⟩:=Wi qQ hD1 (Nat.le_refl _) (.int .i64 1) (.string s) (.int .i64 0) _ rfl
   refine bodyPost_ret (DY rfl r0 r1 r2) rfl ?_
   exact ⟨⟨1,s,0⟩,rfl,.inl ⟨rfl,hS.out,rfl⟩,hD2⟩
 · go_enter Tryz.func45,Tryz.ntmps45
   go_wp2_with fail
   refine hn.mono ?_;rintro e w1 ⟨v,rfl,hv,hd1⟩
   have qQ:=hd1.blk hbl hle
   have hD1:=hD.trans hd1
   have hB:=l7
   obtain ⟨t0,t1,t2,u0,u1,u2⟩:=MG qQ
   go_wp2_with fail
   trace_state
   obtain ⟨r0,r1,r2,hD2⟩:=Wi qQ hD1 (Nat.le_refl _) (.int .i64 2) (.string ⟨#[]⟩) (.int .i64 (((v % 7:Nat):Int) - 2)) _ rfl
   refine bodyPost_ret (DY rfl r0 r1 r2) rfl ?_
   exact ⟨⟨2,⟨#[]⟩,((v % 7:Nat):Int) - 2⟩,rfl,.inr ⟨rfl,rfl,by show -2≤((v % 7:Nat):Int) - 2;omega,by show ((v % 7:Nat):Int) - 2≤4;omega⟩,hD2⟩
theorem DZ (w:World):Calls Tryz.prog 93 #[] w fun e w' =>∃g,e= .returned (.slice (some ⟨g,0,none⟩) 4 4)∧w.heap.size≤g∧w'.heap[g]? =some (.cells #[.string (⟨#[97]⟩:ByteArray),.string (⟨#[98]⟩:ByteArray),.string (⟨#[99]⟩:ByteArray),.string (⟨#[100]⟩:ByteArray)] 9 (0,0))∧Below w.heap.size w w' :=by
 go_enter Tryz.func93,Tryz.ntmps93
 go_wp2_with fail
 go_ret
 exact ⟨w.heap.size,rfl,Nat.le_refl _,aB w _,(Below.refl _ _).alloc (Nat.le_refl _) _⟩
def D5:List ByteArray:= [(⟨#[97]⟩:ByteArray),(⟨#[98]⟩:ByteArray),(⟨#[99]⟩:ByteArray),(⟨#[100]⟩:ByteArray)]
theorem FM:D5.Sublist mQ:=(List.Sublist.refl D5).cons _|>.cons _
theorem Yk:∀s∈D5,s∈mQ:=fun _ hs=>FM.subset hs
theorem Sv {l:List ByteArray}{j:Nat}(hj:j<D5.length) (h:l.Sublist (D5.take j)):(l++ [D5[j]]).Sublist (D5.take (j+1)):=by
 rw [List.take_succ_eq_append_getElem hj]
 exact h.append (List.Sublist.refl _)
theorem Sw {l:List ByteArray}{j:Nat}(h:l.Sublist (D5.take j)):l.Sublist (D5.take (j+1)):=h.trans (List.take_sublist_take_left (by omega))
theorem Me {w:World}{g j:Nat}{nm:ByteArray}(h:w.heap[g]? =some (.cells #[.string (⟨#[97]⟩:ByteArray),.string (⟨#[98]⟩:ByteArray),.string (⟨#[99]⟩:ByteArray),.string (⟨#[100]⟩:ByteArray)] 9 (0,0))) (hj:j<4) (hn:D5[j]'hj=nm):w.cell? ⟨g,j,none⟩=some (.string nm):=by
 subst hn
 rw [aj h]
 have:j=0∨j=1∨j=2∨j=3:=by omega
 rcases this with rfl|rfl|rfl|rfl<;>rfl
theorem four (z:Int) (j:Nat) (least:Int):z=1∨((z==1)=false∧((j:Int)==0)=true∧0<least)∨((z==1)=false∧((j:Int)==0)=true∧¬0<least)∨((z==1)=false∧((j:Int)==0)=false∧0<j):=by
 by_cases hz:z=1
 · exact .inl hz
 · have h1:(z==1)=false:=beq_eq_false_iff_ne.2 hz
   by_cases hj:j=0
   · subst hj
     by_cases hl:0<least
     · exact .inr (.inl ⟨h1,rfl,hl⟩)
     · exact .inr (.inr (.inl ⟨h1,rfl,hl⟩))
   · exact .inr (.inr (.inr ⟨h1,beq_eq_false_iff_ne.2 (by omega),by omega⟩))
theorem D6 {K:LK}{w:World}(h:LQ K w) (least:Int) (_:least=0∨least=1):
 Calls Tryz.prog 92 #[.pointer (some ⟨K.b,0,none⟩),.int .i64 least] w fun e w' =>∃(m:List Pr) (a:Option Addr) (c:Nat),e= .returned (.slice a m.length c)∧w'.ownsRow w.heap.size 61 4 (.slice a m.length c) m.length (bQ m)∧(∀p∈m,tu p)∧(m.map Pr.name).Sublist D5∧(least=1→m≠ [])∧dM K w w' :=by
 have hn:=DX h
 have hle:=h.le
 go_enter Tryz.func92,Tryz.ntmps92
 go_wp2_with fail
 refine hn.mono ?_;rintro e w1 ⟨v,rfl,hv,hd1⟩
 go_wp2_with fail
 go_loopw [6,7] (fun m i wr=>∃(l:List Pr) (a:Option Addr) (c:Nat) (j:Nat),m= .slice a l.length c∧i= .int .i64 j∧j≤4∧dM K w wr∧wr.ownsRow w.heap.size 61 4 (.slice a l.length c) l.length (bQ l)∧(∀p∈l,tu p)∧(l.map Pr.name).Sublist (D5.take j)∧l.length≤j∧(least=1→0<j→l≠ [])) (fun _ i _=>4 - (intOf i).toNat)
 case atStart=>exact ⟨[],none,0,0,rfl,rfl,by omega,hd1,World.ownsRow_nil _ _ _ _,by simp,by simp,by simp,fun _ h=>absurd h (by omega)⟩
 case round=>
  obtain ⟨l,a,c,j,rfl,rfl,hj,hD,hs,hsm,hsub,hlj,hne⟩:=hrel
  by_cases Yl:j<4
  · have hd1:(j:Int)<4:=by omega
    obtain ⟨nm,hnm⟩:∃nm,D5[j]'Yl=nm:=⟨_,rfl⟩
    have HK:Hid (∀{w' :World} {g:Nat},w'.heap[g]? =some (.cells #[.string (⟨#[97]⟩:ByteArray),.string (⟨#[98]⟩:ByteArray),.string (⟨#[99]⟩:ByteArray),.string (⟨#[100]⟩:ByteArray)] 9 (0,0))→w'.cell? ⟨g,j,none⟩=some (.string nm)):=fun h=>Me h Yl hnm
    have HSB:Hid ((l.map Pr.name).Sublist (D5.take j)∧((l.map Pr.name)++ [nm]).Sublist (D5.take (j+1))∧nm∈mQ):=⟨hsub,by rw [←hnm];exact Sv (show j<D5.length from Yl) hsub,Yk _ (by rw [←hnm];exact List.getElem_mem _)⟩
    clear hnm hsub
    obtain ⟨z,hz⟩:∃z,bits .and .i64 ((v:Int) / 2 ^ j) 1=z:=⟨_,rfl⟩
    rcases four z j least with rfl|⟨z1,j1,q1⟩|⟨z1,j1,q1⟩|⟨z1,j1,q1⟩
    all_goals
     go_wp2_with fail
     first|(go_roundw;(case rel=>exact ⟨l,a,c,j+1,rfl,by push_cast;rfl,by omega,hD,hs,hsm,Sw HSB.out.1,by omega,fun h _=>by first|exact hne h (by omega)|omega⟩);(case measure=>(show 4 - (((j:Int)+1).toNat)<4 - ((j:Int).toNat);omega)))|skip
    all_goals
     go_region_law (first|(refine iY Tryz.vI rfl _ _ rfl w.heap.size _ _ _ rfl (lD.alloc _) _ _ [.string nm,.int .i64 t.ty,.string t.s,.int .i64 t.n] rfl rfl (fun j u hj=>by rw [jy,Nat.zero_add];exact bn _ _ _ j u hj) (by intro u hu;simp at hu;rcases hu with rfl|rfl|rfl|rfl<;>rfl) (by omega) (by have:=eX.size;simp;omega) ?_;intro g3 iH w3 h3 hg3 O6 hl3)|(go_simp;go_at_call 93;refine (DZ _).mono ?_;rintro e YW ⟨g,rfl,aah,FN,Vx⟩;have Et:=((dM.refl hD.1).drewN 1).below Vx;have jY:=hD.trans Et;have acv:=Et.row hs hle;have hgL:K.L≤g:=Nat.le_trans hD.1.le aah;have k10:YW.cell? ⟨g,j,none⟩=some (.string nm):=HK.out FN;have l10:=aC FN)|(go_simp;go_at_call 45;refine (yt jY.1 1 (.inl rfl)).mono ?_;rintro e Cn ⟨t,rfl,aai,bX⟩;have eX:=jY.trans bX;have lD:=bX.row acv hle;have gY:=bX.blk FN hgL;have k20:Cn.cell? ⟨g,j,none⟩=some (.string nm):=HK.out gY;have l20:=aC gY;have acw:=Lib.hid aai;clear aai))
     all_goals
      have hg4:(Cn.alloc (.cells #[.string nm,.int .i64 t.ty,.string t.s,.int .i64 t.n] 61)).grownBy w3 (Value.slice a l.length c).ownBlock:=⟨hg3.os,hg3.tape,hg3.output,hg3.size,hg3.block⟩
      have hD4:=(eX.alloc _).grown hg4 (fun g hg2=>(lD.lt g hg2).1)
      go_wp2_with fail
      go_roundw
      case rel=>
       refine ⟨l++ [⟨nm,t⟩],_,_,j+1,by rw [List.length_append];rfl,by push_cast;rfl,by omega,hD4,?_,?_,by rw [List.map_append];exact HSB.out.2.1,by rw [List.length_append];show l.length+1≤j+1;omega,fun _ _=>by simp⟩
       · rw [List.length_append,pJ];exact h3
       · intro p hp;rcases List.mem_append.1 hp with hp|hp;exact hsm p hp;rw [List.mem_singleton.1 hp];exact ⟨HSB.out.2.2,acw.out⟩
      case measure=>(show 4 - (((j:Int)+1).toNat)<4 - ((j:Int).toNat);omega)
  · have hd1:¬(j:Int)<4:=by omega
    go_wp2_with fail
    go_ret
    exact ⟨l,a,c,rfl,hs,hsm,hsub.trans (List.take_sublist _ _),fun h1=>hne h1 (by omega),hD⟩
end Go.Proofs.YtfbgdjcnlnfoaaaGreatDoor
