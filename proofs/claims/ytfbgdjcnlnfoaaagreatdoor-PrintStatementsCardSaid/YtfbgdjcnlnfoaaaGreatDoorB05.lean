/- Parts of the proof, joined: PrsL PrsM PlainPJ PrsN PrsO. -/
import Derived.Test.YtfbgdjcnlnfoaaaGreatDoorB03
import Derived.Test.YtfbgdjcnlnfoaaaGreatDoorB04
set_option maxHeartbeats 8000000
set_option maxRecDepth 100000
namespace Go.Proofs.YtfbgdjcnlnfoaaaGreatDoor
open Go.RowKit
open aH
def vF (X:Tx):Nat→Ps→List Pr→List Pr×Ps
 |0,σ,Z=>(Z,σ)
 |n+1,σ,Z=>let r:=X.name (X.must σ [(⟨#[44]⟩:ByteArray)]);vF X n r.2 (Z++ [⟨r.1,Tm.zero⟩])
theorem Qf {K:PK}{w:World}{σ:Ps}(h:PQ K w σ):
 Calls Tryz.prog 88 #[.pointer (some ⟨K.b,0,none⟩)] w (fK K w 124 (K.X.view σ).1 (K.X.view σ).2):=by
 have hle:=h.le
 have hD0:=Did.refl h
 obtain ⟨σ1,hq1⟩:∃r,K.X.must σ [(⟨#[118,105,101,119]⟩:ByteArray)]=r:=⟨_,rfl⟩
 obtain ⟨⟨x,σ2⟩,hq2⟩:∃r,K.X.name σ1=r:=⟨_,rfl⟩
 obtain ⟨σ3,hq3⟩:∃r,K.X.must σ2 [(⟨#[97,115]⟩:ByteArray),(⟨#[115,101,108,101,99,116]⟩:ByteArray)]=r:=⟨_,rfl⟩
 obtain ⟨⟨c,je⟩,hq4⟩:∃r,K.X.some_ σ3=r:=⟨_,rfl⟩
 obtain ⟨lY,FQ⟩:∃r,K.X.must je [(⟨#[102,114,111,109]⟩:ByteArray)]=r:=⟨_,rfl⟩
 obtain ⟨⟨o,Jl⟩,MC⟩:∃r,K.X.name lY=r:=⟨_,rfl⟩
 obtain ⟨σ7,YV⟩:∃r,K.X.must Jl [(⟨#[119,104,101,114,101]⟩:ByteArray)]=r:=⟨_,rfl⟩
 obtain ⟨⟨nm,σ8⟩,hq8⟩:∃r,K.X.name σ7=r:=⟨_,rfl⟩
 obtain ⟨σ9,hq9⟩:∃r,K.X.must σ8 [(⟨#[105,115]⟩:ByteArray),(⟨#[110,111,116]⟩:ByteArray),(⟨#[110,117,108,108]⟩:ByteArray),(⟨#[112,114,105,109,97,114,121]⟩:ByteArray),(⟨#[107,101,121]⟩:ByteArray),(⟨#[40]⟩:ByteArray)]=r:=⟨_,rfl⟩
 obtain ⟨⟨k1,Y8⟩,Y9⟩:∃r,K.X.one σ9 [nm] ⟨#[]⟩=r:=⟨_,rfl⟩
 obtain ⟨⟨Zf,tL⟩,hR⟩:∃r,vF K.X 2 Y8 []=r:=⟨_,rfl⟩
 obtain ⟨σz,hz⟩:∃r,K.X.must tL [(⟨#[41]⟩:ByteArray)]=r:=⟨_,rfl⟩
 have HE:Hid (K.X.view σ=({Sx.zero with kind:=2,name:=x,aO:=c,bM:=o,on:=nm,aP:=Zf},σz)):=by
  show _=_
  have h2:=hR
  simp only [vF,List.nil_append,List.cons_append]at h2
  have h3:=congrArg Prod.fst h2
  have h4:=congrArg Prod.snd h2
  simp only at h3 h4
  unfold Tx.view
  simp only [hq1,hq2,hq3,hq4,FQ,MC,YV,hq8,hq9,Y9,h3,h4,hz]
 go_enter Tryz.func88,Tryz.ntmps88
 have hm1:=bV hD0.1 (⟨#[118,105,101,119]⟩:ByteArray)
 rw [hq1]at hm1
 try simp only [aA,dJ]at hm1
 go_wp2_with fail
 refine hm1.mono ?_;rintro e w1 ⟨rfl,hd1⟩
 have hD1:=hD0.trans hd1
 have hm2:=eT hD1.1
 rw [hq2]at hm2
 try simp only at hm2
 go_wp2_with fail
 refine hm2.mono ?_;rintro e w2 ⟨rfl,hd2⟩
 have hD2:=hD1.trans hd2
 have hB3:=vK 2 x
 have dH:K.L≤w2.heap.size:=Nat.le_trans hle hD2.size
 have hbx:w.heap.size≤w2.heap.size:=hD2.size
 have hblk3:(w2.alloc (.cells (aF {Sx.zero with kind:=2,name:=x} ak ak ak ak ak) 31)).heap[w2.heap.size]? =some (.cells (aF {Sx.zero with kind:=2,name:=x} ak ak ak ak ak) 31 (0,0)):=aB w2 _
 have hD3:=hD2.alloc (.cells (aF {Sx.zero with kind:=2,name:=x} ak ak ak ak ak) 31)
 have kI:=F7 hD3.1 (⟨#[97,115]⟩:ByteArray) (⟨#[115,101,108,101,99,116]⟩:ByteArray)
 rw [hq3]at kI
 try simp only [aA]at kI
 go_wp2_with (refine kV rfl _ _ rfl rfl rfl rfl rfl ?_)
 refine kI.mono ?_;rintro e w4 ⟨rfl,hd4⟩
 have hD4:=hD3.trans hd4
 have eF:=hd4.blk hblk3 dH
 have l9:=Ai hD4.1
 rw [hq4]at l9
 try simp only at l9
 go_wp2_with fail
 refine l9.mono ?_;rintro e w5 ⟨ac,cc,rfl,hd5,sZ⟩
 have hD5:=hD4.trans hd5
 have hblk5:=hd5.blk eF dH
 have Y1:=hD4.size
 try simp only [aA,dJ]at Y1 sZ
 replace sZ:=bF sZ Y1
 have tt5:=(aM hblk5).2.2.2.2.2.2.2.2.2.2.2.1
 have uu5:=ah hblk5 11
 have hD6:=hD5.own hbx 11 (.slice ac c.length cc)
 have hblk6:=F8 hblk5 (.slice ac c.length cc)
 have vL:=aL sZ hblk5 (by decide) 11 (.slice ac c.length cc)
 have uR:=bV hD6.1 (⟨#[102,114,111,109]⟩:ByteArray)
 rw [FQ]at uR
 try simp only [dJ]at uR
 go_wp2_with fail
 refine uR.mono ?_;rintro e w7 ⟨rfl,hd7⟩
 have hD7:=hD6.trans hd7
 have hblk7:=hd7.blk hblk6 dH
 have vM:=hd7.row vL hle
 have tJ:=eT hD7.1
 rw [MC]at tJ
 try simp only at tJ
 go_wp2_with fail
 refine tJ.mono ?_;rintro e w8 ⟨rfl,yK⟩
 have yL:=hD7.trans yK
 have jO:=yK.blk hblk7 dH
 have Aj:=yK.row vM hle
 have tt8:=(aM jO).2.2.1
 have uu8:=ah jO 2
 have tK:=yL.own hbx 2 (.string o)
 have mh:=xC jO o
 have Gg:=aL Aj jO (by decide) 2 (.string o)
 have Jm:=bV tK.1 (⟨#[119,104,101,114,101]⟩:ByteArray)
 rw [YV]at Jm
 try simp only [dJ]at Jm
 go_wp2_with fail
 refine Jm.mono ?_;rintro e YW ⟨rfl,Et⟩
 have jY:=tK.trans Et
 have um:=Et.blk mh dH
 have Ak:=Et.row Gg hle
 have WJ:=eT jY.1
 rw [hq8]at WJ
 try simp only at WJ
 go_wp2_with fail
 refine WJ.mono ?_;rintro e Qg ⟨rfl,WK⟩
 have abh:=jY.trans WK
 have EB:=WK.blk um dH
 have WL:=WK.row Ak hle
 have ad9:=(aM EB).2.2.2.1
 have aea:=ah EB 3
 have Za:=abh.own hbx 3 (.string nm)
 have WM:=PX EB nm
 have WO:=aL WL EB (by decide) 3 (.string nm)
 have WQ:=YQ Za.1 (⟨#[105,115]⟩:ByteArray) (⟨#[110,111,116]⟩:ByteArray) (⟨#[110,117,108,108]⟩:ByteArray) (⟨#[112,114,105,109,97,114,121]⟩:ByteArray) (⟨#[107,101,121]⟩:ByteArray) (⟨#[40]⟩:ByteArray)
 rw [hq9]at WQ
 try simp only [dJ]at WQ
 go_wp2_with fail
 refine WQ.mono ?_;rintro e VQ ⟨rfl,WR⟩
 have Zb:=Za.trans WR
 have Qh:=WR.blk WM dH
 have WS:=WR.row WO hle
 have y14:=(aM Qh).2.2.2.1
 have abj:=ng VQ [.string nm] 9 1 1 w.heap.size rfl (by decide) Zb.size
 have VR:=Zb.alloc (.cells #[.string nm] 9)
 have TW:=au Qh (.cells #[.string nm] 9)
 have Zc:=WS.alloc (.cells #[.string nm] 9)
 have Zd:=TL VR.1 (l:= [nm]) abj hle (by simp) ⟨#[]⟩
 rw [Y9]at Zd
 go_wp2_with fail
 refine Zd.mono ?_;rintro e Ze ⟨rfl,WT⟩
 have abk:=VR.trans WT
 have WU:=WT.blk TW dH
 have WV:=WT.row Zc hle
 go_wp2_with fail
 go_loopw [36] (fun i wr=>∃(j:Nat) (Z:List Pr) (a3:Option Addr) (c3:Nat) (σ2:Ps),i= .int .i64 j∧j≤2∧Did K w σ2 wr∧wr.heap[w2.heap.size]? =some (.cells (aF {Sx.zero with kind:=2,name:=x,bM:=o,on:=nm} ak (.slice ac c.length cc) ak (.slice a3 Z.length c3) ak) 31 (0,0))∧wr.ownsRow w.heap.size 61 4 (.slice a3 Z.length c3) Z.length (bQ Z)∧wr.ownsRow w.heap.size 9 1 (.slice ac c.length cc) c.length (c.map Value.string)∧Hid (vF K.X (2 - j) σ2 Z=(Zf,tL))∧Z.length≤j) (fun i _=>2 - (intOf i).toNat)
 case atStart=>exact ⟨0, [],none,0,Y8,rfl,by omega,abk,WU,World.ownsRow_nil _ _ _ _,WV,hR,Nat.le_refl _⟩
 case round=>
  obtain ⟨j,Z,a3,c3,σ2,rfl,hj,hD,hb,hs,hnr,HR,TV⟩:=hrel
  have hsz:=hD.size
  by_cases hjl:j<2
  · have p0:(j:Int)<2:=by omega
    have p1:(0:Int)≤(j:Int):=by omega
    obtain ⟨σ3,h3e⟩:∃r,K.X.must σ2 [(⟨#[44]⟩:ByteArray)]=r:=⟨_,rfl⟩
    obtain ⟨⟨y,je⟩,hy⟩:∃r,K.X.name σ3=r:=⟨_,rfl⟩
    have HR2:Hid (vF K.X (2 - (j+1)) je (Z++ [⟨y,Tm.zero⟩])=(Zf,tL)):=by
     have h:=HR.out
     rw [show 2 - j=(2 - (j+1))+1 by omega,vF]at h
     simp only [h3e,hy]at h
     exact Lib.hid h
    have Qe:=bV hD.1 (⟨#[44]⟩:ByteArray)
    rw [h3e]at Qe
    go_wp2_with fail
    refine Qe.mono ?_;rintro e WB ⟨rfl,jZ⟩
    have ji:=hD.trans jZ
    have pK:=jZ.blk hb dH
    have WH:=jZ.row hs hle
    have MN:=jZ.row hnr hle
    have y22:=(aM pK).2.2.2.2.2.2.2.2.2.2.2.2.2.1
    have z22:=aC pK
    go_wp2_with fail
    go_region_law (first|(refine iY Tryz.vI rfl _ _ rfl w.heap.size _ _ _ rfl (vR.alloc _) _ _ [.string y, .int .i64 0, .string ⟨#[]⟩, .int .i64 0] rfl rfl (fun j u hj=>by rw [jy,Nat.zero_add];exact bn _ _ _ j u hj) (by intro u hu;simp at hu;rcases hu with rfl|rfl|rfl|rfl<;>rfl) (by omega) (by simp;omega) ?_;intro g3 iH w3 h3 hg3 O6 hl3;have hb3:w3.heap[w2.heap.size]? =some (.cells (aF {Sx.zero with kind:=2,name:=x,bM:=o,on:=nm} ak (.slice ac c.length cc) ak (.slice a3 Z.length c3) ak) 31 (0,0)):=(hg3.block _ (aC (au qY _)) (fun e=>fG vR qY (by decide) e.symm)).trans (au qY _);have y3:=(aM hb3).2.2.2.2.2.2.2.2.2.2.2.2.2.1;have u3:=ah hb3 13)|(go_simp;go_at_call 86;have hnn:=eT (K:=K) (σ:=σ3) (ji.drewN 1).1;rw [hy]at hnn;refine hnn.mono ?_;rintro e Y7 ⟨rfl,vS⟩;have qY:=vS.blk pK dH;have vR:=vS.row WH hle;have Cw:=vS.row MN hle;have Gn:=(ji.drewN 1).trans vS;have y30:=(aM qY).2.2.2.2.2.2.2.2.2.2.2.2.2.1;have u30:=ah qY 13;have z30:=aC qY;have VP:=Gn.size))
    all_goals
     have hg4:(Y7.alloc (.cells #[.string y, .int .i64 0, .string ⟨#[]⟩, .int .i64 0] 61)).grownBy w3 (Value.slice a3 Z.length c3).ownBlock:=⟨hg3.os,hg3.tape,hg3.output,hg3.size,hg3.block⟩
     have hD4:=((Gn.alloc _).grown hg4 (fun g hg2=>(vR.lt g hg2).1)).own hbx 13 (.slice (some ⟨g3,0,none⟩) (Z.length+1) iH)
     have hb4:=oh hb3 (.slice (some ⟨g3,0,none⟩) (Z.length+1) iH)
     have hs4:=aL h3 hb3 (by decide) 13 (.slice (some ⟨g3,0,none⟩) (Z.length+1) iH)
     have Yu:=aL ((eG vR Cw (by decide)).keep (Cw.alloc _) hg4) hb3 (by decide) 13 (.slice (some ⟨g3,0,none⟩) (Z.length+1) iH)
     go_wp2_with fail
     go_roundw
     case rel=>
      refine ⟨j+1,Z++ [⟨y,Tm.zero⟩],some ⟨g3,0,none⟩,iH,je,by go_num,by omega,hD4,by rw [List.length_append];exact hb4, ?_,Yu,HR2,by rw [List.length_append];show Z.length+1≤_;omega⟩
      rw [List.length_append,pJ];exact hs4
     case measure=>simp [intOf];omega
  · have mo:j=2:=by omega
    subst mo
    have HR2:(Z,σ2)=(Zf,tL):=HR.out
    cases HR2
    have Zg:=bV hD.1 (⟨#[41]⟩:ByteArray)
    rw [hz]at Zg
    go_wp2_with fail
    refine Zg.mono ?_;rintro e yN ⟨rfl,iC⟩
    have kK:=iC.blk hb dH
    have hBx:=mg
    have Jo:=qV
    go_wp2_with (refine bA rfl _ rfl rfl rfl kK ?_)
    go_ret
    rw [HE.out]
    exact ⟨ak,_,ak,_,rfl,hD.trans iC,World.ownsRow_nil _ _ _ _,iC.row hnr hle,World.ownsRow_nil _ _ _ _,iC.row hs hle⟩
theorem EC {w:World}{base:Nat}{v:Value}{l:List ByteArray}(hown:w.ownsRow base 9 1 v l.length (l.map Value.string)) (hl:l.length≤200000) (x:ByteArray):
 Calls Tryz.prog 164 #[v, .string x] w fun e w' =>e= .returned (.bool (qI x l))∧w' =w:=by
 obtain ⟨a,cap,rfl,hr⟩:=aY hown
 by_cases h0:0<l.length
 · obtain ⟨g,rfl,_,_,hc⟩:=hr h0
   have:=Tryz.slices_Contains_string g 0 l.length cap l x w (Nat.le_refl _) (by omega) (fun j hj=>by
    rw [Nat.zero_add,List.getD_eq_getElem?_getD,List.getElem?_eq_getElem hj]
    exact hc j _ (by rw [List.getElem?_map,List.getElem?_eq_getElem hj];rfl))
   rw [List.take_length,nL]at this
   exact this
 · have hl0:l= []:=List.eq_nil_of_length_eq_zero (by omega)
   subst hl0
   exact Tryz.slices_Contains_string_empty a cap x w
theorem zN {K:PK}{w:World}{σ:Ps}(h:PQ K w σ) {base:Nat}{v:Value}{l:List ByteArray}(hown:w.ownsRow base 9 1 v l.length (l.map Value.string)) (hb:K.L≤base) (hl:l.length≤200000) (but:ByteArray):
 Calls Tryz.prog 136 #[.pointer (some ⟨K.b,0,none⟩),v, .string but] w (qP K w (.string (K.X.one σ l but).1) (K.X.one σ l but).2):=by
 have hD:=Did.refl h
 have ha:=iB h
 obtain ⟨a0,cap0,rfl,_⟩:=aY hown
 obtain ⟨⟨x,σ2⟩,hx⟩:∃r,K.X.name σ=r:=⟨_,rfl⟩
 have HE:Hid (K.X.one σ l but=(x,if !qI x l||iW x but then σ2.wrong (K.X.here σ)else σ2)):=by show _=_;unfold Tx.one;simp only [hx]
 generalize K.X.here σ=PV at *
 have e1:=eO x but
 cases hc:qI x l<;>cases hq:iW x but
 all_goals
  rw [hc,hq]at HE
  rw [hq]at e1
  go_enter Tryz.func136,Tryz.ntmps136
  go_wp2_with fail
  refine ha.mono ?_;rintro e w1 ⟨rfl,m,rfl⟩
  replace hD:=hD.drewN m
  have hnm:=eT hD.1
  rw [hx]at hnm
  go_wp2_with fail
  refine hnm.mono ?_;rintro e w3 ⟨rfl,hd3⟩
  replace hD:=hD.trans hd3
  have hcon:=EC (hD.row hown hb) hl x
  rw [hc]at hcon
  go_wp2_with fail
  refine hcon.mono ?_;rintro e w4 ⟨rfl,rfl⟩
  have hw2:=gB hD.1 PV
  go_wp2_with fail
  first
   |(refine hw2.mono ?_;rintro e w5 ⟨rfl,hd5⟩
     go_wp2_with fail
     go_ret
     rw [HE.out]
     exact ⟨rfl,hD.trans hd5⟩)
   |(go_ret
     rw [HE.out]
     exact ⟨rfl,hD⟩)
theorem Tryz.TY:O5 Tryz.prog 24 23 (.agg #[.string ⟨#[]⟩, .int .i64 0]) 2 24:=xA Tryz.underlying24 (by kernel_rfl) rfl (by decide)
theorem uq (l:List Cl) (p:Cl):iM (l++ [p])=iM l++kU p:=by simp [iM]
theorem JA {σ:Ps}{a:Nat}(h:(σ.wrong a).bad=none):σ.bad=none:=by
 unfold Ps.wrong at h
 cases hb:σ.bad with
 |none=>rfl
 |some b=>rw [hb]at h;rw [hb]at h;exact h
theorem sF {X:Tx}{σ:Ps}:(X.fail σ).bad≠none:=by
 unfold Tx.fail Ps.wrong
 cases hb:σ.bad with
 |none=>simp
 |some b=>rw [hb];simp
theorem Ap {X:Tx}{σ:Ps}{s:ByteArray}(h:(X.must σ [s]).bad=none):σ.bad=none:=by
 replace h:(X.bV σ s).bad=none:=h
 unfold Tx.bV at h
 split at h
 · exact h
 · exact absurd h sF
theorem WW (X:Tx) (σ:Ps):σ.i≤(X.kind σ).2.i:=by
 unfold Tx.kind
 split
 · show σ.i≤σ.i+1;omega
 · exact EA X σ _
theorem MP {X:Tx}{σ:Ps}(h:(X.kind σ).2.bad=none):σ.bad=none:=by
 unfold Tx.kind at h
 split at h
 · exact h
 · exact Ap h
theorem T9 {X:Tx}{σ:Ps}(h:(X.name σ).2.bad=none):σ.bad=none∧σ.i<X.T.length∧(X.name σ).2.i=σ.i+1:=by
 unfold Tx.name at h⊢
 split at h
 · rename_i t hx
   split at h
   · exact absurd h sF
   · rename_i hr
     obtain ⟨h1,h2⟩:=next_lt (X:=X) (σ:=σ) (k:=1) (by rw [hx];rfl)
     simp only [hr]
     exact ⟨h2,h1,rfl⟩
 · exact absurd h sF
theorem MQ {X:Tx}{σ:Ps}{l:List ByteArray}{most:Nat}(h:(X.column σ l most).2.bad=none):σ.i<X.T.length∧σ.i+1≤(X.column σ l most).2.i:=by
 unfold Tx.column at h⊢
 have e:∀(b:Bool) (τ:Ps) (a:Nat),(if b=true then τ.wrong a else τ).bad=none→τ.bad=none:=by
  intro b τ a hh
  cases b
  · exact hh
  · exact JA hh
 have h1:=e _ _ _ h
 have ei:∀(b:Bool) (τ:Ps) (a:Nat),(if b=true then τ.wrong a else τ).i=τ.i:=by intro b τ a;cases b<;>simp [mZ]
 simp only [ei]
 obtain ⟨h2,h3,h4⟩:=T9 h1
 have es:(if most≤l.length then σ.wrong (X.here σ)else σ).i=σ.i:=by split<;>simp [mZ]
 rw [es]at h3 h4
 exact ⟨h3,by omega⟩
theorem oq:∀(l:List Cl) (k j:Nat) (h:k<l.length) (_:j<2),(iM l)[k*2+j]? =(kU l[k])[j]?
 |p::l,0,j,_,hj=>by
  simp only [iM,List.flatMap_cons,Nat.zero_mul,Nat.zero_add,List.getElem_cons_zero]
  rw [List.getElem?_append_left (by simp [kU];omega)]
 |p::l,k+1,j,h,hj=>by
  have:=oq l k j (by simp at h;omega) hj
  simp only [iM,List.flatMap_cons,List.getElem_cons_succ]at this⊢
  rw [List.getElem?_append_right (by simp [kU];omega)]
  have e:(k+1)*2+j - (kU p).length=k*2+j:=by simp [kU];omega
  rw [e];exact this
theorem JB (pk ck:ByteArray) (C:List Cl) (x:Sx) (j:Nat) (h:j<C.length):(C.take (j+1)).foldl (fun x c=>Tx.place x pk ck c) x=Tx.place ((C.take j).foldl (fun x c=>Tx.place x pk ck c) x) pk ck C[j]:=by
 rw [List.take_succ_eq_append_getElem h,List.foldl_append];rfl
theorem yP (pk ck:ByteArray) (C:List Cl) (x:Sx) (j:Nat) (h:j<C.length) {q:Cl}(hq:C[j]=q):(C.take (j+1)).foldl (fun x c=>Tx.place x pk ck c) x=Tx.place ((C.take j).foldl (fun x c=>Tx.place x pk ck c) x) pk ck q:=by rw [←hq];exact JB pk ck C x j h
theorem yQ (w:World) (o:Obj) (L:List Value) (t:TypeId):∀j u,L[j]? =some u→((w.alloc o).alloc (.cells L.toArray t)).cell? ⟨w.heap.size+1,j,none⟩=some u:=by
 intro j u hj
 have:=bn (w.alloc o) L t j u hj
 rw [aA]at this
 exact this
theorem Zh {T i j:Nat}(h1:i<T) (h2:i+1≤j):T - j+1<T - i+1:=by omega
theorem Zi {T i j n:Nat}(h:T - i<n+1) (h1:i<T) (h2:i+1≤j):T - j<n:=by omega
def WX (K:PK) (w:World):Nat:=match w.cell? ⟨K.b,3,none⟩with|some (.int _ v)=>if v<0 then K.X.T.length - TK K w+1 else 0|_=>0
theorem Gq {K:PK}{w:World}{σ:Ps}(h:PQ K w σ) (hb:σ.bad=none):WX K w=K.X.T.length - σ.i+1:=by
 obtain ⟨_,_,_,_,_,c3,_⟩:=h.cells
 have hi:=uj h
 unfold WX;rw [c3]
 have:σ.nY= -1:=by unfold Ps.nY;rw [hb]
 rw [this,hi];rfl
theorem Qi {K:PK}{w:World}{σ:Ps}(h:PQ K w σ) (hb:σ.bad≠none):WX K w=0:=by
 obtain ⟨_,_,_,_,_,c3,_⟩:=h.cells
 unfold WX;rw [c3]
 cases hx:σ.bad with
 |none=>exact absurd hx hb
 |some a=>
  have:σ.nY=(a:Int):=by unfold Ps.nY;rw [hx]
  rw [this]
  simp
theorem MR {K:PK}{w:World}{σ:Ps}(h:PQ K w σ):
 Calls Tryz.prog 87 #[.pointer (some ⟨K.b,0,none⟩)] w (fK K w 124 (K.X.table σ).1 (K.X.table σ).2):=by
 have hle:=h.le
 have hD0:=Did.refl h
 obtain ⟨⟨x,σ1⟩,hq1⟩:∃r,K.X.name σ=r:=⟨_,rfl⟩
 obtain ⟨σ2,hq2⟩:∃r,K.X.must σ1 [(⟨#[40]⟩:ByteArray)]=r:=⟨_,rfl⟩
 obtain ⟨⟨lf,Cf,tL⟩,hR⟩:∃r,K.X.gV (K.X.T.length+1) σ2 [] []=r:=⟨_,rfl⟩
 obtain ⟨σa,ha⟩:∃r,K.X.must tL [(⟨#[107,101,121]⟩:ByteArray),(⟨#[40]⟩:ByteArray)]=r:=⟨_,rfl⟩
 obtain ⟨⟨pk,σb⟩,hpb⟩:∃r,K.X.one σa lf ⟨#[]⟩=r:=⟨_,rfl⟩
 obtain ⟨σc,hc0⟩:∃r,K.X.must σb [(⟨#[44]⟩:ByteArray)]=r:=⟨_,rfl⟩
 obtain ⟨⟨ck,σd⟩,hcd⟩:∃r,K.X.one σc lf pk=r:=⟨_,rfl⟩
 obtain ⟨Zj,he⟩:∃r,K.X.must σd [(⟨#[41]⟩:ByteArray),(⟨#[41]⟩:ByteArray)]=r:=⟨_,rfl⟩
 have HE:Hid (K.X.table σ=(Cf.foldl (fun x c=>Tx.place x pk ck c) {Sx.zero with kind:=1,name:=x,aW:=x},Zj)):=by show _=_;unfold Tx.table;simp only [hq1,hq2,hR,ha,hpb,hc0,hcd,he]
 have HT:=Lib.hid K.hT
 go_enter Tryz.func87,Tryz.ntmps87
 have hm1:=eT hD0.1
 rw [hq1]at hm1
 try simp only at hm1
 go_wp2_with fail
 refine hm1.mono ?_;rintro e w1 ⟨rfl,hd1⟩
 have hD1:=hD0.trans hd1
 have hB2:=vK 1 x
 have dH:K.L≤w1.heap.size:=Nat.le_trans hle hD1.size
 have hbx:w.heap.size≤w1.heap.size:=hD1.size
 have hblk2:(w1.alloc (.cells (aF {Sx.zero with kind:=1,name:=x,aW:=x} ak ak ak ak ak) 31)).heap[w1.heap.size]? =some (.cells (aF {Sx.zero with kind:=1,name:=x,aW:=x} ak ak ak ak ak) 31 (0,0)):=aB w1 _
 have hD2:=hD1.alloc (.cells (aF {Sx.zero with kind:=1,name:=x,aW:=x} ak ak ak ak ak) 31)
 have jS:=bV hD2.1 (⟨#[40]⟩:ByteArray)
 rw [hq2]at jS
 try simp only [aA]at jS
 go_wp2_with (refine kV rfl _ _ rfl rfl rfl rfl rfl ?_)
 refine jS.mono ?_;rintro e w3 ⟨rfl,hd3⟩
 have hD3:=hD2.trans hd3
 have hblk3:=hd3.blk hblk2 dH
 go_wp2_with fail
 go_loopw [4,5] (fun names aO wr=>∃(l:List ByteArray) (a:Option Addr) (c:Nat) (C:List Cl) (a3:Option Addr) (c3:Nat) (σ2:Ps) (n:Nat),names= .slice a l.length c∧aO= .slice a3 C.length c3∧Did K w σ2 wr∧wr.heap[w1.heap.size]? =some (.cells (aF {Sx.zero with kind:=1,name:=x,aW:=x} ak ak ak ak ak) 31 (0,0))∧wr.ownsRow w.heap.size 23 2 (.slice a3 C.length c3) C.length (iM C)∧wr.ownsRow w.heap.size 9 1 (.slice a l.length c) l.length (l.map Value.string)∧Hid (K.X.gV n σ2 l C=(lf,Cf,tL))∧(σ2.bad=none→K.X.T.length - σ2.i<n)∧l.length+n≤K.X.T.length+1∧Hid (C.length=l.length)) (fun _ _ wr=>WX K wr)
 case atStart=>exact ⟨[],none,0, [],none,0,σ2,K.X.T.length+1,rfl,rfl,hD3,hblk3,World.ownsRow_nil _ _ _ _,World.ownsRow_nil _ _ _ _,hR,fun _=>by omega,by simp,rfl⟩
 case round=>
  obtain ⟨l,a,c,C,a3,c3,σ2,n,rfl,rfl,hD,hb,hs,hnr,HR,hn,hln,TV⟩:=hrel
  have hT:=HT.out
  have hsz:=hD.size
  cases hbad:σ2.bad with
  |some bd=>
   have hok:=qy hD.1 (v:=false) (by rw [hbad];rfl)
   have HR2:(l,C,σ2)=(lf,Cf,tL):=by
    have h:=HR.out
    cases n with
    |zero=>exact h
    |succ n=>rw [Tx.gV,hbad]at h;exact h
   cases HR2
   go_wp2_with fail
   refine hok.mono ?_;rintro e Cn ⟨rfl,m20,rfl⟩
   have bX:=(Did.refl hD.1).drewN m20
   have eX:=hD.trans bX
   have gY:=bX.blk hb dH
   have lD:=bX.row hs hle
   have JC:=bX.row hnr hle
   have Qj:=F7 eX.1 (⟨#[107,101,121]⟩:ByteArray) (⟨#[40]⟩:ByteArray)
   rw [ha]at Qj
   go_wp2_with fail
   refine Qj.mono ?_;rintro e w31 ⟨rfl,hd31⟩
   have Gl:=eX.trans hd31
   have Qb:=hd31.blk gY dH
   have WY:=hd31.row lD hle
   have Qk:=hd31.row JC hle
   have Ql:=zN Gl.1 Qk hle (by omega) ⟨#[]⟩
   rw [hpb]at Ql
   go_wp2_with fail
   refine Ql.mono ?_;rintro e w32 ⟨rfl,hd32⟩
   have Qm:=Gl.trans hd32
   have WZ:=hd32.blk Qb dH
   have W9:=hd32.row WY hle
   have hn32:=hd32.row Qk hle
   have Qn:=bV Qm.1 (⟨#[44]⟩:ByteArray)
   rw [hc0]at Qn
   go_wp2_with fail
   refine Qn.mono ?_;rintro e w33 ⟨rfl,Ao⟩
   have Qo:=Qm.trans Ao
   have Xa:=Ao.blk WZ dH
   have Xb:=Ao.row W9 hle
   have Qp:=Ao.row hn32 hle
   have Qq:=zN Qo.1 Qp hle (by omega) pk
   rw [hcd]at Qq
   go_wp2_with fail
   refine Qq.mono ?_;rintro e w34 ⟨rfl,hd34⟩
   have Qr:=Qo.trans hd34
   have Xc:=hd34.blk Xa dH
   have Xd:=hd34.row Xb hle
   have Xe:=hd34.row Qp hle
   have Qs:=F7 Qr.1 (⟨#[41]⟩:ByteArray) (⟨#[41]⟩:ByteArray)
   rw [he]at Qs
   go_wp2_with fail
   refine Qs.mono ?_;rintro e w35 ⟨rfl,ED⟩
   have Xf:=Qr.trans ED
   have Xg:=ED.blk Xc dH
   have Qt:=ED.row Xd hle
   have abl:=ED.row Xe hle
   have hCb:Cf.length≤200000:=by have:=TV.out;omega
   have HZ0:=Lib.hid Qt
   go_wp2_with fail
   go_loopw [9,63,77,83] (fun _ i _ _ wr=>∃(j:Nat) (X:Sx) (a4:Option Addr) (c4:Nat),i= .int .i64 j∧j≤Cf.length∧Did K w Zj wr∧wr.heap[w1.heap.size]? =some (.cells (aF X (.slice a4 X.aN.length c4) ak ak ak ak) 31 (0,0))∧wr.ownsRow w.heap.size 23 2 (.slice a4 X.aN.length c4) X.aN.length (iM X.aN)∧wr.ownsRow w.heap.size 23 2 (.slice a3 Cf.length c3) Cf.length (iM Cf)∧Apart (.slice a4 X.aN.length c4) (.slice a3 Cf.length c3)∧Hid (X=(Cf.take j).foldl (fun x c=>Tx.place x pk ck c) {Sx.zero with kind:=1,name:=x,aW:=x})∧X.aO= []∧X.sets= []∧X.aP= []∧X.aN.length≤j) (fun _ i _ _ _=>Cf.length - (intOf i).toNat)
   case atStart=>exact ⟨0,_,none,0,rfl,by omega,Xf,Xg,World.ownsRow_nil _ _ _ _,Qt,C8,rfl,rfl,rfl,rfl,Nat.le_refl _⟩
   case round=>
    obtain ⟨j,X,a4,c4,rfl,hj,uo,hBr,hSr,JD,hap,HX,hx1,hx2,hx3,hxl⟩:=hrel
    have hsz:=uo.size
    by_cases hjl:j<Cf.length
    · have p0:(j:Int)<(Cf.length:Int):=by omega
      have HJ:=Lib.hid (show j+1≤Cf.length from hjl)
      have p1:(0:Int)≤(j:Int):=by omega
      obtain ⟨_,_,hsl,hgx⟩:=aY JD
      cases hsl
      obtain ⟨gc,rfl,_,_,_⟩:=hgx (by omega)
      have k0:=aV JD (j*2) (.string Cf[j].name) (by have:=oq Cf j 0 hjl (by omega);rw [Nat.add_zero]at this;rw [this];rfl)
      have k1:=aV JD (j*2+1) (.int .i64 Cf[j].ty) (by rw [oq Cf j 1 hjl (by omega)];rfl)
      obtain ⟨q,hq⟩:∃q,Cf[j]=q:=⟨_,rfl⟩
      have Co:=Lib.hid (yP pk ck Cf {Sx.zero with kind:=1,name:=x,aW:=x} j hjl hq)
      rw [hq]at k0 k1
      clear hq
      obtain ⟨nm,ty⟩:=q
      have e1:=eO nm pk
      have e2:=eO nm ck
      have z0:=aC hBr
      have z1:=eY k0
      cases q1:iW nm pk with
      |true=>
       rw [q1]at e1
       have y6:=(aM hBr).2.2.2.2.2.2.1
       have y7:=(aM hBr).2.2.2.2.2.2.2.1
       have u6:=ah hBr 6
       have u7:=ah hBr 7
       have hb6:(wr.setCell ⟨w1.heap.size,6,none⟩ (.string nm)).heap[w1.heap.size]? =some (.cells (aF {X with part:=⟨nm,X.part.ty⟩} (.slice a4 X.aN.length c4) ak ak ak ak) 31 (0,0)):=by rw [bU hBr 6 _];rfl
       have Xh:((wr.setCell ⟨w1.heap.size,6,none⟩ (.string nm)).setCell ⟨w1.heap.size,7,none⟩ (.int .i64 ty)).heap[w1.heap.size]? =some (.cells (aF {X with part:=⟨nm,ty⟩} (.slice a4 X.aN.length c4) ak ak ak ak) 31 (0,0)):=by rw [bU hb6 7 _];rfl
       go_wp2_with fail
       go_roundw
       case rel=>exact ⟨j+1,{X with part:=⟨nm,ty⟩},a4,c4,by go_num,HJ.out,((uo.own hbx 6 _).own hbx 7 _).alloc _,au Xh _,(aL (aL hSr hBr (by decide) 6 _) hb6 (by decide) 7 _).alloc _,(aL (aL JD hBr (by decide) 6 _) hb6 (by decide) 7 _).alloc _,hap,(by show _=_;rw [Co.out,←HX.out];unfold Tx.place;rw [if_pos q1]),hx1,hx2,hx3,by show X.aN.length≤_;omega⟩
       case measure=>have hjj:=HJ.out;simp [intOf];omega
      |false=>
       rw [q1]at e1
       cases q2:iW nm ck with
       |true=>
        rw [q2]at e2
        have y8:=(aM hBr).2.2.2.2.2.2.2.2.1
        have y9:=(aM hBr).2.2.2.2.2.2.2.2.2.1
        have u8:=ah hBr 8
        have u9:=ah hBr 9
        have hb6:(wr.setCell ⟨w1.heap.size,8,none⟩ (.string nm)).heap[w1.heap.size]? =some (.cells (aF {X with aI:=⟨nm,X.aI.ty⟩} (.slice a4 X.aN.length c4) ak ak ak ak) 31 (0,0)):=by rw [bU hBr 8 _];rfl
        have Xh:((wr.setCell ⟨w1.heap.size,8,none⟩ (.string nm)).setCell ⟨w1.heap.size,9,none⟩ (.int .i64 ty)).heap[w1.heap.size]? =some (.cells (aF {X with aI:=⟨nm,ty⟩} (.slice a4 X.aN.length c4) ak ak ak ak) 31 (0,0)):=by rw [bU hb6 9 _];rfl
        go_wp2_with fail
        go_roundw
        case rel=>exact ⟨j+1,{X with aI:=⟨nm,ty⟩},a4,c4,by go_num,HJ.out,((uo.own hbx 8 _).own hbx 9 _).alloc _,au Xh _,(aL (aL hSr hBr (by decide) 8 _) hb6 (by decide) 9 _).alloc _,(aL (aL JD hBr (by decide) 8 _) hb6 (by decide) 9 _).alloc _,hap,(by show _=_;rw [Co.out,←HX.out];unfold Tx.place;rw [if_neg (by rw [q1];decide),if_pos q2]),hx1,hx2,hx3,by show X.aN.length≤_;omega⟩
        case measure=>have hjj:=HJ.out;simp [intOf];omega
       |false=>
        rw [q2]at e2
        have y10:=(aM hBr).2.2.2.2.2.2.2.2.2.2.1
        have Xi:=ah hBr 10
        go_wp2_with (at_builtin;refine app1 Tryz.TY rfl _ _ rfl w.heap.size _ _ _ rfl ((hSr.alloc _).alloc _) _ _ [.string nm, .int .i64 ty] rfl rfl (yQ _ _ _ _) (by intro u hu;simp at hu;rcases hu with rfl|rfl<;>rfl) (by have:=HJ.out;omega) (by simp;omega) ?_;intro a5 c5 w5 h5 hg5 Cq;have hb5:w5.heap[w1.heap.size]? =some (.cells (aF X (.slice a4 X.aN.length c4) ak ak ak ak) 31 (0,0)):=(hg5.block _ (aC (au (au hBr _) _)) (fun e=>fG hSr hBr (by decide) e.symm)).trans (au (au hBr _) _);have y5:=(aM hb5).2.2.2.2.2.2.2.2.2.2.1;have u5:=ah hb5 10)
        have hD5:=(((uo.alloc (.cells #[.string nm, .int .i64 ty] 23)).alloc (.cells #[.string nm, .int .i64 ty] 23)).grown hg5 (fun g hg2=>(hSr.lt g hg2).1)).own hbx 10 (.slice a5 (X.aN.length+1) c5)
        have hb6:=PY hb5 (.slice a5 (X.aN.length+1) c5)
        have Yr:=aL h5 hb5 (by decide) 10 (.slice a5 (X.aN.length+1) c5)
        have hC6:=aL (hap.keep ((JD.alloc _).alloc _) hg5) hb5 (by decide) 10 (.slice a5 (X.aN.length+1) c5)
        have Xj:=hap.near Cq ((JD.alloc _).alloc _)
        go_wp2_with fail
        go_roundw
        case rel=>
         refine ⟨j+1,{X with aN:=X.aN++ [⟨nm,ty⟩]},a5,c5,by go_num,HJ.out,hD5,by rw [List.length_append];exact hb6, ?_,hC6,by rw [List.length_append];exact Xj,(by show _=_;rw [Co.out,←HX.out];unfold Tx.place;rw [if_neg (by rw [q1];decide),if_neg (by rw [q2];decide)]),hx1,hx2,hx3,by rw [List.length_append];show X.aN.length+1≤_;omega⟩
         rw [List.length_append,uq];exact Yr
        case measure=>have hjj:=HJ.out;simp [intOf];omega
    · have mo:j=Cf.length:=by omega
      subst mo
      rw [List.take_length]at HX
      have hBx:=mg
      have Jo:=qV
      go_wp2_with (refine bA rfl _ rfl rfl rfl hBr ?_)
      go_ret
      rw [HE.out,←HX.out]
      refine ⟨_,ak,ak,ak,rfl,uo,hSr, ?_, ?_, ?_⟩
      · rw [hx1];exact World.ownsRow_nil _ _ _ _
      · rw [hx2];exact World.ownsRow_nil _ _ _ _
      · rw [hx3];exact World.ownsRow_nil _ _ _ _
  |none=>
   have hok:=qy hD.1 (v:=true) (by rw [hbad];rfl)
   have hnn:=hn hbad
   clear hn
   obtain ⟨n,rfl⟩:∃m,n=m+1:=⟨n - 1,by omega⟩
   cases hsp:K.X.sees σ2 (⟨#[112,114,105,109,97,114,121]⟩:ByteArray)with
   |true=>
    have HR2:(l,C,σ2.step)=(lf,Cf,tL):=by
     have h:=HR.out
     rw [Tx.gV,hbad,hsp]at h;exact h
    cases HR2
    go_wp2_with fail
    refine hok.mono ?_;rintro e w19 ⟨rfl,m19,rfl⟩
    have JE:=hD.drewN m19
    have hmay:=aS JE.1 (⟨#[112,114,105,109,97,114,121]⟩:ByteArray)
    unfold Tx.may at hmay
    rw [hsp,if_pos rfl]at hmay
    go_wp2_with fail
    refine hmay.mono ?_;rintro e Cn ⟨rfl,tN⟩
    have bX:=((Did.refl hD.1).drewN m19).trans tN
    have eX:=hD.trans bX
    have gY:=bX.blk hb dH
    have lD:=bX.row hs hle
    have JC:=bX.row hnr hle
    have Qj:=F7 eX.1 (⟨#[107,101,121]⟩:ByteArray) (⟨#[40]⟩:ByteArray)
    rw [ha]at Qj
    go_wp2_with fail
    refine Qj.mono ?_;rintro e w31 ⟨rfl,hd31⟩
    have Gl:=eX.trans hd31
    have Qb:=hd31.blk gY dH
    have WY:=hd31.row lD hle
    have Qk:=hd31.row JC hle
    have Ql:=zN Gl.1 Qk hle (by omega) ⟨#[]⟩
    rw [hpb]at Ql
    go_wp2_with fail
    refine Ql.mono ?_;rintro e w32 ⟨rfl,hd32⟩
    have Qm:=Gl.trans hd32
    have WZ:=hd32.blk Qb dH
    have W9:=hd32.row WY hle
    have hn32:=hd32.row Qk hle
    have Qn:=bV Qm.1 (⟨#[44]⟩:ByteArray)
    rw [hc0]at Qn
    go_wp2_with fail
    refine Qn.mono ?_;rintro e w33 ⟨rfl,Ao⟩
    have Qo:=Qm.trans Ao
    have Xa:=Ao.blk WZ dH
    have Xb:=Ao.row W9 hle
    have Qp:=Ao.row hn32 hle
    have Qq:=zN Qo.1 Qp hle (by omega) pk
    rw [hcd]at Qq
    go_wp2_with fail
    refine Qq.mono ?_;rintro e w34 ⟨rfl,hd34⟩
    have Qr:=Qo.trans hd34
    have Xc:=hd34.blk Xa dH
    have Xd:=hd34.row Xb hle
    have Xe:=hd34.row Qp hle
    have Qs:=F7 Qr.1 (⟨#[41]⟩:ByteArray) (⟨#[41]⟩:ByteArray)
    rw [he]at Qs
    go_wp2_with fail
    refine Qs.mono ?_;rintro e w35 ⟨rfl,ED⟩
    have Xf:=Qr.trans ED
    have Xg:=ED.blk Xc dH
    have Qt:=ED.row Xd hle
    have abl:=ED.row Xe hle
    have hCb:Cf.length≤200000:=by have:=TV.out;omega
    have HZ0:=Lib.hid Qt
    go_wp2_with fail
    go_loopw [9,63,77,83] (fun _ i _ _ wr=>∃(j:Nat) (X:Sx) (a4:Option Addr) (c4:Nat),i= .int .i64 j∧j≤Cf.length∧Did K w Zj wr∧wr.heap[w1.heap.size]? =some (.cells (aF X (.slice a4 X.aN.length c4) ak ak ak ak) 31 (0,0))∧wr.ownsRow w.heap.size 23 2 (.slice a4 X.aN.length c4) X.aN.length (iM X.aN)∧wr.ownsRow w.heap.size 23 2 (.slice a3 Cf.length c3) Cf.length (iM Cf)∧Apart (.slice a4 X.aN.length c4) (.slice a3 Cf.length c3)∧Hid (X=(Cf.take j).foldl (fun x c=>Tx.place x pk ck c) {Sx.zero with kind:=1,name:=x,aW:=x})∧X.aO= []∧X.sets= []∧X.aP= []∧X.aN.length≤j) (fun _ i _ _ _=>Cf.length - (intOf i).toNat)
    case atStart=>exact ⟨0,_,none,0,rfl,by omega,Xf,Xg,World.ownsRow_nil _ _ _ _,Qt,C8,rfl,rfl,rfl,rfl,Nat.le_refl _⟩
    case round=>
     obtain ⟨j,X,a4,c4,rfl,hj,uo,hBr,hSr,JD,hap,HX,hx1,hx2,hx3,hxl⟩:=hrel
     have hsz:=uo.size
     by_cases hjl:j<Cf.length
     · have p0:(j:Int)<(Cf.length:Int):=by omega
       have HJ:=Lib.hid (show j+1≤Cf.length from hjl)
       have p1:(0:Int)≤(j:Int):=by omega
       obtain ⟨_,_,hsl,hgx⟩:=aY JD
       cases hsl
       obtain ⟨gc,rfl,_,_,_⟩:=hgx (by omega)
       have k0:=aV JD (j*2) (.string Cf[j].name) (by have:=oq Cf j 0 hjl (by omega);rw [Nat.add_zero]at this;rw [this];rfl)
       have k1:=aV JD (j*2+1) (.int .i64 Cf[j].ty) (by rw [oq Cf j 1 hjl (by omega)];rfl)
       obtain ⟨q,hq⟩:∃q,Cf[j]=q:=⟨_,rfl⟩
       have Co:=Lib.hid (yP pk ck Cf {Sx.zero with kind:=1,name:=x,aW:=x} j hjl hq)
       rw [hq]at k0 k1
       clear hq
       obtain ⟨nm,ty⟩:=q
       have e1:=eO nm pk
       have e2:=eO nm ck
       have z0:=aC hBr
       have z1:=eY k0
       cases q1:iW nm pk with
       |true=>
        rw [q1]at e1
        have y6:=(aM hBr).2.2.2.2.2.2.1
        have y7:=(aM hBr).2.2.2.2.2.2.2.1
        have u6:=ah hBr 6
        have u7:=ah hBr 7
        have hb6:(wr.setCell ⟨w1.heap.size,6,none⟩ (.string nm)).heap[w1.heap.size]? =some (.cells (aF {X with part:=⟨nm,X.part.ty⟩} (.slice a4 X.aN.length c4) ak ak ak ak) 31 (0,0)):=by rw [bU hBr 6 _];rfl
        have Xh:((wr.setCell ⟨w1.heap.size,6,none⟩ (.string nm)).setCell ⟨w1.heap.size,7,none⟩ (.int .i64 ty)).heap[w1.heap.size]? =some (.cells (aF {X with part:=⟨nm,ty⟩} (.slice a4 X.aN.length c4) ak ak ak ak) 31 (0,0)):=by rw [bU hb6 7 _];rfl
        go_wp2_with fail
        go_roundw
        case rel=>exact ⟨j+1,{X with part:=⟨nm,ty⟩},a4,c4,by go_num,HJ.out,((uo.own hbx 6 _).own hbx 7 _).alloc _,au Xh _,(aL (aL hSr hBr (by decide) 6 _) hb6 (by decide) 7 _).alloc _,(aL (aL JD hBr (by decide) 6 _) hb6 (by decide) 7 _).alloc _,hap,(by show _=_;rw [Co.out,←HX.out];unfold Tx.place;rw [if_pos q1]),hx1,hx2,hx3,by show X.aN.length≤_;omega⟩
        case measure=>have hjj:=HJ.out;simp [intOf];omega
       |false=>
        rw [q1]at e1
        cases q2:iW nm ck with
        |true=>
         rw [q2]at e2
         have y8:=(aM hBr).2.2.2.2.2.2.2.2.1
         have y9:=(aM hBr).2.2.2.2.2.2.2.2.2.1
         have u8:=ah hBr 8
         have u9:=ah hBr 9
         have hb6:(wr.setCell ⟨w1.heap.size,8,none⟩ (.string nm)).heap[w1.heap.size]? =some (.cells (aF {X with aI:=⟨nm,X.aI.ty⟩} (.slice a4 X.aN.length c4) ak ak ak ak) 31 (0,0)):=by rw [bU hBr 8 _];rfl
         have Xh:((wr.setCell ⟨w1.heap.size,8,none⟩ (.string nm)).setCell ⟨w1.heap.size,9,none⟩ (.int .i64 ty)).heap[w1.heap.size]? =some (.cells (aF {X with aI:=⟨nm,ty⟩} (.slice a4 X.aN.length c4) ak ak ak ak) 31 (0,0)):=by rw [bU hb6 9 _];rfl
         go_wp2_with fail
         go_roundw
         case rel=>exact ⟨j+1,{X with aI:=⟨nm,ty⟩},a4,c4,by go_num,HJ.out,((uo.own hbx 8 _).own hbx 9 _).alloc _,au Xh _,(aL (aL hSr hBr (by decide) 8 _) hb6 (by decide) 9 _).alloc _,(aL (aL JD hBr (by decide) 8 _) hb6 (by decide) 9 _).alloc _,hap,(by show _=_;rw [Co.out,←HX.out];unfold Tx.place;rw [if_neg (by rw [q1];decide),if_pos q2]),hx1,hx2,hx3,by show X.aN.length≤_;omega⟩
         case measure=>have hjj:=HJ.out;simp [intOf];omega
        |false=>
         rw [q2]at e2
         have y10:=(aM hBr).2.2.2.2.2.2.2.2.2.2.1
         have Xi:=ah hBr 10
         go_wp2_with (at_builtin;refine app1 Tryz.TY rfl _ _ rfl w.heap.size _ _ _ rfl ((hSr.alloc _).alloc _) _ _ [.string nm, .int .i64 ty] rfl rfl (yQ _ _ _ _) (by intro u hu;simp at hu;rcases hu with rfl|rfl<;>rfl) (by have:=HJ.out;omega) (by simp;omega) ?_;intro a5 c5 w5 h5 hg5 Cq;have hb5:w5.heap[w1.heap.size]? =some (.cells (aF X (.slice a4 X.aN.length c4) ak ak ak ak) 31 (0,0)):=(hg5.block _ (aC (au (au hBr _) _)) (fun e=>fG hSr hBr (by decide) e.symm)).trans (au (au hBr _) _);have y5:=(aM hb5).2.2.2.2.2.2.2.2.2.2.1;have u5:=ah hb5 10)
         have hD5:=(((uo.alloc (.cells #[.string nm, .int .i64 ty] 23)).alloc (.cells #[.string nm, .int .i64 ty] 23)).grown hg5 (fun g hg2=>(hSr.lt g hg2).1)).own hbx 10 (.slice a5 (X.aN.length+1) c5)
         have hb6:=PY hb5 (.slice a5 (X.aN.length+1) c5)
         have Yr:=aL h5 hb5 (by decide) 10 (.slice a5 (X.aN.length+1) c5)
         have hC6:=aL (hap.keep ((JD.alloc _).alloc _) hg5) hb5 (by decide) 10 (.slice a5 (X.aN.length+1) c5)
         have Xj:=hap.near Cq ((JD.alloc _).alloc _)
         go_wp2_with fail
         go_roundw
         case rel=>
          refine ⟨j+1,{X with aN:=X.aN++ [⟨nm,ty⟩]},a5,c5,by go_num,HJ.out,hD5,by rw [List.length_append];exact hb6, ?_,hC6,by rw [List.length_append];exact Xj,(by show _=_;rw [Co.out,←HX.out];unfold Tx.place;rw [if_neg (by rw [q1];decide),if_neg (by rw [q2];decide)]),hx1,hx2,hx3,by rw [List.length_append];show X.aN.length+1≤_;omega⟩
          rw [List.length_append,uq];exact Yr
         case measure=>have hjj:=HJ.out;simp [intOf];omega
     · have mo:j=Cf.length:=by omega
       subst mo
       rw [List.take_length]at HX
       have hBx:=mg
       have Jo:=qV
       go_wp2_with (refine bA rfl _ rfl rfl rfl hBr ?_)
       go_ret
       rw [HE.out,←HX.out]
       refine ⟨_,ak,ak,ak,rfl,uo,hSr, ?_, ?_, ?_⟩
       · rw [hx1];exact World.ownsRow_nil _ _ _ _
       · rw [hx2];exact World.ownsRow_nil _ _ _ _
       · rw [hx3];exact World.ownsRow_nil _ _ _ _
   |false=>
    have hm0:=Gq hD.1 hbad
    obtain ⟨nm,hnm⟩:=yO K.X σ2 l 10
    have hon:=fun h=>MQ (X:=K.X) (σ:=σ2) (l:=l) (most:=10) h
    obtain ⟨⟨l3,σ3⟩,hc3⟩:∃r,K.X.column σ2 l 10=r:=⟨_,rfl⟩
    rw [hc3]at hnm hon
    replace hnm:l3=l++ [nm]:=hnm
    replace hon:σ3.bad=none→σ2.i<K.X.T.length∧σ2.i+1≤σ3.i:=hon
    subst hnm
    have hi3:=WW K.X σ3
    have hk3:=fun h=>MP (X:=K.X) (σ:=σ3) h
    obtain ⟨⟨ty,je⟩,hv4⟩:∃r,K.X.kind σ3=r:=⟨_,rfl⟩
    rw [hv4]at hi3 hk3
    replace hi3:σ3.i≤je.i:=hi3
    replace hk3:je.bad=none→σ3.bad=none:=hk3
    have hi4:=EA K.X je (⟨#[44]⟩:ByteArray)
    have hk4:=fun h=>Ap (X:=K.X) (σ:=je) (s:=(⟨#[44]⟩:ByteArray)) h
    obtain ⟨lY,h5⟩:∃r,K.X.must je [(⟨#[44]⟩:ByteArray)]=r:=⟨_,rfl⟩
    rw [h5]at hi4 hk4
    have HG:Hid (lY.bad=none→σ2.i<K.X.T.length∧σ2.i+1≤lY.i):=fun hb5=>⟨(hon (hk3 (hk4 hb5))).1,Nat.le_trans (hon (hk3 (hk4 hb5))).2 (Nat.le_trans hi3 hi4)⟩
    clear hon hk3 hk4 hi3 hi4
    have HR2:Hid (K.X.gV n lY (l++ [nm]) (C++ [⟨nm,ty⟩])=(lf,Cf,tL)):=by
     have h:=HR.out
     rw [Tx.gV,hbad,hsp]at h
     simp only [hc3,hv4,h5,Gm]at h
     exact Lib.hid h
    have Qc:=fun w1 (hD1:Did K w σ2 w1) hr1=>pF hD1 w.heap.size (Nat.le_refl _) hD1.size (.slice a l.length c) l 10 hr1 (by omega) (by omega)
    rw [hc3]at Qc
    go_wp2_with fail
    refine hok.mono ?_;rintro e w19 ⟨rfl,m19,rfl⟩
    have JE:=hD.drewN m19
    have hmay:=aS JE.1 (⟨#[112,114,105,109,97,114,121]⟩:ByteArray)
    unfold Tx.may at hmay
    rw [hsp,if_neg (by decide)]at hmay
    go_wp2_with fail
    refine hmay.mono ?_;rintro e Cn ⟨rfl,bX⟩
    have tN:=((Did.refl hD.1).drewN m19).trans bX
    have eX:=hD.trans tN
    have gY:=tN.blk hb dH
    have lD:=tN.row hs hle
    have JC:=tN.row hnr hle
    have hcc:=Qc _ eX JC
    go_wp2_with fail
    refine hcc.mono ?_;rintro e TP ⟨a2,c2,rfl,lS,Qd,hel⟩
    have qF:=hel.1 _ _ dH (fG JC gY (by decide)) gY
    have TQ:=hel.row (eG JC lD (by decide)) lD hle
    obtain ⟨_,_,hsl,hgn⟩:=aY Qd
    cases hsl
    obtain ⟨gn,rfl,_,abe,_⟩:=hgn (by omega)
    have k21:=aV Qd l.length (.string nm) (by simp)
    have p3:IntKind.i64.wrap (l.length:Int)=(l.length:Int):=IntWalk.i64_in _ (by omega)
    have p1:(0:Int)≤(l.length:Int):=by omega
    have p2' :(l.length:Int)<(l.length:Int)+1:=by omega
    have hZb:C.length≤100001:=by have:=TV.out;omega
    go_wp2_with fail
    go_region_law (first|(refine iY Tryz.TY rfl _ _ rfl w.heap.size _ _ _ rfl (vR.alloc _) _ _ [.string nm, .int .i64 ty] rfl rfl (fun j u hj=>by rw [jy,Nat.zero_add];exact bn _ _ _ j u hj) (by intro u hu;simp at hu;rcases hu with rfl|rfl<;>rfl) (by omega) (by simp;omega) ?_;intro g3 iH w3 h3 hg3 O6 hl3)|(go_simp;go_at_call 135;have hkk:=PW (K:=K) (σ:=σ3) (lS.drewN 1).1;rw [hv4]at hkk;refine hkk.mono ?_;rintro e Y7 ⟨rfl,vS⟩;have qY:=vS.blk qF dH;have vR:=vS.row TQ hle;have Cw:=vS.row Qd hle;have Gn:=(lS.drewN 1).trans vS;have k30:=aV Cw l.length (.string nm) (by simp);have abg:=eY k30;have VP:=Gn.size))
    all_goals
     have hg4:(Y7.alloc (.cells #[.string nm, .int .i64 ty] 23)).grownBy w3 (Value.slice a3 C.length c3).ownBlock:=⟨hg3.os,hg3.tape,hg3.output,hg3.size,hg3.block⟩
     have hD4:=(Gn.alloc (.cells #[.string nm, .int .i64 ty] 23)).grown hg4 (fun g hg2=>(vR.lt g hg2).1)
     have hb4:w3.heap[w1.heap.size]? =some (.cells (aF {Sx.zero with kind:=1,name:=x,aW:=x} ak ak ak ak ak) 31 (0,0)):=(hg4.block _ (aC (au qY _)) (fun e=>fG vR qY (by decide) e.symm)).trans (au qY _)
     have Yu:=(eG vR Cw (by decide)).keep (Cw.alloc _) hg4
     have om:=bV hD4.1 (⟨#[44]⟩:ByteArray)
     rw [h5]at om
     go_wp2_with fail
     refine om.mono ?_;rintro e w6 ⟨rfl,hd6⟩
     have hD6:=hD4.trans hd6
     have hb6:=hd6.blk hb4 dH
     have hs6:=hd6.row h3 hle
     have MO:=hd6.row Yu hle
     have hmm:WX K w6<WX K wr:=by
      rw [hm0]
      by_cases hb5:lY.bad=none
      · rw [Gq hD6.1 hb5]
        exact Zh (HG.out hb5).1 (HG.out hb5).2
      · rw [Qi hD6.1 hb5];exact Nat.succ_pos _
     go_wp2_with fail
     go_roundw
     case rel=>
      refine ⟨l++ [nm],some ⟨gn,0,none⟩,c2,C++ [⟨nm,ty⟩],some ⟨g3,0,none⟩,iH,lY,n,by rw [List.length_append];rfl,by rw [List.length_append];rfl,hD6,hb6, ?_, ?_,HR2,(fun hb5=>Zi hnn (HG.out hb5).1 (HG.out hb5).2),by rw [List.length_append];show l.length+1+n≤_;omega,by show _=_;rw [List.length_append,List.length_append,TV.out];rfl⟩
      · rw [List.length_append,uq];exact hs6
      · rw [List.length_append];exact MO
     case measure=>exact hmm
namespace aH
def Le (σ σ' :Ps):Prop:=σ.i≤σ'.i∧(σ'.bad=none→σ.bad=none)
theorem Le.refl (σ:Ps):Le σ σ:=⟨Nat.le_refl _,id⟩
theorem Le.trans {σ σ1 σ2:Ps}(h:Le σ σ1) (h' :Le σ1 σ2):Le σ σ2:=⟨Nat.le_trans h.1 h'.1,fun hb=>h.2 (h'.2 hb)⟩
theorem mq (σ:Ps) (a:Nat):Le σ (σ.wrong a):=by
 unfold Ps.wrong
 cases hb:σ.bad with
 |none=>exact ⟨Nat.le_refl _,fun _=>hb⟩
 |some b=>exact Le.refl σ
theorem le_step (σ:Ps):Le σ σ.step:=⟨Nat.le_succ _,id⟩
theorem Aq {c:Prop} [Decidable c] {σ σ1 σ2:Ps}(h1:Le σ σ1) (h2:Le σ σ2):Le σ (if c then σ1 else σ2):=by
 split
 · exact h1
 · exact h2
section
variable (X:Tx)
theorem sG (σ:Ps):Le σ (X.fail σ):=mq _ _
theorem Qu (σ:Ps) (s:ByteArray):Le σ (X.bV σ s):=Aq (le_step _) (sG X _)
theorem bR:∀(l:List ByteArray) (σ:Ps),Le σ (X.must σ l)
 | [],σ=>Le.refl σ
 |s::l,σ=>(Qu X σ s).trans (bR l (X.bV σ s))
theorem iD (σ:Ps):Le σ (X.name σ).2:=by
 unfold Tx.name
 split
 · split
   · exact sG X _
   · exact le_step _
 · exact sG X _
theorem qZ (σ:Ps):Le σ (X.value σ).2:=by
 unfold Tx.value
 split
 · exact le_step _
 · split
   · exact le_step _
   · exact sG X _
theorem count_le (σ:Ps):Le σ (X.count σ).2:=(qZ X σ).trans (Aq (mq _ _) (Le.refl _))
theorem sH (σ:Ps) (l:List ByteArray) (most:Nat):Le σ (X.column σ l most).2:=by
 unfold Tx.column
 have h1:Le σ (if most≤l.length then σ.wrong (X.here σ)else σ):=Aq (mq _ _) (Le.refl _)
 exact (h1.trans (iD X _)).trans (Aq (mq _ _) (Le.refl _))
theorem yR (most:Nat):∀n σ l,Le σ (X.dA most n σ l).2
 |0,σ,l=>Le.refl σ
 |n+1,σ,l=>by
  rw [Tx.dA]
  split
  · exact ((le_step σ).trans (sH X _ _ _)).trans (yR most n _ _)
  · exact Le.refl σ
theorem uw (σ:Ps) (most:Nat):Le σ (X.columns σ most).2:=(sH X σ [] most).trans (yR X most _ _ _)
theorem kW (σ:Ps):Le σ (X.some_ σ).2:=by
 unfold Tx.some_
 split
 · exact le_step _
 · exact uw X _ _
theorem mD (σ:Ps):Le σ (X.equal σ).2:=((iD X σ).trans (bR X _ _)).trans (qZ X _)
theorem EF (σ:Ps) (b:Bool):Le σ (X.aP σ b).2:=by
 have h0:=(bR X [(⟨#[119,104,101,114,101]⟩:ByteArray)] σ).trans (mD X _)
 unfold Tx.aP
 simp only
 split
 · exact (h0.trans (bR X _ _)).trans (mD X _)
 · split
   · exact (h0.trans (le_step _)).trans (mD X _)
   · exact h0
theorem jk (σ:Ps) (b:Bool) (x:Sx):Le σ (X.using_ σ b x).2:=by
 unfold Tx.using_
 split
 · simp only
   split
   · exact ((le_step σ).trans (le_step _)).trans (count_le X _)
   · have h0:=((le_step σ).trans (bR X [(⟨#[116,105,109,101,115,116,97,109,112]⟩:ByteArray)] _)).trans (count_le X _)
     split
     · exact ((h0.trans (le_step _)).trans (bR X _ _)).trans (count_le X _)
     · exact h0
 · exact Le.refl σ
theorem one_le (σ:Ps) (l:List ByteArray) (but:ByteArray):Le σ (X.one σ l but).2:=(iD X σ).trans (Aq (mq _ _) (Le.refl _))
theorem Ua (σ:Ps):Le σ (X.kind σ).2:=by
 unfold Tx.kind
 split
 · exact le_step _
 · exact bR X _ _
theorem Da:∀n σ l C,Le σ (X.gV n σ l C).2.2
 |0,σ,l,C=>Le.refl σ
 |n+1,σ,l,C=>by
  rw [Tx.gV]
  split
  · exact Le.refl σ
  · split
    · exact le_step σ
    · exact (((sH X σ l 10).trans (Ua X _)).trans (bR X _ _)).trans (Da n _ _ _)
theorem Qv (σ:Ps):Le σ (X.table σ).2:=
 (((((((iD X σ).trans (bR X _ _)).trans (Da X _ _ _ _)).trans (bR X _ _)).trans (one_le X _ _ _)).trans (bR X _ _)).trans (one_le X _ _ _)).trans (bR X _ _)
theorem Ub (σ:Ps):Le σ (X.view σ).2:=
 ((((((((((((((bR X _ σ).trans (iD X _)).trans (bR X _ _)).trans (kW X _)).trans (bR X _ _)).trans (iD X _)).trans (bR X _ _)).trans (iD X _)).trans (bR X _ _)).trans (one_le X _ _ _)).trans (bR X _ _)).trans (iD X _)).trans (bR X _ _)).trans (iD X _)).trans (bR X _ _)
theorem index_le (σ:Ps):Le σ (X.index σ).2:=
 ((((((bR X _ σ).trans (iD X _)).trans (bR X _ _)).trans (iD X _)).trans (bR X _ _)).trans (iD X _)).trans (bR X _ _)
theorem Ar:∀n σ l,Le σ (X.fE n σ l).2
 |0,σ,l=>Le.refl σ
 |n+1,σ,l=>by
  rw [Tx.fE]
  split
  · exact ((le_step σ).trans (qZ X _)).trans (Ar n _ _)
  · exact Le.refl σ
theorem MS (σ:Ps):Le σ (X.insert σ).2:=
 (((((((((bR X _ σ).trans (iD X _)).trans (bR X _ _)).trans (uw X _ _)).trans (bR X _ _)).trans (qZ X _)).trans (Ar X _ _ _)).trans (Aq (sG X _) (Le.refl _))).trans (bR X _ _)).trans (jk X _ _ _)
theorem Gr:∀n σ l Z,Le σ (X.ku n σ l Z).2
 |0,σ,l,Z=>Le.refl σ
 |n+1,σ,l,Z=>by
  have h0:=((sH X σ l 8).trans (bR X [(⟨#[61]⟩:ByteArray)] _)).trans (qZ X _)
  rw [Tx.ku]
  try simp only
  split
  · exact (h0.trans (le_step _)).trans (Gr n _ _ _)
  · exact h0
theorem MU (σ:Ps):Le σ (X.update σ).2:=
 ((((iD X σ).trans (jk X _ _ _)).trans (bR X _ _)).trans (Gr X _ _ _ _)).trans (EF X _ _)
theorem MV (σ:Ps):Le σ (X.remove σ).2:=by
 unfold Tx.remove
 have h0:Le σ (if X.sees σ (⟨#[102,114,111,109]⟩:ByteArray)=true then ([],σ)else X.columns σ 8).2:=by
  split
  · exact Le.refl σ
  · exact uw X _ _
 exact (((h0.trans (bR X _ _)).trans (iD X _)).trans (jk X _ _ _)).trans (EF X _ _)
theorem Xk (σ:Ps):Le σ (X.ask σ).2:=by
 have h0:=(((kW X σ).trans (bR X [(⟨#[102,114,111,109]⟩:ByteArray)] _)).trans (iD X _)).trans (EF X _ false)
 unfold Tx.ask
 simp only
 split
 · exact (h0.trans (le_step _)).trans (count_le X _)
 · exact h0
theorem Gs {st:Ps→Tx.Nd×Ps}(hst:∀σ,Le σ (st σ).2):∀n σ l,Le σ (X.iT st n σ l).2
 |0,σ,l=>Le.refl σ
 |n+1,σ,l=>by
  rw [Tx.iT]
  split
  · exact Le.refl σ
  · split
    · exact le_step σ
    · simp only
      have h1:Le σ (st (if 8≤l.length then σ.wrong (X.here σ)else σ)).2:=(Aq (mq _ _) (Le.refl _)).trans (hst _)
      split
      · exact (h1.trans (bR X _ _)).trans (Gs hst n _ _)
      · exact ⟨h1.1,fun h=>absurd h (by simp)⟩
theorem EG:∀n σ,Le σ (X.iq n σ).2
 |0,σ=>Le.refl σ
 |n+1,σ=>by
  rw [Tx.iq]
  split
  · exact (le_step σ).trans (MS X _)
  split
  · exact (le_step σ).trans (MU X _)
  split
  · exact (le_step σ).trans (MV X _)
  split
  · exact (le_step σ).trans (Xk X _)
  split
  · exact (((le_step σ).trans (bR X _ _)).trans (Gs X (EG n) _ _ _)).trans (bR X _ _)
  split
  · exact (le_step σ).trans (iD X _)
  split
  · split
    · exact ((le_step σ).trans (le_step _)).trans (Qv X _)
    split
    · exact ((le_step σ).trans (le_step _)).trans (Ub X _)
    · exact (le_step σ).trans (index_le X _)
  · exact sG X _
end
end aH
structure Pv where
 x:Sx
 tc:Value
 c:Value
 s:Value
 wv:Value
def Pv.arr (p:Pv):Array Value:=aF p.x p.tc p.c p.s p.wv ak
def Pv.val (p:Pv):Value:= .iface 156 (.agg p.arr)
def gH (w:World) (base:Nat) (l:List Pv):Prop:=∀p∈l,gN w base p.x p.tc p.c p.s p.wv
def mE (K:PK) (w:World) (nd:Tx.Nd) (σ:Ps):Ending→World→Prop:=
 match nd with
 | .plain x=>fK K w 124 x σ
 | .change x=>fK K w 156 x σ
 | .batch l=>fun e w' =>∃(L:List Pv) (a:Option Addr) (cap:Nat),L.map Pv.x=l∧e= .returned (.iface 161 (.agg #[.slice a L.length cap]))∧Did K w σ w' ∧w'.ownsRow w.heap.size 71 1 (.slice a L.length cap) L.length (L.map Pv.val)∧gH w' w.heap.size L
theorem gN.map {w w' :World}{base:Nat}{x:Sx}{tc c s wv:Value}(h:gN w base x tc c s wv) (f:∀(e:TypeId) (size n:Nat) (u:Value) (xs:List Value),(e=23∨e=9∨e=61)→w.ownsRow base e size u n xs→w'.ownsRow base e size u n xs):gN w' base x tc c s wv:=
 ⟨f _ _ _ _ _ (.inl rfl) h.1,f _ _ _ _ _ (.inr (.inl rfl)) h.2.1,f _ _ _ _ _ (.inr (.inr rfl)) h.2.2.1,f _ _ _ _ _ (.inr (.inr rfl)) h.2.2.2⟩
theorem gN.mono {w:World}{base base' :Nat}{x:Sx}{tc c s wv:Value}(h:gN w base x tc c s wv) (hb:base' ≤base):gN w base' x tc c s wv:=
 ⟨bF h.1 hb,bF h.2.1 hb,bF h.2.2.1 hb,bF h.2.2.2 hb⟩
theorem gH.map {w w' :World}{base:Nat}{L:List Pv}(h:gH w base L) (f:∀(e:TypeId) (size n:Nat) (u:Value) (xs:List Value),(e=23∨e=9∨e=61)→w.ownsRow base e size u n xs→w'.ownsRow base e size u n xs):gH w' base L:=fun p hp=>(h p hp).map f
theorem gH.did {K:PK}{σ:Ps}{w w' :World}{base:Nat}{L:List Pv}(h:gH w base L) (hd:Did K w σ w') (hb:K.L≤base):gH w' base L:=h.map fun _ _ _ _ _ _ hr=>hd.row hr hb
theorem gH.alloc {w:World}{base:Nat}{L:List Pv}(h:gH w base L) (o:Obj):gH (w.alloc o) base L:=h.map fun _ _ _ _ _ _ hr=>hr.alloc o
theorem lF {T e:TypeId}(hT:T≠23∧T≠9∧T≠61) (he:e=23∨e=9∨e=61):T≠e:=by
 rcases he with rfl|rfl|rfl
 · exact hT.1
 · exact hT.2.1
 · exact hT.2.2
theorem gH.set {w:World}{base bx:Nat}{C:Array Value}{T:TypeId}{fr:Nat×Nat}{L:List Pv}(h:gH w base L) (hx:w.heap[bx]? =some (.cells C T fr)) (hT:T≠23∧T≠9∧T≠61) (o:Nat) (v:Value):gH (w.setCell ⟨bx,o,none⟩ v) base L:=
 h.map fun _ _ _ _ _ he hr=>aL hr hx (fun e2=>lF hT he e2.symm) o v
theorem gH.snoc {w:World}{base:Nat}{L:List Pv}(h:gH w base L) {p:Pv}(hp:gN w base p.x p.tc p.c p.s p.wv):gH w base (L++ [p]):=by
 intro q hq
 rcases List.mem_append.1 hq with hq|hq
 · exact h q hq
 · rw [List.mem_singleton.1 hq];exact hp
theorem Tryz.Xl:O5 Tryz.prog 159 71 .nilIface 1 16:=xA Tryz.underlying159 (by kernel_rfl) rfl (by decide)
theorem JF (V:Array Value) (w:World):(Instr.typeAssert (.iface 156 (.agg V)) 71 156 true).run Tryz.prog w= .ok (.tuple #[.agg V, .bool true]) w:=by kernel_rfl
theorem Qw (V:Array Value) (w:World):(Instr.typeAssert (.iface 124 (.agg V)) 71 156 true).run Tryz.prog w= .ok (.tuple #[.agg #[.int .i64 0, .string ⟨#[]⟩, .string ⟨#[]⟩, .string ⟨#[]⟩, .string ⟨#[]⟩, .int .i64 0, .string ⟨#[]⟩, .int .i64 0, .string ⟨#[]⟩, .int .i64 0, .slice none 0 0, .slice none 0 0, .slice none 0 0, .slice none 0 0, .int .i64 0, .int .i64 0, .int .i64 0, .slice none 0 0], .bool false]) w:=by kernel_rfl
theorem Qx (V:Array Value) (w:World):(Instr.typeAssert (.iface 161 (.agg V)) 71 156 true).run Tryz.prog w= .ok (.tuple #[.agg #[.int .i64 0, .string ⟨#[]⟩, .string ⟨#[]⟩, .string ⟨#[]⟩, .string ⟨#[]⟩, .int .i64 0, .string ⟨#[]⟩, .int .i64 0, .string ⟨#[]⟩, .int .i64 0, .slice none 0 0, .slice none 0 0, .slice none 0 0, .slice none 0 0, .int .i64 0, .int .i64 0, .int .i64 0, .slice none 0 0], .bool false]) w:=by kernel_rfl
def ru (K:PK) (bx:Nat) (w:World):Nat:=match w.cell? ⟨K.b,3,none⟩,w.cell? ⟨bx,0,none⟩with|some (.int _ v),some (.slice _ n _)=>if v<0 then 11 - n else 0|_,_=>0
theorem pO {K:PK}{w:World}{σ:Ps}{bx n cap:Nat}{a:Option Addr}(h:PQ K w σ) (hb:σ.bad=none) (hx:w.heap[bx]? =some (.cells #[.slice a n cap] 161 (0,0))):ru K bx w=11 - n:=by
 obtain ⟨_,_,_,_,_,c3,_⟩:=h.cells
 unfold ru;rw [c3,aj hx]
 have:σ.nY= -1:=by unfold Ps.nY;rw [hb]
 rw [this];rfl
theorem uy {K:PK}{w:World}{σ:Ps}{bx n cap:Nat}{a:Option Addr}(h:PQ K w σ) (hb:σ.bad≠none) (hx:w.heap[bx]? =some (.cells #[.slice a n cap] 161 (0,0))):ru K bx w=0:=by
 obtain ⟨_,_,_,_,_,c3,_⟩:=h.cells
 unfold ru;rw [c3,aj hx]
 cases hq:σ.bad with
 |none=>exact absurd hq hb
 |some a=>
  have:σ.nY=(a:Int):=by unfold Ps.nY;rw [hq]
  rw [this]
  show (if (a:Int)<0 then 11 - n else 0)=0
  rw [if_neg (by omega)]
theorem Qy {X:Tx}{st:Ps→Tx.Nd×Ps}{σ:Ps}(h:σ.bad≠none) (n:Nat) (l:List Sx):X.iT st n σ l=(l,σ):=by
 cases n with
 |zero=>rfl
 |succ n=>
  rw [Tx.iT]
  cases hb:σ.bad with
  |none=>exact absurd hb h
  |some a=>simp
def Au (X:Tx) (st:Ps→Tx.Nd×Ps) (m:Nat) (l:List Sx) (a:Nat) (nd:Tx.Nd) (je:Ps):List Sx×Ps:=match nd with| .change x=>X.iT st m (X.must je [(⟨#[59]⟩:ByteArray)]) (l++ [x])|_=>(l,⟨je.i,some a⟩)
theorem uz {X:Tx}{st:Ps→Tx.Nd×Ps}{σ σ3 je:Ps}{nd:Tx.Nd}{l:List Sx}{m:Nat}(hb:σ.bad=none) (hs:(!l.isEmpty&&X.sees σ (⟨#[97,112,112,108,121]⟩:ByteArray))=false) (h3:(if 8≤l.length then σ.wrong (X.here σ)else σ)=σ3) (h4:st σ3=(nd,je)):
 X.iT st (m+1) σ l=Au X st m l (X.here σ) nd je:=by
 rw [Tx.iT,hb,hs]
 simp only [Option.isSome_none,Bool.false_eq_true,if_false]
 rw [h3,h4]
 rfl
theorem Qz {X:Tx}{st:Ps→Tx.Nd×Ps}{σ:Ps}{l:List Sx}{m:Nat}(hb:σ.bad=none) (hl:l≠ []) (hs:X.sees σ (⟨#[97,112,112,108,121]⟩:ByteArray)=true):X.iT st (m+1) σ l=(l,σ.step):=by
 have he:l.isEmpty=false:=by cases l with|nil=>exact absurd rfl hl|cons a l=>rfl
 rw [Tx.iT,hb,he,hs]
 rfl
theorem Zk {a m:Nat}(h:a+(m+1)=10) (h8:a≤8):a+1+m=10∧a+1≤9:=by omega
theorem Xm {a:Nat}(h8:a≤8):11 - (a+1)<11 - a∧0<11 - a:=by omega
theorem lT {ops:Array Oper}{rest:List Oper}{op:Oper}{a:Act}{w:World}{Q:Exit→Act→World→Prop}{V:Array Value}(hgd:op.guard=none) (x y:Operand) (ho:op.op= .store 156 x y)
 (hx:a.eval x= .pointer (some ⟨w.heap.size,0,none⟩)) (hy:a.eval y= .agg V) (hV:V.size=18) (h1' :V.toList.all (·.oneCell')=true) (h:wpList Tryz.prog ops Q rest (a.put op.dst undef) (w.alloc (.cells V 156))):
 wpList Tryz.prog ops Q (op::rest) a (w.alloc (.cells #[.int .i64 0, .string ⟨#[]⟩, .string ⟨#[]⟩, .string ⟨#[]⟩, .string ⟨#[]⟩, .int .i64 0, .string ⟨#[]⟩, .int .i64 0, .string ⟨#[]⟩, .int .i64 0, .slice none 0 0, .slice none 0 0, .slice none 0 0, .slice none 0 0, .int .i64 0, .int .i64 0, .int .i64 0, .slice none 0 0] 156)):=by
 have hsz:(Tryz.prog.info? 156).map (·.size)=some 18:=by kernel_rfl
 have h1:V.all (·.oneCell')=true:=by rw [←Array.all_toList];exact h1'
 refine wpList_plain hgd fun K hK=> ?_
 unfold Oper.wp execOp
 have:(Instr.storeAt 156 (.pointer (some ⟨w.heap.size,0,none⟩)) (.agg V)).run Tryz.prog (w.alloc (.cells #[.int .i64 0, .string ⟨#[]⟩, .string ⟨#[]⟩, .string ⟨#[]⟩, .string ⟨#[]⟩, .int .i64 0, .string ⟨#[]⟩, .int .i64 0, .string ⟨#[]⟩, .int .i64 0, .slice none 0 0, .slice none 0 0, .slice none 0 0, .slice none 0 0, .int .i64 0, .int .i64 0, .int .i64 0, .slice none 0 0] 156))= .ok () (w.alloc (.cells V 156)):=
  run_storeAt_new w _ _ V (by rw [hV];exact hsz) (by rw [hV];rfl) h1
 simp only [ho,hx,hy,Sem.run_bind,this,Result.andThen_ok,Sem.run_pure]
 exact hK _ _ h
theorem QA {K:PK}{n:Nat}(hst:∀{w:World}{σ:Ps},PQ K w σ→K.X.T.length - σ.i<n→Calls Tryz.prog 37 #[.pointer (some ⟨K.b,0,none⟩)] w (mE K w (K.X.iq n σ).1 (K.X.iq n σ).2))
 {w:World} {σ:Ps} (h:PQ K w σ) (hlt:K.X.T.length - σ.i<n):
 Calls Tryz.prog 85 #[.pointer (some ⟨K.b,0,none⟩)] w (mE K w (.batch (K.X.many (K.X.iq n) σ).1) (K.X.many (K.X.iq n) σ).2):=by
 have hle:=h.le
 have hD0:=Did.refl h
 obtain ⟨σ1,h1⟩:∃r,K.X.must σ [(⟨#[98,97,116,99,104]⟩:ByteArray)]=r:=⟨_,rfl⟩
 have Zl:Le σ σ1:=by rw [←h1];exact bR K.X _ _
 obtain ⟨⟨lf,tL⟩,hR⟩:∃r,K.X.iT (K.X.iq n) 10 σ1 []=r:=⟨_,rfl⟩
 obtain ⟨Zj,he⟩:∃r,K.X.must tL [(⟨#[98,97,116,99,104]⟩:ByteArray)]=r:=⟨_,rfl⟩
 have HE:Hid (K.X.many (K.X.iq n) σ=(lf,Zj)):=by show _=_;unfold Tx.many;simp only [h1,hR,he]
 have hm1:=bV hD0.1 (⟨#[98,97,116,99,104]⟩:ByteArray)
 rw [h1]at hm1
 have HLT:=Lib.hid (Nat.lt_of_le_of_lt (Nat.sub_le_sub_left Zl.1 K.X.T.length) hlt)
 clear Zl hlt
 have HT:=Lib.hid K.hT
 have HS:=fun (w:World) (σ' :Ps) (hw:PQ K w σ') (hl:Le σ1 σ')=>hst hw (Nat.lt_of_le_of_lt (Nat.sub_le_sub_left hl.1 K.X.T.length) HLT.out)
 clear hst
 go_enter Tryz.func85,Tryz.ntmps85
 go_wp2_with fail
 refine hm1.mono ?_;rintro e w1 ⟨rfl,hd1⟩
 have hD1:=hD0.trans hd1
 have dH:K.L≤w1.heap.size:=Nat.le_trans hle hD1.size
 have hbx:w.heap.size≤w1.heap.size:=hD1.size
 have hb1:(w1.alloc (.cells #[ak] 161)).heap[w1.heap.size]? =some (.cells #[ak] 161 (0,0)):=aB w1 _
 have hD2:=hD1.alloc (.cells #[ak] 161)
 go_wp2_with fail
 go_loopw [] (fun wr=>∃(L:List Pv) (a:Option Addr) (cap:Nat) (σ2:Ps) (m:Nat),Did K w σ2 wr∧wr.heap[w1.heap.size]? =some (.cells #[.slice a L.length cap] 161 (0,0))∧wr.ownsRow w.heap.size 71 1 (.slice a L.length cap) L.length (L.map Pv.val)∧gH wr w.heap.size L∧Hid (K.X.iT (K.X.iq n) m σ2 (L.map Pv.x)=(lf,tL))∧L.length+m=10∧(9≤L.length→σ2.bad≠none)∧L.length≤9∧Hid (Le σ1 σ2)) (fun wr=>ru K w1.heap.size wr)
 case atStart=>exact ⟨[],none,0,σ1,10,hD2,hb1,World.ownsRow_nil _ _ _ _,(fun p hp=>absurd hp (by simp)),hR,rfl,(fun h=>absurd h (by decide)),by decide,Le.refl _⟩
 case round=>
  obtain ⟨L,a,cap,σ2,m,hD,hb,hr,hp,HR,hm,h9,hl9,HL⟩:=hrel
  have hsz:=hD.size
  cases hbad:σ2.bad with
  |some bd=>
   have hok:=qy hD.1 (v:=false) (by rw [hbad];rfl)
   have HR2:(L.map Pv.x,σ2)=(lf,tL):=by rw [←HR.out,Qy (by rw [hbad];simp)]
   cases HR2
   go_wp2_with fail
   refine hok.mono ?_;rintro e Cn ⟨rfl,m20,rfl⟩
   have bX:=(Did.refl hD.1).drewN m20
   have eX:=hD.trans bX
   have gY:=bX.blk hb dH
   have kJ:=bX.row hr hle
   have ou:=hp.did bX hle
   have hmz:=bV eX.1 (⟨#[98,97,116,99,104]⟩:ByteArray)
   rw [he]at hmz
   try simp only [aA,dJ]at hmz
   go_wp2_with fail
   refine hmz.mono ?_;rintro e yN ⟨rfl,iC⟩
   have kK:=iC.blk gY dH
   have c40:yN.cell? ⟨w1.heap.size,0,none⟩=some (.slice a L.length cap):=by rw [aj kK];rfl
   go_wp2_with fail
   go_ret
   rw [HE.out]
   exact ⟨L,a,cap,rfl,rfl,eX.trans iC,iC.row kJ hle,ou.did iC hle⟩
  |none=>
   have hok:=qy hD.1 (v:=true) (by rw [hbad];rfl)
   have Yv:L.length≤8:=by
    rcases Nat.lt_or_ge L.length 9 with h|h
    · exact Nat.le_of_lt_succ h
    · exact absurd hbad (h9 h)
   clear h9 hl9
   obtain ⟨m,rfl⟩:∃k,m=k+1:=⟨m - 1,by omega⟩
   have hM:=pO hD.1 hbad hb
   have Yw:=Zk hm Yv
   have MW:=Xm Yv
   have HM:=Lib.hid hm
   clear hm
   have c0:wr.cell? ⟨w1.heap.size,0,none⟩=some (.slice a L.length cap):=by rw [aj hb];rfl
   by_cases hlz:L.length=0
   · have hsf:(!(L.map Pv.x).isEmpty&&K.X.sees σ2 (⟨#[97,112,112,108,121]⟩:ByteArray))=false:=by rw [List.length_eq_zero_iff.1 hlz];rfl
     have MX:¬8≤L.length:=by omega
     have p0' :((L.length:Int)==0)=true:=by rw [beq_iff_eq];omega
     clear hlz
     go_wp2_with fail
     refine hok.mono ?_;rintro e w19 ⟨rfl,m19,rfl⟩
     have c1:(wr.drewN m19).cell? ⟨w1.heap.size,0,none⟩=some (.slice a L.length cap):=c0
     have bX:=(Did.refl hD.1).drewN m19
     have eX:=hD.trans bX
     have gY:=bX.blk hb dH
     have kJ:=bX.row hr hle
     have ou:=hp.did bX hle
     generalize wr.drewN m19=Cn at *
     have hat:=iB eX.1
     go_wp2_with fail
     refine hat.mono ?_;rintro e TP ⟨rfl,m21,rfl⟩
     have jr:=(Did.refl eX.1).drewN m21
     have lS:=eX.trans jr
     have qF:=jr.blk gY dH
     have Al:=jr.row kJ hle
     have QB:=ou.did jr hle
     have c21:(Cn.drewN m21).cell? ⟨w1.heap.size,0,none⟩=some (.slice a L.length cap):=by rw [aj qF];rfl
     have q8:(L.length:Int)<8:=by omega
     have ji:=lS
     have pK:=qF
     have mU:=Al
     have Av:=QB
     have hif:(if 8≤(L.map Pv.x).length then σ2.wrong (K.X.here σ2)else σ2)=σ2:=by rw [if_neg (by rw [List.length_map];exact MX)]
     have Aw:Le σ1 σ2:=HL.out
     have VT:9≤L.length+1→σ2.bad≠none:=fun h=>absurd (Nat.le_of_succ_le_succ h) MX
     have hsm:=HS _ σ2 ji.1 Aw
     have Ay:=EG K.X n σ2
     obtain ⟨⟨nd,je⟩,h4⟩:∃r,K.X.iq n σ2=r:=⟨_,rfl⟩
     rw [h4]at hsm Ay
     have HRR:Hid (Au K.X (K.X.iq n) m (L.map Pv.x) (K.X.here σ2) nd je=(lf,tL)):=by
      have h:=HR.out
      rw [uz hbad hsf hif h4]at h
      exact Lib.hid h
     have VU:Hid (Le σ2 je):=Ay
     have Zm:=Lib.hid Aw
     have H9:=Lib.hid VT
     clear hif Ay Aw VT
     have hTA:=JF
     have hTP:=Qw
     have hTB:=Qx
     cases nd with
     |plain x=>
      replace hsm:Calls Tryz.prog 37 #[.pointer (some ⟨K.b,0,none⟩)] _ (fK K _ 124 x je):=hsm
      have HR2:(L.map Pv.x,(⟨je.i,some (K.X.here σ2)⟩:Ps))=(lf,tL):=HRR.out
      cases HR2
      go_wp2_with fail
      refine hsm.mono ?_;rintro e VW ⟨tc,c,s,wv,rfl,iE,mF⟩
      have rz:=ji.trans iE
      have rA:=iE.blk pK dH
      have rC:=iE.row mU hle
      have rD:=Av.did iE hle
      have iZ:=rz.alloc (.cells #[.int .i64 0, .string ⟨#[]⟩, .string ⟨#[]⟩, .string ⟨#[]⟩, .string ⟨#[]⟩, .int .i64 0, .string ⟨#[]⟩, .int .i64 0, .string ⟨#[]⟩, .int .i64 0, .slice none 0 0, .slice none 0 0, .slice none 0 0, .slice none 0 0, .int .i64 0, .int .i64 0, .int .i64 0, .slice none 0 0] 156)
      have Az:=au rA (.cells #[.int .i64 0, .string ⟨#[]⟩, .string ⟨#[]⟩, .string ⟨#[]⟩, .string ⟨#[]⟩, .int .i64 0, .string ⟨#[]⟩, .int .i64 0, .string ⟨#[]⟩, .int .i64 0, .slice none 0 0, .slice none 0 0, .slice none 0 0, .slice none 0 0, .int .i64 0, .int .i64 0, .int .i64 0, .slice none 0 0] 156)
      have AA:=rC.alloc (.cells #[.int .i64 0, .string ⟨#[]⟩, .string ⟨#[]⟩, .string ⟨#[]⟩, .string ⟨#[]⟩, .int .i64 0, .string ⟨#[]⟩, .int .i64 0, .string ⟨#[]⟩, .int .i64 0, .slice none 0 0, .slice none 0 0, .slice none 0 0, .slice none 0 0, .int .i64 0, .int .i64 0, .int .i64 0, .slice none 0 0] 156)
      have AB:=rD.alloc (.cells #[.int .i64 0, .string ⟨#[]⟩, .string ⟨#[]⟩, .string ⟨#[]⟩, .string ⟨#[]⟩, .int .i64 0, .string ⟨#[]⟩, .int .i64 0, .string ⟨#[]⟩, .int .i64 0, .slice none 0 0, .slice none 0 0, .slice none 0 0, .slice none 0 0, .int .i64 0, .int .i64 0, .int .i64 0, .slice none 0 0] 156)
      obtain ⟨_,_,_,_,_,d3,_,f3,_⟩:=iZ.1.cells
      have zb:=iZ.1.lt
      go_wp2_with (refine lT rfl _ _ rfl rfl rfl rfl rfl ?_)
      have bX:=(Did.refl iZ.1).bad (K.X.here σ2)
      have eX:=iZ.trans bX
      have gY:=bX.blk Az dH
      have kJ:=bX.row AA hle
      have ou:=AB.did bX hle
      have hmz:=bV eX.1 (⟨#[98,97,116,99,104]⟩:ByteArray)
      rw [he]at hmz
      try simp only [aA,dJ]at hmz
      go_wp2_with fail
      refine hmz.mono ?_;rintro e yN ⟨rfl,iC⟩
      have kK:=iC.blk gY dH
      have c40:yN.cell? ⟨w1.heap.size,0,none⟩=some (.slice a L.length cap):=by rw [aj kK];rfl
      go_wp2_with fail
      go_ret
      rw [HE.out]
      exact ⟨L,a,cap,rfl,rfl,eX.trans iC,iC.row kJ hle,ou.did iC hle⟩
     |batch l=>
      replace hsm:Calls Tryz.prog 37 #[.pointer (some ⟨K.b,0,none⟩)] _ (mE K _ (.batch l) je):=hsm
      have HR2:(L.map Pv.x,(⟨je.i,some (K.X.here σ2)⟩:Ps))=(lf,tL):=HRR.out
      cases HR2
      go_wp2_with fail
      refine hsm.mono ?_;rintro e VW ⟨L2,a2,cap2,_,rfl,iE,mF,_⟩
      have rz:=ji.trans iE
      have rA:=iE.blk pK dH
      have rC:=iE.row mU hle
      have rD:=Av.did iE hle
      have iZ:=rz.alloc (.cells #[.int .i64 0, .string ⟨#[]⟩, .string ⟨#[]⟩, .string ⟨#[]⟩, .string ⟨#[]⟩, .int .i64 0, .string ⟨#[]⟩, .int .i64 0, .string ⟨#[]⟩, .int .i64 0, .slice none 0 0, .slice none 0 0, .slice none 0 0, .slice none 0 0, .int .i64 0, .int .i64 0, .int .i64 0, .slice none 0 0] 156)
      have Az:=au rA (.cells #[.int .i64 0, .string ⟨#[]⟩, .string ⟨#[]⟩, .string ⟨#[]⟩, .string ⟨#[]⟩, .int .i64 0, .string ⟨#[]⟩, .int .i64 0, .string ⟨#[]⟩, .int .i64 0, .slice none 0 0, .slice none 0 0, .slice none 0 0, .slice none 0 0, .int .i64 0, .int .i64 0, .int .i64 0, .slice none 0 0] 156)
      have AA:=rC.alloc (.cells #[.int .i64 0, .string ⟨#[]⟩, .string ⟨#[]⟩, .string ⟨#[]⟩, .string ⟨#[]⟩, .int .i64 0, .string ⟨#[]⟩, .int .i64 0, .string ⟨#[]⟩, .int .i64 0, .slice none 0 0, .slice none 0 0, .slice none 0 0, .slice none 0 0, .int .i64 0, .int .i64 0, .int .i64 0, .slice none 0 0] 156)
      have AB:=rD.alloc (.cells #[.int .i64 0, .string ⟨#[]⟩, .string ⟨#[]⟩, .string ⟨#[]⟩, .string ⟨#[]⟩, .int .i64 0, .string ⟨#[]⟩, .int .i64 0, .string ⟨#[]⟩, .int .i64 0, .slice none 0 0, .slice none 0 0, .slice none 0 0, .slice none 0 0, .int .i64 0, .int .i64 0, .int .i64 0, .slice none 0 0] 156)
      obtain ⟨_,_,_,_,_,d3,_,f3,_⟩:=iZ.1.cells
      have zb:=iZ.1.lt
      go_wp2_with (refine lT rfl _ _ rfl rfl rfl rfl rfl ?_)
      have bX:=(Did.refl iZ.1).bad (K.X.here σ2)
      have eX:=iZ.trans bX
      have gY:=bX.blk Az dH
      have kJ:=bX.row AA hle
      have ou:=AB.did bX hle
      have hmz:=bV eX.1 (⟨#[98,97,116,99,104]⟩:ByteArray)
      rw [he]at hmz
      try simp only [aA,dJ]at hmz
      go_wp2_with fail
      refine hmz.mono ?_;rintro e yN ⟨rfl,iC⟩
      have kK:=iC.blk gY dH
      have c40:yN.cell? ⟨w1.heap.size,0,none⟩=some (.slice a L.length cap):=by rw [aj kK];rfl
      go_wp2_with fail
      go_ret
      rw [HE.out]
      exact ⟨L,a,cap,rfl,rfl,eX.trans iC,iC.row kJ hle,ou.did iC hle⟩
     |change x=>
      replace hsm:Calls Tryz.prog 37 #[.pointer (some ⟨K.b,0,none⟩)] _ (fK K _ 156 x je):=hsm
      obtain ⟨lY,h5⟩:∃r,K.X.must je [(⟨#[59]⟩:ByteArray)]=r:=⟨_,rfl⟩
      have AJ:Le je lY:=by rw [←h5];exact bR K.X _ _
      have Zn:=Lib.hid ((Zm.out.trans VU.out).trans AJ)
      have Zo:Hid (9≤L.length+1→lY.bad≠none):=fun h hb5=>H9.out h (VU.out.2 (AJ.2 hb5))
      clear AJ
      have HR2:Hid (K.X.iT (K.X.iq n) m lY (L.map Pv.x++ [x])=(lf,tL)):=by have h:=HRR.out;unfold Au at h;simp only [h5]at h;exact Lib.hid h
      go_wp2_with fail
      refine hsm.mono ?_;rintro e VW ⟨tc,c,s,wv,rfl,iE,mF⟩
      have rz:=ji.trans iE
      obtain ⟨tcA,tcC,htc,_⟩:=aY mF.1
      obtain ⟨cA,cC,hc',_⟩:=aY mF.2.1
      obtain ⟨sA,sC,hs',_⟩:=aY mF.2.2.1
      obtain ⟨wA,wC,hw',_⟩:=aY mF.2.2.2
      have hone:(aF x tc c s wv ak).toList.all (·.oneCell')=true:=by rw [htc,hc',hs',hw'];rfl
      clear htc hc' hs' hw'
      have rA:=iE.blk pK dH
      have rC:=iE.row mU hle
      have rD:=(Av.did iE hle).snoc (p:=⟨x,tc,c,s,wv⟩) (mF.mono ji.size)
      have iZ:=rz.alloc (.cells (aF x tc c s wv ak) 156)
      have AL:=bV iZ.1 (⟨#[59]⟩:ByteArray)
      rw [h5]at AL
      try simp only [aA]at AL
      go_wp2_with (refine lT rfl _ _ rfl rfl rfl rfl hone ?_)
      refine AL.mono ?_;rintro e Zp ⟨rfl,hd25⟩
      have Gt:=iZ.trans hd25
      have vT:=hd25.blk (au rA _) dH
      have vU:=hd25.row (rC.alloc _) hle
      have QC:=(rD.alloc _).did hd25 hle
      have c25:Zp.cell? ⟨w1.heap.size,0,none⟩=some (.slice a L.length cap):=by rw [aj vT];rfl
      have hh8:L.length≤8:=Yv
      go_wp2_with (at_builtin;refine app1 Tryz.Xl rfl _ _ rfl w.heap.size _ _ _ rfl (vU.alloc _) _ _ [.iface 156 (.agg (aF x tc c s wv ak))] rfl rfl (bn _ _ _) (by intro u hu;rw [List.mem_singleton.1 hu];rfl) (by omega) (by have:=Gt.size;simp;omega) ?_;intro a5 c5 w5 h5' hg5 Cq;have hb5:w5.heap[w1.heap.size]? =some (.cells #[.slice a L.length cap] 161 (0,0)):=(hg5.block _ (aC (au vT _)) (fun e=>fG vU vT (by decide) e.symm)).trans (au vT _);have y5:w5.cell? ⟨w1.heap.size,0,none⟩=some (.slice a L.length cap):=(by rw [aj hb5];rfl);have u5:=ah hb5 0)
      have hD5:=((Gt.alloc (.cells #[.iface 156 (.agg (aF x tc c s wv ak))] 71)).grown hg5 (fun g hg2=>(vU.lt g hg2).1)).own hbx 0 (.slice a5 (L.length+1) c5)
      have hb6:(w5.setCell ⟨w1.heap.size,0,none⟩ (.slice a5 (L.length+1) c5)).heap[w1.heap.size]? =some (.cells #[.slice a5 (L.length+1) c5] 161 (0,0)):=by rw [bU hb5 0 _];rfl
      have Jp:=aL h5' hb5 (by decide) 0 (.slice a5 (L.length+1) c5)
      have WI:=((QC.alloc (.cells #[.iface 156 (.agg (aF x tc c s wv ak))] 71)).map (fun _ _ _ _ _ he hq=>(eG (vU.alloc _) hq (fun e2=>lF (T:=71) (by decide) he e2)).keep hq hg5)).set hb5 (by decide) 0 (.slice a5 (L.length+1) c5)
      have hmm:ru K w1.heap.size (w5.setCell ⟨w1.heap.size,0,none⟩ (.slice a5 (L.length+1) c5))<ru K w1.heap.size wr:=by
       rw [hM]
       by_cases hq:lY.bad=none
       · rw [pO hD5.1 hq hb6];exact MW.1
       · rw [uy hD5.1 hq hb6];exact MW.2
      go_wp2_with fail
      go_roundw
      case rel=>
       refine ⟨L++ [⟨x,tc,c,s,wv⟩],a5,c5,lY,m,hD5,by rw [List.length_append];exact hb6,by rw [List.length_append,List.map_append];exact Jp,WI,by rw [List.map_append];exact HR2,by rw [List.length_append];exact Yw.1,by rw [List.length_append];exact Zo.out,by rw [List.length_append];exact Yw.2,Zn⟩
      case measure=>exact hmm
   · have hLn:L.map Pv.x≠ []:=by intro e;apply hlz;rw [←List.length_map (f:=Pv.x),e];rfl
     have p0' :((L.length:Int)==0)=false:=by rw [beq_eq_false_iff_ne];omega
     cases hse:K.X.sees σ2 (⟨#[97,112,112,108,121]⟩:ByteArray)with
     |true=>
      have HR2:(L.map Pv.x,σ2.step)=(lf,tL):=by rw [←HR.out,Qz hbad hLn hse]
      cases HR2
      go_wp2_with fail
      refine hok.mono ?_;rintro e w19 ⟨rfl,m19,rfl⟩
      have JE:=hD.drewN m19
      have c1:(wr.drewN m19).cell? ⟨w1.heap.size,0,none⟩=some (.slice a L.length cap):=c0
      have hmay:=aS JE.1 (⟨#[97,112,112,108,121]⟩:ByteArray)
      unfold Tx.may at hmay
      rw [hse,if_pos rfl]at hmay
      go_wp2_with fail
      refine hmay.mono ?_;rintro e Cn ⟨rfl,tN⟩
      have bX:=((Did.refl hD.1).drewN m19).trans tN
      have eX:=hD.trans bX
      have gY:=bX.blk hb dH
      have kJ:=bX.row hr hle
      have ou:=hp.did bX hle
      have hmz:=bV eX.1 (⟨#[98,97,116,99,104]⟩:ByteArray)
      rw [he]at hmz
      try simp only [aA,dJ]at hmz
      go_wp2_with fail
      refine hmz.mono ?_;rintro e yN ⟨rfl,iC⟩
      have kK:=iC.blk gY dH
      have c40:yN.cell? ⟨w1.heap.size,0,none⟩=some (.slice a L.length cap):=by rw [aj kK];rfl
      go_wp2_with fail
      go_ret
      rw [HE.out]
      exact ⟨L,a,cap,rfl,rfl,eX.trans iC,iC.row kJ hle,ou.did iC hle⟩
     |false=>
      have hsf:(!(L.map Pv.x).isEmpty&&K.X.sees σ2 (⟨#[97,112,112,108,121]⟩:ByteArray))=false:=by rw [hse,Bool.and_false]
      go_wp2_with fail
      refine hok.mono ?_;rintro e w19 ⟨rfl,m19,rfl⟩
      have JE:=hD.drewN m19
      have c1:(wr.drewN m19).cell? ⟨w1.heap.size,0,none⟩=some (.slice a L.length cap):=c0
      have hmay:=aS JE.1 (⟨#[97,112,112,108,121]⟩:ByteArray)
      unfold Tx.may at hmay
      rw [hse,if_neg (by decide)]at hmay
      go_wp2_with fail
      refine hmay.mono ?_;rintro e Cn ⟨rfl,tN⟩
      have bX:=((Did.refl hD.1).drewN m19).trans tN
      have eX:=hD.trans bX
      have gY:=bX.blk hb dH
      have kJ:=bX.row hr hle
      have ou:=hp.did bX hle
      by_cases MX:8≤L.length
      · skip
        have hat:=iB eX.1
        go_wp2_with fail
        refine hat.mono ?_;rintro e TP ⟨rfl,m21,rfl⟩
        have jr:=(Did.refl eX.1).drewN m21
        have lS:=eX.trans jr
        have qF:=jr.blk gY dH
        have Al:=jr.row kJ hle
        have QB:=ou.did jr hle
        have c21:(Cn.drewN m21).cell? ⟨w1.heap.size,0,none⟩=some (.slice a L.length cap):=by rw [aj qF];rfl
        have q8:(8:Int)≤(L.length:Int):=by omega
        have hwr:=gB lS.1 (K.X.here σ2)
        go_wp2_with fail
        refine hwr.mono ?_;rintro e WB ⟨rfl,jZ⟩
        have ji:=lS.trans jZ
        have pK:=jZ.blk qF dH
        have mU:=jZ.row Al hle
        have Av:=QB.did jZ hle
        obtain ⟨σ3,h3⟩:∃r,σ2.wrong (K.X.here σ2)=r:=⟨_,rfl⟩
        have hif:(if 8≤(L.map Pv.x).length then σ2.wrong (K.X.here σ2)else σ2)=σ3:=by rw [if_pos (by rw [List.length_map];exact MX)];exact h3
        have Aw:Le σ1 σ3:=HL.out.trans (by rw [←h3];exact mq _ _)
        have VT:9≤L.length+1→σ3.bad≠none:=fun _=>by rw [←h3];unfold Ps.wrong;rw [hbad];simp
        rw [h3]at ji
        have hsm:=HS _ σ3 ji.1 Aw
        have Ay:=EG K.X n σ3
        obtain ⟨⟨nd,je⟩,h4⟩:∃r,K.X.iq n σ3=r:=⟨_,rfl⟩
        rw [h4]at hsm Ay
        have HRR:Hid (Au K.X (K.X.iq n) m (L.map Pv.x) (K.X.here σ2) nd je=(lf,tL)):=by
         have h:=HR.out
         rw [uz hbad hsf hif h4]at h
         exact Lib.hid h
        have VU:Hid (Le σ3 je):=Ay
        have Zm:=Lib.hid Aw
        have H9:=Lib.hid VT
        clear hif Ay Aw VT
        have hTA:=JF
        have hTP:=Qw
        have hTB:=Qx
        cases nd with
        |plain x=>
         replace hsm:Calls Tryz.prog 37 #[.pointer (some ⟨K.b,0,none⟩)] _ (fK K _ 124 x je):=hsm
         have HR2:(L.map Pv.x,(⟨je.i,some (K.X.here σ2)⟩:Ps))=(lf,tL):=HRR.out
         cases HR2
         go_wp2_with fail
         refine hsm.mono ?_;rintro e VW ⟨tc,c,s,wv,rfl,iE,mF⟩
         have rz:=ji.trans iE
         have rA:=iE.blk pK dH
         have rC:=iE.row mU hle
         have rD:=Av.did iE hle
         have iZ:=rz.alloc (.cells #[.int .i64 0, .string ⟨#[]⟩, .string ⟨#[]⟩, .string ⟨#[]⟩, .string ⟨#[]⟩, .int .i64 0, .string ⟨#[]⟩, .int .i64 0, .string ⟨#[]⟩, .int .i64 0, .slice none 0 0, .slice none 0 0, .slice none 0 0, .slice none 0 0, .int .i64 0, .int .i64 0, .int .i64 0, .slice none 0 0] 156)
         have Az:=au rA (.cells #[.int .i64 0, .string ⟨#[]⟩, .string ⟨#[]⟩, .string ⟨#[]⟩, .string ⟨#[]⟩, .int .i64 0, .string ⟨#[]⟩, .int .i64 0, .string ⟨#[]⟩, .int .i64 0, .slice none 0 0, .slice none 0 0, .slice none 0 0, .slice none 0 0, .int .i64 0, .int .i64 0, .int .i64 0, .slice none 0 0] 156)
         have AA:=rC.alloc (.cells #[.int .i64 0, .string ⟨#[]⟩, .string ⟨#[]⟩, .string ⟨#[]⟩, .string ⟨#[]⟩, .int .i64 0, .string ⟨#[]⟩, .int .i64 0, .string ⟨#[]⟩, .int .i64 0, .slice none 0 0, .slice none 0 0, .slice none 0 0, .slice none 0 0, .int .i64 0, .int .i64 0, .int .i64 0, .slice none 0 0] 156)
         have AB:=rD.alloc (.cells #[.int .i64 0, .string ⟨#[]⟩, .string ⟨#[]⟩, .string ⟨#[]⟩, .string ⟨#[]⟩, .int .i64 0, .string ⟨#[]⟩, .int .i64 0, .string ⟨#[]⟩, .int .i64 0, .slice none 0 0, .slice none 0 0, .slice none 0 0, .slice none 0 0, .int .i64 0, .int .i64 0, .int .i64 0, .slice none 0 0] 156)
         obtain ⟨_,_,_,_,_,d3,_,f3,_⟩:=iZ.1.cells
         have zb:=iZ.1.lt
         go_wp2_with (refine lT rfl _ _ rfl rfl rfl rfl rfl ?_)
         have bX:=(Did.refl iZ.1).bad (K.X.here σ2)
         have eX:=iZ.trans bX
         have gY:=bX.blk Az dH
         have kJ:=bX.row AA hle
         have ou:=AB.did bX hle
         have hmz:=bV eX.1 (⟨#[98,97,116,99,104]⟩:ByteArray)
         rw [he]at hmz
         try simp only [aA,dJ]at hmz
         go_wp2_with fail
         refine hmz.mono ?_;rintro e yN ⟨rfl,iC⟩
         have kK:=iC.blk gY dH
         have c40:yN.cell? ⟨w1.heap.size,0,none⟩=some (.slice a L.length cap):=by rw [aj kK];rfl
         go_wp2_with fail
         go_ret
         rw [HE.out]
         exact ⟨L,a,cap,rfl,rfl,eX.trans iC,iC.row kJ hle,ou.did iC hle⟩
        |batch l=>
         replace hsm:Calls Tryz.prog 37 #[.pointer (some ⟨K.b,0,none⟩)] _ (mE K _ (.batch l) je):=hsm
         have HR2:(L.map Pv.x,(⟨je.i,some (K.X.here σ2)⟩:Ps))=(lf,tL):=HRR.out
         cases HR2
         go_wp2_with fail
         refine hsm.mono ?_;rintro e VW ⟨L2,a2,cap2,_,rfl,iE,mF,_⟩
         have rz:=ji.trans iE
         have rA:=iE.blk pK dH
         have rC:=iE.row mU hle
         have rD:=Av.did iE hle
         have iZ:=rz.alloc (.cells #[.int .i64 0, .string ⟨#[]⟩, .string ⟨#[]⟩, .string ⟨#[]⟩, .string ⟨#[]⟩, .int .i64 0, .string ⟨#[]⟩, .int .i64 0, .string ⟨#[]⟩, .int .i64 0, .slice none 0 0, .slice none 0 0, .slice none 0 0, .slice none 0 0, .int .i64 0, .int .i64 0, .int .i64 0, .slice none 0 0] 156)
         have Az:=au rA (.cells #[.int .i64 0, .string ⟨#[]⟩, .string ⟨#[]⟩, .string ⟨#[]⟩, .string ⟨#[]⟩, .int .i64 0, .string ⟨#[]⟩, .int .i64 0, .string ⟨#[]⟩, .int .i64 0, .slice none 0 0, .slice none 0 0, .slice none 0 0, .slice none 0 0, .int .i64 0, .int .i64 0, .int .i64 0, .slice none 0 0] 156)
         have AA:=rC.alloc (.cells #[.int .i64 0, .string ⟨#[]⟩, .string ⟨#[]⟩, .string ⟨#[]⟩, .string ⟨#[]⟩, .int .i64 0, .string ⟨#[]⟩, .int .i64 0, .string ⟨#[]⟩, .int .i64 0, .slice none 0 0, .slice none 0 0, .slice none 0 0, .slice none 0 0, .int .i64 0, .int .i64 0, .int .i64 0, .slice none 0 0] 156)
         have AB:=rD.alloc (.cells #[.int .i64 0, .string ⟨#[]⟩, .string ⟨#[]⟩, .string ⟨#[]⟩, .string ⟨#[]⟩, .int .i64 0, .string ⟨#[]⟩, .int .i64 0, .string ⟨#[]⟩, .int .i64 0, .slice none 0 0, .slice none 0 0, .slice none 0 0, .slice none 0 0, .int .i64 0, .int .i64 0, .int .i64 0, .slice none 0 0] 156)
         obtain ⟨_,_,_,_,_,d3,_,f3,_⟩:=iZ.1.cells
         have zb:=iZ.1.lt
         go_wp2_with (refine lT rfl _ _ rfl rfl rfl rfl rfl ?_)
         have bX:=(Did.refl iZ.1).bad (K.X.here σ2)
         have eX:=iZ.trans bX
         have gY:=bX.blk Az dH
         have kJ:=bX.row AA hle
         have ou:=AB.did bX hle
         have hmz:=bV eX.1 (⟨#[98,97,116,99,104]⟩:ByteArray)
         rw [he]at hmz
         try simp only [aA,dJ]at hmz
         go_wp2_with fail
         refine hmz.mono ?_;rintro e yN ⟨rfl,iC⟩
         have kK:=iC.blk gY dH
         have c40:yN.cell? ⟨w1.heap.size,0,none⟩=some (.slice a L.length cap):=by rw [aj kK];rfl
         go_wp2_with fail
         go_ret
         rw [HE.out]
         exact ⟨L,a,cap,rfl,rfl,eX.trans iC,iC.row kJ hle,ou.did iC hle⟩
        |change x=>
         replace hsm:Calls Tryz.prog 37 #[.pointer (some ⟨K.b,0,none⟩)] _ (fK K _ 156 x je):=hsm
         obtain ⟨lY,h5⟩:∃r,K.X.must je [(⟨#[59]⟩:ByteArray)]=r:=⟨_,rfl⟩
         have AJ:Le je lY:=by rw [←h5];exact bR K.X _ _
         have Zn:=Lib.hid ((Zm.out.trans VU.out).trans AJ)
         have Zo:Hid (9≤L.length+1→lY.bad≠none):=fun h hb5=>H9.out h (VU.out.2 (AJ.2 hb5))
         clear AJ
         have HR2:Hid (K.X.iT (K.X.iq n) m lY (L.map Pv.x++ [x])=(lf,tL)):=by have h:=HRR.out;unfold Au at h;simp only [h5]at h;exact Lib.hid h
         go_wp2_with fail
         refine hsm.mono ?_;rintro e VW ⟨tc,c,s,wv,rfl,iE,mF⟩
         have rz:=ji.trans iE
         obtain ⟨tcA,tcC,htc,_⟩:=aY mF.1
         obtain ⟨cA,cC,hc',_⟩:=aY mF.2.1
         obtain ⟨sA,sC,hs',_⟩:=aY mF.2.2.1
         obtain ⟨wA,wC,hw',_⟩:=aY mF.2.2.2
         have hone:(aF x tc c s wv ak).toList.all (·.oneCell')=true:=by rw [htc,hc',hs',hw'];rfl
         clear htc hc' hs' hw'
         have rA:=iE.blk pK dH
         have rC:=iE.row mU hle
         have rD:=(Av.did iE hle).snoc (p:=⟨x,tc,c,s,wv⟩) (mF.mono ji.size)
         have iZ:=rz.alloc (.cells (aF x tc c s wv ak) 156)
         have AL:=bV iZ.1 (⟨#[59]⟩:ByteArray)
         rw [h5]at AL
         try simp only [aA]at AL
         go_wp2_with (refine lT rfl _ _ rfl rfl rfl rfl hone ?_)
         refine AL.mono ?_;rintro e Zp ⟨rfl,hd25⟩
         have Gt:=iZ.trans hd25
         have vT:=hd25.blk (au rA _) dH
         have vU:=hd25.row (rC.alloc _) hle
         have QC:=(rD.alloc _).did hd25 hle
         have c25:Zp.cell? ⟨w1.heap.size,0,none⟩=some (.slice a L.length cap):=by rw [aj vT];rfl
         have hh8:L.length≤8:=Yv
         go_wp2_with (at_builtin;refine app1 Tryz.Xl rfl _ _ rfl w.heap.size _ _ _ rfl (vU.alloc _) _ _ [.iface 156 (.agg (aF x tc c s wv ak))] rfl rfl (bn _ _ _) (by intro u hu;rw [List.mem_singleton.1 hu];rfl) (by omega) (by have:=Gt.size;simp;omega) ?_;intro a5 c5 w5 h5' hg5 Cq;have hb5:w5.heap[w1.heap.size]? =some (.cells #[.slice a L.length cap] 161 (0,0)):=(hg5.block _ (aC (au vT _)) (fun e=>fG vU vT (by decide) e.symm)).trans (au vT _);have y5:w5.cell? ⟨w1.heap.size,0,none⟩=some (.slice a L.length cap):=(by rw [aj hb5];rfl);have u5:=ah hb5 0)
         have hD5:=((Gt.alloc (.cells #[.iface 156 (.agg (aF x tc c s wv ak))] 71)).grown hg5 (fun g hg2=>(vU.lt g hg2).1)).own hbx 0 (.slice a5 (L.length+1) c5)
         have hb6:(w5.setCell ⟨w1.heap.size,0,none⟩ (.slice a5 (L.length+1) c5)).heap[w1.heap.size]? =some (.cells #[.slice a5 (L.length+1) c5] 161 (0,0)):=by rw [bU hb5 0 _];rfl
         have Jp:=aL h5' hb5 (by decide) 0 (.slice a5 (L.length+1) c5)
         have WI:=((QC.alloc (.cells #[.iface 156 (.agg (aF x tc c s wv ak))] 71)).map (fun _ _ _ _ _ he hq=>(eG (vU.alloc _) hq (fun e2=>lF (T:=71) (by decide) he e2)).keep hq hg5)).set hb5 (by decide) 0 (.slice a5 (L.length+1) c5)
         have hmm:ru K w1.heap.size (w5.setCell ⟨w1.heap.size,0,none⟩ (.slice a5 (L.length+1) c5))<ru K w1.heap.size wr:=by
          rw [hM]
          by_cases hq:lY.bad=none
          · rw [pO hD5.1 hq hb6];exact MW.1
          · rw [uy hD5.1 hq hb6];exact MW.2
         go_wp2_with fail
         go_roundw
         case rel=>
          refine ⟨L++ [⟨x,tc,c,s,wv⟩],a5,c5,lY,m,hD5,by rw [List.length_append];exact hb6,by rw [List.length_append,List.map_append];exact Jp,WI,by rw [List.map_append];exact HR2,by rw [List.length_append];exact Yw.1,by rw [List.length_append];exact Zo.out,by rw [List.length_append];exact Yw.2,Zn⟩
         case measure=>exact hmm
      · skip
        have hat:=iB eX.1
        go_wp2_with fail
        refine hat.mono ?_;rintro e TP ⟨rfl,m21,rfl⟩
        have jr:=(Did.refl eX.1).drewN m21
        have lS:=eX.trans jr
        have qF:=jr.blk gY dH
        have Al:=jr.row kJ hle
        have QB:=ou.did jr hle
        have c21:(Cn.drewN m21).cell? ⟨w1.heap.size,0,none⟩=some (.slice a L.length cap):=by rw [aj qF];rfl
        have q8:(L.length:Int)<8:=by omega
        have ji:=lS
        have pK:=qF
        have mU:=Al
        have Av:=QB
        have hif:(if 8≤(L.map Pv.x).length then σ2.wrong (K.X.here σ2)else σ2)=σ2:=by rw [if_neg (by rw [List.length_map];exact MX)]
        have Aw:Le σ1 σ2:=HL.out
        have VT:9≤L.length+1→σ2.bad≠none:=fun h=>absurd (Nat.le_of_succ_le_succ h) MX
        have hsm:=HS _ σ2 ji.1 Aw
        have Ay:=EG K.X n σ2
        obtain ⟨⟨nd,je⟩,h4⟩:∃r,K.X.iq n σ2=r:=⟨_,rfl⟩
        rw [h4]at hsm Ay
        have HRR:Hid (Au K.X (K.X.iq n) m (L.map Pv.x) (K.X.here σ2) nd je=(lf,tL)):=by
         have h:=HR.out
         rw [uz hbad hsf hif h4]at h
         exact Lib.hid h
        have VU:Hid (Le σ2 je):=Ay
        have Zm:=Lib.hid Aw
        have H9:=Lib.hid VT
        clear hif Ay Aw VT
        have hTA:=JF
        have hTP:=Qw
        have hTB:=Qx
        cases nd with
        |plain x=>
         replace hsm:Calls Tryz.prog 37 #[.pointer (some ⟨K.b,0,none⟩)] _ (fK K _ 124 x je):=hsm
         have HR2:(L.map Pv.x,(⟨je.i,some (K.X.here σ2)⟩:Ps))=(lf,tL):=HRR.out
         cases HR2
         go_wp2_with fail
         refine hsm.mono ?_;rintro e VW ⟨tc,c,s,wv,rfl,iE,mF⟩
         have rz:=ji.trans iE
         have rA:=iE.blk pK dH
         have rC:=iE.row mU hle
         have rD:=Av.did iE hle
         have iZ:=rz.alloc (.cells #[.int .i64 0, .string ⟨#[]⟩, .string ⟨#[]⟩, .string ⟨#[]⟩, .string ⟨#[]⟩, .int .i64 0, .string ⟨#[]⟩, .int .i64 0, .string ⟨#[]⟩, .int .i64 0, .slice none 0 0, .slice none 0 0, .slice none 0 0, .slice none 0 0, .int .i64 0, .int .i64 0, .int .i64 0, .slice none 0 0] 156)
         have Az:=au rA (.cells #[.int .i64 0, .string ⟨#[]⟩, .string ⟨#[]⟩, .string ⟨#[]⟩, .string ⟨#[]⟩, .int .i64 0, .string ⟨#[]⟩, .int .i64 0, .string ⟨#[]⟩, .int .i64 0, .slice none 0 0, .slice none 0 0, .slice none 0 0, .slice none 0 0, .int .i64 0, .int .i64 0, .int .i64 0, .slice none 0 0] 156)
         have AA:=rC.alloc (.cells #[.int .i64 0, .string ⟨#[]⟩, .string ⟨#[]⟩, .string ⟨#[]⟩, .string ⟨#[]⟩, .int .i64 0, .string ⟨#[]⟩, .int .i64 0, .string ⟨#[]⟩, .int .i64 0, .slice none 0 0, .slice none 0 0, .slice none 0 0, .slice none 0 0, .int .i64 0, .int .i64 0, .int .i64 0, .slice none 0 0] 156)
         have AB:=rD.alloc (.cells #[.int .i64 0, .string ⟨#[]⟩, .string ⟨#[]⟩, .string ⟨#[]⟩, .string ⟨#[]⟩, .int .i64 0, .string ⟨#[]⟩, .int .i64 0, .string ⟨#[]⟩, .int .i64 0, .slice none 0 0, .slice none 0 0, .slice none 0 0, .slice none 0 0, .int .i64 0, .int .i64 0, .int .i64 0, .slice none 0 0] 156)
         obtain ⟨_,_,_,_,_,d3,_,f3,_⟩:=iZ.1.cells
         have zb:=iZ.1.lt
         go_wp2_with (refine lT rfl _ _ rfl rfl rfl rfl rfl ?_)
         have bX:=(Did.refl iZ.1).bad (K.X.here σ2)
         have eX:=iZ.trans bX
         have gY:=bX.blk Az dH
         have kJ:=bX.row AA hle
         have ou:=AB.did bX hle
         have hmz:=bV eX.1 (⟨#[98,97,116,99,104]⟩:ByteArray)
         rw [he]at hmz
         try simp only [aA,dJ]at hmz
         go_wp2_with fail
         refine hmz.mono ?_;rintro e yN ⟨rfl,iC⟩
         have kK:=iC.blk gY dH
         have c40:yN.cell? ⟨w1.heap.size,0,none⟩=some (.slice a L.length cap):=by rw [aj kK];rfl
         go_wp2_with fail
         go_ret
         rw [HE.out]
         exact ⟨L,a,cap,rfl,rfl,eX.trans iC,iC.row kJ hle,ou.did iC hle⟩
        |batch l=>
         replace hsm:Calls Tryz.prog 37 #[.pointer (some ⟨K.b,0,none⟩)] _ (mE K _ (.batch l) je):=hsm
         have HR2:(L.map Pv.x,(⟨je.i,some (K.X.here σ2)⟩:Ps))=(lf,tL):=HRR.out
         cases HR2
         go_wp2_with fail
         refine hsm.mono ?_;rintro e VW ⟨L2,a2,cap2,_,rfl,iE,mF,_⟩
         have rz:=ji.trans iE
         have rA:=iE.blk pK dH
         have rC:=iE.row mU hle
         have rD:=Av.did iE hle
         have iZ:=rz.alloc (.cells #[.int .i64 0, .string ⟨#[]⟩, .string ⟨#[]⟩, .string ⟨#[]⟩, .string ⟨#[]⟩, .int .i64 0, .string ⟨#[]⟩, .int .i64 0, .string ⟨#[]⟩, .int .i64 0, .slice none 0 0, .slice none 0 0, .slice none 0 0, .slice none 0 0, .int .i64 0, .int .i64 0, .int .i64 0, .slice none 0 0] 156)
         have Az:=au rA (.cells #[.int .i64 0, .string ⟨#[]⟩, .string ⟨#[]⟩, .string ⟨#[]⟩, .string ⟨#[]⟩, .int .i64 0, .string ⟨#[]⟩, .int .i64 0, .string ⟨#[]⟩, .int .i64 0, .slice none 0 0, .slice none 0 0, .slice none 0 0, .slice none 0 0, .int .i64 0, .int .i64 0, .int .i64 0, .slice none 0 0] 156)
         have AA:=rC.alloc (.cells #[.int .i64 0, .string ⟨#[]⟩, .string ⟨#[]⟩, .string ⟨#[]⟩, .string ⟨#[]⟩, .int .i64 0, .string ⟨#[]⟩, .int .i64 0, .string ⟨#[]⟩, .int .i64 0, .slice none 0 0, .slice none 0 0, .slice none 0 0, .slice none 0 0, .int .i64 0, .int .i64 0, .int .i64 0, .slice none 0 0] 156)
         have AB:=rD.alloc (.cells #[.int .i64 0, .string ⟨#[]⟩, .string ⟨#[]⟩, .string ⟨#[]⟩, .string ⟨#[]⟩, .int .i64 0, .string ⟨#[]⟩, .int .i64 0, .string ⟨#[]⟩, .int .i64 0, .slice none 0 0, .slice none 0 0, .slice none 0 0, .slice none 0 0, .int .i64 0, .int .i64 0, .int .i64 0, .slice none 0 0] 156)
         obtain ⟨_,_,_,_,_,d3,_,f3,_⟩:=iZ.1.cells
         have zb:=iZ.1.lt
         go_wp2_with (refine lT rfl _ _ rfl rfl rfl rfl rfl ?_)
         have bX:=(Did.refl iZ.1).bad (K.X.here σ2)
         have eX:=iZ.trans bX
         have gY:=bX.blk Az dH
         have kJ:=bX.row AA hle
         have ou:=AB.did bX hle
         have hmz:=bV eX.1 (⟨#[98,97,116,99,104]⟩:ByteArray)
         rw [he]at hmz
         try simp only [aA,dJ]at hmz
         go_wp2_with fail
         refine hmz.mono ?_;rintro e yN ⟨rfl,iC⟩
         have kK:=iC.blk gY dH
         have c40:yN.cell? ⟨w1.heap.size,0,none⟩=some (.slice a L.length cap):=by rw [aj kK];rfl
         go_wp2_with fail
         go_ret
         rw [HE.out]
         exact ⟨L,a,cap,rfl,rfl,eX.trans iC,iC.row kJ hle,ou.did iC hle⟩
        |change x=>
         replace hsm:Calls Tryz.prog 37 #[.pointer (some ⟨K.b,0,none⟩)] _ (fK K _ 156 x je):=hsm
         obtain ⟨lY,h5⟩:∃r,K.X.must je [(⟨#[59]⟩:ByteArray)]=r:=⟨_,rfl⟩
         have AJ:Le je lY:=by rw [←h5];exact bR K.X _ _
         have Zn:=Lib.hid ((Zm.out.trans VU.out).trans AJ)
         have Zo:Hid (9≤L.length+1→lY.bad≠none):=fun h hb5=>H9.out h (VU.out.2 (AJ.2 hb5))
         clear AJ
         have HR2:Hid (K.X.iT (K.X.iq n) m lY (L.map Pv.x++ [x])=(lf,tL)):=by have h:=HRR.out;unfold Au at h;simp only [h5]at h;exact Lib.hid h
         go_wp2_with fail
         refine hsm.mono ?_;rintro e VW ⟨tc,c,s,wv,rfl,iE,mF⟩
         have rz:=ji.trans iE
         obtain ⟨tcA,tcC,htc,_⟩:=aY mF.1
         obtain ⟨cA,cC,hc',_⟩:=aY mF.2.1
         obtain ⟨sA,sC,hs',_⟩:=aY mF.2.2.1
         obtain ⟨wA,wC,hw',_⟩:=aY mF.2.2.2
         have hone:(aF x tc c s wv ak).toList.all (·.oneCell')=true:=by rw [htc,hc',hs',hw'];rfl
         clear htc hc' hs' hw'
         have rA:=iE.blk pK dH
         have rC:=iE.row mU hle
         have rD:=(Av.did iE hle).snoc (p:=⟨x,tc,c,s,wv⟩) (mF.mono ji.size)
         have iZ:=rz.alloc (.cells (aF x tc c s wv ak) 156)
         have AL:=bV iZ.1 (⟨#[59]⟩:ByteArray)
         rw [h5]at AL
         try simp only [aA]at AL
         go_wp2_with (refine lT rfl _ _ rfl rfl rfl rfl hone ?_)
         refine AL.mono ?_;rintro e Zp ⟨rfl,hd25⟩
         have Gt:=iZ.trans hd25
         have vT:=hd25.blk (au rA _) dH
         have vU:=hd25.row (rC.alloc _) hle
         have QC:=(rD.alloc _).did hd25 hle
         have c25:Zp.cell? ⟨w1.heap.size,0,none⟩=some (.slice a L.length cap):=by rw [aj vT];rfl
         have hh8:L.length≤8:=Yv
         go_wp2_with (at_builtin;refine app1 Tryz.Xl rfl _ _ rfl w.heap.size _ _ _ rfl (vU.alloc _) _ _ [.iface 156 (.agg (aF x tc c s wv ak))] rfl rfl (bn _ _ _) (by intro u hu;rw [List.mem_singleton.1 hu];rfl) (by omega) (by have:=Gt.size;simp;omega) ?_;intro a5 c5 w5 h5' hg5 Cq;have hb5:w5.heap[w1.heap.size]? =some (.cells #[.slice a L.length cap] 161 (0,0)):=(hg5.block _ (aC (au vT _)) (fun e=>fG vU vT (by decide) e.symm)).trans (au vT _);have y5:w5.cell? ⟨w1.heap.size,0,none⟩=some (.slice a L.length cap):=(by rw [aj hb5];rfl);have u5:=ah hb5 0)
         have hD5:=((Gt.alloc (.cells #[.iface 156 (.agg (aF x tc c s wv ak))] 71)).grown hg5 (fun g hg2=>(vU.lt g hg2).1)).own hbx 0 (.slice a5 (L.length+1) c5)
         have hb6:(w5.setCell ⟨w1.heap.size,0,none⟩ (.slice a5 (L.length+1) c5)).heap[w1.heap.size]? =some (.cells #[.slice a5 (L.length+1) c5] 161 (0,0)):=by rw [bU hb5 0 _];rfl
         have Jp:=aL h5' hb5 (by decide) 0 (.slice a5 (L.length+1) c5)
         have WI:=((QC.alloc (.cells #[.iface 156 (.agg (aF x tc c s wv ak))] 71)).map (fun _ _ _ _ _ he hq=>(eG (vU.alloc _) hq (fun e2=>lF (T:=71) (by decide) he e2)).keep hq hg5)).set hb5 (by decide) 0 (.slice a5 (L.length+1) c5)
         have hmm:ru K w1.heap.size (w5.setCell ⟨w1.heap.size,0,none⟩ (.slice a5 (L.length+1) c5))<ru K w1.heap.size wr:=by
          rw [hM]
          by_cases hq:lY.bad=none
          · rw [pO hD5.1 hq hb6];exact MW.1
          · rw [uy hD5.1 hq hb6];exact MW.2
         go_wp2_with fail
         go_roundw
         case rel=>
          refine ⟨L++ [⟨x,tc,c,s,wv⟩],a5,c5,lY,m,hD5,by rw [List.length_append];exact hb6,by rw [List.length_append,List.map_append];exact Jp,WI,by rw [List.map_append];exact HR2,by rw [List.length_append];exact Yw.1,by rw [List.length_append];exact Zo.out,by rw [List.length_append];exact Yw.2,Zn⟩
         case measure=>exact hmm
end Go.Proofs.YtfbgdjcnlnfoaaaGreatDoor
