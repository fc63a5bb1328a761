/- Parts of the proof, joined: LnG. -/
import Derived.Test.YtfbgdjcnlnfoaaaGreatDoorB11
import Derived.Test.YtfbgdjcnlnfoaaaGreatDoorCPIq
import Derived.Test.YtfbgdjcnlnfoaaaGreatDoorCPIr
import Derived.Test.YtfbgdjcnlnfoaaaGreatDoorRows
set_option maxHeartbeats 8000000
set_option maxRecDepth 100000
namespace Go.Proofs.YtfbgdjcnlnfoaaaGreatDoor
open Go.RowKit
open aH
def Pv.pw (p:Pv):Pw:=⟨p.x,p.tc,p.c,p.s,p.wv,ak⟩
theorem SH (L:List Pv):jw (L.map Pv.pw)=mG L:=by
 unfold jw mG
 rw [List.flatMap_map]
 rfl
theorem IZ (L:List Pv) (p:Pv):mG (L++ [p])=mG L++p.arr.toList:=by simp [mG]
theorem SI {W W' :World}{base:Nat}{e:TypeId}{size n:Nat}{v:Value}{xs:List Value}(h:W.ownsRow base e size v n xs) (hw:∀g,v.ownBlock=some g→W'.heap[g]? =W.heap[g]?):W'.ownsRow base e size v n xs:=by
 obtain ⟨h1,h2⟩:=h
 refine ⟨h1,?_⟩
 rcases h2 with h2|⟨g,cap',cur,e1,e2,e3,e4⟩
 · exact .inl h2
 · refine .inr ⟨g,cap',cur,e1,e2,?_,e4⟩
   rw [hw g (by rw [e1];rfl)];exact e3
theorem VD {K:LK}{w:World}(h:LQ K w) {v:Nat}(hv:v<1048576) (hk:v % 16=15) (hn:Calls Tryz.prog 43 #[.pointer (some ⟨K.b,0,none⟩),.int .i64 1048576] (w.alloc (.cells #[.int .i64 0,.string ⟨#[]⟩,.string ⟨#[]⟩,.string ⟨#[]⟩,.string ⟨#[]⟩,.int .i64 0,.string ⟨#[]⟩,.int .i64 0,.string ⟨#[]⟩,.int .i64 0,.slice none 0 0,.slice none 0 0,.slice none 0 0,.slice none 0 0,.int .i64 0,.int .i64 0,.int .i64 0,.slice none 0 0] 31)) fun e w' =>e= .returned (.int .i64 v)∧dM K (w.alloc (.cells #[.int .i64 0,.string ⟨#[]⟩,.string ⟨#[]⟩,.string ⟨#[]⟩,.string ⟨#[]⟩,.int .i64 0,.string ⟨#[]⟩,.int .i64 0,.string ⟨#[]⟩,.int .i64 0,.slice none 0 0,.slice none 0 0,.slice none 0 0,.slice none 0 0,.int .i64 0,.int .i64 0,.int .i64 0,.slice none 0 0] 31)) w'):
 Calls Tryz.prog 28 #[.pointer (some ⟨K.b,0,none⟩)] w (IX K w):=by
 have hZ:=aB w (.cells #[.int .i64 0,.string ⟨#[]⟩,.string ⟨#[]⟩,.string ⟨#[]⟩,.string ⟨#[]⟩,.int .i64 0,.string ⟨#[]⟩,.int .i64 0,.string ⟨#[]⟩,.int .i64 0,.slice none 0 0,.slice none 0 0,.slice none 0 0,.slice none 0 0,.int .i64 0,.int .i64 0,.int .i64 0,.slice none 0 0] 31)
 have hle:=h.le
 obtain ⟨t,ht⟩:∃t:Nat,(v:Int) / 16 % 3=t:=⟨v / 16 % 3,by omega⟩
 have ht3:t<3:=by omega
 have hB:=zL 9
 have hD0:=(dM.refl h).alloc (.cells #[.int .i64 0,.string ⟨#[]⟩,.string ⟨#[]⟩,.string ⟨#[]⟩,.string ⟨#[]⟩,.int .i64 0,.string ⟨#[]⟩,.int .i64 0,.string ⟨#[]⟩,.int .i64 0,.slice none 0 0,.slice none 0 0,.slice none 0 0,.slice none 0 0,.int .i64 0,.int .i64 0,.int .i64 0,.slice none 0 0] 31)
 go_enter Tryz.func28,Tryz.ntmps28
 go_wp2_with fail
 refine hn.mono ?_;rintro e w1 ⟨rfl,hd1⟩
 have hD1:=(hD0.trans hd1).alloc (.cells (aF {Sx.zero with kind:=9} ak ak ak ak ak) 31)
 have hr1:=au (hd1.blk hZ hle) (.cells (aF {Sx.zero with kind:=9} ak ak ak ak ak) 31)
 have hx1:=aB w1 (.cells (aF {Sx.zero with kind:=9} ak ak ak ak ak) 31)
 have hrr:w.heap.size<w1.heap.size:=by have:=hd1.size;rw [aA]at this;omega
 obtain ⟨W,hW⟩:∃W,w1.alloc (.cells (aF {Sx.zero with kind:=9} ak ak ak ak ak) 31)=W:=⟨_,rfl⟩
 rw [hW]at hD1 hr1 hx1
 have hsz1:w1.heap.size+1≤W.heap.size:=aC hx1
 clear hd1 hD0 hn hZ
 go_wp2_with (first|refine kr hW rfl _ _ rfl rfl rfl rfl rfl rfl ?_)
 clear hW hB
 have hbL:K.L≤w1.heap.size:=by omega
 have aao:K.L≤w1.heap.size+1:=by omega
 go_loopw [5] (fun i wr=>∃(j:Nat) (L:List Pv) (a3:Option Addr) (c3:Nat),i= .int .i64 j∧j≤t+1∧L.length=j∧dM K w wr∧w1.heap.size+1≤wr.heap.size∧wr.heap[w1.heap.size]? =some (.cells (aF {Sx.zero with kind:=9} ak ak ak ak (.slice a3 L.length c3)) 31 (0,0))∧wr.heap[w.heap.size]? =some (.cells #[.int .i64 0,.string ⟨#[]⟩,.string ⟨#[]⟩,.string ⟨#[]⟩,.string ⟨#[]⟩,.int .i64 0,.string ⟨#[]⟩,.int .i64 0,.string ⟨#[]⟩,.int .i64 0,.slice none 0 0,.slice none 0 0,.slice none 0 0,.slice none 0 0,.int .i64 0,.int .i64 0,.int .i64 0,.slice none 0 0] 31 (0,0))∧wr.ownsRow (w1.heap.size+1) 31 18 (.slice a3 L.length c3) L.length (mG L)∧gH wr (w1.heap.size+1) L∧Hid (∀p∈L,KG p.x)) (fun i _=>4 - (intOf i).toNat)
 case atStart=>exact ⟨0,[],none,0,rfl,by omega,rfl,hD1,hsz1,hx1,hr1,World.ownsRow_nil _ _ _ _,fun p hp=>(List.not_mem_nil hp).elim,fun p hp=>(List.not_mem_nil hp).elim⟩
 case round=>
  clear hD1 hr1 hx1 hsz1
  obtain ⟨j,L,a3,c3,rfl,hj,hLj,hD,hsz,hb,hr,hs,hP,HCG⟩:=hrel
  by_cases hjt:j<t+1
  · have p0:(j:Int)<1+(t:Int):=by omega
    have y17:=(aM hb).2.2.2.2.2.2.2.2.2.2.2.2.2.2.2.2.2
    have Uf:=ah hb 17
    have z2:=aC hb
    have hL3:L.length≤3:=by omega
    have HLj:=Lib.hid hLj
    clear hLj
    go_wp2_with fail
    go_region_law (first|(refine iY Tryz.Zq rfl _ _ rfl (w1.heap.size+1) _ _ _ rfl (lD.alloc _) _ _ [.int .i64 x.kind,.string x.name,.string x.bM,.string x.on,.string x.aW,.int .i64 x.tid,.string x.part.name,.int .i64 x.part.ty,.string x.aI.name,.int .i64 x.aI.ty,tc,c,s,wv,.int .i64 x.stamp,.int .i64 x.ttl,.int .i64 x.limit,ak] rfl rfl (fun j u hj=>by rw [jy,Nat.zero_add];exact bn _ _ _ j u hj) HO.out (by omega) (by simp;omega) ?_;intro g3 iH w3 h3 hg3 O6 hl3;have hb3:w3.heap[w1.heap.size]? =some (.cells (aF {Sx.zero with kind:=9} ak ak ak ak (.slice a3 L.length c3)) 31 (0,0)):=(hg3.block _ (aC (au gY _)) (fun e=>by have:=(lD.lt _ e.symm).1;omega)).trans (au gY _);have y3:=(aM hb3).2.2.2.2.2.2.2.2.2.2.2.2.2.2.2.2.2;have u3:=ah hb3 17)|(go_simp;go_at_call 44;refine (zl (hD.drewN 1).1).mono ?_;rintro e Cn ⟨x,tc,c,s,wv,rfl,hcg,VE,bX⟩;have eX:=(hD.drewN 1).trans bX;have gY:=bX.blk hb hbL;have kJ:=bX.blk hr hle;have lD:=bX.row hs aao;have acE:=hP.map (fun _ _ _ _ _ _ h' =>bX.row h' aao);replace VE:=VE.mono hsz;have aap:=Nat.le_trans hsz bX.size;have y20:=(aM gY).2.2.2.2.2.2.2.2.2.2.2.2.2.2.2.2.2;have u20:=ah gY 17;have z20:=aC gY;have HO:Hid (∀u∈([.int .i64 x.kind,.string x.name,.string x.bM,.string x.on,.string x.aW,.int .i64 x.tid,.string x.part.name,.int .i64 x.part.ty,.string x.aI.name,.int .i64 x.aI.ty,tc,c,s,wv,.int .i64 x.stamp,.int .i64 x.ttl,.int .i64 x.limit,ak]:List Value),u.oneCell' =true):=fun u hu=>(List.all_eq_true.1 VE.one) u hu;have HC:=Lib.hid hcg;clear hcg))
    all_goals
     have hg4:(Cn.alloc (.cells #[.int .i64 x.kind,.string x.name,.string x.bM,.string x.on,.string x.aW,.int .i64 x.tid,.string x.part.name,.int .i64 x.part.ty,.string x.aI.name,.int .i64 x.aI.ty,tc,c,s,wv,.int .i64 x.stamp,.int .i64 x.ttl,.int .i64 x.limit,ak] 31)).grownBy w3 (Value.slice a3 L.length c3).ownBlock:=⟨hg3.os,hg3.tape,hg3.output,hg3.size,hg3.block⟩
     have hbb:w3.heap[w.heap.size]? =some (.cells #[.int .i64 0,.string ⟨#[]⟩,.string ⟨#[]⟩,.string ⟨#[]⟩,.string ⟨#[]⟩,.int .i64 0,.string ⟨#[]⟩,.int .i64 0,.string ⟨#[]⟩,.int .i64 0,.slice none 0 0,.slice none 0 0,.slice none 0 0,.slice none 0 0,.int .i64 0,.int .i64 0,.int .i64 0,.slice none 0 0] 31 (0,0)):=(hg4.block _ (aC (au kJ _)) (fun e=>by have:=(lD.lt _ e.symm).1;omega)).trans (au kJ _)
     have hD4:=((eX.alloc _).grown hg4 (fun g2 hg2=>by have:=(lD.lt g2 hg2).1;omega)).own (k:=w1.heap.size) (by omega) 17 (.slice (some ⟨g3,0,none⟩) (L.length+1) iH)
     have hs4:w1.heap.size+1≤w3.heap.size:=Nat.le_trans aap (by have:=hg4.size;rw [aA]at this;omega)
     have hb4:(w3.setCell ⟨w1.heap.size,17,none⟩ (.slice (some ⟨g3,0,none⟩) (L.length+1) iH)).heap[w1.heap.size]? =some (.cells (aF {Sx.zero with kind:=9} ak ak ak ak (.slice (some ⟨g3,0,none⟩) (L.length+1) iH)) 31 (0,0)):=by rw [bU hb3 17 _];rfl
     have hb5:=bN hbb ⟨w1.heap.size,17,none⟩ (.slice (some ⟨g3,0,none⟩) (L.length+1) iH) (by show w.heap.size≠w1.heap.size;omega)
     have h4:=JG h3 (by omega:w1.heap.size<w1.heap.size+1) 17 (.slice (some ⟨g3,0,none⟩) (L.length+1) iH)
     have hP4:gH (w3.setCell ⟨w1.heap.size,17,none⟩ (.slice (some ⟨g3,0,none⟩) (L.length+1) iH)) (w1.heap.size+1) (L++ [⟨x,tc,c,s,wv⟩]):=(acE.snoc (p:=⟨x,tc,c,s,wv⟩) VE).map (fun e size n u xs he h' =>JG ((eG lD h' (lF (by decide) he)).keep (h'.alloc _) hg4) (by omega) 17 _)
     go_wp2_with fail
     go_roundw
     case rel=>exact ⟨j+1,L++ [⟨x,tc,c,s,wv⟩],some ⟨g3,0,none⟩,iH,by go_num,by omega,by rw [List.length_append];show L.length+1=j+1;rw [HLj.out],hD4,by rw [dJ];exact hs4,by rw [List.length_append];exact hb4,hb5,by rw [List.length_append,IZ];exact h4,hP4,fun p hp=>by rcases List.mem_append.1 hp with hp|hp;exact HCG.out p hp;rw [List.mem_singleton.1 hp];exact HC.out⟩
     case measure=>simp [intOf];omega
  · have p0:¬(j:Int)<1+(t:Int):=by omega
    go_wp2_with (first|refine bA rfl _ rfl rfl rfl hb ?_|(refine eD rfl _ _ rfl rfl rfl hr rfl rfl rfl ?_;intro w9 JI))
    refine bodyPost_ret (dR rfl rfl (mV JI.blk rfl)) rfl ?_
    have hnn:L≠ []:=by rintro rfl;simp at hLj;omega
    refine ⟨⟨{Sx.zero with kind:=9},ak,ak,ak,ak,.slice a3 L.length c3⟩,L.map Pv.pw,rfl,⟨rfl,rfl,⟨World.ownsRow_nil _ _ _ _,World.ownsRow_nil _ _ _ _,World.ownsRow_nil _ _ _ _,World.ownsRow_nil _ _ _ _⟩,?_,?_⟩,?_,hD.wrote JI (Nat.le_refl _)⟩
    · rw [SH,List.length_map]
      exact SI (bF hs (by omega:w.heap.size≤w1.heap.size+1)) (fun g hg=>JI.rest g (by have:=(hs.lt g hg).1;omega))
    · intro q hq
      obtain ⟨p,hp,rfl⟩:=List.mem_map.1 hq
      exact ⟨((hP p hp).mono (by omega:w.heap.size≤w1.heap.size+1)).map (fun e size n u xs he h' =>kS h' hr JI (lF (by decide) he).symm),rfl⟩
    · rw [List.map_map]
      exact Sr (l:=L.map (Pw.x ∘ Pv.pw)) (fun x hx=>by obtain ⟨p,hp,rfl⟩:=List.mem_map.1 hx;exact HCG.out p hp) (by simpa using hnn) (by rw [List.length_map];omega)
theorem VF {K:LK}{w:World}(h:LQ K w) {v:Nat}(hv:v<1048576) (hk:v % 16<11) (hn:Calls Tryz.prog 43 #[.pointer (some ⟨K.b,0,none⟩),.int .i64 1048576] (w.alloc (.cells #[.int .i64 0,.string ⟨#[]⟩,.string ⟨#[]⟩,.string ⟨#[]⟩,.string ⟨#[]⟩,.int .i64 0,.string ⟨#[]⟩,.int .i64 0,.string ⟨#[]⟩,.int .i64 0,.slice none 0 0,.slice none 0 0,.slice none 0 0,.slice none 0 0,.int .i64 0,.int .i64 0,.int .i64 0,.slice none 0 0] 31)) fun e w' =>e= .returned (.int .i64 v)∧dM K (w.alloc (.cells #[.int .i64 0,.string ⟨#[]⟩,.string ⟨#[]⟩,.string ⟨#[]⟩,.string ⟨#[]⟩,.int .i64 0,.string ⟨#[]⟩,.int .i64 0,.string ⟨#[]⟩,.int .i64 0,.slice none 0 0,.slice none 0 0,.slice none 0 0,.slice none 0 0,.int .i64 0,.int .i64 0,.int .i64 0,.slice none 0 0] 31)) w'):
 Calls Tryz.prog 28 #[.pointer (some ⟨K.b,0,none⟩)] w (IX K w):=by
 have hZ:=aB w (.cells #[.int .i64 0,.string ⟨#[]⟩,.string ⟨#[]⟩,.string ⟨#[]⟩,.string ⟨#[]⟩,.int .i64 0,.string ⟨#[]⟩,.int .i64 0,.string ⟨#[]⟩,.int .i64 0,.slice none 0 0,.slice none 0 0,.slice none 0 0,.slice none 0 0,.int .i64 0,.int .i64 0,.int .i64 0,.slice none 0 0] 31)
 have hle:=h.le
 have hD0:=(dM.refl h).alloc (.cells #[.int .i64 0,.string ⟨#[]⟩,.string ⟨#[]⟩,.string ⟨#[]⟩,.string ⟨#[]⟩,.int .i64 0,.string ⟨#[]⟩,.int .i64 0,.string ⟨#[]⟩,.int .i64 0,.slice none 0 0,.slice none 0 0,.slice none 0 0,.slice none 0 0,.int .i64 0,.int .i64 0,.int .i64 0,.slice none 0 0] 31)
 go_enter Tryz.func28,Tryz.ntmps28
 go_wp2_with fail
 refine hn.mono ?_;rintro e w1 ⟨rfl,hd1⟩
 have hD1:=hD0.trans hd1
 have hr1:=hd1.blk hZ hle
 have hc:=zl hD1.1
 clear hn hZ
 go_wp2_with fail
 refine hc.mono ?_;rintro e w2 ⟨x,tc,c,s,wv,rfl,hcg,hR,hd2⟩
 have hr2:=hd2.blk hr1 hle
 have hD2:=hD1.trans hd2
 have HC:=Lib.hid hcg
 have hone:=hR.one
 replace hR:=hR.mono (show w.heap.size≤w1.heap.size by have:=hD1.size;omega)
 clear hcg hc
 go_wp2_with ((refine eD rfl _ _ rfl rfl rfl hr2 rfl rfl hone ?_;intro w9 JI))
 refine bodyPost_ret (dR rfl rfl (mV JI.blk rfl)) rfl ?_
 refine ⟨⟨x,tc,c,s,wv,ak⟩,[],rfl,⟨rfl,rfl,hR.map (fun e size n u xs he h' =>kS h' hr2 JI (lF (by decide) he).symm),World.ownsRow_nil _ _ _ _,fun q hq=>(List.not_mem_nil hq).elim⟩,Yi HC.out,hD2.wrote JI (Nat.le_refl _)⟩
theorem OY {K:LK}{w:World}(h:LQ K w):Calls Tryz.prog 28 #[.pointer (some ⟨K.b,0,none⟩)] w (IX K w):=by
 obtain ⟨v,hv,hn⟩:=Ch ((dM.refl h).alloc oZ).1
 have:v % 16=15∨v % 16<11∨(11≤v % 16∧v % 16<15):=by omega
 rcases this with hk|hk|hk
 · exact VD h hv hk hn
 · exact VF h hv hk hn
 · exact VB h hv hk hn
end Go.Proofs.YtfbgdjcnlnfoaaaGreatDoor
