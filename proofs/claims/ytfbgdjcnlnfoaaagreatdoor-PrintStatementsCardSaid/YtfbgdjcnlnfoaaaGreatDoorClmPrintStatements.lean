/- Proved: clerestorylaw15.PrintStatements returns true whatever its arguments are, and leaves them as they were. Conditions: none beside the row's own (the listed variables of Go's library read as its text lays them, tied by the card). -/
import Derived.Test.YtfbgdjcnlnfoaaaGreatDoorB01
import Derived.Test.YtfbgdjcnlnfoaaaGreatDoorB13e
import Derived.Test.YtfbgdjcnlnfoaaaGreatDoorCPIt
import Derived.Test.YtfbgdjcnlnfoaaaGreatDoorTie
set_option maxRecDepth 100000
namespace Go.Proofs.YtfbgdjcnlnfoaaaGreatDoor
open Go.ChangeShapes Go.WideShapes Go.ChangeAt Go.RowKit Go.Shelf
open Go.ChangeMaps (open_string shut_string)
theorem VG {H:Type}{enc:TypeId×Value→H}{P:Program}{W:World}{t e:TypeId}{v:Value}{d:DataW H}{ps:List MemPlace}{base:Nat}{r:Reach}(ht:P.underlying t=some (.slice e)) (he:P.underlying e=some (.int .i64)) (hc:P.cellsOf e=1)
 (hv:Value.okWide P W r base t v) (h:DataW.Trod enc P W 0 (fun _=>true) true t v d ps):∃zs:List Int,qo W v zs:=by
 obtain ⟨a0,I9,cap0,rfl⟩:=okWide_slice ht hv
 obtain ⟨fuel,hf⟩:=h
 rcases open_ints ht he hc hf with ⟨hcs,hx⟩|⟨a,len,cap,zs,hcs,_,hl,hm,hz,hx,hcell,hwz⟩
 · simp only [Value.cells,List.cons.injEq,and_true,Value.slice.injEq]at hcs
   obtain ⟨rfl,rfl,rfl⟩:=hcs
   exact ⟨[],none,0,rfl,Nat.le_refl _,by omega,(fun z (hz:z∈ [])=>nomatch hz),fun h=>absurd h (by simp)⟩
 · simp only [Value.cells,List.cons.injEq,and_true,Value.slice.injEq]at hcs
   obtain ⟨rfl,rfl,rfl⟩:=hcs
   simp only [if_true]at hz
   have hlt:(zs.take I9).length=I9:=by rw [List.length_take,Nat.min_eq_left (by omega)]
   refine ⟨zs.take I9,some a,cap0,by rw [hlt],by rw [hlt];exact hl,Nat.le_trans hm (by decide),fun z hzm=>bounds_i64 (hwz z (List.mem_of_mem_take hzm)),fun h0=> ?_⟩
   have YF:0<I9:=by rw [hlt]at h0;exact h0
   obtain ⟨g,off,rfl,hcc⟩:=ints_at hcell (by omega)
   refine ⟨g,off,rfl,eY (hcc 0 (by omega)),fun j hj=> ?_⟩
   have hj2:j<zs.length:=by rw [List.length_take]at hj;omega
   rw [hcc j hj2,List.getElem_take,List.getD_eq_getElem?_getD,List.getElem?_eq_getElem hj2];rfl
theorem qp (os:Os) (started:os.Started) (H:Type) (enc:TypeId×Value→H):
 ReturnsInHanded {} Tryz.checked os 11 .any (fun w args=>(Rows.printStatementsSpec.pre enc Tryz.prog Tryz.f11 [] false w args∧laidMetH Tryz.prog DR w)∧sizedMet enc Tryz.prog Tryz.f11 (OpenSpec.ofChange Rows.printStatementsSpec) false w args)
  (Rows.printStatementsSpec.post enc Tryz.prog Tryz.f11 false true false false):=by
 refine Eb (C:=Tryz.checked) (X:=fun w _=>laidMetH Tryz.prog DR w) (fun _ _ _ hh h=>h.of_heap hh) Tryz.own started (by kernel_rfl) Tryz.func11
  (ChangeSpec.witness_shaped (enc:=enc) (C:=Tryz.checked) (os:=os) (X:=fun w _=>laidMetH Tryz.prog DR w) false (Ca os) #[.slice none 0 0] 8 rfl (World.shaped_of_RefB (by kernel_rfl) (by kernel_rfl)) (by kernel_rfl) (by kernel_rfl) (by kernel_rfl) (OQ os _)) ?_
 intro W base args ds gs before hval0 hW _ hL hsh
 have hval:∀(j:Nat) t v,Tryz.f11.params[j]? =some t→args[j]? =some v→Value.okWide Tryz.prog W .any base t v:=hval0
 have hW' :=hW
 obtain ⟨p,q,hA0,U2,rfl,_,_⟩:=hW
 have hA:DataW.TrodAll enc Tryz.prog W 0 (fun _=>true) true Tryz.f11.params.toList args.toList ds p:=hA0
 have hlt:=hA.lt
 rw [Tryz.params11]at hA hval
 obtain ⟨v0,d0,rfl,rfl,h0⟩:=trodAll_one hA
 obtain ⟨rfl,rfl⟩:=trodVars_none U2
 have q0:=h0
 obtain ⟨x0,hi0⟩:=VG Tryz.underlying49 Tryz.underlying3 (show Tryz.prog.cellsOf 3=1 by kernel_rfl) (hval 0 49 v0 rfl rfl) h0
 clear hA0 U2 hval0
 have lo:laidOutB Tryz.prog=true:=by kernel_rfl
 refine (tF v0 x0 W (aaf hL hsh) hi0).mono fun e W' ⟨he,hw⟩=> ?_
 subst he
 have e1:Rows.printStatementsSpec.fn H ([d0]++ [])={results:= [.lit (.bool true)],args:= [d0]}:=rfl
 refine ⟨_,rfl,_,_,_, [],p, [],hW', ?_, ?_, ?_,hw.1.frame _,fun h=>by cases h⟩
 · rw [e1];exact trodAll_mk1 (shut_bool Tryz.underlying4 true)
 · rw [e1];exact trodAll_mk1 (Below.trod lo (show Tryz.prog.readableRec 49=true by kernel_rfl) (show 49<Tryz.prog.types.size from of_decide_eq_true (by kernel_rfl)) q0 hw.1 (fun x hx=>hlt x hx))
 · rw [e1];rfl
theorem qH:Rows.PrintStatementsSaid:=
 OpenClaim.holds_of_wide 11 Tryz.f11 rfl rfl rfl rfl rfl rfl rfl ⟨rfl,rfl,rfl,rfl,rfl⟩ rfl rfl rfl rfl rfl (by kernel_rfl) Tryz.func11 (by kernel_rfl)
  (of_decide_eq_true (by kernel_rfl)) (by unfold Func.isWrapper;rw [if_neg (of_decide_eq_false (by kernel_rfl))];exact ⟨rfl,rfl⟩)
  (fun os started H enc _=>qp os started H enc)
theorem printStatements_card:Rows.PrintStatementsCardSaid:=
 Claim7.holds_tied_plain_at .later [] [.data, .data, .data, .data, .listed, .data, .pinned] true Rows.printStatementsCard.stood.harness Rows.printStatementsCard.stood.looks
  qH (fun _ h=>by cases h) (by kernel_rfl) (fun _ h=>by cases h) printStatements_row_tie rfl ⟨rfl,rfl⟩ (by kernel_rfl) rfl
  (fun f fn hf hfn=>by
   obtain rfl:f=11:=Option.some.inj ((show Tryz.prog.funcNamed "clerestory/clerestorylaw15.PrintStatements" =some 11 by kernel_rfl).symm.trans hf)|>.symm
   obtain rfl:fn=Tryz.f11:=(Option.some.inj (Tryz.func11.symm.trans hfn)).symm
   exact ⟨by kernel_rfl,fun j t ht=>by
    rw [Tryz.params11]at ht
    have hm:t∈ [49]:=by simpa using Array.mem_of_getElem? ht
    have hall:([49].all fun u=> !Tryz.prog.wantsStandIn u)=true:=by kernel_rfl
    exact (show Tryz.prog.wantsStandIn t=false by simpa using List.all_eq_true.1 hall t hm)⟩)
  (by kernel_rfl)
#print axioms printStatements_card
end Go.Proofs.YtfbgdjcnlnfoaaaGreatDoor
