/- Proved: clerestorylaw16.SchemaOrders returns true whatever its arguments are, and leaves them as they were. Conditions: none beside the row's own (the listed variables of Go's library read as its text lays them, tied by the card). -/
import Derived.OpenShut
import Derived.Test.YtnngbhpeeakfaaaGreatDoorB08
import Derived.Test.YtnngbhpeeakfaaaGreatDoorB09
import Derived.Test.YtnngbhpeeakfaaaGreatDoorB10
import Derived.Test.YtnngbhpeeakfaaaGreatDoorB38
import Derived.Test.YtnngbhpeeakfaaaGreatDoorClfSchemaOrders
import Derived.Test.YtnngbhpeeakfaaaGreatDoorClgSchemaOrders
import Derived.Test.YtnngbhpeeakfaaaGreatDoorS14
import Derived.Test.YtnngbhpeeakfaaaGreatDoorTie
namespace Go.Proofs.YtnngbhpeeakfaaaGreatDoor
open Go.ChangeShapes Go.WideShapes Go.ChangeAt Go.RowKit Go.Shelf
open Go.ChangeMaps (open_string shut_string)
theorem ints_in {H:Type}{enc:TypeId×Value→H}{P:Program}{W:World}{t e:TypeId}{v:Value}{d:DataW H}{ps:List MemPlace}{base:Nat}{r:Reach}(ht:P.underlying t=some (.slice e)) (he:P.underlying e=some (.int .i64)) (hc:P.cellsOf e=1)
 (hv:Value.okWide P W r base t v) (h:DataW.Trod enc P W 0 (fun _=>true) true t v d ps):
 ∃zs:List Int,IntsIn W v zs∧(∀z∈zs, -9223372036854775808≤z∧z≤9223372036854775807)∧zs.length≤maxLen:=by
 obtain ⟨a0,len0,cap0,rfl⟩:=okWide_slice ht hv
 obtain ⟨fuel,hf⟩:=h
 rcases open_ints ht he hc hf with ⟨hcs,hx⟩|⟨a,len,cap,zs,hcs,_,hl,hm,hz,hx,hcell,hwz⟩
 · simp only [Value.cells,List.cons.injEq,and_true,Value.slice.injEq]at hcs
   obtain ⟨rfl,rfl,rfl⟩:=hcs
   exact ⟨[],⟨none,0,rfl,fun h=>absurd h (by simp)⟩,(fun z (hz:z∈ [])=>nomatch hz),Nat.zero_le _⟩
 · simp only [Value.cells,List.cons.injEq,and_true,Value.slice.injEq]at hcs
   obtain ⟨rfl,rfl,rfl⟩:=hcs
   simp only [if_true]at hz
   refine ⟨zs.take len0,⟨some a,cap0,by rw [List.length_take,Nat.min_eq_left (by omega)],fun h0=> ?_⟩,fun z hzm=> ?_,by rw [List.length_take];omega⟩
   · have hlen0:0<len0:=by rw [List.length_take]at h0;omega
     obtain ⟨g,off,rfl,hcc⟩:=ints_at hcell (by omega)
     refine ⟨g,off,rfl,eH (hcc 0 (by omega)),fun j hj=> ?_⟩
     have hj2:j<zs.length:=by rw [List.length_take]at hj;omega
     rw [hcc j hj2,List.getElem_take,List.getD_eq_getElem?_getD,List.getElem?_eq_getElem hj2];rfl
   · have:=hwz z (List.mem_of_mem_take hzm)
     exact bounds_i64 this
end Go.Proofs.YtnngbhpeeakfaaaGreatDoor
namespace Go.Proofs.YtnngbhpeeakfaaaGreatDoor
open Go.ChangeShapes Go.WideShapes Go.ChangeAt Go.RowKit Go.Shelf
open Go.ChangeMaps (open_string shut_string)
set_option maxRecDepth 100000 in
theorem schemaOrders_lifted (os:Os) (started:os.Started) (H:Type) (enc:TypeId×Value→H):
 ReturnsInHanded {} Tryz.checked os 4 .any (fun w args=>(Rows.schemaOrdersSpec.pre enc Tryz.prog Tryz.f4 [] false w args∧laidMetH Tryz.prog Gz w)∧sizedMet enc Tryz.prog Tryz.f4 (OpenSpec.ofChange Rows.schemaOrdersSpec) false w args)
  (Rows.schemaOrdersSpec.post enc Tryz.prog Tryz.f4 false true false false):=by
 refine Ij (C:=Tryz.checked) (X:=fun w _=>laidMetH Tryz.prog Gz w) (fun _ _ _ hh h=>h.of_heap hh) Tryz.own started (by kernel_rfl) Tryz.func4
  (ChangeSpec.witness_shaped (enc:=enc) (C:=Tryz.checked) (os:=os) (X:=fun w _=>laidMetH Tryz.prog Gz w) false (EL os) #[.slice none 0 0] 8 rfl (World.shaped_of_RefB (by kernel_rfl) (by kernel_rfl)) (by kernel_rfl) (by kernel_rfl) (by kernel_rfl) (Sm os _)) ?_
 intro W base args ds gs before hval0 hW _ hL hsh
 have hval:∀(j:Nat) t v,Tryz.f4.params[j]? =some t→args[j]? =some v→Value.okWide Tryz.prog W .any base t v:=hval0
 have hW' :=hW
 obtain ⟨p,q,hA0,hV0,rfl,_,_⟩:=hW
 have hA:DataW.TrodAll enc Tryz.prog W 0 (fun _=>true) true Tryz.f4.params.toList args.toList ds p:=hA0
 have hlt:=hA.lt
 rw [Tryz.params4]at hA hval
 obtain ⟨v0,d0,rfl,rfl,h0⟩:=trodAll_one hA
 obtain ⟨rfl,rfl⟩:=trodVars_none hV0
 have q0:=h0
 obtain ⟨x0,hi0,hz0,hl0⟩:=ints_in Tryz.underlying53 Tryz.underlying3 (show Tryz.prog.cellsOf 3=1 by kernel_rfl) (hval 0 53 v0 rfl rfl) h0
 clear hA0 hV0 hval0
 have lo:laidOutB Tryz.prog=true:=by kernel_rfl
 refine (schemaOrders_any v0 x0 W (adG hL hsh) hi0 hz0 hl0).mono fun e W' ⟨he,hw⟩=> ?_
 subst he
 have e1:Rows.schemaOrdersSpec.fn H ([d0]++ [])={results:= [.lit (.bool true)],args:= [d0]}:=rfl
 refine ⟨_,rfl,_,_,_, [],p, [],hW', ?_, ?_, ?_,hw.frame _,fun h=>by cases h⟩
 · rw [e1];exact trodAll_mk1 (shut_bool Tryz.underlying4 true)
 · rw [e1];exact trodAll_mk1 (Below.trod lo (show Tryz.prog.readableRec 53=true by kernel_rfl) (show 53<Tryz.prog.types.size from of_decide_eq_true (by kernel_rfl)) q0 hw (fun x hx=>hlt x hx))
 · rw [e1];rfl
theorem schemaOrders_holds:Rows.SchemaOrdersSaid:=
 OpenClaim.holds_of_wide 4 Tryz.f4 rfl rfl rfl rfl rfl rfl rfl ⟨rfl,rfl,rfl,rfl,rfl⟩ rfl rfl rfl rfl rfl (by kernel_rfl) Tryz.func4 schemaOrders_closed
  (of_decide_eq_true (by kernel_rfl)) (by unfold Func.isWrapper;rw [if_neg (of_decide_eq_false (by kernel_rfl))];exact ⟨rfl,rfl⟩)
  (fun os started H enc _=>schemaOrders_lifted os started H enc)
theorem schemaOrders_card:Rows.SchemaOrdersCardSaid:=
 Claim7.holds_tied_plain_at .later [] [.data, .data, .data, .data, .listed, .data, .pinned] true Rows.schemaOrdersCard.stood.harness Rows.schemaOrdersCard.stood.looks
  schemaOrders_holds (fun _ h=>by cases h) schemaOrders_wf (fun _ h=>by cases h) schemaOrders_row_tie rfl ⟨rfl,rfl⟩ schemaOrders_main rfl
  (fun f fn hf hfn=>by
   obtain rfl:f=4:=Option.some.inj ((show Tryz.prog.funcNamed "clerestory/clerestorylaw16.SchemaOrders" =some 4 by kernel_rfl).symm.trans hf)|>.symm
   obtain rfl:fn=Tryz.f4:=(Option.some.inj (Tryz.func4.symm.trans hfn)).symm
   exact ⟨schemaOrders_looks,fun j t ht=>by
    rw [Tryz.params4]at ht
    have hm:t∈ [53]:=by simpa using Array.mem_of_getElem? ht
    have hall:([53].all fun u=> !Tryz.prog.wantsStandIn u)=true:=by kernel_rfl
    exact (show Tryz.prog.wantsStandIn t=false by simpa using List.all_eq_true.1 hall t hm)⟩)
  schemaOrders_goes
#print axioms schemaOrders_card
end Go.Proofs.YtnngbhpeeakfaaaGreatDoor
