/- Proved: clerestorylaw16.SchemaStores returns true whatever its arguments are, and leaves them as they were. Conditions: none beside the row's own (the listed variables of Go's library read as its text lays them, tied by the card). -/
import Derived.Test.YtnngbhpeeakfaaaGreatDoorClfSchemaStores
import Derived.Test.YtnngbhpeeakfaaaGreatDoorClgSchemaStores
import Derived.Test.YtnngbhpeeakfaaaGreatDoorB10
import Derived.Test.YtnngbhpeeakfaaaGreatDoorB38
import Derived.Test.YtnngbhpeeakfaaaGreatDoorB47
import Derived.Test.YtnngbhpeeakfaaaGreatDoorTie
set_option maxRecDepth 100000
namespace Go.Proofs.YtnngbhpeeakfaaaGreatDoor
open Go.Proofs.Tryz
open Go.ChangeShapes Go.WideShapes Go.ChangeAt Go.RowKit Go.Shelf
open Go.ChangeMaps (open_string shut_string)
theorem wD (os:Os) (started:os.Started) (H:Type) (enc:TypeId×Value→H):
 ReturnsInHanded {} Tryz.checked os 5 .any (fun w args=>(Rows.schemaStoresSpec.pre enc prog Tryz.f5 [] false w args∧laidMetH prog Gz w)∧sizedMet enc prog Tryz.f5 (OpenSpec.ofChange Rows.schemaStoresSpec) false w args)
  (Rows.schemaStoresSpec.post enc prog Tryz.f5 false true false false):=by
 refine Ij (C:=Tryz.checked) (X:=fun w _=>laidMetH prog Gz w) (fun _ _ _ hh h=>h.of_heap hh) Tryz.own started (by kernel_rfl) func5
  (ChangeSpec.witness_shaped (enc:=enc) (C:=Tryz.checked) (os:=os) (X:=fun w _=>laidMetH prog Gz w) false (EL os) #[.string ⟨#[]⟩, .int .i64 0, .string ⟨#[]⟩, .int .i64 0] 8 rfl (World.shaped_of_RefB (by kernel_rfl) (by kernel_rfl)) (by kernel_rfl) (by kernel_rfl) (by kernel_rfl) (Sm os _)) ?_
 intro W base args ds gs before hval0 hW _ hL hsh;have hval:∀(j:Nat) t v,Tryz.f5.params[j]? =some t→args[j]? =some v→Value.okWide prog W .any base t v:=hval0;have hW' :=hW;obtain ⟨p,q,hA0,hV0,rfl,_,_⟩:=hW;have hA:DataW.TrodAll enc prog W 0 (fun _=>true) true Tryz.f5.params.toList args.toList ds p:=hA0;have hlt:=hA.lt;rw [Tryz.params5]at hA hval;obtain ⟨v0,v1,v2,v3,d0,d1,d2,d3,p0,p1,p2,p3,rfl,rfl,rfl,h0,h1,h2,h3⟩:=trodAll_four hA;obtain ⟨rfl,rfl⟩:=trodVars_none hV0;have q0:=h0;have q1:=h1;have q2:=h2;have q3:=h3;obtain ⟨x0,rfl, -, -,wf0⟩:=open_string underlying9 (hval 0 9 v0 rfl rfl) h0;obtain ⟨x1,rfl, -, -,wf1⟩:=open_int underlying3 (hval 1 3 v1 rfl rfl) h1;obtain ⟨x2,rfl, -, -,wf2⟩:=open_string underlying9 (hval 2 9 v2 rfl rfl) h2;obtain ⟨x3,rfl, -, -,wf3⟩:=open_int underlying3 (hval 3 3 v3 rfl rfl) h3;clear hA0 hV0 hval0;have lo:laidOutB prog=true:=by kernel_rfl
 refine (Bf x0 x1 x2 x3 W (adG hL hsh) (bounds_i64 wf1).1 (bounds_i64 wf1).2 (bounds_i64 wf3).1 (bounds_i64 wf3).2).mono fun e W' ⟨he,hw⟩=> ?_
 subst he;have e1:Rows.schemaStoresSpec.fn H ([d0,d1,d2,d3]++ [])={results:= [.lit (.bool true)],args:= [d0,d1,d2,d3]}:=rfl;refine ⟨_,rfl,_,_,_, [],(p0++(p1++(p2++p3))), [],hW', ?_, ?_, ?_,hw.frame _,fun h=>by cases h⟩
 · rw [e1];exact trodAll_mk1 (shut_bool underlying4 true)
 · rw [e1];exact trodAll_mk4 (Below.trod lo (show prog.readableRec 9=true by kernel_rfl) (show 9<prog.types.size from of_decide_eq_true (by kernel_rfl)) q0 hw (fun x hx=>hlt x (by simp [hx]))) (Below.trod lo (show prog.readableRec 3=true by kernel_rfl) (show 3<prog.types.size from of_decide_eq_true (by kernel_rfl)) q1 hw (fun x hx=>hlt x (by simp [hx]))) (Below.trod lo (show prog.readableRec 9=true by kernel_rfl) (show 9<prog.types.size from of_decide_eq_true (by kernel_rfl)) q2 hw (fun x hx=>hlt x (by simp [hx]))) (Below.trod lo (show prog.readableRec 3=true by kernel_rfl) (show 3<prog.types.size from of_decide_eq_true (by kernel_rfl)) q3 hw (fun x hx=>hlt x (by simp [hx])))
 · rw [e1];rfl
theorem xZ:Rows.SchemaStoresSaid:=
 OpenClaim.holds_of_wide 5 Tryz.f5 rfl rfl rfl rfl rfl rfl rfl ⟨rfl,rfl,rfl,rfl,rfl⟩ rfl rfl rfl rfl rfl (by kernel_rfl) func5 schemaStores_closed
  (of_decide_eq_true (by kernel_rfl)) (by unfold Func.isWrapper;rw [if_neg (of_decide_eq_false (by kernel_rfl))];exact ⟨rfl,rfl⟩)
  (fun os started H enc _=>wD os started H enc)
theorem schemaStores_card:Rows.SchemaStoresCardSaid:=
 Claim7.holds_tied_plain_at .later [] [.data, .data, .data, .data, .listed, .data, .pinned] true Rows.schemaStoresCard.stood.harness Rows.schemaStoresCard.stood.looks
  xZ (fun _ h=>by cases h) schemaStores_wf (fun _ h=>by cases h) schemaStores_row_tie rfl ⟨rfl,rfl⟩ schemaStores_main rfl
  (fun f fn hf hfn=>by
   obtain rfl:f=5:=Option.some.inj ((show prog.funcNamed "clerestory/clerestorylaw16.SchemaStores" =some 5 by kernel_rfl).symm.trans hf)|>.symm
   obtain rfl:fn=Tryz.f5:=(Option.some.inj (func5.symm.trans hfn)).symm
   exact ⟨schemaStores_looks,fun j t ht=>by
    rw [Tryz.params5]at ht;have hm:t∈ [9,3,9,3]:=by simpa using Array.mem_of_getElem? ht
    have hall:([9,3,9,3].all fun u=> !prog.wantsStandIn u)=true:=by kernel_rfl
    exact (show prog.wantsStandIn t=false by simpa using List.all_eq_true.1 hall t hm)⟩)
  schemaStores_goes
#print axioms schemaStores_card
end Go.Proofs.YtnngbhpeeakfaaaGreatDoor
