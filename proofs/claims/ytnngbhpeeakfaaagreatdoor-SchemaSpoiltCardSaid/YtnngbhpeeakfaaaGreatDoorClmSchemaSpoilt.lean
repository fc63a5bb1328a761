/- Proved: clerestorylaw16.SchemaSpoilt returns true whatever its arguments are, and leaves them as they were. Conditions: none beside the row's own (the listed variables of Go's library read as its text lays them, tied by the card). -/
import Derived.Test.YtnngbhpeeakfaaaGreatDoorB10
import Derived.Test.YtnngbhpeeakfaaaGreatDoorB38
import Derived.Test.YtnngbhpeeakfaaaGreatDoorClfSchemaSpoilt
import Derived.Test.YtnngbhpeeakfaaaGreatDoorClgSchemaSpoilt
import Derived.Test.YtnngbhpeeakfaaaGreatDoorS03
import Derived.Test.YtnngbhpeeakfaaaGreatDoorTie
namespace Go.Proofs.YtnngbhpeeakfaaaGreatDoor
open Go.ChangeShapes Go.WideShapes Go.ChangeAt Go.RowKit Go.Shelf
open Go.ChangeMaps (open_string shut_string)
set_option maxRecDepth 100000 in
theorem schemaSpoilt_lifted (os:Os) (started:os.Started) (H:Type) (enc:TypeId×Value→H):
 ReturnsInHanded {} Tryz.checked os 6 .any (fun w args=>(Rows.schemaSpoiltSpec.pre enc Tryz.prog Tryz.f6 [] false w args∧laidMetH Tryz.prog Gz w)∧sizedMet enc Tryz.prog Tryz.f6 (OpenSpec.ofChange Rows.schemaSpoiltSpec) false w args)
  (Rows.schemaSpoiltSpec.post enc Tryz.prog Tryz.f6 false true false false):=by
 refine Ij (C:=Tryz.checked) (X:=fun w _=>laidMetH Tryz.prog Gz w) (fun _ _ _ hh h=>h.of_heap hh) Tryz.own started (by kernel_rfl) Tryz.func6
  (ChangeSpec.witness_shaped (enc:=enc) (C:=Tryz.checked) (os:=os) (X:=fun w _=>laidMetH Tryz.prog Gz w) false (EL os) #[.int .i64 0, .int .i64 0] 8 rfl (World.shaped_of_RefB (by kernel_rfl) (by kernel_rfl)) (by kernel_rfl) (by kernel_rfl) (by kernel_rfl) (Sm os _)) ?_
 intro W base args ds gs before hval0 hW _ hL hsh
 have hval:∀(j:Nat) t v,Tryz.f6.params[j]? =some t→args[j]? =some v→Value.okWide Tryz.prog W .any base t v:=hval0
 have hW' :=hW
 obtain ⟨p,q,hA0,hV0,rfl,_,_⟩:=hW
 have hA:DataW.TrodAll enc Tryz.prog W 0 (fun _=>true) true Tryz.f6.params.toList args.toList ds p:=hA0
 have hlt:=hA.lt
 rw [Tryz.params6]at hA hval
 obtain ⟨v0,v1,d0,d1,p0,p1,rfl,rfl,rfl,h0,h1⟩:=trodAll_two hA
 obtain ⟨rfl,rfl⟩:=trodVars_none hV0
 have q0:=h0
 have q1:=h1
 obtain ⟨x0,rfl, -, -,wf0⟩:=open_int Tryz.underlying3 (hval 0 3 v0 rfl rfl) h0
 obtain ⟨x1,rfl, -, -,wf1⟩:=open_int Tryz.underlying3 (hval 1 3 v1 rfl rfl) h1
 clear hA0 hV0 hval0
 have lo:laidOutB Tryz.prog=true:=by kernel_rfl
 refine (schemaSpoilt_any x0 x1 W (adG hL hsh) (bounds_i64 wf0).1 (bounds_i64 wf0).2 (bounds_i64 wf1).1 (bounds_i64 wf1).2).mono fun e W' ⟨he,hw⟩=> ?_
 subst he
 have e1:Rows.schemaSpoiltSpec.fn H ([d0,d1]++ [])={results:= [.lit (.bool true)],args:= [d0,d1]}:=rfl
 refine ⟨_,rfl,_,_,_, [],(p0++p1), [],hW', ?_, ?_, ?_,hw.frame _,fun h=>by cases h⟩
 · rw [e1];exact trodAll_mk1 (shut_bool Tryz.underlying4 true)
 · rw [e1];exact trodAll_mk2 (Below.trod lo (show Tryz.prog.readableRec 3=true by kernel_rfl) (show 3<Tryz.prog.types.size from of_decide_eq_true (by kernel_rfl)) q0 hw (fun x hx=>hlt x (by simp [hx]))) (Below.trod lo (show Tryz.prog.readableRec 3=true by kernel_rfl) (show 3<Tryz.prog.types.size from of_decide_eq_true (by kernel_rfl)) q1 hw (fun x hx=>hlt x (by simp [hx])))
 · rw [e1];rfl
theorem schemaSpoilt_holds:Rows.SchemaSpoiltSaid:=
 OpenClaim.holds_of_wide 6 Tryz.f6 rfl rfl rfl rfl rfl rfl rfl ⟨rfl,rfl,rfl,rfl,rfl⟩ rfl rfl rfl rfl rfl (by kernel_rfl) Tryz.func6 schemaSpoilt_closed
  (of_decide_eq_true (by kernel_rfl)) (by unfold Func.isWrapper;rw [if_neg (of_decide_eq_false (by kernel_rfl))];exact ⟨rfl,rfl⟩)
  (fun os started H enc _=>schemaSpoilt_lifted os started H enc)
theorem schemaSpoilt_card:Rows.SchemaSpoiltCardSaid:=
 Claim7.holds_tied_plain_at .later [] [.data, .data, .data, .data, .listed, .data, .pinned] true Rows.schemaSpoiltCard.stood.harness Rows.schemaSpoiltCard.stood.looks
  schemaSpoilt_holds (fun _ h=>by cases h) schemaSpoilt_wf (fun _ h=>by cases h) schemaSpoilt_row_tie rfl ⟨rfl,rfl⟩ schemaSpoilt_main rfl
  (fun f fn hf hfn=>by
   obtain rfl:f=6:=Option.some.inj ((show Tryz.prog.funcNamed "clerestory/clerestorylaw16.SchemaSpoilt" =some 6 by kernel_rfl).symm.trans hf)|>.symm
   obtain rfl:fn=Tryz.f6:=(Option.some.inj (Tryz.func6.symm.trans hfn)).symm
   exact ⟨schemaSpoilt_looks,fun j t ht=>by
    rw [Tryz.params6]at ht
    have hm:t∈ [3,3]:=by simpa using Array.mem_of_getElem? ht
    have hall:([3,3].all fun u=> !Tryz.prog.wantsStandIn u)=true:=by kernel_rfl
    exact (show Tryz.prog.wantsStandIn t=false by simpa using List.all_eq_true.1 hall t hm)⟩)
  schemaSpoilt_goes
#print axioms schemaSpoilt_card
end Go.Proofs.YtnngbhpeeakfaaaGreatDoor
