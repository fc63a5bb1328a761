/- Proved: clerestorylaw15.PrintAll returns true whatever its argument is, where what it reads is of bulk at most 1048576, and leaves it as it was. Conditions: none beside the row's own (the listed variables of Go's library read as its text lays them, tied by the card). -/
import Derived.Deep.DeepHandedRow
import Derived.Deep.DeepWitnessRowRef
import Derived.Test.YtcgadodckoalnaaGreatDoorB39
import Derived.Test.YtcgadodckoalnaaGreatDoorB50
import Derived.Test.YtcgadodckoalnaaGreatDoorTie
set_option maxRecDepth 100000
namespace Go.Proofs.YtcgadodckoalnaaGreatDoor
open Go.Proofs.Tryz
open Go.ChangeShapes Go.WideShapes Go.ChangeAt Go.RowKit Go.Shelf
theorem C9 (H:Type) (enc:TypeId×Value→H) (W:World) (base:Nat) (args:Array Value) (ds gs:List (DataW H)) (before:List MemPlace)
 (hval:∀(j:Nat) t v,Tryz.f4.params[j]? =some t→args[j]? =some v→Value.okWide prog W .any base t v)
 (hW:DataW.Whole enc prog Tryz.f4.params.toList Rows.printAllSpec.vars false W args.toList ds gs before) (hk:Rows.uptoSmall H (ds++gs)=true) (hL:laidMetH prog OT W) (hsh:W.ShapedOpen prog):
 Calls prog 4 args W fun e W' =>∃v,e= .returned v∧Rows.printAllSpec.post enc prog Tryz.f4 false true false false W args v W' :=by
 have hW' :=hW;obtain ⟨p,q,hA0,hV0,rfl,_,_⟩:=hW;have hA:DataW.TrodAll enc prog W 0 (fun _=>true) true Tryz.f4.params.toList args.toList ds p:=hA0;have hlt:=hA.lt;rw [Tryz.params4]at hA hval;obtain ⟨v0,d0,rfl,rfl,h0⟩:=trodAll_one hA;obtain ⟨rfl,rfl⟩:=trodVars_none hV0;have q0:=h0;obtain ⟨cs,rfl,hsz⟩:=okWide_struct underlying31 (hval 0 31 v0 rfl rfl);have hb:Rows.uptoBulkAll [d0]≤1048576:=of_decide_eq_true hk;simp only [Rows.uptoBulkAll]at hb;obtain ⟨fuel,hf⟩:=h0;obtain ⟨st,L,e,hS⟩:=ZB (enc:=enc) (W:=W) (N:=1048576) cs.toList ⟨fuel,_,hf,by omega⟩;obtain rfl:cs=st.arr:=Array.ext' e;clear hA0 hV0 hval;have lo:laidOutB prog=true:=by kernel_rfl
 refine (MB (acn hL hsh) hS (by omega)).mono fun e W' ⟨he,hw⟩=> ?_
 subst he;have e1:Rows.printAllSpec.fn H ([d0]++ [])={results:= [.lit (.bool true)],args:= [d0]}:=rfl;refine ⟨_,rfl,_,_,_, [],p, [],hW', ?_, ?_, ?_,hw.1.frame _,fun h=>by cases h⟩
 · rw [e1];exact trodAll_mk1 (shut_bool underlying4 true)
 · rw [e1];exact trodAll_mk1 (Below.trod lo (show prog.readableRec 31=true by kernel_rfl) (show 31<prog.types.size from of_decide_eq_true (by kernel_rfl)) q0 hw.1 (fun x hx=>hlt x hx))
 · rw [e1];rfl
theorem I4 (os:Os) {H:Type}(enc:TypeId×Value→H):∃places,DataW.whole enc prog ((rV os).forCall (fun _ _=>0) ⟨#[], #[.agg bf], []⟩).memory Tryz.f4.params.toList Rows.printAllSpec.vars false #[Value.agg bf].toList 8=some ([.agg [.lit (.int .i64 0), .lit (.string []), .lit (.string []), .lit (.string []), .agg [.lit (.string []), .lit (.int .i64 0), .agg [.lit (.string []), .lit (.int .i64 0)], .agg [.lit (.string []), .lit (.int .i64 0)], .nil], .nil, .nil, .nil, .lit (.int .i64 0), .lit (.int .i64 0), .lit (.int .i64 0), .nil]], [],places):=
 ⟨[],by kernel_rfl⟩
theorem Fb (os:Os) (started:os.Started) (H:Type) (enc:TypeId×Value→H) (F:Stop.Interp):
 ReturnsInHanded {} Tryz.checked os 4 .any ((Rows.OpenSpec.upto Rows.printAllSpec).preRow enc prog Tryz.f4 Rows.printAllUptoRow.domain false Rows.printAllUptoRow.laid) (((Rows.OpenSpec.upto Rows.printAllSpec).at F).post enc prog Tryz.f4 false true false false):=by
 obtain ⟨places,hx⟩:=I4 os enc
 refine returnsInHanded_of_row (C:=Tryz.checked) (s:=Rows.OpenSpec.upto Rows.printAllSpec) Tryz.own started (by kernel_rfl) func4
  (witness_row_atRef (enc:=enc) (C:=Tryz.checked) false (rV os) #[.agg bf] rfl (by kernel_rfl) (by kernel_rfl) (by kernel_rfl)
   (OpenSpec.preRow_of_cond 8 hx (by kernel_rfl) (fun k hk=>by cases hk;kernel_rfl) (by kernel_rfl) (KA os _))) ?_
 intro W base args ds gs before hval hW _ hcond _ hL hsh _;exact C9 H enc W base args ds gs before hval hW (hcond _ rfl) hL hsh
theorem Pf:Rows.printAllUptoRow.inPlace=prog.inPlace 4:=by kernel_rfl
theorem Pg:Rows.printAllUptoRow.unfollowed=prog.unfollowed 4:=by kernel_rfl
theorem Ph:Rows.printAllUptoRow.recurses=prog.recurses 4:=by kernel_rfl
theorem Pj:Rows.printAllUptoRow.named=prog.varsNamed 4:=by kernel_rfl
theorem Fe:joinedFacts prog 4 Tryz.f4 (Rows.OpenSpec.upto Rows.printAllSpec).bare Rows.printAllUptoRow=true:=by
 unfold joinedFacts;rw [←Pf,←Pg,←Ph,←Pj];kernel_rfl
theorem I5:Rows.PrintAllUptoSaid:=
 OpenClaim.holds_of_cond 4 Tryz.f4 rfl rfl rfl rfl rfl rfl rfl ⟨rfl,rfl,rfl,rfl,rfl⟩ rfl rfl rfl rfl rfl (by kernel_rfl) func4 Fe
  (of_decide_eq_true (by kernel_rfl)) (by unfold Func.isWrapper;rw [if_neg (of_decide_eq_false (by kernel_rfl))];exact ⟨rfl,rfl⟩)
  (fun os started H enc _ F=>by rw [OpenClaim.pre_eq_preRow];exact Fb os started H enc F)
theorem printAll_card:Rows.PrintAllUptoCardSaid:=
 Claim7.holds_tied_plain_at .later [] [.data, .data, .data, .data, .listed, .data, .pinned] true Rows.printAllUptoCard.stood.harness Rows.printAllUptoCard.stood.looks
  I5 (fun _ h=>by cases h) (by kernel_rfl) (fun _ h=>by cases h) printAllUpto_row_tie rfl ⟨rfl,rfl⟩ (by kernel_rfl) rfl
  (fun f fn hf hfn=>by
   obtain rfl:f=4:=Option.some.inj ((show prog.funcNamed "clerestory/clerestorylaw15.PrintAll" =some 4 by kernel_rfl).symm.trans hf)|>.symm
   obtain rfl:fn=Tryz.f4:=(Option.some.inj (func4.symm.trans hfn)).symm
   exact ⟨by kernel_rfl,fun j t ht=>by
    rw [Tryz.params4]at ht;have hm:t∈ [31]:=by simpa using Array.mem_of_getElem? ht
    have hall:([31].all fun u=> !prog.wantsStandIn u)=true:=by kernel_rfl
    exact (show prog.wantsStandIn t=false by simpa using List.all_eq_true.1 hall t hm)⟩)
  (by kernel_rfl)
#print axioms printAll_card
end Go.Proofs.YtcgadodckoalnaaGreatDoor
