/- Proved: clerestorylaw14.ParseWrong returns true whatever its arguments are, and leaves them as they were. Conditions: none beside the row's own (the listed variables of Go's library read as its text lays them, tied by the card). -/
import Derived.Test.YtfbgdjcnlnfoaaaGreatDoorB01
import Derived.Test.YtfbgdjcnlnfoaaaGreatDoorB13e
import Derived.Test.YtfbgdjcnlnfoaaaGreatDoorCWRf
import Derived.Test.YtfbgdjcnlnfoaaaGreatDoorTie
namespace Go.Proofs.YtfbgdjcnlnfoaaaGreatDoor
open Go.ChangeShapes Go.WideShapes Go.ChangeAt Go.RowKit Go.Shelf
open Go.ChangeMaps (open_string shut_string)

set_option maxRecDepth 100000 in
theorem parseWrong_lifted (os : Os) (started : os.Started) (H : Type) (enc : TypeId × Value → H) :
    ReturnsInHanded {} Tryz.checked os 5 .any (fun w args => (Rows.parseWrongSpec.pre enc Tryz.prog Tryz.f5 [] false w args ∧ laidMetH Tryz.prog laidZ w) ∧ sizedMet enc Tryz.prog Tryz.f5 (OpenSpec.ofChange Rows.parseWrongSpec) false w args)
      (Rows.parseWrongSpec.post enc Tryz.prog Tryz.f5 false true false false) := by
  refine returns_wrap (C := Tryz.checked) (X := fun w _ => laidMetH Tryz.prog laidZ w) (fun _ _ _ hh h => h.of_heap hh) Tryz.own started (by kernel_rfl) Tryz.func5
    (ChangeSpec.witness_shaped (enc := enc) (C := Tryz.checked) (os := os) (X := fun w _ => laidMetH Tryz.prog laidZ w) false (laidWorldZ os) #[.int .i64 0, .int .i64 0, .int .i64 0] 8 rfl (World.shaped_of_RefB (by kernel_rfl) (by kernel_rfl)) (by kernel_rfl) (by kernel_rfl) (by kernel_rfl) (laidZ_met os _)) ?_
  intro W base args ds gs before hval0 hW _ hL hsh
  have hval : ∀ (j : Nat) t v, Tryz.f5.params[j]? = some t → args[j]? = some v → Value.okWide Tryz.prog W .any base t v := hval0
  have hW' := hW
  obtain ⟨p, q, hA0, hV0, rfl, _, _⟩ := hW
  have hA : DataW.TrodAll enc Tryz.prog W 0 (fun _ => true) true Tryz.f5.params.toList args.toList ds p := hA0
  have hlt := hA.lt
  rw [Tryz.params5] at hA hval
  obtain ⟨v0, v1, v2, d0, d1, d2, p0, p1, p2, rfl, rfl, rfl, h0, h1, h2⟩ := trodAll_three hA
  obtain ⟨rfl, rfl⟩ := trodVars_none hV0
  have q0 := h0
  have q1 := h1
  have q2 := h2
  obtain ⟨x0, rfl, -, -, wf0⟩ := open_int Tryz.underlying3 (hval 0 3 v0 rfl rfl) h0
  obtain ⟨x1, rfl, -, -, wf1⟩ := open_int Tryz.underlying3 (hval 1 3 v1 rfl rfl) h1
  obtain ⟨x2, rfl, -, -, wf2⟩ := open_int Tryz.underlying3 (hval 2 3 v2 rfl rfl) h2
  clear hA0 hV0 hval0
  have lo : laidOutB Tryz.prog = true := by kernel_rfl
  refine (parseWrong_law x0 x1 x2 W (gp_of hL hsh) (bounds_i64 wf0).1 (bounds_i64 wf0).2 (bounds_i64 wf1).1 (bounds_i64 wf1).2 (bounds_i64 wf2).1 (bounds_i64 wf2).2).mono fun e W' ⟨he, hw⟩ => ?_
  subst he
  have e1 : Rows.parseWrongSpec.fn H ([d0, d1, d2] ++ []) = { results := [.lit (.bool true)], args := [d0, d1, d2] } := rfl
  refine ⟨_, rfl, _, _, _, [], (p0 ++ (p1 ++ p2)), [], hW', ?_, ?_, ?_, hw.1.frame _, fun h => by cases h⟩
  · rw [e1]; exact trodAll_mk1 (shut_bool Tryz.underlying4 true)
  · rw [e1]; exact trodAll_mk3 (Below.trod lo (show Tryz.prog.readableRec 3 = true by kernel_rfl) (show 3 < Tryz.prog.types.size from of_decide_eq_true (by kernel_rfl)) q0 hw.1 (fun x hx => hlt x (by simp [hx]))) (Below.trod lo (show Tryz.prog.readableRec 3 = true by kernel_rfl) (show 3 < Tryz.prog.types.size from of_decide_eq_true (by kernel_rfl)) q1 hw.1 (fun x hx => hlt x (by simp [hx]))) (Below.trod lo (show Tryz.prog.readableRec 3 = true by kernel_rfl) (show 3 < Tryz.prog.types.size from of_decide_eq_true (by kernel_rfl)) q2 hw.1 (fun x hx => hlt x (by simp [hx])))
  · rw [e1]; rfl

theorem parseWrong_holds : Rows.ParseWrongSaid :=
  OpenClaim.holds_of_wide 5 Tryz.f5 rfl rfl rfl rfl rfl rfl rfl ⟨rfl, rfl, rfl, rfl, rfl⟩ rfl rfl rfl rfl rfl (by kernel_rfl) Tryz.func5 (by kernel_rfl)
    (of_decide_eq_true (by kernel_rfl)) (by unfold Func.isWrapper; rw [if_neg (of_decide_eq_false (by kernel_rfl))]; exact ⟨rfl, rfl⟩)
    (fun os started H enc _ => parseWrong_lifted os started H enc)

theorem parseWrong_card : Rows.ParseWrongCardSaid :=
  Claim7.holds_tied_plain_at .later [] [.data, .data, .data, .data, .listed, .data, .pinned] true Rows.parseWrongCard.stood.harness Rows.parseWrongCard.stood.looks
    parseWrong_holds (fun _ h => by cases h) (by kernel_rfl) (fun _ h => by cases h) parseWrong_row_tie rfl ⟨rfl, rfl⟩ (by kernel_rfl) rfl
    (fun f fn hf hfn => by
      obtain rfl : f = 5 := Option.some.inj ((show Tryz.prog.funcNamed "clerestory/clerestorylaw14.ParseWrong" = some 5 by kernel_rfl).symm.trans hf) |>.symm
      obtain rfl : fn = Tryz.f5 := (Option.some.inj (Tryz.func5.symm.trans hfn)).symm
      exact ⟨by kernel_rfl, fun j t ht => by
        rw [Tryz.params5] at ht
        have hm : t ∈ [3, 3, 3] := by simpa using Array.mem_of_getElem? ht
        have hall : ([3, 3, 3].all fun u => !Tryz.prog.wantsStandIn u) = true := by kernel_rfl
        exact (show Tryz.prog.wantsStandIn t = false by simpa using List.all_eq_true.1 hall t hm)⟩)
    (by kernel_rfl)
#print axioms parseWrong_card

end Go.Proofs.YtfbgdjcnlnfoaaaGreatDoor
