/- Proved: clerestorylaw13.LexBlanks returns true whatever its arguments are, and leaves them as they were. Conditions: none beside the row's own (the two tables of unicode/utf8 read as the program's text lays them, tied by the card). -/
import Derived.Test.YtfbgdjcnlnfoaaaDoorWrap
import Derived.Test.YtfbgdjcnlnfoaaaDoorTie
import Derived.Test.YtfbgdjcnlnfoaaaDoorLawLexD
namespace Go.Proofs.YtfbgdjcnlnfoaaaDoor
open Go.ChangeShapes Go.WideShapes Go.ChangeAt Go.RowKit Go.Shelf
open Go.ChangeMaps (open_string shut_string)

set_option maxRecDepth 100000 in
theorem lexBlanks_lifted (os : Os) (started : os.Started) (H : Type) (enc : TypeId × Value → H) :
    ReturnsInHanded {} Tryd.checked os 3 .any (fun w args => (Rows.lexBlanksSpec.pre enc Tryd.prog Tryd.f3 [] false w args ∧ laidMetH Tryd.prog laidL w) ∧ sizedMet enc Tryd.prog Tryd.f3 (OpenSpec.ofChange Rows.lexBlanksSpec) false w args)
      (Rows.lexBlanksSpec.post enc Tryd.prog Tryd.f3 false true false false) := by
  refine returns_wrap (C := Tryd.checked) (X := fun w _ => laidMetH Tryd.prog laidL w) (fun _ _ _ hh h => h.of_heap hh) Tryd.own started (by kernel_rfl) Tryd.func3
    (ChangeSpec.witness_at (enc := enc) (C := Tryd.checked) (os := os) (X := fun w _ => laidMetH Tryd.prog laidL w) false (laidWorld os) #[.string ⟨#[]⟩, .int .i64 0, .int .i64 0] 8 rfl (by kernel_rfl) (by kernel_rfl) (by kernel_rfl) (by kernel_rfl) (by kernel_rfl) (laid_met os _)) ?_
  intro W base args ds gs before hval0 hW _ hL hsh
  have hval : ∀ (j : Nat) t v, Tryd.f3.params[j]? = some t → args[j]? = some v → Value.okWide Tryd.prog W .any base t v := hval0
  have hW' := hW
  obtain ⟨p, q, hA0, hV0, rfl, _, _⟩ := hW
  have hA : DataW.TrodAll enc Tryd.prog W 0 (fun _ => true) true Tryd.f3.params.toList args.toList ds p := hA0
  rw [Tryd.params3] at hA hval
  obtain ⟨v0, v1, v2, d0, d1, d2, p0, p1, p2, rfl, rfl, rfl, h0, h1, h2⟩ := trodAll_three hA
  obtain ⟨rfl, rfl⟩ := trodVars_none hV0
  obtain ⟨x0, rfl, rfl, rfl, wf0⟩ := open_string Tryd.underlying9 (hval 0 9 v0 rfl rfl) h0
  obtain ⟨x1, rfl, rfl, rfl, wf1⟩ := open_int Tryd.underlying3 (hval 1 3 v1 rfl rfl) h1
  obtain ⟨x2, rfl, rfl, rfl, wf2⟩ := open_int Tryd.underlying3 (hval 2 3 v2 rfl rfl) h2
  clear hA0 hV0 hval0
  refine (lexBlanks_law x0 x1 x2 W (glob_of hL hsh) (bounds_i64 wf1).1 (bounds_i64 wf1).2 (bounds_i64 wf2).1 (bounds_i64 wf2).2).mono fun e W' ⟨he, hw⟩ => ?_
  subst he
  have e1 : Rows.lexBlanksSpec.fn H ([.lit (.string x0.data.toList), .lit (.int .i64 x1), .lit (.int .i64 x2)] ++ []) = { results := [.lit (.bool true)], args := [.lit (.string x0.data.toList), .lit (.int .i64 x1), .lit (.int .i64 x2)] } := rfl
  refine ⟨_, rfl, _, _, _, [], [], [], hW', ?_, ?_, ?_, hw.1.frame _, fun h => by cases h⟩
  · rw [e1]; exact trodAll_mk1 (shut_bool Tryd.underlying4 true)
  · rw [e1]; exact trodAll_mk3 (shut_string Tryd.underlying9 wf0) (shut_int Tryd.underlying3 wf1) (shut_int Tryd.underlying3 wf2)
  · rw [e1]; rfl

theorem lexBlanks_holds : Rows.LexBlanksSaid :=
  OpenClaim.holds_of_wide 3 Tryd.f3 rfl rfl rfl rfl rfl rfl rfl ⟨rfl, rfl, rfl, rfl, rfl⟩ rfl rfl rfl rfl rfl (by kernel_rfl) Tryd.func3 (by kernel_rfl)
    (of_decide_eq_true (by kernel_rfl)) (by unfold Func.isWrapper; rw [if_neg (of_decide_eq_false (by kernel_rfl))]; exact ⟨rfl, rfl⟩)
    (fun os started H enc _ => lexBlanks_lifted os started H enc)

theorem lexBlanks_card : Rows.LexBlanksCardSaid :=
  Claim7.holds_tied_plain_at .later [] [.data, .pinned] true Rows.lexBlanksCard.stood.harness Rows.lexBlanksCard.stood.looks
    lexBlanks_holds (fun _ h => by cases h) (by kernel_rfl) (fun _ h => by cases h) lexBlanks_row_tie rfl ⟨rfl, rfl⟩ (by kernel_rfl) rfl
    (fun f fn hf hfn => by
      obtain rfl : f = 3 := Option.some.inj ((show Tryd.prog.funcNamed "clerestory/clerestorylaw13.LexBlanks" = some 3 by kernel_rfl).symm.trans hf) |>.symm
      obtain rfl : fn = Tryd.f3 := (Option.some.inj (Tryd.func3.symm.trans hfn)).symm
      exact ⟨by kernel_rfl, fun j t ht => by
        rw [Tryd.params3] at ht
        have hm : t ∈ [9, 3, 3] := by simpa using Array.mem_of_getElem? ht
        have hall : ([9, 3, 3].all fun u => !Tryd.prog.wantsStandIn u) = true := by kernel_rfl
        exact (show Tryd.prog.wantsStandIn t = false by simpa using List.all_eq_true.1 hall t hm)⟩)
    (by kernel_rfl)
#print axioms lexBlanks_card

end Go.Proofs.YtfbgdjcnlnfoaaaDoor
