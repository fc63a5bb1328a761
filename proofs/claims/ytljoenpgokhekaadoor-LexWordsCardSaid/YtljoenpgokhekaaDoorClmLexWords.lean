/- Proved: clerestorylaw13.LexWords returns true whatever its arguments are, and leaves them as they were. Conditions: none beside the row's own (the two tables of unicode/utf8 read as the program's text lays them, tied by the card). -/
import Derived.Test.YtljoenpgokhekaaDoorWrapB
import Derived.Test.YtljoenpgokhekaaDoorTie
import Derived.Test.YtljoenpgokhekaaDoorLawLexC
namespace Go.Proofs.YtljoenpgokhekaaDoor
open Go.ChangeShapes Go.WideShapes Go.ChangeAt Go.RowKit Go.Shelf
open Go.ChangeMaps (open_string shut_string)

set_option maxRecDepth 100000 in
theorem lexWords_lifted (os : Os) (started : os.Started) (H : Type) (enc : TypeId × Value → H) :
    ReturnsInHanded {} Tryd.checked os 7 .any (fun w args => (Rows.lexWordsSpec.pre enc Tryd.prog Tryd.f7 [] false w args ∧ laidMetH Tryd.prog laidL w) ∧ sizedMet enc Tryd.prog Tryd.f7 (OpenSpec.ofChange Rows.lexWordsSpec) false w args)
      (Rows.lexWordsSpec.post enc Tryd.prog Tryd.f7 false true false false) := by
  refine returns_wrap (C := Tryd.checked) (X := fun w _ => laidMetH Tryd.prog laidL w) (fun _ _ _ hh h => h.of_heap hh) Tryd.own started (by kernel_rfl) Tryd.func7
    (ChangeSpec.witness_at (enc := enc) (C := Tryd.checked) (os := os) (X := fun w _ => laidMetH Tryd.prog laidL w) false (laidWorld os) #[.slice none 0 0] 8 rfl (by kernel_rfl) (by kernel_rfl) (by kernel_rfl) (by kernel_rfl) (by kernel_rfl) (laid_met os _)) ?_
  intro W base args ds gs before hval0 hW _ hL hsh
  have hval : ∀ (j : Nat) t v, Tryd.f7.params[j]? = some t → args[j]? = some v → Value.okWide Tryd.prog W .any base t v := hval0
  have hW' := hW
  obtain ⟨p, q, hA0, hV0, rfl, _, _⟩ := hW
  have hA : DataW.TrodAll enc Tryd.prog W 0 (fun _ => true) true Tryd.f7.params.toList args.toList ds p := hA0
  have hlt := hA.lt
  rw [Tryd.params7] at hA hval
  obtain ⟨v0, d0, rfl, rfl, h0⟩ := trodAll_one hA
  obtain ⟨rfl, rfl⟩ := trodVars_none hV0
  have q0 := h0
  obtain ⟨x0, hi0, hz0, hl0⟩ := ints_in Tryd.underlying47 Tryd.underlying3 (show Tryd.prog.cellsOf 3 = 1 by kernel_rfl) (hval 0 47 v0 rfl rfl) h0
  clear hA0 hV0 hval0
  have lo : laidOutB Tryd.prog = true := by kernel_rfl
  refine (lexWords_law v0 x0 W (glob_of hL hsh) hi0 hz0 hl0).mono fun e W' ⟨he, hw⟩ => ?_
  subst he
  have e1 : Rows.lexWordsSpec.fn H ([d0] ++ []) = { results := [.lit (.bool true)], args := [d0] } := rfl
  refine ⟨_, rfl, _, _, _, [], p, [], hW', ?_, ?_, ?_, hw.1.frame _, fun h => by cases h⟩
  · rw [e1]; exact trodAll_mk1 (shut_bool Tryd.underlying4 true)
  · rw [e1]; exact trodAll_mk1 (Below.trod lo (show Tryd.prog.readableRec 47 = true by kernel_rfl) (show 47 < Tryd.prog.types.size from of_decide_eq_true (by kernel_rfl)) q0 hw.1 (fun x hx => hlt x hx))
  · rw [e1]; rfl

theorem lexWords_holds : Rows.LexWordsSaid :=
  OpenClaim.holds_of_wide 7 Tryd.f7 rfl rfl rfl rfl rfl rfl rfl ⟨rfl, rfl, rfl, rfl, rfl⟩ rfl rfl rfl rfl rfl (by kernel_rfl) Tryd.func7 (by kernel_rfl)
    (of_decide_eq_true (by kernel_rfl)) (by unfold Func.isWrapper; rw [if_neg (of_decide_eq_false (by kernel_rfl))]; exact ⟨rfl, rfl⟩)
    (fun os started H enc _ => lexWords_lifted os started H enc)

theorem lexWords_card : Rows.LexWordsCardSaid :=
  Claim7.holds_tied_plain_at .later [] [.data, .pinned] true Rows.lexWordsCard.stood.harness true
    lexWords_holds (fun _ h => by cases h) (by kernel_rfl) (fun _ h => by cases h) lexWords_row_tie rfl ⟨rfl, rfl⟩ (by kernel_rfl) rfl
    (fun f fn hf hfn => by
      obtain rfl : f = 7 := Option.some.inj ((show Tryd.prog.funcNamed "clerestory/clerestorylaw13.LexWords" = some 7 by kernel_rfl).symm.trans hf) |>.symm
      obtain rfl : fn = Tryd.f7 := (Option.some.inj (Tryd.func7.symm.trans hfn)).symm
      exact ⟨by kernel_rfl, fun j t ht => by
        rw [Tryd.params7] at ht
        have hm : t ∈ [47] := by simpa using Array.mem_of_getElem? ht
        have hall : ([47].all fun u => !Tryd.prog.wantsStandIn u) = true := by kernel_rfl
        exact (show Tryd.prog.wantsStandIn t = false by simpa using List.all_eq_true.1 hall t hm)⟩)
    (by kernel_rfl)
#print axioms lexWords_card

end Go.Proofs.YtljoenpgokhekaaDoor
