/- Proved: clerestorylaw17.BindValues returns true whatever its arguments are, and leaves them as they were. Conditions: none beside the row's own (the two tables of unicode/utf8 read as the program's text lays them, tied by the card). -/
import Derived.Test.YtljoenpgokhekaaDoorWrap
import Derived.Test.YtljoenpgokhekaaDoorTie
import Derived.Test.YtljoenpgokhekaaDoorBindD
import Derived.Lib.SmallJoins
namespace Go.Proofs.YtljoenpgokhekaaDoor
open Go.ChangeShapes Go.WideShapes Go.ChangeAt Go.RowKit Go.Shelf Go.Joins
open Go.ChangeMaps (open_string shut_string)

set_option maxRecDepth 100000 in
theorem bindValues_lifted (os : Os) (started : os.Started) (H : Type) (enc : TypeId × Value → H) :
    ReturnsInHanded {} Tryd.checked os 3 .any (fun w args => (Rows.bindValuesSpec.pre enc Tryd.prog Tryd.f3 [] false w args ∧ laidMetH Tryd.prog laidL w) ∧ sizedMet enc Tryd.prog Tryd.f3 (OpenSpec.ofChange Rows.bindValuesSpec) false w args)
      (Rows.bindValuesSpec.post enc Tryd.prog Tryd.f3 false true false false) := by
  refine returns_wrap (C := Tryd.checked) (X := fun w _ => laidMetH Tryd.prog laidL w) (fun _ _ _ hh h => h.of_heap hh) Tryd.own started (by kernel_rfl) Tryd.func3
    (ChangeSpec.witness_at (enc := enc) (C := Tryd.checked) (os := os) (X := fun w _ => laidMetH Tryd.prog laidL w) false (laidWorld os) #[.int .i64 0, .agg #[.int .i64 0, .string ⟨#[]⟩, .int .i64 0], .agg #[.int .i64 0, .string ⟨#[]⟩, .int .i64 0], .string ⟨#[]⟩] 8 rfl (by kernel_rfl) (by kernel_rfl) (by kernel_rfl) (by kernel_rfl) (by kernel_rfl) (laid_met os _)) ?_
  intro W base args ds gs before hval0 hW _ hL hsh
  have hval : ∀ (j : Nat) t v, Tryd.f3.params[j]? = some t → args[j]? = some v → Value.okWide Tryd.prog W .any base t v := hval0
  have hW' := hW
  obtain ⟨p, q, hA0, hV0, rfl, _, _⟩ := hW
  have hA : DataW.TrodAll enc Tryd.prog W 0 (fun _ => true) true Tryd.f3.params.toList args.toList ds p := hA0
  rw [Tryd.params3] at hA hval
  obtain ⟨v0, v1, v2, v3, d0, d1, d2, d3, p0, p1, p2, p3, rfl, rfl, rfl, h0, h1, h2, h3⟩ := trodAll_four hA
  obtain ⟨rfl, rfl⟩ := trodVars_none hV0
  obtain ⟨x0, rfl, rfl, rfl, wf0⟩ := open_int Tryd.underlying3 (hval 0 3 v0 rfl rfl) h0
  obtain ⟨c10, c11, c12, y10, y11, y12, m1, rfl, rfl, rfl, hy10, hy11, hy12⟩ := open_agg3 Tryd.underlying23 (by kernel_rfl) (show Tryd.prog.cellsOf 23 = 3 by kernel_rfl) (hval 1 23 v1 rfl rfl) h1
  obtain ⟨x10, e10, rfl, wf10⟩ := DataW.trod_int Tryd.underlying3 hy10
  obtain ⟨x11, e11, rfl, wf11⟩ := DataW.trod_string Tryd.underlying9 hy11
  obtain ⟨x12, e12, rfl, wf12⟩ := DataW.trod_int Tryd.underlying3 hy12
  simp only [List.cons.injEq, and_true] at e10 e11 e12
  subst e10 e11 e12
  obtain ⟨c20, c21, c22, y20, y21, y22, m2, rfl, rfl, rfl, hy20, hy21, hy22⟩ := open_agg3 Tryd.underlying23 (by kernel_rfl) (show Tryd.prog.cellsOf 23 = 3 by kernel_rfl) (hval 2 23 v2 rfl rfl) h2
  obtain ⟨x20, e20, rfl, wf20⟩ := DataW.trod_int Tryd.underlying3 hy20
  obtain ⟨x21, e21, rfl, wf21⟩ := DataW.trod_string Tryd.underlying9 hy21
  obtain ⟨x22, e22, rfl, wf22⟩ := DataW.trod_int Tryd.underlying3 hy22
  simp only [List.cons.injEq, and_true] at e20 e21 e22
  subst e20 e21 e22
  obtain ⟨x3, rfl, rfl, rfl, wf3⟩ := open_string Tryd.underlying9 (hval 3 9 v3 rfl rfl) h3
  clear hA0 hV0 hval0
  refine (bindValues_any x0 x10 x11 x12 x20 x21 x22 x3 W (glob_of hL hsh)).mono fun e W' ⟨he, hw⟩ => ?_
  subst he
  have e1 : Rows.bindValuesSpec.fn H ([.lit (.int .i64 x0), .agg [.lit (.int .i64 x10), .lit (.string x11.data.toList), .lit (.int .i64 x12)], .agg [.lit (.int .i64 x20), .lit (.string x21.data.toList), .lit (.int .i64 x22)], .lit (.string x3.data.toList)] ++ []) = { results := [.lit (.bool true)], args := [.lit (.int .i64 x0), .agg [.lit (.int .i64 x10), .lit (.string x11.data.toList), .lit (.int .i64 x12)], .agg [.lit (.int .i64 x20), .lit (.string x21.data.toList), .lit (.int .i64 x22)], .lit (.string x3.data.toList)] } := rfl
  refine ⟨_, rfl, _, _, _, [], [], [], hW', ?_, ?_, ?_, hw.1.frame _, fun h => by cases h⟩
  · rw [e1]; exact trodAll_mk1 (shut_bool Tryd.underlying4 true)
  · rw [e1]; exact trodAll_mk4 (shut_int Tryd.underlying3 wf0) (shut_agg3 (y0 := (.lit (.int .i64 x10), [])) (y1 := (.lit (.string x11.data.toList), [])) (y2 := (.lit (.int .i64 x12), [])) Tryd.underlying23 (by kernel_rfl) (show Tryd.prog.cellsOf 23 = 3 by kernel_rfl) ⟨1, by simp [DataW.trod, Tryd.underlying3, wf10]⟩ ⟨1, by simp [DataW.trod, Tryd.underlying9, wf11]⟩ ⟨1, by simp [DataW.trod, Tryd.underlying3, wf12]⟩) (shut_agg3 (y0 := (.lit (.int .i64 x20), [])) (y1 := (.lit (.string x21.data.toList), [])) (y2 := (.lit (.int .i64 x22), [])) Tryd.underlying23 (by kernel_rfl) (show Tryd.prog.cellsOf 23 = 3 by kernel_rfl) ⟨1, by simp [DataW.trod, Tryd.underlying3, wf20]⟩ ⟨1, by simp [DataW.trod, Tryd.underlying9, wf21]⟩ ⟨1, by simp [DataW.trod, Tryd.underlying3, wf22]⟩) (shut_string Tryd.underlying9 wf3)
  · rw [e1]; rfl

theorem bindValues_holds : Rows.BindValuesSaid :=
  OpenClaim.holds_of_wide 3 Tryd.f3 rfl rfl rfl rfl rfl rfl rfl ⟨rfl, rfl, rfl, rfl, rfl⟩ rfl rfl rfl rfl rfl (by kernel_rfl) Tryd.func3 (by kernel_rfl)
    (of_decide_eq_true (by kernel_rfl)) (by unfold Func.isWrapper; rw [if_neg (of_decide_eq_false (by kernel_rfl))]; exact ⟨rfl, rfl⟩)
    (fun os started H enc _ => bindValues_lifted os started H enc)

theorem bindValues_card : Rows.BindValuesCardSaid :=
  Claim7.holds_tied_plain_at .later [] [.data, .pinned] true Rows.bindValuesCard.stood.harness true
    bindValues_holds (fun _ h => by cases h) (by kernel_rfl) (fun _ h => by cases h) bindValues_row_tie rfl ⟨rfl, rfl⟩ (by kernel_rfl) rfl
    (fun f fn hf hfn => by
      obtain rfl : f = 3 := Option.some.inj ((show Tryd.prog.funcNamed "clerestory/clerestorylaw17.BindValues" = some 3 by kernel_rfl).symm.trans hf) |>.symm
      obtain rfl : fn = Tryd.f3 := (Option.some.inj (Tryd.func3.symm.trans hfn)).symm
      exact ⟨by kernel_rfl, fun j t ht => by
        rw [Tryd.params3] at ht
        have hm : t ∈ [3, 23, 23, 9] := by simpa using Array.mem_of_getElem? ht
        have hall : ([3, 23, 23, 9].all fun u => !Tryd.prog.wantsStandIn u) = true := by kernel_rfl
        exact (show Tryd.prog.wantsStandIn t = false by simpa using List.all_eq_true.1 hall t hm)⟩)
    (by kernel_rfl)
#print axioms bindValues_card

end Go.Proofs.YtljoenpgokhekaaDoor
