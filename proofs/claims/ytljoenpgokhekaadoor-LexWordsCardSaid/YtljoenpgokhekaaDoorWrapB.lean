/- What arguments read as: lists of numbers. -/
import Derived.Test.YtljoenpgokhekaaDoorWrap
import Derived.Test.YtljoenpgokhekaaDoorLawLexC
import Derived.OpenShut
namespace Go.Proofs.YtljoenpgokhekaaDoor
open Go.ChangeShapes Go.WideShapes Go.ChangeAt Go.RowKit Go.Shelf
open Go.ChangeMaps (open_string shut_string)

theorem ints_in {H : Type} {enc : TypeId × Value → H} {P : Program} {W : World} {t e : TypeId} {v : Value} {d : DataW H} {ps : List MemPlace} {base : Nat} {r : Reach} (ht : P.underlying t = some (.slice e)) (he : P.underlying e = some (.int .i64)) (hc : P.cellsOf e = 1)
    (hv : Value.okWide P W r base t v) (h : DataW.Trod enc P W 0 (fun _ => true) true t v d ps) :
    ∃ zs : List Int, IntsIn W v zs ∧ (∀ z ∈ zs, -9223372036854775808 ≤ z ∧ z ≤ 9223372036854775807) ∧ zs.length ≤ maxLen := by
  obtain ⟨a0, len0, cap0, rfl⟩ := okWide_slice ht hv
  obtain ⟨fuel, hf⟩ := h
  rcases open_ints ht he hc hf with ⟨hcs, hx⟩ | ⟨a, len, cap, zs, hcs, _, hl, hm, hz, hx, hcell, hwz⟩
  · simp only [Value.cells, Array.toList, List.cons.injEq, and_true, Value.slice.injEq] at hcs
    obtain ⟨rfl, rfl, rfl⟩ := hcs
    exact ⟨[], ⟨none, 0, rfl, fun h => absurd h (by simp)⟩, (fun z (hz : z ∈ []) => nomatch hz), Nat.zero_le _⟩
  · simp only [Value.cells, Array.toList, List.cons.injEq, and_true, Value.slice.injEq] at hcs
    obtain ⟨rfl, rfl, rfl⟩ := hcs
    simp only [if_true] at hz
    refine ⟨zs.take len0, ⟨some a, cap0, by rw [List.length_take, Nat.min_eq_left (by omega)], fun h0 => ?_⟩, fun z hzm => ?_, by rw [List.length_take]; omega⟩
    · have hlen0 : 0 < len0 := by rw [List.length_take] at h0; omega
      obtain ⟨g, off, rfl, hcc⟩ := ints_at hcell (by omega)
      refine ⟨g, off, rfl, cell_lt (hcc 0 (by omega)), fun j hj => ?_⟩
      have hj2 : j < zs.length := by rw [List.length_take] at hj; omega
      rw [hcc j hj2, List.getElem_take, List.getD_eq_getElem?_getD, List.getElem?_eq_getElem hj2]; rfl
    · have := hwz z (List.mem_of_mem_take hzm)
      exact bounds_i64 this

end Go.Proofs.YtljoenpgokhekaaDoor
