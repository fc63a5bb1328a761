/- More small facts on worlds and rows: of no program. -/
import Derived.Test.YtfbgdjcnlnfoaaaDoorKit
namespace Go.Proofs.YtfbgdjcnlnfoaaaDoor
open Go.RowKit
namespace Cle

/-- What a row that is owned reads as. -/
theorem row_read {w : World} {B : Nat} {e : TypeId} {sz : Nat} {v : Value} {n : Nat} {xs : List Value} (h : w.ownsRow B e sz v n xs) :
    ∃ a cap, v = .slice a n cap ∧ (0 < n → ∃ g, a = some ⟨g, 0, none⟩ ∧ B ≤ g ∧ g < w.heap.size ∧ ∀ j u, xs[j]? = some u → w.cell? ⟨g, j, none⟩ = some u) := by
  obtain ⟨h1, h2⟩ := h
  rcases h2 with ⟨rfl, rfl⟩ | ⟨g, cap, cur, rfl, hg, hh, hn, hc, hs, ht⟩
  · exact ⟨none, 0, rfl, fun h => absurd h (by omega)⟩
  · refine ⟨_, cap, rfl, fun _ => ⟨g, rfl, hg, blk_lt hh, fun j u hj => ?_⟩⟩
    exact ownsRow_cell ⟨h1, .inr ⟨g, cap, cur, rfl, hg, hh, hn, hc, hs, ht⟩⟩ j u hj

end Cle
end Go.Proofs.YtfbgdjcnlnfoaaaDoor
