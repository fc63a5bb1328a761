/- What calls leave; places by numbers. -/
import Derived.Test.YtfbgdjcnlnfoaaaDoorRunesC
namespace Go.Proofs.YtfbgdjcnlnfoaaaDoor
open Go.RowKit
open Cle

/-- Behind so many calls: what was there is there; the library's tables are. -/
def St (w0 w : World) : Prop := Below w0.heap.size w0 w ∧ Glob w
theorem St.refl {w : World} (h : Glob w) : St w w := ⟨Below.refl _ _, h⟩
theorem St.step {w0 w w' : World} (h : St w0 w) (hb : Below w.heap.size w w') : St w0 w' := ⟨h.1.trans (hb.mono h.1.size), h.2.below hb⟩
theorem St.same {w0 w w' : World} (h : St w0 w) (hb : w = w') : St w0 w' := hb ▸ h
theorem St.trans {w0 w w' : World} (h : St w0 w) (hb : St w w') : St w0 w' := ⟨h.1.trans (hb.1.mono h.1.size), hb.2⟩

theorem St.drew {w0 w : World} (h : St w0 w) : St w0 w.drew := h.step (Below.refl _ _).drew
theorem St.glob {w0 w : World} (h : St w0 w) : Glob w := h.2

theorem place_tmod (v n : Int) (hn : 1 ≤ n) : (if v.tmod n < 0 then v.tmod n + n else v.tmod n) = v % n := by
  have h1 := Int.tmod_eq_emod (a := v) (b := n)
  have h2 := Int.emod_nonneg v (show n ≠ 0 by omega)
  have h3 := Int.emod_lt_of_pos v (show 0 < n by omega)
  rw [h1]
  split <;> split at * <;> omega

end Go.Proofs.YtfbgdjcnlnfoaaaDoor
