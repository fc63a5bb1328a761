/- Walks: the reference of layer 1: All and what goes over it. -/
import Derived.Test.YtfbgdjcnlnfoaaaDoorRefA
namespace Go.Proofs.YtfbgdjcnlnfoaaaDoor
open Go.RowKit
open Cle

def ptCells (p : Pt) : List Value := [.int .i32 p.r, .int .i64 p.at_, .int .i64 p.n, .bool p.ok]
def flatP (l : List Pt) : List Value := l.flatMap ptCells
theorem flatP_len (l : List Pt) : (flatP l).length = l.length * 4 := by
  induction l with
  | nil => rfl
  | cons p l ih => unfold flatP at *; simp [List.flatMap_cons, ptCells, ih]; omega
theorem flatP_snoc (l : List Pt) (p : Pt) : flatP l ++ ptCells p = flatP (l ++ [p]) := by simp [flatP]
theorem flatP_at : ∀ (l : List Pt) (k j : Nat) (h : k < l.length) (_ : j < 4), (flatP l)[k * 4 + j]? = (ptCells l[k])[j]?
  | p :: l, 0, j, _, hj => by
    simp only [flatP, List.flatMap_cons, Nat.zero_mul, Nat.zero_add, List.getElem_cons_zero]
    rw [List.getElem?_append_left (by simp [ptCells]; omega)]
  | p :: l, k + 1, j, h, hj => by
    have := flatP_at l k j (by simp at h; omega) hj
    simp only [flatP, List.flatMap_cons, List.getElem_cons_succ] at this ⊢
    rw [List.getElem?_append_right (by simp [ptCells]; omega)]
    have e : (k + 1) * 4 + j - (ptCells p).length = k * 4 + j := by simp [ptCells]; omega
    rw [e]; exact this

theorem news_pt (w1 : World) (X : Obj) (q : Pt) (t : TypeId) : ∀ j u, (ptCells q)[j]? = some u → ((w1.alloc X).alloc (.cells #[.int .i32 q.r, .int .i64 q.at_, .int .i64 q.n, .bool q.ok] t)).cell? ((⟨w1.heap.size + 1, 0, none⟩ : Addr).add j) = some u := by
  have := cells_new (w1.alloc X) (ptCells q) t
  have e : (w1.alloc X).heap.size = w1.heap.size + 1 := by simp
  rw [e] at this
  exact this
theorem ptCells_one (q : Pt) : ∀ u ∈ ptCells q, u.oneCell' = true := by
  intro u hu; simp [ptCells] at hu; rcases hu with rfl | rfl | rfl | rfl <;> rfl

theorem ptsAt_len (s : ByteArray) : ∀ n pos, s.size - pos ≤ n → (ptsAt s pos).length ≤ s.size - pos := by
  intro n
  induction n with
  | zero => intro pos h; rw [ptsAt_end s pos (by omega)]; simp
  | succ n ih =>
    intro pos h
    by_cases hp : pos < s.size
    · have := width_pos s pos hp
      have := ih (pos + (Utf8.decode s pos).2) (by omega)
      rw [ptsAt_step s pos hp]; simp; omega
    · rw [ptsAt_end s pos hp]; simp
theorem pts_len (s : ByteArray) : (pts s).length ≤ s.size := by have := ptsAt_len s s.size 0 (by omega); rw [pts_eq]; omega

end Go.Proofs.YtfbgdjcnlnfoaaaDoor
