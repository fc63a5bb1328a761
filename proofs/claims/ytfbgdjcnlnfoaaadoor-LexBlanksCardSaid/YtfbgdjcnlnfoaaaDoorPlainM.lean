/- Plain: places of code points rise. -/
import Derived.Test.YtfbgdjcnlnfoaaaDoorPlainL
namespace Go.Proofs.YtfbgdjcnlnfoaaaDoor
namespace Cle

theorem byteAt_head (s : ByteArray) (pos : Nat) (h : pos ≤ s.size) : byteAt s (ptsAt s pos) 0 = pos := by
  by_cases hp : pos < s.size
  · rw [ptsAt_step s pos hp]; rfl
  · rw [ptsAt_end s pos hp]; show s.size = pos; omega
theorem byteAt_ge (s : ByteArray) : ∀ k pos, pos ≤ s.size → pos ≤ byteAt s (ptsAt s pos) k ∧ byteAt s (ptsAt s pos) k ≤ s.size := by
  intro k
  induction k with
  | zero => intro pos h; rw [byteAt_head s pos h]; omega
  | succ k ih =>
    intro pos h
    by_cases hp : pos < s.size
    · have hw := width_le s pos hp
      have := ih (pos + (Utf8.decode s pos).2) hw
      rw [ptsAt_step s pos hp]
      show pos ≤ byteAt s (ptsAt s (pos + (Utf8.decode s pos).2)) k ∧ byteAt s (ptsAt s (pos + (Utf8.decode s pos).2)) k ≤ s.size
      omega
    · rw [ptsAt_end s pos hp]; show pos ≤ s.size ∧ s.size ≤ s.size; omega
theorem byteAt_mono' (s : ByteArray) : ∀ k j pos, pos ≤ s.size → k ≤ j → byteAt s (ptsAt s pos) k ≤ byteAt s (ptsAt s pos) j := by
  intro k
  induction k with
  | zero => intro j pos h _; rw [byteAt_head s pos h]; exact (byteAt_ge s j pos h).1
  | succ k ih =>
    intro j pos h hj
    obtain ⟨j, rfl⟩ : ∃ m, j = m + 1 := ⟨j - 1, by omega⟩
    by_cases hp : pos < s.size
    · have hw := width_le s pos hp
      rw [ptsAt_step s pos hp]
      exact ih j (pos + (Utf8.decode s pos).2) hw (by omega)
    · rw [ptsAt_end s pos hp]; exact Nat.le_refl _
theorem byteAt_mono (s : ByteArray) (k j : Nat) (h : k ≤ j) : byteAt s (pts s) k ≤ byteAt s (pts s) j := byteAt_mono' s k j 0 (by omega) h
theorem byteAt_le (s : ByteArray) (k : Nat) : byteAt s (pts s) k ≤ s.size := (byteAt_ge s k 0 (by omega)).2

/-- What is known of a text's code points. -/
def PtsOK (s : ByteArray) (P : List Pt) : Prop := P.length ≤ s.size ∧ (∀ k j, k ≤ j → byteAt s P k ≤ byteAt s P j) ∧ (∀ k, byteAt s P k ≤ s.size)
theorem ptsAt_count (s : ByteArray) : ∀ n pos, s.size - pos ≤ n → (ptsAt s pos).length ≤ s.size - pos := by
  intro n
  induction n with
  | zero => intro pos h; rw [ptsAt_end s pos (by omega)]; simp
  | succ n ih =>
    intro pos h
    by_cases hp : pos < s.size
    · have := width_pos s pos hp
      have := ih (pos + (Utf8.decode s pos).2) (by omega)
      rw [ptsAt_step s pos hp]; simp; omega
    · rw [ptsAt_end s pos hp]; simp
theorem ptsOK_pts (s : ByteArray) : PtsOK s (pts s) := ⟨by have := ptsAt_count s s.size 0 (by omega); rw [pts_eq]; omega, byteAt_mono s, byteAt_le s⟩

end Cle
end Go.Proofs.YtfbgdjcnlnfoaaaDoor
