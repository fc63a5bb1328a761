/- Plain facts: names by the reference; bytes of a text. -/
import Derived.Test.YtfbgdjcnlnfoaaaDoorPlainD
namespace Go.Proofs.YtfbgdjcnlnfoaaaDoor
namespace Cle

theorem extract1 (s : ByteArray) (k : Nat) (h : k < s.size) : s.extract k (k + 1) = ⟨#[s[k]]⟩ := by
  apply ByteArray.ext
  apply Array.ext'
  have hd : k < s.data.toList.length := by simp; exact h
  rw [ByteArray.data_extract]
  simp only [Array.toList_extract, List.extract_eq_take_drop]
  rw [List.drop_eq_getElem_cons hd]
  have e : k + 1 - k = 1 := by omega
  rw [e]
  simp
  rfl

/-- Places of code points rise. -/
theorem ptsAt_place (s : ByteArray) : ∀ n pos, s.size - pos ≤ n → ∀ k (h : k < (ptsAt s pos).length), pos + k ≤ (ptsAt s pos)[k].at_ ∧ (k = 0 → (ptsAt s pos)[k].at_ = pos) := by
  intro n
  induction n with
  | zero => intro pos hn k h; rw [ptsAt_end s pos (by omega)] at h; simp at h
  | succ n ih =>
    intro pos hn k h
    by_cases hp : pos < s.size
    · have hw := width_pos s pos hp
      have e := ptsAt_step s pos hp
      cases k with
      | zero =>
        have : (ptsAt s pos)[0] = ⟨(Utf8.decode s pos).1, pos, (Utf8.decode s pos).2⟩ := by
          have h2 : (ptsAt s pos)[0]? = some ⟨(Utf8.decode s pos).1, pos, (Utf8.decode s pos).2⟩ := by rw [e]; rfl
          rw [List.getElem?_eq_getElem h] at h2
          exact Option.some.inj h2
        rw [this]
        simp
      | succ k =>
        have hk : k < (ptsAt s (pos + (Utf8.decode s pos).2)).length := by rw [e] at h; simpa using h
        have h1 := (ih (pos + (Utf8.decode s pos).2) (by omega) k hk).1
        have : (ptsAt s pos)[k + 1] = (ptsAt s (pos + (Utf8.decode s pos).2))[k] := by
          have h2 : (ptsAt s pos)[k + 1]? = (ptsAt s (pos + (Utf8.decode s pos).2))[k]? := by rw [e]; rfl
          rw [List.getElem?_eq_getElem h, List.getElem?_eq_getElem hk] at h2
          exact Option.some.inj h2
        rw [this]
        exact ⟨by omega, fun h => absurd h (by omega)⟩
    · rw [ptsAt_end s pos hp] at h; simp at h

theorem pts_place (s : ByteArray) (k : Nat) (h : k < (pts s).length) : decide (0 < (pts s)[k].at_) = !decide (k = 0) := by
  have := ptsAt_place s s.size 0 (by omega) k h
  by_cases hk : k = 0
  · have h2 : (pts s)[k].at_ = 0 := this.2 hk
    rw [h2, decide_eq_true hk]; rfl
  · have h1 := this.1
    have h3 : 0 < (pts s)[k].at_ := by show 0 < (ptsAt s 0)[k].at_; omega
    rw [decide_eq_true h3, decide_eq_false hk]; rfl

theorem named_alt (p : Pt) : p.named = ((letterB p.r && p.ok) || (digitB p.r && decide (0 < p.at_))) := by
  unfold Pt.named
  cases hd : digitB p.r
  · simp
  · have : p.ok = true := by
      unfold digitB at hd
      simp at hd
      unfold Pt.ok
      have : ((p.r : Int) != 65533) = true := bne_iff_ne.2 (by omega)
      rw [this]; rfl
    rw [this]; simp

end Cle
end Go.Proofs.YtfbgdjcnlnfoaaaDoor
