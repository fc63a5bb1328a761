/- Plain laws of layer 1: texts one behind the other; names; quotes. -/
import Derived.Test.YtfbgdjcnlnfoaaaDoorPlainE
namespace Go.Proofs.YtfbgdjcnlnfoaaaDoor
namespace Cle

theorem get_oob (s : ByteArray) (k : Nat) (h : ¬ k < s.size) : bY s k = 0 := by
  unfold bY
  rw [get_data, getElem!_neg s.data k h]; rfl
theorem bY_app_lo (s t : ByteArray) (k : Nat) (h : k < s.size) : bY (s ++ t) k = bY s k := by
  have h2 : k < (s ++ t).size := by rw [ByteArray.size_append]; omega
  rw [← bY_eq _ k h2, ← bY_eq _ k h]
  rw [ByteArray.getElem_append_left h]
theorem bY_app_hi (s t : ByteArray) (k : Nat) : bY (s ++ t) (s.size + k) = bY t k := by
  by_cases h : k < t.size
  · have h2 : s.size + k < (s ++ t).size := by rw [ByteArray.size_append]; omega
    rw [← bY_eq _ _ h2, ← bY_eq _ k h, ByteArray.getElem_append_right (by omega)]
    congr 2
    omega
  · rw [get_oob _ _ h, get_oob]
    rw [ByteArray.size_append]; omega
theorem bY_ext (s : ByteArray) (a k : Nat) : bY (s.extract a s.size) k = bY s (a + k) := by unfold bY; rw [get_ext]

theorem dec_bY (s : ByteArray) (a : Nat) : Utf8.decode s a = Lib.decodeN (s.size - a) (bY s a) (bY s (a + 1)) (bY s (a + 2)) (bY s (a + 3)) := Lib.decode_at s a

/-- The other text's code points stand behind the first text. -/
theorem dec_hi (s t : ByteArray) (k : Nat) : Utf8.decode (s ++ t) (s.size + k) = Utf8.decode t k := by
  rw [dec_bY, dec_bY, Nat.add_assoc, Nat.add_assoc, Nat.add_assoc, bY_app_hi, bY_app_hi, bY_app_hi, bY_app_hi, ByteArray.size_append]
  congr 1; omega
theorem dec_sub (s : ByteArray) (a k : Nat) : Utf8.decode (s.extract a s.size) k = Utf8.decode s (a + k) := by
  rw [dec_bY, dec_bY, bY_ext, bY_ext, bY_ext, bY_ext]
  have e : (s.extract a s.size).size - k = s.size - (a + k) := by simp; omega
  rw [e]; rfl

/-- What a decoded code point says of its bytes. -/
theorem decN_ok (n m b0 b1 b2 b3 c1 c2 c3 : Nat) (_hn : 1 ≤ n) (hm : n ≤ m) (h1 : 1 < n → c1 = b1) (h2 : 2 < n → c2 = b2) (h3 : 3 < n → c3 = b3)
    (hok : (Lib.decodeN n b0 b1 b2 b3).1 ≠ 65533 ∨ 1 < (Lib.decodeN n b0 b1 b2 b3).2) : Lib.decodeN m b0 c1 c2 c3 = Lib.decodeN n b0 b1 b2 b3 := by
  unfold Lib.decodeN at hok ⊢
  by_cases a1 : b0 < 128
  · rw [if_pos a1, if_pos a1]
  · rw [if_neg a1] at hok
    rw [if_neg a1, if_neg a1]
    by_cases a2 : b0 / 32 = 6 ∧ (1 < n ∧ b1 / 64 = 2)
    · obtain rfl := h1 a2.2.1
      rw [if_pos a2, if_pos ⟨a2.1, by omega, a2.2.2⟩]
    · rw [if_neg a2] at hok
      by_cases a3 : b0 / 16 = 14 ∧ (1 < n ∧ b1 / 64 = 2) ∧ (2 < n ∧ b2 / 64 = 2)
      · obtain rfl := h1 a3.2.1.1
        obtain rfl := h2 a3.2.2.1
        rw [if_neg a2, if_pos a3, if_neg (by omega), if_pos ⟨a3.1, ⟨by omega, a3.2.1.2⟩, ⟨by omega, a3.2.2.2⟩⟩]
      · rw [if_neg a3] at hok
        by_cases a4 : b0 / 8 = 30 ∧ (1 < n ∧ b1 / 64 = 2) ∧ (2 < n ∧ b2 / 64 = 2) ∧ (3 < n ∧ b3 / 64 = 2)
        · obtain rfl := h1 a4.2.1.1
          obtain rfl := h2 a4.2.2.1.1
          obtain rfl := h3 a4.2.2.2.1
          rw [if_neg a2, if_neg a3, if_pos a4, if_neg (by omega), if_neg (by omega), if_pos ⟨a4.1, ⟨by omega, a4.2.1.2⟩, ⟨by omega, a4.2.2.1.2⟩, ⟨by omega, a4.2.2.2.2⟩⟩]
        · rw [if_neg a4] at hok
          simp at hok

theorem ok_iff (s : ByteArray) (a : Nat) : ((⟨(Utf8.decode s a).1, a, (Utf8.decode s a).2⟩ : Pt).ok = true) ↔ ((Utf8.decode s a).1 ≠ 65533 ∨ 1 < (Utf8.decode s a).2) := by
  unfold Pt.ok
  rw [Bool.or_eq_true, decide_eq_true_eq, bne_iff_ne]
  constructor
  · rintro (h | h)
    · exact .inl (fun e => h (by rw [e]; rfl))
    · exact .inr h
  · rintro (h | h)
    · exact .inl (fun e => h (by simp only at e; omega))
    · exact .inr h

theorem dec_lo (s t : ByteArray) (a : Nat) (h : a < s.size) (hok : (Utf8.decode s a).1 ≠ 65533 ∨ 1 < (Utf8.decode s a).2) : Utf8.decode (s ++ t) a = Utf8.decode s a := by
  rw [dec_bY] at hok
  rw [dec_bY, dec_bY, bY_app_lo s t a h]
  refine decN_ok _ _ _ _ _ _ _ _ _ (by omega) ?_ ?_ ?_ ?_ hok
  · rw [ByteArray.size_append]; omega
  · intro h1; exact bY_app_lo s t _ (by omega)
  · intro h1; exact bY_app_lo s t _ (by omega)
  · intro h1; exact bY_app_lo s t _ (by omega)

def Pt.shift (d : Nat) (p : Pt) : Pt := ⟨p.r, p.at_ + d, p.n⟩
theorem ptsAt_shift (s t : ByteArray) : ∀ n k, t.size - k ≤ n → ptsAt (s ++ t) (s.size + k) = (ptsAt t k).map (Pt.shift s.size) := by
  intro n
  induction n with
  | zero => intro k h; rw [ptsAt_end t k (by omega), ptsAt_end]; rfl; rw [ByteArray.size_append]; omega
  | succ n ih =>
    intro k h
    by_cases hk : k < t.size
    · have hw := width_pos t k hk
      rw [ptsAt_step t k hk, ptsAt_step (s ++ t) (s.size + k) (by rw [ByteArray.size_append]; omega), dec_hi, Nat.add_assoc, ih _ (by omega)]
      simp only [List.map_cons, Pt.shift]
      rw [Nat.add_comm s.size k]
    · rw [ptsAt_end t k hk, ptsAt_end]; rfl; rw [ByteArray.size_append]; omega
theorem ptsAt_sub (s : ByteArray) (a : Nat) : ∀ n k, s.size - (a + k) ≤ n → ptsAt s (a + k) = (ptsAt (s.extract a s.size) k).map (Pt.shift a) := by
  intro n
  have e : (s.extract a s.size).size = s.size - a := by simp
  induction n with
  | zero => intro k h; rw [ptsAt_end s _ (by omega), ptsAt_end]; rfl; omega
  | succ n ih =>
    intro k h
    by_cases hk : a + k < s.size
    · have hw := width_pos s (a + k) hk
      rw [ptsAt_step s _ hk, ptsAt_step (s.extract a s.size) k (by omega), dec_sub, Nat.add_assoc, ih _ (by omega)]
      simp only [List.map_cons, Pt.shift]
      rw [Nat.add_comm a k]
    · rw [ptsAt_end s _ hk, ptsAt_end]; rfl; omega

/-- Where the first text's code points are right, they are so in front of another one. -/
theorem ptsAt_app (s t : ByteArray) : ∀ n k, s.size - k ≤ n → k ≤ s.size → (ptsAt s k).all Pt.ok = true → ptsAt (s ++ t) k = ptsAt s k ++ (pts t).map (Pt.shift s.size) := by
  intro n
  induction n with
  | zero =>
    intro k h hk _
    have : k = s.size + 0 := by omega
    rw [ptsAt_end s k (by omega), this, ptsAt_shift s t t.size 0 (by omega)]; rfl
  | succ n ih =>
    intro k h hk hall
    by_cases hlt : k < s.size
    · have hw := width_pos s k hlt
      have hl := width_le s k hlt
      rw [ptsAt_step s k hlt, List.all_cons, Bool.and_eq_true] at hall
      rw [ptsAt_step s k hlt, ptsAt_step (s ++ t) k (by rw [ByteArray.size_append]; omega), dec_lo s t k hlt ((ok_iff s k).1 hall.1), ih _ (by omega) (by omega) hall.2]
      rfl
    · have : k = s.size + 0 := by omega
      rw [ptsAt_end s k hlt, this, ptsAt_shift s t t.size 0 (by omega)]; rfl

theorem pts_app (s t : ByteArray) (h : valid s = true) : pts (s ++ t) = pts s ++ (pts t).map (Pt.shift s.size) := ptsAt_app s t s.size 0 (by omega) (by omega) h

theorem valid_app (s t : ByteArray) (hs : valid s = true) : valid (s ++ t) = valid t := by
  unfold valid
  rw [pts_app s t hs, List.all_append]
  have : (pts s).all Pt.ok = true := hs
  rw [this, Bool.true_and, List.all_map]
  rfl

end Cle
end Go.Proofs.YtfbgdjcnlnfoaaaDoor
