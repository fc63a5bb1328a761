/- Plain laws of layer 1: names with a letter more, with another sign; folded names; the sign of a wrong code point. -/
import Derived.Test.YtfbgdjcnlnfoaaaDoorPlainG
namespace Go.Proofs.YtfbgdjcnlnfoaaaDoor
namespace Cle

/-- What a decoded code point says of its bytes. -/
theorem decN_facts (n b0 b1 b2 b3 : Nat) (_hn : 1 ≤ n) :
    ((Lib.decodeN n b0 b1 b2 b3).2 = 1 ∧ ((Lib.decodeN n b0 b1 b2 b3).1 = b0 ∧ b0 < 128 ∨ (Lib.decodeN n b0 b1 b2 b3).1 = 65533)) ∨
    (128 ≤ b0 ∧ 1 < (Lib.decodeN n b0 b1 b2 b3).2 ∧ (Lib.decodeN n b0 b1 b2 b3).2 ≤ n ∧ (Lib.decodeN n b0 b1 b2 b3).2 ≤ 4 ∧ b1 / 64 = 2 ∧ (2 < (Lib.decodeN n b0 b1 b2 b3).2 → b2 / 64 = 2) ∧ (3 < (Lib.decodeN n b0 b1 b2 b3).2 → b3 / 64 = 2)) := by
  unfold Lib.decodeN
  by_cases a1 : b0 < 128
  · rw [if_pos a1]; exact .inl ⟨rfl, .inl ⟨rfl, a1⟩⟩
  · rw [if_neg a1]
    by_cases a2 : b0 / 32 = 6 ∧ (1 < n ∧ b1 / 64 = 2)
    · rw [if_pos a2]
      split
      · exact .inr ⟨by omega, by simp, by simp; omega, by simp, a2.2.2, by simp, by simp⟩
      · exact .inl ⟨rfl, .inr rfl⟩
    · rw [if_neg a2]
      by_cases a3 : b0 / 16 = 14 ∧ (1 < n ∧ b1 / 64 = 2) ∧ (2 < n ∧ b2 / 64 = 2)
      · rw [if_pos a3]
        split
        · exact .inr ⟨by omega, by simp, by simp; omega, by simp, a3.2.1.2, fun _ => a3.2.2.2, by simp⟩
        · exact .inl ⟨rfl, .inr rfl⟩
      · rw [if_neg a3]
        by_cases a4 : b0 / 8 = 30 ∧ (1 < n ∧ b1 / 64 = 2) ∧ (2 < n ∧ b2 / 64 = 2) ∧ (3 < n ∧ b3 / 64 = 2)
        · rw [if_pos a4]
          split
          · exact .inr ⟨by omega, by simp, by simp; omega, by simp, a4.2.1.2, fun _ => a4.2.2.1.2, fun _ => a4.2.2.2.2⟩
          · exact .inl ⟨rfl, .inr rfl⟩
        · rw [if_neg a4]; exact .inl ⟨rfl, .inr rfl⟩

theorem dec_facts (s : ByteArray) (a : Nat) (h : a < s.size) :
    ((Utf8.decode s a).2 = 1 ∧ ((Utf8.decode s a).1 = bY s a ∧ bY s a < 128 ∨ (Utf8.decode s a).1 = 65533)) ∨
    (128 ≤ bY s a ∧ 1 < (Utf8.decode s a).2 ∧ ∀ j, 0 < j → j < (Utf8.decode s a).2 → bY s (a + j) / 64 = 2) := by
  rw [dec_bY]
  rcases decN_facts (s.size - a) (bY s a) (bY s (a + 1)) (bY s (a + 2)) (bY s (a + 3)) (by omega) with h1 | ⟨h1, h2, h3, h4, h5, h6, h7⟩
  · exact .inl h1
  · refine .inr ⟨h1, h2, fun j hj hj2 => ?_⟩
    match j, hj with
    | 1, _ => exact h5
    | 2, _ => exact h6 hj2
    | 3, _ => exact h7 hj2
    | j + 4, _ => omega

theorem named_ok (p : Pt) (h : p.named = true) : p.ok = true := by
  unfold Pt.named at h; rw [Bool.and_eq_true] at h; exact h.2
theorem name_parts (s : ByteArray) (h : name s = true) : (pts s).all Pt.named = true ∧ s.size ≠ 0 ∧ s.size ≤ 100 := by
  unfold name at h
  simp only [Bool.and_eq_true, decide_eq_true_eq] at h
  exact ⟨h.1, h.2.1, h.2.2⟩
theorem all_named_ok (l : List Pt) (h : l.all Pt.named = true) : l.all Pt.ok = true := by
  rw [List.all_eq_true] at h ⊢
  exact fun p hp => named_ok p (h p hp)

theorem name_more (s m : ByteArray) (hm : ∀ d, 0 < d → ((pts m).map (Pt.shift d)).all Pt.named = true) (h : name s = true) : name (s ++ m) = decide ((s.size : Int) + (m.size : Int) ≤ 100) := by
  obtain ⟨h1, h2, h3⟩ := name_parts s h
  unfold name
  rw [pts_app s m (all_named_ok _ h1), List.all_append, h1, hm s.size (by omega), ByteArray.size_append]
  rw [Bool.eq_iff_iff]
  simp only [Bool.and_eq_true, decide_eq_true_eq, ne_eq, true_and, Bool.and_true]
  omega

/-- A byte that goes on nothing begins a code point. -/
theorem ptsAt_last (u : ByteArray) (L : Nat) (hL : L < u.size) (hb : bY u L / 64 ≠ 2) : ∀ n pos, L - pos ≤ n → pos ≤ L → (⟨(Utf8.decode u L).1, L, (Utf8.decode u L).2⟩ : Pt) ∈ ptsAt u pos := by
  intro n
  induction n with
  | zero =>
    intro pos h1 h2
    have : pos = L := by omega
    subst this
    rw [ptsAt_step u pos hL]
    exact .head _
  | succ n ih =>
    intro pos h1 h2
    by_cases e : pos = L
    · subst e; rw [ptsAt_step u pos hL]; exact .head _
    · have hp : pos < u.size := by omega
      have hw := width_pos u pos hp
      have hle : pos + (Utf8.decode u pos).2 ≤ L := by
        rcases dec_facts u pos hp with ⟨h3, _⟩ | ⟨_, _, h3⟩
        · omega
        · by_cases hc : pos + (Utf8.decode u pos).2 ≤ L
          · exact hc
          · have := h3 (L - pos) (by omega) (by omega)
            rw [show pos + (L - pos) = L by omega] at this
            exact absurd this hb
      rw [ptsAt_step u pos hp]
      exact .tail _ (ih _ (by omega) hle)

theorem name_bad (s : ByteArray) (b : UInt8) (h : b = 32 ∨ b = 45 ∨ b = 255 ∨ b = 65 ∨ b = 39) : name (s ++ ⟨#[b]⟩) = false := by
  have hsz : (s ++ ⟨#[b]⟩).size = s.size + 1 := by rw [ByteArray.size_append]; rfl
  have hby : bY (s ++ ⟨#[b]⟩) s.size = b.toNat := by
    have := bY_app_hi s ⟨#[b]⟩ 0
    rw [Nat.add_zero] at this
    rw [this]; rfl
  have hb : bY (s ++ ⟨#[b]⟩) s.size / 64 ≠ 2 := by
    rw [hby]; rcases h with rfl | rfl | rfl | rfl | rfl <;> decide
  have hm := ptsAt_last (s ++ ⟨#[b]⟩) s.size (by omega) hb s.size 0 (by omega) (by omega)
  have hn : (⟨(Utf8.decode (s ++ ⟨#[b]⟩) s.size).1, s.size, (Utf8.decode (s ++ ⟨#[b]⟩) s.size).2⟩ : Pt).named = false := by
    have hd : Utf8.decode (s ++ ⟨#[b]⟩) s.size = Utf8.decode ⟨#[b]⟩ 0 := by
      have := dec_hi s ⟨#[b]⟩ 0
      rwa [Nat.add_zero] at this
    rw [hd]
    rcases h with rfl | rfl | rfl | rfl | rfl
    · rw [show Utf8.decode ⟨#[32]⟩ 0 = (32, 1) from by decide +kernel]; rfl
    · rw [show Utf8.decode ⟨#[45]⟩ 0 = (45, 1) from by decide +kernel]; rfl
    · rw [show Utf8.decode ⟨#[255]⟩ 0 = (65533, 1) from by decide +kernel]; unfold Pt.named; rw [show (⟨(65533, 1).1, s.size, (65533, 1).2⟩ : Pt).ok = false from rfl, Bool.and_false]
    · rw [show Utf8.decode ⟨#[65]⟩ 0 = (65, 1) from by decide +kernel]; rfl
    · rw [show Utf8.decode ⟨#[39]⟩ 0 = (39, 1) from by decide +kernel]; rfl
  unfold name
  have : (pts (s ++ ⟨#[b]⟩)).all Pt.named = false := by
    rw [List.all_eq_false]
    exact ⟨_, hm, by rw [hn]; decide⟩
  rw [this, Bool.false_and]

theorem name_seven (s : ByteArray) : name (⟨#[55]⟩ ++ s) = false := by
  unfold name
  rw [pts_app ⟨#[55]⟩ s (by decide +kernel), List.all_append]
  have : (pts ⟨#[55]⟩).all Pt.named = false := by decide +kernel
  rw [this, Bool.false_and, Bool.false_and]

theorem ptsAt_low (s : ByteArray) : ∀ n pos, s.size - pos ≤ n → (ptsAt s pos).all Pt.named = true → ∀ i, pos ≤ i → i < s.size → ¬ (65 ≤ bY s i ∧ bY s i ≤ 90) := by
  intro n
  induction n with
  | zero => intro pos h1 _ i h3 h4; omega
  | succ n ih =>
    intro pos h1 h2 i h3 h4
    have hp : pos < s.size := by omega
    have hw := width_pos s pos hp
    rw [ptsAt_step s pos hp, List.all_cons, Bool.and_eq_true] at h2
    by_cases hi : pos + (Utf8.decode s pos).2 ≤ i
    · exact ih _ (by omega) h2.2 i hi h4
    · rcases dec_facts s pos hp with ⟨h5, h6⟩ | ⟨h5, _, h6⟩
      · have : i = pos := by omega
        subst this
        have h7 := h2.1
        unfold Pt.named at h7
        rw [Bool.and_eq_true] at h7
        rcases h6 with ⟨h6, _⟩ | h6
        · rw [← h6]
          have h8 := h7.1
          unfold letterB digitB at h8
          simp only [Bool.or_eq_true, Bool.and_eq_true, decide_eq_true_eq, beq_iff_eq] at h8
          omega
        · have h8 := h7.2
          unfold Pt.ok at h8
          simp only [h6, h5] at h8
          exact absurd h8 (by decide)
      · by_cases e : i = pos
        · subst e; omega
        · have := h6 (i - pos) (by omega) (by omega)
          rw [show pos + (i - pos) = i by omega] at this
          omega

theorem name_fold (s : ByteArray) (h : name s = true) : fold s = s := by
  obtain ⟨h1, _, _⟩ := name_parts s h
  have hl := ptsAt_low s s.size 0 (by omega) h1
  unfold fold
  apply ByteArray.ext
  apply Array.ext
  · simp
  · intro i hi hi2
    have hi3 : i < s.size := hi2
    have := hl i (by omega) hi3
    rw [← bY_eq s i hi3] at this
    simp only [Array.getElem_map]
    have e : s.data[i] = s[i] := rfl
    rw [e]
    unfold lowB
    rw [if_neg]
    simp only [UInt8.le_iff_toNat_le]
    exact this

theorem lowB_lowB (c : UInt8) : lowB (lowB c) = lowB c := by
  have h := lowB_add c
  have h2 := lowB_add (lowB c)
  apply UInt8.toNat_inj.1
  rw [h2]
  split
  · rename_i hh
    rw [h] at hh
    split at hh <;> omega
  · rfl
theorem fold_fold (s : ByteArray) : fold (fold s) = fold s := by
  unfold fold
  apply ByteArray.ext
  simp only [Array.map_map]
  congr 1
  funext c
  exact lowB_lowB c
theorem fold_size (s : ByteArray) : (fold s).size = s.size := by
  show (s.data.map lowB).size = s.data.size
  simp

theorem bad_signN (n b0 b1 b2 b3 : Nat) (l0 : b0 < 256) (_l1 : b1 < 256) (_l2 : b2 < 256) (hr : (Lib.decodeN n b0 b1 b2 b3).1 = 65533) : 1 < (Lib.decodeN n b0 b1 b2 b3).2 ↔ (2 < n ∧ b0 = 239 ∧ b1 = 191 ∧ b2 = 189) := by
  unfold Lib.decodeN at hr ⊢
  by_cases a1 : b0 < 128
  · rw [if_pos a1] at hr ⊢; simp at hr ⊢; omega
  · rw [if_neg a1] at hr ⊢
    by_cases a2 : b0 / 32 = 6 ∧ (1 < n ∧ b1 / 64 = 2)
    · rw [if_pos a2] at hr ⊢
      split at hr
      · simp at hr; omega
      · rename_i hh; rw [if_neg hh]; simp; omega
    · rw [if_neg a2] at hr ⊢
      by_cases a3 : b0 / 16 = 14 ∧ (1 < n ∧ b1 / 64 = 2) ∧ (2 < n ∧ b2 / 64 = 2)
      · rw [if_pos a3] at hr ⊢
        split at hr
        · rename_i hh; rw [if_pos hh]; simp at hr ⊢; omega
        · rename_i hh; rw [if_neg hh]; simp; omega
      · rw [if_neg a3] at hr ⊢
        by_cases a4 : b0 / 8 = 30 ∧ (1 < n ∧ b1 / 64 = 2) ∧ (2 < n ∧ b2 / 64 = 2) ∧ (3 < n ∧ b3 / 64 = 2)
        · rw [if_pos a4] at hr ⊢
          split at hr
          · simp at hr; omega
          · rename_i hh; rw [if_neg hh]; simp; omega
        · rw [if_neg a4]; simp; omega

/-- The sign that stands for a wrong code point, itself in the text. -/
theorem bad_sign (s : ByteArray) (a : Nat) (hr : (Utf8.decode s a).1 = 65533) : 1 < (Utf8.decode s a).2 ↔ (a + 3 ≤ s.size ∧ bY s a = 239 ∧ bY s (a + 1) = 191 ∧ bY s (a + 2) = 189) := by
  rw [dec_bY] at hr ⊢
  rw [bad_signN _ _ _ _ _ (bY_lt _ _) (bY_lt _ _) (bY_lt _ _) hr]
  omega

end Cle
end Go.Proofs.YtfbgdjcnlnfoaaaDoor
