/- Plain: lex: tokens go on; steps of all tokens. -/
import Derived.Test.YtfbgdjcnlnfoaaaDoorPlainN
namespace Go.Proofs.YtfbgdjcnlnfoaaaDoor
namespace Cle

theorem runTo_gt {f : Nat → Bool} {len i : Nat} (h : i < len) (hf : f i = true) : i < runTo f len i := by
  rw [runTo_go h hf]; exact runTo_ge f len (i + 1)
theorem letB_digB_lt {P : List Pt} {i : Nat} (h : letB P i = true) : i < wordEnd P i ∧ wordEnd P i ≤ P.length := by
  have hl := letB_lt h
  exact ⟨runTo_gt hl (by simp [h]), (runTo_le _ P.length i (by omega)).2⟩
theorem numF_ok (P : List Pt) : ∀ n i v, (numF P n i v false).2.1 = false := by
  intro n
  induction n with
  | zero => intro i v; rfl
  | succ n ih => intro i v; rw [numF]; split <;> simp [ih]
theorem numR_gt {P : List Pt} {i : Nat} (hi : i < P.length) (h : (numR P i).2.1 = true) : i < (numR P i).2.2 ∧ (numR P i).2.2 ≤ P.length := by
  unfold numR at h ⊢
  cases hd : digB P (numStart P i) with
  | false => rw [hd] at h; unfold num at h; rw [numF_ok] at h; cases h
  | true =>
    have hl := digB_lt hd
    have h1 : i ≤ numStart P i := by unfold numStart; split <;> omega
    rw [num_go hd]
    have := numF_ge P (P.length - (numStart P i + 1)) (numStart P i + 1) (min (0 * 10 + (rAt P (numStart P i) - 48)) 1099511627776) (true && decide (0 * 10 + (rAt P (numStart P i) - 48) ≤ 1099511627776))
    unfold num
    omega
theorem unqN_gt (s : ByteArray) (n : Nat) (h : unqO s n = true) : (n : Int) < unqN s n := by
  unfold unqO at h
  unfold unqN
  unfold unquote at h ⊢
  split at h
  · rename_i hc
    rw [if_pos hc]
    cases hu : unq (s.data.toList.drop ((n : Int).toNat + 1)) with
    | none => rw [hu] at h; cases h
    | some x => simp only [Option.map_some]; omega
  · cases h
theorem tokO_gt {s : ByteArray} {P : List Pt} {i : Nat} (hi : i < P.length) (h : (tokO s P i).2.1 = true) : i < (tokO s P i).2.2 ∧ (tokO s P i).2.2 ≤ P.length := by
  unfold tokO at h ⊢
  split
  · rename_i hl; exact letB_digB_lt hl
  · rename_i hl
    rw [if_neg hl] at h
    split
    · rename_i hd
      rw [if_pos hd] at h
      have : (numR P i).2.1 = true := by
        have h' : ((numR P i).2.1 && !letB P (numR P i).2.2) = true := h
        rw [Bool.and_eq_true] at h'; exact h'.1
      exact numR_gt hi this
    · rename_i hd
      rw [if_neg hd] at h
      split
      · rename_i hq
        rw [if_pos hq] at h
        rw [textO_eq] at h ⊢
        simp only [Bool.and_eq_true] at h
        have hg := unqN_gt s (byteAt s P i) h.1
        unfold textEnd
        refine ⟨runTo_gt hi ?_, (runTo_le _ P.length i (by omega)).2⟩
        have hb : byteAt s P i = P[i].at_ := by unfold byteAt; rw [List.getElem?_eq_getElem hi]
        simp only [List.getElem?_eq_getElem hi]
        exact decide_eq_true (by rw [← hb]; exact hg)
      · rename_i hq
        rw [if_neg hq] at h
        split
        · show i < i + 1 ∧ i + 1 ≤ P.length; omega
        · rename_i hs
          rw [if_neg hs] at h; cases h
theorem lexF_end {s : ByteArray} {P : List Pt} {n j : Nat} (h : P.length ≤ skip P j) : lexF s P (n + 1) j = .ok [] := by rw [lexF, if_pos h]
theorem lexF_bad {s : ByteArray} {P : List Pt} {n j : Nat} (h : skip P j < P.length) (hb : (tokO s P (skip P j)).2.1 = false) : lexF s P (n + 1) j = .error (skip P j) := by
  rw [lexF, if_neg (by omega), if_neg (by rw [hb]; decide)]
theorem lexF_go {s : ByteArray} {P : List Pt} {n j : Nat} (h : skip P j < P.length) (hb : (tokO s P (skip P j)).2.1 = true) : lexF s P (n + 1) j = (lexF s P n (tokO s P (skip P j)).2.2).map ((tokO s P (skip P j)).1 :: ·) := by
  rw [lexF, if_neg (by omega), if_pos hb]
theorem skip_le_len (P : List Pt) : ∀ n i, i ≤ P.length → skipF P n i ≤ P.length := by
  intro n
  induction n with
  | zero => intro i h; exact h
  | succ n ih =>
    intro i h
    rw [skipF]
    split
    · exact h
    · split
      · exact ih (i + 1) (by omega)
      · split
        · rename_i hd; exact ih _ (lineEnd_gt hd).2
        · exact h
theorem exmap_step {s : ByteArray} {P : List Pt} {n m j : Nat} {done : List Tk} {R : Except Nat (List Tk)} (h : R = (lexF s P (n + 1) j).map (done ++ ·)) (h1 : skip P j < P.length) (hb : (tokO s P (skip P j)).2.1 = true) (hm : m = (tokO s P (skip P j)).2.2) :
    R = (lexF s P n m).map ((done ++ [(tokO s P (skip P j)).1]) ++ ·) := by
  rw [h, lexF_go h1 hb, hm]
  cases lexF s P n (tokO s P (skip P j)).2.2 with
  | error a => rfl
  | ok l => simp [Except.map]

theorem lexF_len (s : ByteArray) (P : List Pt) : ∀ n i l, lexF s P n i = .ok l → l.length ≤ n := by
  intro n
  induction n with
  | zero => intro i l h; rw [lexF] at h; cases h; exact Nat.le_refl _
  | succ n ih =>
    intro i l h
    rw [lexF] at h
    split at h
    · cases h; exact Nat.zero_le _
    · split at h
      · cases hx : lexF s P n (tokO s P (skip P i)).2.2 with
        | error a => rw [hx] at h; cases h
        | ok m =>
          rw [hx] at h
          have := ih _ _ hx
          have e : l = (tokO s P (skip P i)).1 :: m := by cases h; rfl
          rw [e, List.length_cons]; omega
      · cases h
theorem lexL_len (s : ByteArray) : (lexL s).1.length ≤ s.size + 1 := by
  unfold lexL
  split
  · exact Nat.zero_le _
  · have hp := (ptsOK_pts s).1
    split
    · rename_i l h
      have := lexF_len s (pts s) _ _ _ h
      show l.length ≤ _; omega
    · exact Nat.zero_le _

end Cle
end Go.Proofs.YtfbgdjcnlnfoaaaDoor
