/- Plain laws: lex: a text's token in one form. -/
import Derived.Test.YtfbgdjcnlnfoaaaDoorPlainM
namespace Go.Proofs.YtfbgdjcnlnfoaaaDoor
namespace Cle
def unqS (s : ByteArray) (f : Int) : ByteArray := match unquote s f with | some x => x.1 | none => ⟨#[]⟩
def unqN (s : ByteArray) (f : Int) : Int := match unquote s f with | some x => x.2 | none => 0
def unqO (s : ByteArray) (f : Int) : Bool := (unquote s f).isSome
theorem unqV_eq (s : ByteArray) (f : Int) : unqV (unquote s f) = .tuple #[.string (unqS s f), .int .i64 (unqN s f), .bool (unqO s f)] := by
  unfold unqS unqN unqO
  cases unquote s f <;> rfl
theorem textEnd_zero (P : List Pt) (i : Nat) : textEnd P 0 i = i := by
  unfold textEnd
  refine runTo_stop ?_
  cases P[i]? with
  | none => rfl
  | some p => exact decide_eq_false (by omega)
theorem textO_eq (s : ByteArray) (P : List Pt) (i : Nat) :
    textO s P i = (⟨3, unqS s (byteAt s P i), 0, i⟩, unqO s (byteAt s P i) && (decide ((unqS s (byteAt s P i)).size ≤ 100) && valid (unqS s (byteAt s P i))), textEnd P (unqN s (byteAt s P i)) i) := by
  unfold textO unqS unqN unqO
  cases unquote s (byteAt s P i) with
  | none => simp [textEnd_zero]
  | some x => simp
theorem unqL_le : ∀ (n : Nat) (l : List UInt8), l.length ≤ n → ∀ x, unq l = some x → x.1.length ≤ l.length ∧ x.2 ≤ l.length := by
  intro n
  induction n with
  | zero => intro l hl x hx; cases l with | nil => simp [unq] at hx | cons => simp at hl
  | succ n ih =>
    intro l hl x hx
    match l with
    | [] => simp [unq] at hx
    | c :: t =>
      rw [unq.eq_def] at hx
      simp only at hx
      by_cases hc : c = 39
      · rw [if_pos hc] at hx
        match t with
        | [] => simp at hx; subst hx; simp
        | d :: u =>
          simp only at hx
          by_cases hd : d = 39
          · rw [if_pos hd] at hx
            obtain ⟨y, hy, rfl⟩ := Option.map_eq_some_iff.1 hx
            have := ih u (by simp at hl; omega) y hy
            simp only [List.length_cons]; omega
          · rw [if_neg hd] at hx
            cases hx; simp
      · rw [if_neg hc] at hx
        obtain ⟨y, hy, rfl⟩ := Option.map_eq_some_iff.1 hx
        have := ih t (by simp at hl; omega) y hy
        simp only [List.length_cons]; omega
theorem unqS_size (s : ByteArray) (f : Int) : (unqS s f).size ≤ s.size := by
  unfold unqS unquote
  by_cases h : 0 ≤ f ∧ f < s.size ∧ s.data.toList[f.toNat]? = some 39
  · rw [if_pos h]
    cases hu : unq (s.data.toList.drop (f.toNat + 1)) with
    | none => exact Nat.zero_le _
    | some x =>
      have := (unqL_le _ _ (Nat.le_refl _) x hu).1
      simp only [Option.map_some, List.length_drop] at this ⊢
      show x.1.toArray.size ≤ s.data.size
      rw [Array.length_toList] at this
      rw [List.size_toArray]; omega
  · rw [if_neg h]; exact Nat.zero_le _
theorem unqN_bd (s : ByteArray) (f : Int) : 0 ≤ unqN s f ∧ unqN s f ≤ s.size := by
  unfold unqN unquote
  by_cases h : 0 ≤ f ∧ f < s.size ∧ s.data.toList[f.toNat]? = some 39
  · rw [if_pos h]
    cases hu : unq (s.data.toList.drop (f.toNat + 1)) with
    | none => simp
    | some x =>
      have h2 := (unqL_le _ _ (Nat.le_refl _) x hu).2
      obtain ⟨h0, h1, _⟩ := h
      have h3 : s.data.toList.length = s.size := rfl
      simp only [Option.map_some, List.length_drop] at h2 ⊢
      omega
  · rw [if_neg h]; simp
def sig6 : ByteArray := ⟨#[40, 41, 44, 59, 61, 42]⟩
def sigC (q : Nat) : Nat := [40, 41, 44, 59, 61, 42].getD q 0
theorem sig6_dec (q : Nat) (h : q < 6) : Utf8.decode sig6 q = (sigC q, 1) := by
  have : q = 0 ∨ q = 1 ∨ q = 2 ∨ q = 3 ∨ q = 4 ∨ q = 5 := by omega
  rcases this with rfl | rfl | rfl | rfl | rfl | rfl <;> decide +kernel
theorem sigC_lt (q : Nat) (h : q < 6) : 40 ≤ sigC q ∧ sigC q < 62 := by
  have : q = 0 ∨ q = 1 ∨ q = 2 ∨ q = 3 ∨ q = 4 ∨ q = 5 := by omega
  rcases this with rfl | rfl | rfl | rfl | rfl | rfl <;> decide
theorem sig_yes {P : List Pt} {i q : Nat} (h : q < 6) (hb : isB P i (sigC q) = true) : rAt P i = sigC q ∧ signB (rAt P i) = true := by
  unfold isB at hb
  unfold rAt
  cases hp : P[i]? with
  | none => rw [hp] at hb; cases hb
  | some p =>
    rw [hp] at hb
    have e : (p.r : Int) = sigC q := by simpa using hb
    refine ⟨e, ?_⟩
    show signB (p.r : Int) = true
    rw [e]
    have : q = 0 ∨ q = 1 ∨ q = 2 ∨ q = 3 ∨ q = 4 ∨ q = 5 := by omega
    rcases this with rfl | rfl | rfl | rfl | rfl | rfl <;> decide
theorem sig_no {P : List Pt} {i : Nat} (h : ∀ q, q < 6 → isB P i (sigC q) = false) : signB (rAt P i) = false := by
  have h0 := h 0 (by omega); have h1 := h 1 (by omega); have h2 := h 2 (by omega); have h3 := h 3 (by omega); have h4 := h 4 (by omega); have h5 := h 5 (by omega)
  unfold isB at h0 h1 h2 h3 h4 h5
  unfold rAt signB
  cases hp : P[i]? with
  | none => rfl
  | some p =>
    rw [hp] at h0 h1 h2 h3 h4 h5
    simp only [sigC, List.getD_cons_zero, List.getD_cons_succ] at h0 h1 h2 h3 h4 h5
    show (((((((p.r : Int) == 40) || (p.r : Int) == 41) || (p.r : Int) == 44) || (p.r : Int) == 59) || (p.r : Int) == 61) || (p.r : Int) == 42) = false
    rw [show ((p.r : Int) == 40) = false from h0, show ((p.r : Int) == 41) = false from h1, show ((p.r : Int) == 44) = false from h2, show ((p.r : Int) == 59) = false from h3, show ((p.r : Int) == 61) = false from h4, show ((p.r : Int) == 42) = false from h5]
    rfl
end Cle
end Go.Proofs.YtfbgdjcnlnfoaaaDoor
