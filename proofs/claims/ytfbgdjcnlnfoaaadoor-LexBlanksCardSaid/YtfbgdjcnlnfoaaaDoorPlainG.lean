/- Plain laws of layer 1: what is quoted is unquoted; names with a letter more; folded names. -/
import Derived.Test.YtfbgdjcnlnfoaaaDoorPlainF
namespace Go.Proofs.YtfbgdjcnlnfoaaaDoor
namespace Cle

/-- A number as one from 0 to n - 1. -/
def place (v n : Int) : Int := v % n

theorem unq_dbl (rest : List UInt8) (hr : rest.head? ≠ some 39) : ∀ l : List UInt8, unq (l.flatMap dbl ++ 39 :: rest) = some (l, (l.flatMap dbl).length + 1)
  | [] => by
    rw [List.flatMap_nil, List.nil_append, unq.eq_def]
    cases rest with
    | nil => simp
    | cons d u =>
      have : d ≠ 39 := fun e => hr (by rw [e]; rfl)
      simp [this]
  | c :: t => by
    have ih := unq_dbl rest hr t
    by_cases hc : c = 39
    · subst hc
      have e : (39 :: t).flatMap dbl ++ 39 :: rest = 39 :: 39 :: (t.flatMap dbl ++ 39 :: rest) := by simp [dbl]
      rw [e, unq.eq_def]
      simp [ih, dbl]
    · have e : (c :: t).flatMap dbl ++ 39 :: rest = c :: (t.flatMap dbl ++ 39 :: rest) := by simp [dbl, hc]
      rw [e, unq.eq_def]
      simp [ih, dbl, hc]

theorem unq_cut : ∀ (l : List UInt8) (m : Nat), m ≤ (l.flatMap dbl).length → ∀ x, unq ((l.flatMap dbl).take m) = some x → x.1.length < l.length
  | [], m, _, x, h => by simp [unq] at h
  | c :: t, m, hm, x, h => by
    have ih := unq_cut t
    by_cases hc : c = 39
    · subst hc
      have e : (39 :: t).flatMap dbl = 39 :: 39 :: t.flatMap dbl := by simp [dbl]
      rw [e] at h hm
      match m, hm, h with
      | 0, _, h => simp [unq] at h
      | 1, _, h =>
        have e2 : (39 :: 39 :: t.flatMap dbl).take 1 = [39] := rfl
        rw [e2, unq.eq_def] at h
        simp at h
        subst h
        simp
      | m + 2, hm, h =>
        have e2 : (39 :: 39 :: t.flatMap dbl).take (m + 2) = 39 :: 39 :: (t.flatMap dbl).take m := rfl
        rw [e2, unq.eq_def] at h
        simp at h
        obtain ⟨a, b, h1, h2⟩ := h
        have := ih m (by simp only [List.length_cons] at hm; omega) _ h1
        subst h2
        simp at this ⊢
        omega
    · have e : (c :: t).flatMap dbl = c :: t.flatMap dbl := by simp [dbl, hc]
      rw [e] at h hm
      match m, hm, h with
      | 0, _, h => simp [unq] at h
      | m + 1, hm, h =>
        have e2 : (c :: t.flatMap dbl).take (m + 1) = c :: (t.flatMap dbl).take m := rfl
        rw [e2, unq.eq_def] at h
        simp [hc] at h
        obtain ⟨a, b, h1, h2⟩ := h
        have := ih m (by simp only [List.length_cons] at hm; omega) _ h1
        subst h2
        simp at this ⊢
        omega

theorem quote_data (s : ByteArray) : (quote s).data.toList = 39 :: (s.data.toList.flatMap dbl ++ [39]) := by rw [quote_dbl]
theorem quote_size (s : ByteArray) : (quote s).size = (s.data.toList.flatMap dbl).length + 2 := by
  have : (quote s).data.toList.length = (quote s).size := by simp
  rw [← this, quote_data]
  simp

/-- What is quoted is unquoted, behind anything. -/
theorem unquote_quote (s h : ByteArray) : unquote (h ++ quote s ++ ⟨#[120]⟩) h.size = some (s, (h.size : Int) + (quote s).size) := by
  have hd : (h ++ quote s ++ ⟨#[120]⟩).data.toList = h.data.toList ++ (39 :: (s.data.toList.flatMap dbl ++ 39 :: [120])) := by
    rw [ByteArray.data_append, ByteArray.data_append, Array.toList_append, Array.toList_append, quote_data]
    simp
  have hl : h.data.toList.length = h.size := by simp
  have hq := quote_size s
  unfold unquote
  have hsz : (h ++ quote s ++ ⟨#[120]⟩).size = h.size + (quote s).size + 1 := by
    rw [ByteArray.size_append, ByteArray.size_append]; rfl
  rw [if_pos]
  · rw [hd, Int.toNat_natCast]
    have e1 : (h.data.toList ++ (39 :: (s.data.toList.flatMap dbl ++ 39 :: [120]))).drop (h.size + 1) = s.data.toList.flatMap dbl ++ 39 :: [120] := by
      rw [← hl, List.drop_append]
      simp
    have e3 : (⟨s.data.toList.toArray⟩ : ByteArray) = s := by simp
    rw [e1, unq_dbl [120] (by decide), Option.map_some, e3]
    refine congrArg some (Prod.ext rfl ?_)
    show (h.size : Int) + 1 + (((s.data.toList.flatMap dbl).length + 1 : Nat) : Int) = (h.size : Int) + ((quote s).size : Int)
    omega
  · refine ⟨by omega, by omega, ?_⟩
    rw [hd, Int.toNat_natCast, ← hl, List.getElem?_append_right (Nat.le_refl _)]
    simp

theorem unquote_cut (s : ByteArray) (k : Nat) (hk : k < (quote s).size) (x : ByteArray × Int) (h : unquote ((quote s).extract 0 k) 0 = some x) : x.1.size < s.size := by
  have hd : ((quote s).extract 0 k).data.toList = (39 :: (s.data.toList.flatMap dbl ++ [39])).take k := by
    rw [ByteArray.data_extract, Array.toList_extract, quote_data]
    simp
  have hq := quote_size s
  unfold unquote at h
  split at h
  · rename_i hc
    have hk0 : 0 < k := by
      rcases Nat.eq_zero_or_pos k with h0 | h0
      · subst h0
        have := hc.2.1
        simp at this
      · exact h0
    obtain ⟨m, rfl⟩ : ∃ m, k = m + 1 := ⟨k - 1, by omega⟩
    rw [hd] at h
    have e : ((39 :: (s.data.toList.flatMap dbl ++ [39])).take (m + 1)).drop ((0 : Int).toNat + 1) = (s.data.toList.flatMap dbl).take m := by
      simp only [List.take_succ_cons, Int.toNat_zero, Nat.zero_add, List.drop_succ_cons, List.drop_zero]
      rw [List.take_append_of_le_length (by omega)]
    rw [e] at h
    cases hu : unq ((s.data.toList.flatMap dbl).take m) with
    | none => rw [hu] at h; simp at h
    | some y =>
      rw [hu] at h
      have := unq_cut s.data.toList m (by omega) y hu
      simp at h
      subst h
      have hl : s.data.toList.length = s.size := by simp
      have e2 : (⟨y.1.toArray⟩ : ByteArray).size = y.1.length := by simp [ByteArray.size]
      show (⟨y.1.toArray⟩ : ByteArray).size < s.size
      omega
  · simp at h

/-- Each quote is doubled, nothing else. -/
theorem dbl_count (l : List UInt8) : (l.flatMap dbl).length = l.length + l.count 39 := by
  induction l with
  | nil => rfl
  | cons c t ih =>
    simp only [List.flatMap_cons, List.length_append, List.length_cons, ih, List.count_cons]
    by_cases h : c = 39
    · subst h; simp [dbl]; omega
    · have : (c == 39) = false := beq_eq_false_iff_ne.2 h
      simp [dbl, h, this]; omega

end Cle
end Go.Proofs.YtfbgdjcnlnfoaaaDoor
