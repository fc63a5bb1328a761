/- Plain facts: what the library's ReplaceAll makes of a text whose quotes are doubled. -/
import Derived.Test.YtfbgdjcnlnfoaaaDoorPlainB
import Derived.Lib.Replace
namespace Go.Proofs.YtfbgdjcnlnfoaaaDoor
namespace Cle
open Lib

def dbl (c : UInt8) : List UInt8 := if c = 39 then [39, 39] else [c]

theorem replaceK_dbl : ∀ l : List UInt8, replaceK [39] [39, 39] (count l [39]) l = l.flatMap dbl
  | [] => rfl
  | c :: t => by
    have ih := replaceK_dbl t
    by_cases h : c = 39
    · subst h
      have hi : index (39 :: t) [39] = ((0 : Nat) : Int) := by simp [index, List.isPrefixOf]
      rw [count_hit (by simp) hi, Nat.add_comm, replaceK_hit _ _ _ _ 0 hi]
      simp only [List.take_zero, List.nil_append, List.length_singleton, Nat.zero_add, List.drop_one, List.tail_cons]
      rw [ih]
      rfl
    · have hp : ([39] : List UInt8).isPrefixOf (c :: t) = false := by
        simp [List.isPrefixOf, Ne.symm h]
      have hidx : index (c :: t) [39] = if index t [39] == -1 then -1 else index t [39] + 1 := by
        rw [index, hp]; rfl
      have hd : (c :: t).flatMap dbl = c :: t.flatMap dbl := by simp [dbl, h]
      rw [hd, ← ih]
      by_cases hm : index t [39] = -1
      · have h1 : index (c :: t) [39] = -1 := by rw [hidx]; simp [hm]
        rw [count_miss h1, count_miss hm]
        rfl
      · have hge := index_ge t [39]
        obtain ⟨i, hi⟩ : ∃ i : Nat, index t [39] = i := ⟨(index t [39]).toNat, by omega⟩
        have h1 : index (c :: t) [39] = ((i + 1 : Nat) : Int) := by
          rw [hidx, hi]
          have : ¬ ((i : Int) == -1) = true := by simp
          rw [if_neg this]; omega
        rw [count_hit (by simp) h1, count_hit (by simp) hi]
        have hdr : (c :: t).drop (i + 1 + ([39] : List UInt8).length) = t.drop (i + ([39] : List UInt8).length) := by simp
        rw [hdr, Nat.add_comm 1, replaceK_hit _ _ _ _ (i + 1) h1, replaceK_hit _ _ _ _ i hi, hdr]
        simp

theorem replaceAll_dbl (l : List UInt8) : replaceAll l [39] [39, 39] = l.flatMap dbl := by
  unfold replaceAll replace replaceNum
  rw [if_neg (by decide), if_pos (by left; decide)]
  exact replaceK_dbl l

theorem count_len (l : List UInt8) : (l.flatMap dbl).length ≤ 2 * l.length := by
  induction l with
  | nil => simp
  | cons c t ih =>
    simp only [List.flatMap_cons, List.length_append, List.length_cons]
    have : (dbl c).length ≤ 2 := by unfold dbl; split <;> simp
    omega

theorem quote_dbl (s : ByteArray) : quote s = ⟨(39 :: (s.data.toList.flatMap dbl ++ [39])).toArray⟩ := rfl

end Cle
end Go.Proofs.YtfbgdjcnlnfoaaaDoor
