/- Plain: lex: a text's tokens behind a place are those of the text from there on. -/
import Derived.Test.YtfbgdjcnlnfoaaaDoorPlainO
namespace Go.Proofs.YtfbgdjcnlnfoaaaDoor
namespace Cle

/-- A text's end, from a code point on: its bytes, its code points. -/
structure Cut (s t : ByteArray) (A : List Pt) (d : Nat) : Prop where
  bytes : s.data.toList.drop d = t.data.toList
  size : s.size = d + t.size
  pts : pts s = A ++ (pts t).map (Pt.shift d)

theorem runF_on (m : Nat) (f g : Nat → Bool) (hfg : ∀ j, f (m + j) = g j) : ∀ n k, runF f n (m + k) = m + runF g n k := by
  intro n
  induction n with
  | zero => intro k; rfl
  | succ n ih =>
    intro k
    rw [runF, runF, hfg k]
    split
    · exact ih (k + 1)
    · rfl

section
variable {s t : ByteArray} {A : List Pt} {d : Nat} (h : Cut s t A d)
include h
theorem Cut.len : (Cle.pts s).length = A.length + (Cle.pts t).length := by rw [h.pts]; simp
theorem Cut.get (k : Nat) : (Cle.pts s)[A.length + k]? = ((Cle.pts t)[k]?).map (Pt.shift d) := by
  rw [h.pts, List.getElem?_append_right (by omega), List.getElem?_map]
  rw [show A.length + k - A.length = k by omega]
theorem Cut.isB (k : Nat) (r : Int) : Cle.isB (Cle.pts s) (A.length + k) r = Cle.isB (Cle.pts t) k r := by
  unfold Cle.isB; rw [h.get k]; cases (Cle.pts t)[k]? <;> rfl
theorem Cut.letB (k : Nat) : Cle.letB (Cle.pts s) (A.length + k) = Cle.letB (Cle.pts t) k := by
  unfold Cle.letB; rw [h.get k]; cases (Cle.pts t)[k]? <;> rfl
theorem Cut.digB (k : Nat) : Cle.digB (Cle.pts s) (A.length + k) = Cle.digB (Cle.pts t) k := by
  unfold Cle.digB; rw [h.get k]; cases (Cle.pts t)[k]? <;> rfl
theorem Cut.rAt (k : Nat) : Cle.rAt (Cle.pts s) (A.length + k) = Cle.rAt (Cle.pts t) k := by
  unfold Cle.rAt; rw [h.get k]; cases (Cle.pts t)[k]? <;> rfl
theorem Cut.byteAt (k : Nat) : Cle.byteAt s (Cle.pts s) (A.length + k) = d + Cle.byteAt t (Cle.pts t) k := by
  unfold Cle.byteAt; rw [h.get k]
  cases (Cle.pts t)[k]? with
  | none => exact h.size
  | some p => exact Nat.add_comm _ _
theorem Cut.runTo (f g : Nat → Bool) (hfg : ∀ j, f (A.length + j) = g j) (k : Nat) : Cle.runTo f (Cle.pts s).length (A.length + k) = A.length + Cle.runTo g (Cle.pts t).length k := by
  unfold Cle.runTo
  rw [h.len, show A.length + (Cle.pts t).length - (A.length + k) = (Cle.pts t).length - k by omega]
  exact runF_on A.length f g hfg _ _
theorem Cut.lineEnd (k : Nat) : Cle.lineEnd (Cle.pts s) (A.length + k) = A.length + Cle.lineEnd (Cle.pts t) k :=
  h.runTo _ _ (fun j => by rw [h.isB]) k
theorem Cut.skipF : ∀ n k, Cle.skipF (Cle.pts s) n (A.length + k) = A.length + Cle.skipF (Cle.pts t) n k := by
  intro n
  induction n with
  | zero => intro k; rfl
  | succ n ih =>
    intro k
    rw [Cle.skipF, Cle.skipF, h.len]
    unfold blankB dashB
    rw [h.isB, h.isB, h.isB, h.isB, h.isB, Nat.add_assoc, h.isB, h.lineEnd]
    by_cases h1 : (Cle.pts t).length ≤ k
    · rw [if_pos (by omega), if_pos h1]
    · rw [if_neg (by omega), if_neg h1]
      split
      · exact ih (k + 1)
      · split
        · exact ih _
        · rfl
theorem Cut.skip (k : Nat) : Cle.skip (Cle.pts s) (A.length + k) = A.length + Cle.skip (Cle.pts t) k := by
  unfold Cle.skip
  rw [h.len, show A.length + (Cle.pts t).length - (A.length + k) = (Cle.pts t).length - k by omega]
  exact h.skipF _ _
theorem Cut.numF : ∀ n k v ok, Cle.numF (Cle.pts s) n (A.length + k) v ok = ((Cle.numF (Cle.pts t) n k v ok).1, (Cle.numF (Cle.pts t) n k v ok).2.1, A.length + (Cle.numF (Cle.pts t) n k v ok).2.2) := by
  intro n
  induction n with
  | zero => intro k v ok; rfl
  | succ n ih =>
    intro k v ok
    rw [Cle.numF, Cle.numF, h.digB, h.rAt]
    split
    · exact ih (k + 1) _ _
    · rfl
theorem Cut.num (k : Nat) (v : Int) (ok : Bool) : Cle.num (Cle.pts s) (A.length + k) v ok = ((Cle.num (Cle.pts t) k v ok).1, (Cle.num (Cle.pts t) k v ok).2.1, A.length + (Cle.num (Cle.pts t) k v ok).2.2) := by
  unfold Cle.num
  rw [h.len, show A.length + (Cle.pts t).length - (A.length + k) = (Cle.pts t).length - k by omega]
  exact h.numF _ _ _ _
theorem Cut.extract (a b : Nat) : s.extract (d + a) (d + b) = t.extract a b := by
  apply ByteArray.ext
  apply Array.ext'
  simp only [ByteArray.data_extract, Array.toList_extract, List.extract_eq_take_drop]
  rw [← List.drop_drop, h.bytes, show d + b - (d + a) = b - a by omega]
theorem Cut.wordEnd (k : Nat) : Cle.wordEnd (Cle.pts s) (A.length + k) = A.length + Cle.wordEnd (Cle.pts t) k :=
  h.runTo _ _ (fun j => by rw [h.letB, h.digB]) k
theorem Cut.wordT (k : Nat) : Cle.wordT s (Cle.pts s) (A.length + k) = Cle.wordT t (Cle.pts t) k := by
  unfold Cle.wordT
  rw [h.wordEnd, h.byteAt, h.byteAt, h.extract]
/-- A token further on. -/
def Tk.on (m : Nat) (x : Tk) : Tk := ⟨x.kind, x.s, x.n, x.at_ + m⟩
theorem Cut.wordO (k : Nat) : Cle.wordO s (Cle.pts s) (A.length + k) = ((Cle.wordO t (Cle.pts t) k).1.on A.length, (Cle.wordO t (Cle.pts t) k).2.1, A.length + (Cle.wordO t (Cle.pts t) k).2.2) := by
  unfold Cle.wordO
  rw [h.wordT, h.wordEnd, Nat.add_comm A.length k]; rfl
theorem Cut.numStart (k : Nat) : Cle.numStart (Cle.pts s) (A.length + k) = A.length + Cle.numStart (Cle.pts t) k := by
  unfold Cle.numStart
  rw [h.isB]; split <;> omega
theorem Cut.numR (k : Nat) : Cle.numR (Cle.pts s) (A.length + k) = ((Cle.numR (Cle.pts t) k).1, (Cle.numR (Cle.pts t) k).2.1, A.length + (Cle.numR (Cle.pts t) k).2.2) := by
  unfold Cle.numR
  rw [h.numStart, h.num, h.digB]
theorem Cut.numberO (k : Nat) : Cle.numberO (Cle.pts s) (A.length + k) = ((Cle.numberO (Cle.pts t) k).1.on A.length, (Cle.numberO (Cle.pts t) k).2.1, A.length + (Cle.numberO (Cle.pts t) k).2.2) := by
  unfold Cle.numberO
  rw [h.numR, h.isB]
  simp only [h.letB, Tk.on]
  rw [Nat.add_comm k]
theorem Cut.unquote (a : Nat) : Cle.unquote s ((d + a : Nat) : Int) = (Cle.unquote t a).map fun x => (x.1, x.2 + (d : Int)) := by
  unfold Cle.unquote
  have hb : s.data.toList[d + a]? = t.data.toList[a]? := by rw [← h.bytes, List.getElem?_drop]
  have hs := h.size
  simp only [Int.toNat_natCast]
  rw [hb]
  by_cases hc : a < t.size ∧ t.data.toList[a]? = some 39
  · rw [if_pos ⟨by omega, by omega, hc.2⟩, if_pos ⟨by omega, by omega, hc.2⟩]
    rw [show s.data.toList.drop (d + a + 1) = t.data.toList.drop (a + 1) by rw [← h.bytes, List.drop_drop, Nat.add_assoc]]
    cases unq (t.data.toList.drop (a + 1)) with
    | none => rfl
    | some x => simp only [Option.map_some, Option.some.injEq, Prod.mk.injEq, true_and]; omega
  · rw [if_neg (fun h => hc ⟨by omega, h.2.2⟩), if_neg (fun h => hc ⟨by omega, h.2.2⟩)]; rfl
theorem Cut.textEnd (next : Int) (k : Nat) : Cle.textEnd (Cle.pts s) (next + d) (A.length + k) = A.length + Cle.textEnd (Cle.pts t) next k := by
  refine h.runTo _ _ (fun j => ?_) k
  rw [h.get j]
  cases (Cle.pts t)[j]? with
  | none => rfl
  | some p =>
    show decide (((p.at_ + d : Nat) : Int) < next + d) = decide ((p.at_ : Int) < next)
    rw [decide_eq_decide]; omega
theorem Cut.textO (k : Nat) : Cle.textO s (Cle.pts s) (A.length + k) = ((Cle.textO t (Cle.pts t) k).1.on A.length, (Cle.textO t (Cle.pts t) k).2.1, A.length + (Cle.textO t (Cle.pts t) k).2.2) := by
  unfold Cle.textO
  rw [h.byteAt, h.unquote]
  cases Cle.unquote t (Cle.byteAt t (Cle.pts t) k) with
  | none => simp only [Option.map_none, Tk.on]; rw [Nat.add_comm k]
  | some x => simp only [Option.map_some, Tk.on]; rw [h.textEnd, Nat.add_comm k]
/-- The next token, as of the text from there on. -/
theorem Cut.tokO (k : Nat) (hok : (Cle.tokO t (Cle.pts t) k).2.1 = true) : Cle.tokO s (Cle.pts s) (A.length + k) = ((Cle.tokO t (Cle.pts t) k).1.on A.length, true, A.length + (Cle.tokO t (Cle.pts t) k).2.2) := by
  rw [← hok]
  unfold Cle.tokO at hok ⊢
  rw [h.letB, h.digB, h.isB, h.isB, h.rAt]
  split
  · exact h.wordO k
  · rename_i h1
    rw [if_neg h1] at hok
    split
    · exact h.numberO k
    · rename_i h2
      rw [if_neg h2] at hok
      split
      · exact h.textO k
      · rename_i h3
        rw [if_neg h3] at hok
        split
        · simp only [Tk.on]; rw [Nat.add_comm k]; rfl
        · rename_i h4
          rw [if_neg h4] at hok; cases hok
theorem Cut.tokOk (k : Nat) : (Cle.tokO s (Cle.pts s) (A.length + k)).2.1 = (Cle.tokO t (Cle.pts t) k).2.1 := by
  unfold Cle.tokO
  rw [h.letB, h.digB, h.isB, h.isB, h.rAt]
  split
  · rw [h.wordO k]
  · split
    · rw [h.numberO k]
    · split
      · rw [h.textO k]
      · split <;> rfl
/-- All tokens from there on. -/
def lexOn (m : Nat) : Except Nat (List Tk) → Except Nat (List Tk)
  | .ok l => .ok (l.map (Tk.on m))
  | .error a => .error (m + a)
theorem Cut.lexF : ∀ n k, Cle.lexF s (Cle.pts s) n (A.length + k) = lexOn A.length (Cle.lexF t (Cle.pts t) n k) := by
  intro n
  induction n with
  | zero => intro k; rfl
  | succ n ih =>
    intro k
    rw [Cle.lexF, Cle.lexF, h.skip, h.len, h.tokOk]
    by_cases h1 : (Cle.pts t).length ≤ Cle.skip (Cle.pts t) k
    · rw [if_pos (by omega), if_pos h1]; rfl
    · rw [if_neg (by omega), if_neg h1]
      by_cases h2 : (Cle.tokO t (Cle.pts t) (Cle.skip (Cle.pts t) k)).2.1 = true
      · rw [if_pos h2, if_pos h2, h.tokO _ h2]
        simp only []
        rw [ih]
        cases Cle.lexF t (Cle.pts t) n (Cle.tokO t (Cle.pts t) (Cle.skip (Cle.pts t) k)).2.2 <;> rfl
      · rw [if_neg h2, if_neg h2]; rfl
end

theorem Cut.of_valid (s t : ByteArray) (hs : valid s = true) : Cut (s ++ t) t (Cle.pts s) s.size where
  bytes := by rw [ByteArray.data_append, Array.toList_append, List.drop_append_of_le_length (by show s.size ≤ s.data.toList.length; exact Nat.le_refl _), List.drop_eq_nil_of_le (by show s.data.toList.length ≤ s.size; exact Nat.le_refl _), List.nil_append]
  size := by rw [ByteArray.size_append]
  pts := pts_app s t hs

end Cle
end Go.Proofs.YtfbgdjcnlnfoaaaDoor
