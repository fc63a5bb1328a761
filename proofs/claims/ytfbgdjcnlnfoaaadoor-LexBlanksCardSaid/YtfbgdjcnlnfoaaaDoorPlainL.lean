/- Plain: words of a text (layer 13), over its code points. -/
import Derived.Test.YtfbgdjcnlnfoaaaDoorPlainH
namespace Go.Proofs.YtfbgdjcnlnfoaaaDoor
namespace Cle

def rAt (P : List Pt) (i : Nat) : Int := match P[i]? with | some p => p.r | none => -1
def isB (P : List Pt) (i : Nat) (r : Int) : Bool := match P[i]? with | some p => (p.r : Int) == r | none => false
def letB (P : List Pt) (i : Nat) : Bool := match P[i]? with | some p => p.ok && (letterB p.r || (decide (65 ≤ (p.r : Int)) && decide ((p.r : Int) ≤ 90))) | none => false
def digB (P : List Pt) (i : Nat) : Bool := match P[i]? with | some p => digitB p.r | none => false
def byteAt (s : ByteArray) (P : List Pt) (i : Nat) : Nat := match P[i]? with | some p => p.at_ | none => s.size

/-- On, as long as f says so. -/
def runF (f : Nat → Bool) : Nat → Nat → Nat
  | 0, i => i
  | n + 1, i => if f i then runF f n (i + 1) else i
def runTo (f : Nat → Bool) (len i : Nat) : Nat := runF f (len - i) i
theorem runTo_go {f : Nat → Bool} {len i : Nat} (h : i < len) (hf : f i = true) : runTo f len i = runTo f len (i + 1) := by
  unfold runTo
  rw [show len - i = (len - (i + 1)) + 1 by omega, runF, if_pos hf]
theorem runTo_stop {f : Nat → Bool} {len i : Nat} (hf : f i = false) : runTo f len i = i := by
  unfold runTo
  cases len - i with
  | zero => rfl
  | succ n => rw [runF, if_neg (by rw [hf]; decide)]
theorem runTo_end {f : Nat → Bool} {len i : Nat} (h : len ≤ i) : runTo f len i = i := by
  unfold runTo
  rw [show len - i = 0 by omega]; rfl
theorem runF_le (f : Nat → Bool) : ∀ n i, i ≤ runF f n i ∧ runF f n i ≤ i + n
  | 0, i => ⟨Nat.le_refl _, Nat.le_refl _⟩
  | n + 1, i => by
    unfold runF
    split
    · have := runF_le f n (i + 1); omega
    · omega
theorem runTo_le (f : Nat → Bool) (len i : Nat) (h : i ≤ len) : i ≤ runTo f len i ∧ runTo f len i ≤ len := by
  have := runF_le f (len - i) i
  unfold runTo; omega
theorem runTo_ge (f : Nat → Bool) (len i : Nat) : i ≤ runTo f len i := (runF_le f (len - i) i).1

def blankB (P : List Pt) (i : Nat) : Bool := isB P i 32 || isB P i 9 || isB P i 10 || isB P i 13
def dashB (P : List Pt) (i : Nat) : Bool := isB P i 45 && isB P (i + 1) 45
def lineEnd (P : List Pt) (i : Nat) : Nat := runTo (fun j => !isB P j 10) P.length i
/-- Blanks and comments. -/
def skipF (P : List Pt) : Nat → Nat → Nat
  | 0, i => i
  | n + 1, i => if P.length ≤ i then i else if blankB P i then skipF P n (i + 1) else if dashB P i then skipF P n (lineEnd P i) else i
def skip (P : List Pt) (i : Nat) : Nat := skipF P (P.length - i) i

theorem isB_lt {P : List Pt} {i : Nat} {r : Int} (h : isB P i r = true) : i < P.length := by
  unfold isB at h
  split at h
  · rename_i p hp; exact (List.getElem?_eq_some_iff.1 hp).1
  · cases h
theorem isB_other {P : List Pt} {i : Nat} {r q : Int} (h : isB P i r = true) (hne : r ≠ q) : isB P i q = false := by
  unfold isB at h ⊢
  cases hp : P[i]? with
  | none => simp [hp] at h
  | some p =>
    rw [hp] at h
    simp only at h ⊢
    rw [beq_eq_false_iff_ne]
    intro e
    exact hne (by rw [← beq_iff_eq.1 h, e])
theorem lineEnd_gt {P : List Pt} {i : Nat} (h : dashB P i = true) : i < lineEnd P i ∧ lineEnd P i ≤ P.length := by
  unfold dashB at h
  rw [Bool.and_eq_true] at h
  have hlt := isB_lt h.1
  have h10 := isB_other h.1 (show (45 : Int) ≠ 10 by decide)
  unfold lineEnd
  have e := runTo_go (f := fun j => !isB P j 10) hlt (by simp [h10])
  have := runTo_le (fun j => !isB P j 10) P.length (i + 1) (by omega)
  omega
theorem skipF_fuel (P : List Pt) : ∀ n m i, P.length ≤ i + n → P.length ≤ i + m → skipF P n i = skipF P m i := by
  intro n
  induction n with
  | zero =>
    intro m i h1 h2
    cases m with
    | zero => rfl
    | succ m => rw [skipF, skipF, if_pos (by omega)]
  | succ n ih =>
    intro m i h1 h2
    by_cases hl : P.length ≤ i
    · cases m with
      | zero => rw [skipF, skipF, if_pos hl]
      | succ m => rw [skipF, skipF, if_pos hl, if_pos hl]
    · cases m with
      | zero => omega
      | succ m =>
        rw [skipF, skipF, if_neg hl, if_neg hl]
        split
        · exact ih m (i + 1) (by omega) (by omega)
        · split
          · rename_i hd
            have := lineEnd_gt hd
            exact ih m _ (by omega) (by omega)
          · rfl
theorem skip_end {P : List Pt} {i : Nat} (h : P.length ≤ i) : skip P i = i := by
  unfold skip
  rw [show P.length - i = 0 by omega]; rfl
theorem skip_blank {P : List Pt} {i : Nat} (h : i < P.length) (hb : blankB P i = true) : skip P i = skip P (i + 1) := by
  unfold skip
  rw [show P.length - i = (P.length - (i + 1)) + 1 by omega, skipF, if_neg (by omega), if_pos hb]
theorem skip_dash {P : List Pt} {i : Nat} (h : i < P.length) (hb : blankB P i = false) (hd : dashB P i = true) : skip P i = skip P (lineEnd P i) := by
  have := lineEnd_gt hd
  unfold skip
  rw [show P.length - i = (P.length - (i + 1)) + 1 by omega, skipF, if_neg (by omega), if_neg (by rw [hb]; decide), if_pos hd]
  exact skipF_fuel P _ _ _ (by omega) (by omega)
theorem skip_stop {P : List Pt} {i : Nat} (hb : blankB P i = false) (hd : dashB P i = false) : skip P i = i := by
  unfold skip
  cases P.length - i with
  | zero => rfl
  | succ n =>
    rw [skipF]
    split
    · rfl
    · rw [if_neg (by rw [hb]; decide), if_neg (by rw [hd]; decide)]
theorem skipF_le (P : List Pt) : ∀ n i, i ≤ skipF P n i := by
  intro n
  induction n with
  | zero => intro i; exact Nat.le_refl _
  | succ n ih =>
    intro i
    rw [skipF]
    split
    · exact Nat.le_refl _
    · split
      · have := ih (i + 1); omega
      · split
        · rename_i hd
          have := ih (lineEnd P i)
          have := lineEnd_gt hd
          omega
        · exact Nat.le_refl _
theorem skip_le (P : List Pt) (i : Nat) : i ≤ skip P i := skipF_le P _ i

/-- A token. -/
structure Tk where
  kind : Int
  s : ByteArray
  n : Int
  at_ : Nat

/-- Digits from a place on: the number, whether it may be. -/
def numF (P : List Pt) : Nat → Nat → Int → Bool → Int × Bool × Nat
  | 0, i, v, ok => (v, ok, i)
  | n + 1, i, v, ok => if digB P i then numF P n (i + 1) (min (v * 10 + (rAt P i - 48)) 1099511627776) (ok && decide (v * 10 + (rAt P i - 48) ≤ 1099511627776)) else (v, ok, i)
def num (P : List Pt) (i : Nat) (v : Int) (ok : Bool) : Int × Bool × Nat := numF P (P.length - i) i v ok

theorem digB_lt {P : List Pt} {i : Nat} (h : digB P i = true) : i < P.length := by
  unfold digB at h
  split at h
  · rename_i p hp; exact (List.getElem?_eq_some_iff.1 hp).1
  · cases h
theorem letB_lt {P : List Pt} {i : Nat} (h : letB P i = true) : i < P.length := by
  unfold letB at h
  split at h
  · rename_i p hp; exact (List.getElem?_eq_some_iff.1 hp).1
  · cases h
theorem num_go {P : List Pt} {i : Nat} {v : Int} {ok : Bool} (h : digB P i = true) :
    num P i v ok = num P (i + 1) (min (v * 10 + (rAt P i - 48)) 1099511627776) (ok && decide (v * 10 + (rAt P i - 48) ≤ 1099511627776)) := by
  have hl := digB_lt h
  unfold num
  rw [show P.length - i = (P.length - (i + 1)) + 1 by omega, numF, if_pos h]
theorem num_stop {P : List Pt} {i : Nat} {v : Int} {ok : Bool} (h : digB P i = false) : num P i v ok = (v, ok, i) := by
  unfold num
  cases P.length - i with
  | zero => rfl
  | succ n => rw [numF, if_neg (by rw [h]; decide)]
theorem numF_ge (P : List Pt) : ∀ n i v ok, i ≤ (numF P n i v ok).2.2 ∧ (numF P n i v ok).2.2 ≤ i + n := by
  intro n
  induction n with
  | zero => intro i v ok; exact ⟨Nat.le_refl _, Nat.le_refl _⟩
  | succ n ih =>
    intro i v ok
    rw [numF]
    split
    · have := ih (i + 1) (min (v * 10 + (rAt P i - 48)) 1099511627776) (ok && decide (v * 10 + (rAt P i - 48) ≤ 1099511627776)); omega
    · simp only; omega

def wordEnd (P : List Pt) (i : Nat) : Nat := runTo (fun k => letB P k || digB P k) P.length i
def wordT (s : ByteArray) (P : List Pt) (i : Nat) : ByteArray := s.extract (byteAt s P i) (byteAt s P (wordEnd P i))
/-- What stands at a place: the token, whether it may be, where it ends. -/
def wordO (s : ByteArray) (P : List Pt) (i : Nat) : Tk × Bool × Nat := (⟨1, fold (wordT s P i), 0, i⟩, decide ((wordT s P i).size ≤ 100), wordEnd P i)
def numStart (P : List Pt) (i : Nat) : Nat := if isB P i 45 then i + 1 else i
def numR (P : List Pt) (i : Nat) : Int × Bool × Nat := num P (numStart P i) 0 (digB P (numStart P i))
def numberO (P : List Pt) (i : Nat) : Tk × Bool × Nat := (⟨2, ⟨#[]⟩, if isB P i 45 then -(numR P i).1 else (numR P i).1, i⟩, (numR P i).2.1 && !letB P (numR P i).2.2, (numR P i).2.2)
def textEnd (P : List Pt) (next : Int) (i : Nat) : Nat := runTo (fun k => match P[k]? with | some p => decide ((p.at_ : Int) < next) | none => false) P.length i
def textO (s : ByteArray) (P : List Pt) (i : Nat) : Tk × Bool × Nat :=
  match unquote s (byteAt s P i) with
  | some x => (⟨3, x.1, 0, i⟩, decide (x.1.size ≤ 100) && valid x.1, textEnd P x.2 i)
  | none => (⟨3, ⟨#[]⟩, 0, i⟩, false, i)
def signB (r : Int) : Bool := r == 40 || r == 41 || r == 44 || r == 59 || r == 61 || r == 42
def tokO (s : ByteArray) (P : List Pt) (i : Nat) : Tk × Bool × Nat :=
  if letB P i then wordO s P i
  else if digB P i || isB P i 45 then numberO P i
  else if isB P i 39 then textO s P i
  else if signB (rAt P i) then (⟨4, ⟨#[UInt8.ofNat (rAt P i).toNat]⟩, 0, i⟩, true, i + 1)
  else (⟨0, ⟨#[]⟩, 0, 0⟩, false, i)

/-- All tokens from a place on; else where it goes wrong. -/
def lexF (s : ByteArray) (P : List Pt) : Nat → Nat → Except Nat (List Tk)
  | 0, _ => .ok []
  | n + 1, i =>
    if P.length ≤ skip P i then .ok []
    else if (tokO s P (skip P i)).2.1 then (lexF s P n (tokO s P (skip P i)).2.2).map ((tokO s P (skip P i)).1 :: ·)
    else .error (skip P i)
def lexL (s : ByteArray) : List Tk × Nat × Int :=
  if 1000 < s.size then ([], 0, 2)
  else match lexF s (pts s) ((pts s).length + 1) 0 with
    | .ok l => (l, 0, 0)
    | .error a => ([], a, 3)

end Cle
end Go.Proofs.YtfbgdjcnlnfoaaaDoor
