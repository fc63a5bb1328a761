/- Plain facts on code points: no program in sight. -/
import Derived.Lib.DecodeNEq
import Derived.Laws.RangeAny
namespace Go.Proofs.YtfbgdjcnlnfoaaaDoor
namespace Cle

/-- A code point: its number, where it begins, how many bytes. -/
structure Pt where
  r : Nat
  at_ : Nat
  n : Nat

def Pt.ok (p : Pt) : Bool := (p.r : Int) != 65533 || decide (1 < p.n)

def ptsF (s : ByteArray) : Nat → Nat → List Pt
  | 0, _ => []
  | f + 1, pos => if pos < s.size then ⟨(Utf8.decode s pos).1, pos, (Utf8.decode s pos).2⟩ :: ptsF s f (pos + (Utf8.decode s pos).2) else []

def pts (s : ByteArray) : List Pt := ptsF s s.size 0

theorem width_pos (s : ByteArray) (pos : Nat) (h : pos < s.size) : 1 ≤ (Utf8.decode s pos).2 := by
  by_cases ha : (s[pos]'h).toNat < 128
  · rw [decode_ascii s pos h ha]; exact Nat.le_refl 1
  · exact (decode_high s pos h (by omega)).2

theorem width_le (s : ByteArray) (pos : Nat) (h : pos < s.size) : pos + (Utf8.decode s pos).2 ≤ s.size := by
  simp only [Utf8.decode]
  repeat' split
  all_goals simp_all
  all_goals omega

theorem ptsF_end (s : ByteArray) (f pos : Nat) (h : ¬ pos < s.size) : ptsF s f pos = [] := by
  cases f <;> simp [ptsF, h]

/-- From a place on, whatever the fuel. -/
theorem ptsF_fuel (s : ByteArray) : ∀ f g pos, s.size ≤ pos + f → s.size ≤ pos + g → ptsF s f pos = ptsF s g pos := by
  intro f
  induction f with
  | zero => intro g pos h1 _; rw [ptsF_end s 0 pos (by omega), ptsF_end s g pos (by omega)]
  | succ f ih =>
    intro g pos h1 h2
    by_cases h : pos < s.size
    · cases g with
      | zero => omega
      | succ g =>
        have := width_pos s pos h
        simp only [ptsF, h, if_true]
        rw [ih g (pos + (Utf8.decode s pos).2) (by omega) (by omega)]
    · rw [ptsF_end s _ pos h, ptsF_end s _ pos h]

def ptsAt (s : ByteArray) (pos : Nat) : List Pt := ptsF s s.size pos

theorem ptsAt_end (s : ByteArray) (pos : Nat) (h : ¬ pos < s.size) : ptsAt s pos = [] := ptsF_end s _ pos h

theorem ptsAt_step (s : ByteArray) (pos : Nat) (h : pos < s.size) :
    ptsAt s pos = ⟨(Utf8.decode s pos).1, pos, (Utf8.decode s pos).2⟩ :: ptsAt s (pos + (Utf8.decode s pos).2) := by
  have := width_pos s pos h
  unfold ptsAt
  rw [ptsF_fuel s s.size (s.size - pos + 1) pos (by omega) (by omega)]
  simp only [ptsF, h, if_true]
  rw [ptsF_fuel s (s.size - pos) s.size _ (by omega) (by omega)]

/-- What 'At' tells of the code point with number n. -/
def atO (s : ByteArray) (n : Int) : Option Pt := if 0 ≤ n then (pts s)[n.toNat]? else none

/-- A byte as a small letter. -/
def lowB (c : UInt8) : UInt8 := if 65 ≤ c ∧ c ≤ 90 then c ||| 32 else c
def fold (s : ByteArray) : ByteArray := ⟨s.data.map lowB⟩
theorem lowB_or (c : UInt8) : (lowB c).toNat = if 65 ≤ c.toNat ∧ c.toNat ≤ 90 then c.toNat ||| 32 else c.toNat := by
  unfold lowB
  simp only [UInt8.le_iff_toNat_le]
  have e1 : (65 : UInt8).toNat = 65 := rfl
  have e2 : (90 : UInt8).toNat = 90 := rfl
  rw [e1, e2]
  split
  · simp
  · rfl
theorem lowB_add (c : UInt8) : (lowB c).toNat = if 65 ≤ c.toNat ∧ c.toNat ≤ 90 then c.toNat + 32 else c.toNat := by
  rw [lowB_or]
  split
  · rename_i h
    have : ∀ k : Fin 26, (65 + k.val) ||| 32 = (65 + k.val) + 32 := by decide
    have h2 := this ⟨c.toNat - 65, by omega⟩
    simp only at h2
    have e : 65 + (c.toNat - 65) = c.toNat := by omega
    rw [e] at h2
    exact h2
  · rfl

theorem pts_eq (s : ByteArray) : pts s = ptsAt s 0 := rfl

end Cle
end Go.Proofs.YtfbgdjcnlnfoaaaDoor
