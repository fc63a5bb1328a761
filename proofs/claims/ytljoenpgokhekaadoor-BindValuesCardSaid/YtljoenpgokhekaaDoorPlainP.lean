/- Plain: eight bytes of a number. -/
import Derived.Test.YtljoenpgokhekaaDoorPlainH
import Derived.WalkKit
namespace Go.Proofs.YtljoenpgokhekaaDoor
namespace Cle

/-- A number as the one above the middle. -/
def up (v : Int) : Nat := ((v + 9223372036854775808) % 18446744073709551616).toNat
def byt8 (u k : Nat) : Nat := u / 2 ^ (8 * (7 - k)) % 256
def encL (u : Nat) : List UInt8 := (List.range 8).map fun k => UInt8.ofNat (byt8 u k)
def enc8 (v : Int) : ByteArray := ⟨(encL (up v)).toArray⟩
/-- Bytes as one number, the first the greatest. -/
def val : List UInt8 → Nat → Nat
  | [], u => u
  | b :: l, u => val l (u * 256 + b.toNat)
def dec8 (s : ByteArray) : Option Int := if s.size = 8 then some (((val s.data.toList 0 : Nat) : Int) - 9223372036854775808) else none

theorem pow256_le {k : Nat} (h : k < 8) : 256 ^ k ≤ 72057594037927936 := by
  have := Nat.pow_le_pow_right (n := 256) (by omega) (show k ≤ 7 by omega)
  omega
theorem val_drop (s : ByteArray) (k n : Nat) (h : k < s.size) : val (s.data.toList.drop k) n = val (s.data.toList.drop (k + 1)) (n * 256 + s[k].toNat) := by
  have hl : k < s.data.toList.length := h
  rw [List.drop_eq_getElem_cons hl]
  rfl
theorem val_end (s : ByteArray) (k n : Nat) (h : s.size ≤ k) : val (s.data.toList.drop k) n = n := by
  rw [List.drop_eq_nil_of_le (show s.data.toList.length ≤ k from h)]
  rfl
theorem or_byte (n b : Nat) (hb : b < 256) : (n * 256 ||| b) = n * 256 + b := by
  have := Nat.two_pow_add_eq_or_of_lt (i := 8) (b := b) (by omega) n
  rw [show (2 : Nat) ^ 8 = 256 from rfl, Nat.mul_comm] at this
  exact this.symm

theorem enc8_size (v : Int) : (enc8 v).size = 8 := by
  unfold enc8 encL; simp [ByteArray.size]
theorem encL_lit (u : Nat) : encL u = [UInt8.ofNat (u / 72057594037927936 % 256), UInt8.ofNat (u / 281474976710656 % 256), UInt8.ofNat (u / 1099511627776 % 256), UInt8.ofNat (u / 4294967296 % 256), UInt8.ofNat (u / 16777216 % 256), UInt8.ofNat (u / 65536 % 256), UInt8.ofNat (u / 256 % 256), UInt8.ofNat (u / 1 % 256)] := rfl
theorem val_encL (u : Nat) (h : u < 18446744073709551616) : val (encL u) 0 = u := by
  rw [encL_lit]
  simp only [val, UInt8.toNat_ofNat', Nat.reducePow, Nat.mod_mod]
  omega
theorem dec8_enc8' (v : Int) (h0 : -9223372036854775808 ≤ v) (h1 : v < 9223372036854775808) : dec8 (enc8 v) = some v := by
  unfold dec8
  rw [if_pos (enc8_size v)]
  show some (((val (encL (up v)) 0 : Nat) : Int) - 9223372036854775808) = some v
  rw [val_encL (up v) (by unfold up; omega)]
  congr 1
  unfold up; omega

theorem val_bd : ∀ (l : List UInt8) (u : Nat), u * 256 ^ l.length ≤ val l u ∧ val l u < (u + 1) * 256 ^ l.length
  | [], u => by simp [val]
  | b :: l, u => by
    have h := val_bd l (u * 256 + b.toNat)
    have hb := b.toNat_lt
    rw [val, List.length_cons, Nat.pow_succ]
    have e1 : u * (256 ^ l.length * 256) = (u * 256) * 256 ^ l.length := by rw [Nat.mul_comm (256 ^ l.length), Nat.mul_assoc]
    have e2 : (u + 1) * (256 ^ l.length * 256) = ((u + 1) * 256) * 256 ^ l.length := by rw [Nat.mul_comm (256 ^ l.length), Nat.mul_assoc]
    have h1 : (u * 256) * 256 ^ l.length ≤ (u * 256 + b.toNat) * 256 ^ l.length := Nat.mul_le_mul_right _ (by omega)
    have h2 : (u * 256 + b.toNat + 1) * 256 ^ l.length ≤ ((u + 1) * 256) * 256 ^ l.length := Nat.mul_le_mul_right _ (by omega)
    omega
theorem bytesLess_val : ∀ (x y : List UInt8) (u : Nat), x.length = y.length → Op.bytesLess x y = decide (val x u < val y u)
  | [], [], u, _ => by simp [Op.bytesLess, val]
  | a :: x, b :: y, u, h => by
    have hl : x.length = y.length := by simpa using h
    rw [Op.bytesLess, val, val]
    by_cases h1 : a < b
    · have h1' : a.toNat < b.toNat := UInt8.lt_iff_toNat_lt.1 h1
      have hx := (val_bd x (u * 256 + a.toNat)).2
      have hy := (val_bd y (u * 256 + b.toNat)).1
      rw [← hl] at hy
      have h2 : (u * 256 + a.toNat + 1) * 256 ^ x.length ≤ (u * 256 + b.toNat) * 256 ^ x.length := Nat.mul_le_mul_right _ (by omega)
      rw [decide_eq_true h1, Bool.true_or]
      exact (decide_eq_true (by omega)).symm
    · have h1' : ¬ a.toNat < b.toNat := fun e => h1 (UInt8.lt_iff_toNat_lt.2 e)
      rw [decide_eq_false h1, Bool.false_or]
      by_cases h2 : a = b
      · subst h2
        rw [beq_self_eq_true, Bool.true_and]
        exact bytesLess_val x y _ hl
      · have h2' : a.toNat ≠ b.toNat := fun e => h2 (UInt8.toNat_inj.1 e)
        rw [beq_eq_false_iff_ne.2 h2, Bool.false_and]
        have hx := (val_bd x (u * 256 + a.toNat)).1
        have hy := (val_bd y (u * 256 + b.toNat)).2
        rw [← hl] at hy
        have h3 : (u * 256 + b.toNat + 1) * 256 ^ x.length ≤ (u * 256 + a.toNat) * 256 ^ x.length := Nat.mul_le_mul_right _ (by omega)
        exact (decide_eq_false (by omega)).symm
theorem enc8_less (a b : Int) (h0 : -9223372036854775808 ≤ a) (h1 : a < 9223372036854775808) (h2 : -9223372036854775808 ≤ b) (h3 : b < 9223372036854775808) :
    Op.bytesLess (enc8 a).toList (enc8 b).toList = decide (a < b) := by
  rw [ByteArray.toList_eq, ByteArray.toList_eq]
  show Op.bytesLess (encL (up a)) (encL (up b)) = _
  rw [bytesLess_val _ _ 0 (by simp [encL]), val_encL (up a) (by unfold up; omega), val_encL (up b) (by unfold up; omega)]
  rw [decide_eq_decide]
  unfold up; omega

end Cle
end Go.Proofs.YtljoenpgokhekaaDoor
