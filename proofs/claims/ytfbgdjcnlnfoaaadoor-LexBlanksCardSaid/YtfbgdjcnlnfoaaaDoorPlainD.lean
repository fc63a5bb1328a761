/- Plain facts: the reference's decoder. -/
import Derived.Test.YtfbgdjcnlnfoaaaDoorPlainC
namespace Go.Proofs.YtfbgdjcnlnfoaaaDoor
namespace Cle

/-- So many bytes that go on, from a place. -/
def contB (s : ByteArray) (a : Nat) : Nat → Bool
  | 0 => true
  | n + 1 => contB s a n && decide (a + n < s.size ∧ (s.get! (a + n)).toNat / 64 = 2)

theorem and192 (n : Nat) (h : n < 256) : ((n &&& 192 : Nat) = 128) ↔ n / 64 = 2 := by
  have : ∀ k : Fin 256, ((k.val &&& 192 : Nat) = 128) ↔ k.val / 64 = 2 := by decide +kernel
  exact this ⟨n, h⟩
theorem and63 (n : Nat) (h : n < 256) : (n &&& 63 : Nat) = n % 64 := by
  have : ∀ k : Fin 256, (k.val &&& 63 : Nat) = k.val % 64 := by decide +kernel
  exact this ⟨n, h⟩
theorem and31 (n : Nat) (h : n < 256) : (n &&& 31 : Nat) = n % 32 := by
  have : ∀ k : Fin 256, (k.val &&& 31 : Nat) = k.val % 32 := by decide +kernel
  exact this ⟨n, h⟩
theorem and15 (n : Nat) (h : n < 256) : (n &&& 15 : Nat) = n % 16 := by
  have : ∀ k : Fin 256, (k.val &&& 15 : Nat) = k.val % 16 := by decide +kernel
  exact this ⟨n, h⟩
theorem and7 (n : Nat) (h : n < 256) : (n &&& 7 : Nat) = n % 8 := by
  have : ∀ k : Fin 256, (k.val &&& 7 : Nat) = k.val % 8 := by decide +kernel
  exact this ⟨n, h⟩

theorem get_at2 (s : ByteArray) (k : Nat) (h : k < s.size) : s.get! k = s[k] := by
  have := Go.get_at s k h
  simpa using this

def bY (s : ByteArray) (k : Nat) : Nat := (s.get! k).toNat
theorem bY_lt (s : ByteArray) (k : Nat) : bY s k < 256 := (s.get! k).toNat_lt
theorem bY_eq (s : ByteArray) (k : Nat) (h : k < s.size) : s[k].toNat = bY s k := by unfold bY; rw [get_at2 s k h]

theorem contB_one (s : ByteArray) (a : Nat) : contB s a 1 = decide (a < s.size ∧ bY s a / 64 = 2) := rfl
theorem contB_two (s : ByteArray) (a : Nat) : contB s a 2 = (decide (a < s.size ∧ bY s a / 64 = 2) && decide (a + 1 < s.size ∧ bY s (a + 1) / 64 = 2)) := rfl
theorem contB_three (s : ByteArray) (a : Nat) : contB s a 3 = ((decide (a < s.size ∧ bY s a / 64 = 2) && decide (a + 1 < s.size ∧ bY s (a + 1) / 64 = 2)) && decide (a + 2 < s.size ∧ bY s (a + 2) / 64 = 2)) := rfl

/-- The decoder, way by way. -/
theorem dec_ascii (s : ByteArray) (a : Nat) (_h : a < s.size) (h0 : bY s a < 128) : Utf8.decode s a = (bY s a, 1) := by
  rw [Lib.decode_at]; unfold Lib.decodeN
  rw [if_pos (by exact h0)]; rfl
theorem dec_bad (s : ByteArray) (a : Nat) (h : a < s.size) (h0 : 128 ≤ bY s a) (h1 : ¬ (194 ≤ bY s a ∧ bY s a < 245)) : Utf8.decode s a = (65533, 1) := by
  rw [Lib.decode_at]; unfold Lib.decodeN
  have e : (s.get! a).toNat = bY s a := rfl
  have b1 := bY_lt s (a + 1); have e1 : (s.get! (a + 1)).toNat = bY s (a + 1) := rfl
  have b0 := bY_lt s a
  rw [e, e1]
  repeat' split
  all_goals first | rfl | (exfalso; omega)
theorem dec_two (s : ByteArray) (a : Nat) (h : a < s.size) (h0 : 194 ≤ bY s a ∧ bY s a < 224) :
    Utf8.decode s a = if contB s (a + 1) 1 then (bY s a % 32 * 64 + bY s (a + 1) % 64, 2) else (65533, 1) := by
  rw [Lib.decode_at, contB_one]; unfold Lib.decodeN
  have e : (s.get! a).toNat = bY s a := rfl
  have e1 : (s.get! (a + 1)).toNat = bY s (a + 1) := rfl
  rw [e, e1]
  by_cases hc : a + 1 < s.size ∧ bY s (a + 1) / 64 = 2
  · rw [decide_eq_true hc, if_pos rfl, if_neg (by omega), if_pos ⟨by omega, by omega, hc.2⟩, if_pos (by omega)]
  · rw [decide_eq_false hc, if_neg (by omega), if_neg (by omega), if_neg (by omega), if_neg (by omega)]; rfl
theorem dec_three (s : ByteArray) (a : Nat) (h : a < s.size) (h0 : 224 ≤ bY s a ∧ bY s a < 240) (r : Nat) (hr : r = bY s a % 16 * 4096 + bY s (a + 1) % 64 * 64 + bY s (a + 2) % 64) :
    Utf8.decode s a = if contB s (a + 1) 2 && !(decide (r < 2048) || (decide (55296 ≤ r) && decide (r < 57344))) then (r, 3) else (65533, 1) := by
  rw [Lib.decode_at, contB_two, show a + 1 + 1 = a + 2 from rfl]; unfold Lib.decodeN
  have e : (s.get! a).toNat = bY s a := rfl
  have e1 : (s.get! (a + 1)).toNat = bY s (a + 1) := rfl
  have e2 : (s.get! (a + 2)).toNat = bY s (a + 2) := rfl
  have b0 := bY_lt s a; have b1 := bY_lt s (a + 1); have b2 := bY_lt s (a + 2)
  rw [e, e1, e2, ← hr, if_neg (by omega), if_neg (by omega)]
  by_cases hc : (a + 1 < s.size ∧ bY s (a + 1) / 64 = 2) ∧ (a + 2 < s.size ∧ bY s (a + 2) / 64 = 2)
  · rw [decide_eq_true hc.1, decide_eq_true hc.2, if_pos ⟨by omega, ⟨by omega, hc.1.2⟩, ⟨by omega, hc.2.2⟩⟩]
    by_cases hv : r ≥ 2048 ∧ (r < 55296 ∨ (57344 ≤ r ∧ r ≤ 1114111))
    · rw [if_pos hv, if_pos (by simp; omega)]
    · rw [if_neg hv, if_neg (by simp; omega)]
  · rw [if_neg (by omega), if_neg (by omega), if_neg (by simp; omega)]
theorem dec_four (s : ByteArray) (a : Nat) (h : a < s.size) (h0 : 240 ≤ bY s a ∧ bY s a < 245) (r : Nat) (hr : r = bY s a % 8 * 262144 + bY s (a + 1) % 64 * 4096 + bY s (a + 2) % 64 * 64 + bY s (a + 3) % 64) :
    Utf8.decode s a = if contB s (a + 1) 3 && !(decide (r < 65536) || decide (1114111 < r)) then (r, 4) else (65533, 1) := by
  rw [Lib.decode_at, contB_three, show a + 1 + 1 = a + 2 from rfl, show a + 1 + 2 = a + 3 from rfl]; unfold Lib.decodeN
  have e : (s.get! a).toNat = bY s a := rfl
  have e1 : (s.get! (a + 1)).toNat = bY s (a + 1) := rfl
  have e2 : (s.get! (a + 2)).toNat = bY s (a + 2) := rfl
  have e3 : (s.get! (a + 3)).toNat = bY s (a + 3) := rfl
  have b0 := bY_lt s a; have b1 := bY_lt s (a + 1); have b2 := bY_lt s (a + 2); have b3 := bY_lt s (a + 3)
  rw [e, e1, e2, e3, ← hr, if_neg (by omega), if_neg (by omega), if_neg (by omega)]
  by_cases hc : ((a + 1 < s.size ∧ bY s (a + 1) / 64 = 2) ∧ (a + 2 < s.size ∧ bY s (a + 2) / 64 = 2)) ∧ (a + 3 < s.size ∧ bY s (a + 3) / 64 = 2)
  · rw [decide_eq_true hc.1.1, decide_eq_true hc.1.2, decide_eq_true hc.2, if_pos ⟨by omega, ⟨by omega, hc.1.1.2⟩, ⟨by omega, hc.1.2.2⟩, ⟨by omega, hc.2.2⟩⟩]
    by_cases hv : r ≥ 65536 ∧ (r < 55296 ∨ (57344 ≤ r ∧ r ≤ 1114111))
    · rw [if_pos hv, if_pos (by simp; omega)]
    · rw [if_neg hv, if_neg (by simp; omega)]
  · rw [if_neg (by omega), if_neg (by simp; omega)]

/-- What the bytes that go on add up to. -/
def accR (s : ByteArray) (a m : Nat) : Nat → Nat
  | 0 => m
  | k + 1 => accR s a m k * 64 + bY s (a + k + 1) % 64
theorem accR_lt (s : ByteArray) (a m : Nat) (hm : m < 32) : accR s a m 0 < 32 ∧ accR s a m 1 < 2048 ∧ accR s a m 2 < 131072 ∧ accR s a m 3 < 8388608 := by
  have e0 : accR s a m 0 = m := rfl
  have e1 : accR s a m 1 = accR s a m 0 * 64 + bY s (a + 0 + 1) % 64 := rfl
  have e2 : accR s a m 2 = accR s a m 1 * 64 + bY s (a + 1 + 1) % 64 := rfl
  have e3 : accR s a m 3 = accR s a m 2 * 64 + bY s (a + 2 + 1) % 64 := rfl
  omega
theorem accR_le (s : ByteArray) (a m : Nat) (hm : m < 32) (k : Nat) (hk : k ≤ 3) : accR s a m k < 8388608 := by
  have := accR_lt s a m hm
  match k, hk with
  | 0, _ => omega
  | 1, _ => omega
  | 2, _ => omega
  | 3, _ => omega
theorem accR_lo (s : ByteArray) (a m : Nat) (hm : m < 32) (k : Nat) (hk : k < 3) : accR s a m k < 131072 := by
  have := accR_lt s a m hm
  match k, hk with
  | 0, _ => omega
  | 1, _ => omega
  | 2, _ => omega

end Cle
end Go.Proofs.YtfbgdjcnlnfoaaaDoor
