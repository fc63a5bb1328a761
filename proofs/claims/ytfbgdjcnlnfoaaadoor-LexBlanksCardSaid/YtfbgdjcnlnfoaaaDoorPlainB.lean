/- Plain facts: the decoder of the library is the model's own, from a place on; names; quotes. -/
import Derived.Test.YtfbgdjcnlnfoaaaDoorPlainA
import Derived.Shelf.Unicode.DecodeSlow
namespace Go.Proofs.YtfbgdjcnlnfoaaaDoor
namespace Cle

theorem get_data (s : ByteArray) (k : Nat) : s.get! k = s.data[k]! := rfl
theorem get_ext (s : ByteArray) (a k : Nat) : (s.extract a s.size).get! k = s.get! (a + k) := by
  rw [get_data, get_data]
  by_cases h : a + k < s.size
  · have h1 : k < (s.extract a s.size).size := by simp; omega
    have h2 : k < (s.extract a s.size).data.size := h1
    have h3 : a + k < s.data.size := h
    rw [getElem!_pos (s.extract a s.size).data k h2, getElem!_pos s.data (a + k) h3]
    simp [ByteArray.data_extract]
  · have h1 : ¬ k < (s.extract a s.size).size := by simp; omega
    have h2 : ¬ k < (s.extract a s.size).data.size := h1
    have h3 : ¬ a + k < s.data.size := h
    rw [getElem!_neg (s.extract a s.size).data k h2, getElem!_neg s.data (a + k) h3]

theorem dec_ext (s : ByteArray) (a : Nat) (h : a < s.size) : Lib.decodeGo (s.extract a s.size) = Utf8.decode s a := by
  have h1 : (s.extract a s.size).size = s.size - a := by simp
  unfold Lib.decodeGo
  rw [if_neg (by omega), Lib.decode_at, Lib.decode_at, h1]
  simp only [get_ext, Nat.add_zero, Nat.sub_zero, Nat.zero_add]

/-- May a code point begin a name? -/
def letterB (r : Int) : Bool := r == 95 || (decide (97 ≤ r) && decide (r ≤ 122)) || decide (128 ≤ r)
def digitB (r : Int) : Bool := decide (48 ≤ r) && decide (r ≤ 57)
def Pt.named (p : Pt) : Bool := (letterB p.r || (digitB p.r && decide (0 < p.at_))) && p.ok
def valid (s : ByteArray) : Bool := (pts s).all Pt.ok
def name (s : ByteArray) : Bool := (pts s).all Pt.named && (decide (s.size ≠ 0) && decide (s.size ≤ 100))

/-- A text between quotes, behind the first one: what it is, how many bytes it took. -/
def unq : List UInt8 → Option (List UInt8 × Nat)
  | [] => none
  | c :: t =>
    if c = 39 then
      match t with
      | [] => some ([], 1)
      | d :: u => if d = 39 then (unq u).map fun x => (39 :: x.1, x.2 + 2) else some ([], 1)
    else (unq t).map fun x => (c :: x.1, x.2 + 1)
def unquote (s : ByteArray) (f : Int) : Option (ByteArray × Int) :=
  if 0 ≤ f ∧ f < s.size ∧ s.data.toList[f.toNat]? = some 39 then
    (unq (s.data.toList.drop (f.toNat + 1))).map fun x => (⟨x.1.toArray⟩, f + 1 + x.2)
  else none
theorem unq_nil {l : List UInt8} {k : Nat} (h : l.length ≤ k) : unq (l.drop k) = none := by rw [List.drop_eq_nil_of_le h]; rfl
theorem unq_other {l : List UInt8} {k : Nat} (h : k < l.length) (hc : l[k] ≠ 39) : unq (l.drop k) = (unq (l.drop (k + 1))).map fun x => (l[k] :: x.1, x.2 + 1) := by
  rw [List.drop_eq_getElem_cons h, unq.eq_def]; simp [hc]
theorem unq_end1 {l : List UInt8} {k : Nat} (h : k < l.length) (hc : l[k] = 39) (h2 : l.length ≤ k + 1) : unq (l.drop k) = some ([], 1) := by
  rw [List.drop_eq_getElem_cons h, List.drop_eq_nil_of_le h2, unq.eq_def]; simp [hc]
theorem unq_end2 {l : List UInt8} {k : Nat} (h : k < l.length) (hc : l[k] = 39) (h2 : k + 1 < l.length) (hd : l[k + 1] ≠ 39) : unq (l.drop k) = some ([], 1) := by
  rw [List.drop_eq_getElem_cons h, List.drop_eq_getElem_cons h2, unq.eq_def]; simp [hc, hd]
theorem unq_two {l : List UInt8} {k : Nat} (h : k < l.length) (hc : l[k] = 39) (h2 : k + 1 < l.length) (hd : l[k + 1] = 39) : unq (l.drop k) = (unq (l.drop (k + 2))).map fun x => (39 :: x.1, x.2 + 2) := by
  rw [List.drop_eq_getElem_cons h, List.drop_eq_getElem_cons h2, unq.eq_def]; simp [hc, hd]
theorem unq_len : ∀ (n : Nat) (l : List UInt8) (x : List UInt8 × Nat), l.length ≤ n → unq l = some x → x.1.length < x.2 ∧ x.2 ≤ l.length
  | n, [], x, _, h => by simp [unq] at h
  | 0, c :: t, x, hn, h => by simp at hn
  | n + 1, c :: t, x, hn, h => by
    unfold unq at h
    split at h
    · split at h
      · cases h; simp
      · rename_i d u
        split at h
        · cases hu : unq u with
          | none => rw [hu] at h; simp at h
          | some y =>
            rw [hu] at h
            simp at h
            subst h
            have := unq_len n u y (by simp at hn; omega) hu
            simp; omega
        · cases h; simp
    · cases hu : unq t with
      | none => rw [hu] at h; simp at h
      | some y =>
        rw [hu] at h
        simp at h
        subst h
        have := unq_len n t y (by simp at hn; omega) hu
        simp; omega
def unqV : Option (ByteArray × Int) → Value
  | some x => .tuple #[.string x.1, .int .i64 x.2, .bool true]
  | none => .tuple #[.string ⟨#[]⟩, .int .i64 0, .bool false]
def quoteL (l : List UInt8) : List UInt8 := 39 :: (l.flatMap fun c => if c = 39 then [39, 39] else [c]) ++ [39]
def quote (s : ByteArray) : ByteArray := ⟨(quoteL s.data.toList).toArray⟩

end Cle
end Go.Proofs.YtfbgdjcnlnfoaaaDoor
