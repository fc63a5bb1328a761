/- Plain: the law LexWords: pieces by numbers. -/
import Derived.Test.YtfbgdjcnlnfoaaaDoorPlainT
namespace Go.Proofs.YtfbgdjcnlnfoaaaDoor
namespace Cle

def pick4 (a b c d : ByteArray) (j : Nat) : ByteArray := if j = 0 then a else if j = 1 then b else if j = 2 then c else d
def wN (v : Nat) : Int := ((v / 4 % 100 : Nat) : Int) - 50
/-- A number's digits, signed. -/
def itoaS (n : Int) : ByteArray := ⟨(minusL (decide (n < 0)) ++ dec n.natAbs).toArray⟩
def wW (v : Nat) : ByteArray :=
  if v % 4 = 0 then pick4 ⟨#[97]⟩ ⟨#[83, 101, 108, 101, 99, 116]⟩ ⟨#[95, 57, 120]⟩ ⟨#[84, 84]⟩ (v / 4 % 4)
  else if v % 4 = 1 then itoaS (wN v)
  else if v % 4 = 2 then pick4 ⟨#[39, 39]⟩ ⟨#[39, 97, 39, 39, 98, 39]⟩ ⟨#[39, 45, 45, 39]⟩ ⟨#[39, 65, 32, 98, 39]⟩ (v / 4 % 4)
  else (⟨#[40, 41, 44, 59, 61, 42]⟩ : ByteArray).extract (v / 4 % 6) (v / 4 % 6 + 1)
def wT (v : Nat) : ByteArray :=
  if v % 4 = 0 then pick4 ⟨#[97]⟩ ⟨#[115, 101, 108, 101, 99, 116]⟩ ⟨#[95, 57, 120]⟩ ⟨#[116, 116]⟩ (v / 4 % 4)
  else if v % 4 = 1 then ⟨#[]⟩
  else if v % 4 = 2 then pick4 ⟨#[]⟩ ⟨#[97, 39, 98]⟩ ⟨#[45, 45]⟩ ⟨#[65, 32, 98]⟩ (v / 4 % 4)
  else (⟨#[40, 41, 44, 59, 61, 42]⟩ : ByteArray).extract (v / 4 % 6) (v / 4 % 6 + 1)
def wNum (v : Nat) : Int := if v % 4 = 1 then wN v else 0
def wSep (v : Nat) : ByteArray := if v / 100 % 3 = 0 then ⟨#[32]⟩ else if v / 100 % 3 = 1 then ⟨#[10]⟩ else ⟨#[32, 9]⟩
def wTk (v : Nat) (o : Nat) : Tk := ⟨1 + (v % 4 : Nat), wT v, wNum v, o⟩

theorem sep_lx (v : Nat) {t : ByteArray} {l : List Tk} (h : Lx t l) : Lx (wSep v ++ t) (l.map (Tk.on (wSep v).size)) ∧ Stop (wSep v ++ t) ∧ NoQ (wSep v ++ t) := by
  unfold wSep
  split
  · exact ⟨Lx.blank 32 (by decide) h, stop_one 32 (by decide) t, noq_one 32 (by decide) t⟩
  · split
    · exact ⟨Lx.blank 10 (by decide) h, stop_one 10 (by decide) t, noq_one 10 (by decide) t⟩
    · have e : (⟨#[32, 9]⟩ : ByteArray) ++ t = ⟨#[32]⟩ ++ (⟨#[9]⟩ ++ t) := by rw [← app_assoc]; rfl
      rw [e]
      refine ⟨?_, stop_one 32 (by decide) _, noq_one 32 (by decide) _⟩
      have := Lx.blank 32 (by decide) (Lx.blank 9 (by decide) h)
      rw [List.map_map] at this
      exact this
theorem wNum_itoa (n : Int) (h0 : -100 ≤ n) (h1 : n ≤ 100) {t : ByteArray} {l : List Tk} (hs : Stop t) (h : Lx t l) : Lx (itoaS n ++ t) (⟨2, ⟨#[]⟩, n, 0⟩ :: l.map (Tk.on (itoaS n).size)) := by
  have hd := dec_dig n.natAbs
  have := Lx.number (decide (n < 0)) (dec n.natAbs) hd.1 hd.2 hs (n.natAbs : Int) (numV_dec _ (by omega)) h
  have e : (if decide (n < 0) = true then -((n.natAbs : Nat) : Int) else ((n.natAbs : Nat) : Int)) = n := by
    by_cases hn : n < 0
    · rw [if_pos (decide_eq_true hn)]; omega
    · rw [if_neg (by simp [hn])]; omega
  rw [e] at this
  have hsz : (itoaS n).size = (minusL (decide (n < 0)) ++ dec n.natAbs).length := mk_sizeT _
  rw [hsz]
  exact this
where mk_sizeT (l : List UInt8) : (⟨l.toArray⟩ : ByteArray).size = l.length := by simp [ByteArray.size]
theorem pick4_ind {C : ByteArray → ByteArray → Prop} {a b c d a' b' c' d' : ByteArray} (j : Nat) (ha : C a a') (hb : C b b') (hc : C c c') (hd : C d d') : C (pick4 a b c d j) (pick4 a' b' c' d' j) := by
  unfold pick4
  split
  · exact ha
  · split
    · exact hb
    · split
      · exact hc
      · exact hd
theorem six_at (q : Nat) (h : q < 6) : (⟨#[40, 41, 44, 59, 61, 42]⟩ : ByteArray).extract q (q + 1) = ⟨#[UInt8.ofNat (sigC q)]⟩ := by
  have : q = 0 ∨ q = 1 ∨ q = 2 ∨ q = 3 ∨ q = 4 ∨ q = 5 := by omega
  rcases this with rfl | rfl | rfl | rfl | rfl | rfl <;> decide +kernel
theorem word_lit {w f : ByteArray} (hw : wordy w = true) (hsz : w.size ≤ 100) (hf : fold w = f) (hp : (pts w).length = w.size) {t : ByteArray} {l : List Tk} (hs : Stop t) (h : Lx t l) : Lx (w ++ t) (⟨1 + ((0 : Nat) : Int), f, 0, 0⟩ :: l.map (Tk.on w.size)) := by
  have := Lx.word hw hs hsz h
  rw [hf, hp] at this
  exact this
theorem piece_lx (v : Nat) {t : ByteArray} {l : List Tk} (hs : Stop t) (hq : NoQ t) (h : Lx t l) : Lx (wW v ++ t) (wTk v 0 :: l.map (Tk.on (wW v).size)) := by
  have hv : v % 4 = 0 ∨ v % 4 = 1 ∨ v % 4 = 2 ∨ v % 4 = 3 := by omega
  unfold wTk wW wT wNum
  rcases hv with hv | hv | hv | hv
  · rw [hv]
    simp only [if_true]
    rw [if_neg (by omega)]
    refine pick4_ind (C := fun w f => Lx (w ++ t) (⟨1 + ((0 : Nat) : Int), f, 0, 0⟩ :: l.map (Tk.on w.size))) _ ?_ ?_ ?_ ?_
    · exact word_lit (w := ⟨#[97]⟩) (by decide +kernel) (by decide) (by decide +kernel) (by decide +kernel) hs h
    · exact word_lit (w := ⟨#[83, 101, 108, 101, 99, 116]⟩) (by decide +kernel) (by decide) (by decide +kernel) (by decide +kernel) hs h
    · exact word_lit (w := ⟨#[95, 57, 120]⟩) (by decide +kernel) (by decide) (by decide +kernel) (by decide +kernel) hs h
    · exact word_lit (w := ⟨#[84, 84]⟩) (by decide +kernel) (by decide) (by decide +kernel) (by decide +kernel) hs h
  · rw [hv]
    simp only [if_true]
    rw [if_neg (by omega), if_neg (by omega)]
    exact wNum_itoa (wN v) (by unfold wN; omega) (by unfold wN; omega) hs h
  · rw [hv]
    simp only [if_true]
    rw [if_neg (by omega), if_neg (by omega), if_neg (by omega), if_neg (by omega), if_neg (by omega)]
    refine pick4_ind (C := fun w f => Lx (w ++ t) (⟨1 + ((2 : Nat) : Int), f, 0, 0⟩ :: l.map (Tk.on w.size))) _ ?_ ?_ ?_ ?_
    · exact Lx.text (v := ⟨#[]⟩) rfl (by decide) hq h
    · exact Lx.text (v := ⟨#[97, 39, 98]⟩) (by decide +kernel) (by decide) hq h
    · exact Lx.text (v := ⟨#[45, 45]⟩) (by decide +kernel) (by decide) hq h
    · exact Lx.text (v := ⟨#[65, 32, 98]⟩) (by decide +kernel) (by decide) hq h
  · rw [hv]
    simp only [if_neg (show ¬ (3 = 0) by omega), if_neg (show ¬ (3 = 1) by omega), if_neg (show ¬ (3 = 2) by omega)]
    rw [six_at (v / 4 % 6) (by omega)]
    have hq6 : v / 4 % 6 < 6 := by omega
    obtain ⟨q, hqv⟩ : ∃ q, v / 4 % 6 = q := ⟨_, rfl⟩
    rw [hqv] at hq6 ⊢
    exact Lx.sign (UInt8.ofNat (sigC q)) (by
      have : q = 0 ∨ q = 1 ∨ q = 2 ∨ q = 3 ∨ q = 4 ∨ q = 5 := by omega
      rcases this with rfl | rfl | rfl | rfl | rfl | rfl <;> decide) h

def wCat : List Nat → ByteArray
  | [] => ⟨#[]⟩
  | v :: l => wW v ++ (wSep v ++ wCat l)
def wToks : List Nat → Nat → List Tk
  | [], _ => []
  | v :: l, o => wTk v o :: wToks l (o + (wW v).size + (wSep v).size)
theorem wToks_on (m : Nat) : ∀ l o, (wToks l o).map (Tk.on m) = wToks l (o + m) := by
  intro l
  induction l with
  | nil => intro o; rfl
  | cons v l ih =>
    intro o
    rw [wToks, List.map_cons, ih, wToks]
    rw [show o + (wW v).size + (wSep v).size + m = o + m + (wW v).size + (wSep v).size by omega]; rfl
theorem cat_lx : ∀ l, Lx (wCat l) (wToks l 0) := by
  intro l
  induction l with
  | nil => exact Lx.nil
  | cons v l ih =>
    obtain ⟨h1, h2, h3⟩ := sep_lx v ih
    have := piece_lx v h2 h3 h1
    rw [wToks_on, wToks_on] at this
    rw [wCat, wToks]
    rw [show 0 + (wSep v).size + (wW v).size = 0 + (wW v).size + (wSep v).size by omega] at this
    exact this
theorem cat_snoc (v : Nat) : ∀ l, wCat (l ++ [v]) = (wCat l ++ wW v) ++ wSep v := by
  intro l
  induction l with
  | nil =>
    show wW v ++ (wSep v ++ ⟨#[]⟩) = _
    rw [app_nil]
    show _ = ((⟨#[]⟩ : ByteArray) ++ wW v) ++ wSep v
    have : (⟨#[]⟩ : ByteArray) ++ wW v = wW v := by apply ByteArray.ext; simp
    rw [this]
  | cons u l ih =>
    show wW u ++ (wSep u ++ wCat (l ++ [v])) = ((wW u ++ (wSep u ++ wCat l)) ++ wW v) ++ wSep v
    rw [ih]; simp only [app_assoc]
theorem toks_snoc (v : Nat) : ∀ l o, wToks (l ++ [v]) o = wToks l o ++ [wTk v (o + (wCat l).size)] := by
  intro l
  induction l with
  | nil => intro o; rfl
  | cons u l ih =>
    intro o
    show wTk u o :: wToks (l ++ [v]) (o + (wW u).size + (wSep u).size) = wTk u o :: (wToks l (o + (wW u).size + (wSep u).size) ++ [_])
    rw [ih]
    congr 4
    show o + (wW u).size + (wSep u).size + (wCat l).size = o + (wW u ++ (wSep u ++ wCat l)).size
    rw [ByteArray.size_append, ByteArray.size_append]; omega
theorem toks_len : ∀ l o, (wToks l o).length = l.length := by
  intro l
  induction l with
  | nil => intro o; rfl
  | cons v l ih => intro o; rw [wToks, List.length_cons, List.length_cons, ih]
theorem pick4_size (a b c d : ByteArray) (j m : Nat) (ha : a.size ≤ m) (hb : b.size ≤ m) (hc : c.size ≤ m) (hd : d.size ≤ m) : (pick4 a b c d j).size ≤ m := by
  unfold pick4
  split
  · exact ha
  · split
    · exact hb
    · split
      · exact hc
      · exact hd
theorem itoaS_size (n : Int) (h0 : -100 ≤ n) (h1 : n ≤ 100) : (itoaS n).size ≤ 14 := by
  have h := dec_len13 n.natAbs (by omega)
  have : (itoaS n).size = (minusL (decide (n < 0)) ++ dec n.natAbs).length := by unfold itoaS; simp [ByteArray.size]
  rw [this]
  unfold minusL
  split <;> simp <;> omega
theorem wW_size (v : Nat) : (wW v).size ≤ 14 := by
  unfold wW
  split
  · exact Nat.le_trans (pick4_size _ _ _ _ _ 6 (by decide) (by decide) (by decide) (by decide)) (by decide)
  · split
    · exact itoaS_size _ (by unfold wN; omega) (by unfold wN; omega)
    · split
      · exact Nat.le_trans (pick4_size _ _ _ _ _ 6 (by decide) (by decide) (by decide) (by decide)) (by decide)
      · rw [six_at _ (by omega)]; exact (show (1 : Nat) ≤ 14 by omega)
theorem wSep_size (v : Nat) : (wSep v).size ≤ 2 := by
  unfold wSep
  split
  · decide
  · split <;> decide
theorem cat_size : ∀ l, (wCat l).size ≤ 16 * l.length := by
  intro l
  induction l with
  | nil => exact Nat.le_refl _
  | cons v l ih =>
    have := wW_size v
    have := wSep_size v
    rw [wCat, ByteArray.size_append, ByteArray.size_append, List.length_cons]; omega

end Cle
end Go.Proofs.YtfbgdjcnlnfoaaaDoor
