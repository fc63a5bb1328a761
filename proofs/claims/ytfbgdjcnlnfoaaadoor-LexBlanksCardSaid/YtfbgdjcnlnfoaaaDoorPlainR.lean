/- Plain: lex: a text laid of pieces is read piece by piece. -/
import Derived.Test.YtfbgdjcnlnfoaaaDoorPlainQ
import Derived.Test.YtfbgdjcnlnfoaaaDoorPlainG
namespace Go.Proofs.YtfbgdjcnlnfoaaaDoor
namespace Cle

theorem lexF_fuel (s : ByteArray) (P : List Pt) : ∀ n m i, P.length < n + i → P.length < m + i → lexF s P n i = lexF s P m i := by
  intro n
  induction n with
  | zero =>
    intro m i h1 h2
    cases m with
    | zero => rfl
    | succ m => rw [lexF_end (by have := skip_le P i; omega)]; rfl
  | succ n ih =>
    intro m i h1 h2
    have hs := skip_le P i
    cases m with
    | zero => rw [lexF_end (by omega)]; rfl
    | succ m =>
      rw [lexF, lexF]
      by_cases h3 : P.length ≤ skip P i
      · rw [if_pos h3, if_pos h3]
      · rw [if_neg h3, if_neg h3]
        by_cases h4 : (tokO s P (skip P i)).2.1 = true
        · rw [if_pos h4, if_pos h4]
          have hg := tokO_gt (s := s) (P := P) (i := skip P i) (by omega) h4
          rw [ih m _ (by omega) (by omega)]
        · rw [if_neg h4, if_neg h4]

/-- A text's tokens. -/
def Lx (t : ByteArray) (l : List Tk) : Prop := lexF t (pts t) ((pts t).length + 1) 0 = .ok l
theorem Lx.lexL {t : ByteArray} {l : List Tk} (h : Lx t l) (hs : t.size ≤ 1000) : lexL t = (l, 0, 0) := by
  unfold Lx at h
  unfold Cle.lexL
  rw [if_neg (by omega), h]
theorem pts_nil : pts ⟨#[]⟩ = [] := rfl
theorem Lx.nil : Lx ⟨#[]⟩ [] := rfl
theorem app_assoc (a b c : ByteArray) : (a ++ b) ++ c = a ++ (b ++ c) := by
  apply ByteArray.ext; simp
theorem app_nil (a : ByteArray) : a ++ (⟨#[]⟩ : ByteArray) = a := by
  apply ByteArray.ext; simp

theorem one_pts (c : UInt8) (hc : c.toNat < 128) : pts ⟨#[c]⟩ = [⟨c.toNat, 0, 1⟩] := by
  have h : (0 : Nat) < (⟨#[c]⟩ : ByteArray).size := Nat.zero_lt_one
  have hd := dec_ascii ⟨#[c]⟩ 0 h (by rw [← bY_eq ⟨#[c]⟩ 0 h]; exact hc)
  have e : bY ⟨#[c]⟩ 0 = c.toNat := by rw [← bY_eq ⟨#[c]⟩ 0 h]; rfl
  rw [pts_eq, ptsAt_step _ 0 h, hd, ptsAt_end _ _ (by show ¬ (0 + 1 < 1); omega), e]
theorem one_valid (c : UInt8) (hc : c.toNat < 128) : valid ⟨#[c]⟩ = true := by
  unfold valid
  rw [one_pts c hc]
  simp [Pt.ok]; omega
theorem one_cut (c : UInt8) (hc : c.toNat < 128) (r : ByteArray) : Cut (⟨#[c]⟩ ++ r) r [⟨c.toNat, 0, 1⟩] 1 := by
  have := Cut.of_valid ⟨#[c]⟩ r (one_valid c hc)
  rw [one_pts c hc] at this
  exact this
theorem one_get (c : UInt8) (hc : c.toNat < 128) (r : ByteArray) : (pts (⟨#[c]⟩ ++ r))[0]? = some ⟨c.toNat, 0, 1⟩ := by
  rw [(one_cut c hc r).pts]; rfl
theorem one_isB (c : UInt8) (hc : c.toNat < 128) (r : ByteArray) (x : Int) : isB (pts (⟨#[c]⟩ ++ r)) 0 x = ((c.toNat : Int) == x) := by
  unfold isB; rw [one_get c hc r]

theorem Lx.cons {s t : ByteArray} {A : List Pt} {d : Nat} (hc : Cut s t A d) {l : List Tk} (h : Lx t l) (n : Nat) (hn : (pts t).length < n) : lexF s (pts s) n A.length = .ok (l.map (Tk.on A.length)) := by
  have := hc.lexF n 0
  rw [Nat.add_zero] at this
  rw [this, lexF_fuel t (pts t) n ((pts t).length + 1) 0 (by omega) (by omega), h]
  rfl
/-- A blank ahead. -/
theorem Lx.blank (c : UInt8) (hc : c = 32 ∨ c = 9 ∨ c = 10 ∨ c = 13) {t : ByteArray} {l : List Tk} (h : Lx t l) : Lx (⟨#[c]⟩ ++ t) (l.map (Tk.on 1)) := by
  have hlt : c.toNat < 128 := by rcases hc with rfl | rfl | rfl | rfl <;> decide
  have hcut := one_cut c hlt t
  have hlen := hcut.len
  have hb : blankB (pts (⟨#[c]⟩ ++ t)) 0 = true := by
    unfold blankB
    rw [one_isB c hlt, one_isB c hlt, one_isB c hlt, one_isB c hlt]
    rcases hc with rfl | rfl | rfl | rfl <;> rfl
  have hsk : skip (pts (⟨#[c]⟩ ++ t)) 0 = skip (pts (⟨#[c]⟩ ++ t)) 1 := skip_blank (by rw [hlen]; show 0 < 1 + _; omega) hb
  have hx := h.cons hcut ((pts (⟨#[c]⟩ ++ t)).length + 1) (by rw [hlen]; omega)
  refine Eq.trans ?_ hx
  show _ = lexF _ _ _ 1
  rw [lexF, lexF, hsk]
/-- A token ahead. -/
theorem Lx.tok {p t : ByteArray} {l : List Tk} {x : Tk} (hp : valid p = true) (hne : pts p ≠ []) (hsk : skip (pts (p ++ t)) 0 = 0) (htk : tokO (p ++ t) (pts (p ++ t)) 0 = (x, true, (pts p).length)) (h : Lx t l) :
    Lx (p ++ t) (x :: l.map (Tk.on (pts p).length)) := by
  have hcut := Cut.of_valid p t hp
  have hlen := hcut.len
  have hpl : 0 < (pts p).length := List.length_pos_iff.2 hne
  have hx := h.cons hcut (pts (p ++ t)).length (by rw [hlen]; omega)
  unfold Lx
  rw [lexF_go (by rw [hsk, hlen]; omega) (by rw [hsk, htk]), hsk, htk]
  simp only []
  rw [hx]; rfl

/-- The head is none of a word's, a number's. -/
def Stop (t : ByteArray) : Prop := letB (pts t) 0 = false ∧ digB (pts t) 0 = false
theorem stop_nil : Stop ⟨#[]⟩ := ⟨rfl, rfl⟩
theorem stop_one (c : UInt8) (hc : c.toNat < 48 ∨ (58 ≤ c.toNat ∧ c.toNat < 65)) (t : ByteArray) : Stop (⟨#[c]⟩ ++ t) := by
  have hlt : c.toNat < 128 := by omega
  unfold Stop letB digB
  rw [one_get c hlt t]
  simp only [letterB, digitB]
  constructor
  · rw [Bool.and_eq_false_iff]; right
    simp only [Bool.or_eq_false_iff, Bool.and_eq_false_iff, beq_eq_false_iff_ne, decide_eq_false_iff_not]
    omega
  · simp only [Bool.and_eq_false_iff, decide_eq_false_iff_not]; omega

theorem runTo_all {f : Nat → Bool} {len m : Nat} (hm : m ≤ len) (hall : ∀ j, j < m → f j = true) (hst : f m = false) : runTo f len 0 = m := by
  have h : ∀ k, k ≤ m → runTo f len 0 = runTo f len k := by
    intro k
    induction k with
    | zero => intro _; rfl
    | succ k ih =>
      intro hk
      rw [ih (by omega), runTo_go (by omega) (hall k (by omega))]
  rw [h m (Nat.le_refl _)]
  exact runTo_stop hst
theorem byteAt_zero (s : ByteArray) : byteAt s (pts s) 0 = 0 := byteAt_head s 0 (Nat.zero_le _)

/-- A word's code points. -/
def wordy (w : ByteArray) : Bool := letB (pts w) 0 && ((List.range (pts w).length).all fun k => letB (pts w) k || digB (pts w) k) && valid w
theorem app_get (p t : ByteArray) (hp : valid p = true) (k : Nat) (hk : k < (pts p).length) : (pts (p ++ t))[k]? = (pts p)[k]? := by
  rw [pts_app p t hp, List.getElem?_append_left hk]
theorem extract_app (p t : ByteArray) : (p ++ t).extract 0 p.size = p := by
  apply ByteArray.ext
  apply Array.ext'
  simp only [ByteArray.data_extract, ByteArray.data_append, Array.toList_extract, Array.toList_append, List.extract_eq_take_drop, List.drop_zero, Nat.sub_zero]
  rw [List.take_append_of_le_length (by show p.size ≤ p.data.toList.length; exact Nat.le_refl _)]
  exact List.take_of_length_le (by show p.data.toList.length ≤ p.size; exact Nat.le_refl _)
theorem tok_word {w t : ByteArray} (hw : wordy w = true) (ht : Stop t) (hs : w.size ≤ 100) : tokO (w ++ t) (pts (w ++ t)) 0 = (⟨1, fold w, 0, 0⟩, true, (pts w).length) ∧ skip (pts (w ++ t)) 0 = 0 ∧ pts w ≠ [] ∧ valid w = true := by
  unfold wordy at hw
  simp only [Bool.and_eq_true] at hw
  obtain ⟨⟨h0, hall⟩, hv⟩ := hw
  have hlt := letB_lt h0
  have hne : pts w ≠ [] := by intro e; rw [e] at hlt; exact absurd hlt (by simp)
  have hcut := Cut.of_valid w t hv
  have hlen := hcut.len
  have hL : ∀ k, k < (pts w).length → letB (pts (w ++ t)) k = letB (pts w) k := fun k hk => by unfold letB; rw [app_get w t hv k hk]
  have hD : ∀ k, k < (pts w).length → digB (pts (w ++ t)) k = digB (pts w) k := fun k hk => by unfold digB; rw [app_get w t hv k hk]
  have hB : ∀ c, isB (pts (w ++ t)) 0 c = isB (pts w) 0 c := fun c => by unfold isB; rw [app_get w t hv 0 hlt]
  have hend : wordEnd (pts (w ++ t)) 0 = (pts w).length := by
    refine runTo_all (by rw [hlen]; omega) (fun j hj => ?_) ?_
    · rw [hL j hj, hD j hj]
      exact List.all_eq_true.1 hall j (List.mem_range.2 hj)
    · have h1 := hcut.letB 0
      have h2 := hcut.digB 0
      rw [Nat.add_zero] at h1 h2
      rw [h1, h2, ht.1, ht.2]; rfl
  have hbe : byteAt (w ++ t) (pts (w ++ t)) (pts w).length = w.size := by
    have := hcut.byteAt 0
    rw [Nat.add_zero, byteAt_zero t] at this
    exact this
  have hwt : wordT (w ++ t) (pts (w ++ t)) 0 = w := by
    unfold wordT
    rw [hend, byteAt_zero, hbe, extract_app]
  have hno : ∀ c : Int, (c = 32 ∨ c = 9 ∨ c = 10 ∨ c = 13 ∨ c = 45) → isB (pts w) 0 c = false := by
    intro c hc
    unfold letB at h0
    unfold isB
    rw [List.getElem?_eq_getElem hlt] at h0 ⊢
    simp only [letterB, Bool.and_eq_true, Bool.or_eq_true, beq_iff_eq, decide_eq_true_eq] at h0
    rw [beq_eq_false_iff_ne]
    omega
  refine ⟨?_, ?_, hne, hv⟩
  · unfold tokO
    rw [hL 0 hlt, if_pos h0]
    unfold wordO
    rw [hwt, hend, decide_eq_true hs]
  · refine skip_stop ?_ ?_
    · unfold blankB
      rw [hB, hB, hB, hB, hno 32 (by omega), hno 9 (by omega), hno 10 (by omega), hno 13 (by omega)]; rfl
    · unfold dashB
      rw [hB, hno 45 (by omega), Bool.false_and]
theorem Lx.word {w t : ByteArray} {l : List Tk} (hw : wordy w = true) (ht : Stop t) (hs : w.size ≤ 100) (h : Lx t l) : Lx (w ++ t) (⟨1, fold w, 0, 0⟩ :: l.map (Tk.on (pts w).length)) := by
  obtain ⟨h1, h2, h3, h4⟩ := tok_word hw ht hs
  exact Lx.tok h4 h3 h2 h1 h

theorem tok_sign (c : UInt8) (hc : c = 40 ∨ c = 41 ∨ c = 44 ∨ c = 59 ∨ c = 61 ∨ c = 42) (t : ByteArray) : tokO (⟨#[c]⟩ ++ t) (pts (⟨#[c]⟩ ++ t)) 0 = (⟨4, ⟨#[c]⟩, 0, 0⟩, true, 1) ∧ skip (pts (⟨#[c]⟩ ++ t)) 0 = 0 := by
  have hlt : c.toNat < 128 := by rcases hc with rfl | rfl | rfl | rfl | rfl | rfl <;> decide
  have hst : Stop (⟨#[c]⟩ ++ t) := stop_one c (by rcases hc with rfl | rfl | rfl | rfl | rfl | rfl <;> decide) t
  have hr : rAt (pts (⟨#[c]⟩ ++ t)) 0 = (c.toNat : Int) := by unfold rAt; rw [one_get c hlt]
  constructor
  · unfold tokO
    rw [hst.1, hst.2, one_isB c hlt, one_isB c hlt, hr]
    rcases hc with rfl | rfl | rfl | rfl | rfl | rfl <;> rfl
  · refine skip_stop ?_ ?_
    · unfold blankB
      rw [one_isB c hlt, one_isB c hlt, one_isB c hlt, one_isB c hlt]
      rcases hc with rfl | rfl | rfl | rfl | rfl | rfl <;> rfl
    · unfold dashB
      rw [one_isB c hlt]
      rcases hc with rfl | rfl | rfl | rfl | rfl | rfl <;> rfl
theorem Lx.sign (c : UInt8) (hc : c = 40 ∨ c = 41 ∨ c = 44 ∨ c = 59 ∨ c = 61 ∨ c = 42) {t : ByteArray} {l : List Tk} (h : Lx t l) : Lx (⟨#[c]⟩ ++ t) (⟨4, ⟨#[c]⟩, 0, 0⟩ :: l.map (Tk.on 1)) := by
  have hlt : c.toNat < 128 := by rcases hc with rfl | rfl | rfl | rfl | rfl | rfl <;> decide
  obtain ⟨h1, h2⟩ := tok_sign c hc t
  have e : (pts ⟨#[c]⟩).length = 1 := by rw [one_pts c hlt]; rfl
  have := Lx.tok (p := ⟨#[c]⟩) (one_valid c hlt) (by rw [one_pts c hlt]; simp) h2 (by rw [h1, e]) h
  rw [e] at this
  exact this

end Cle
end Go.Proofs.YtfbgdjcnlnfoaaaDoor
