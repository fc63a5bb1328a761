/- Plain: right texts, code point by code point; quoted texts and numbers as tokens. -/
import Derived.Test.YtfbgdjcnlnfoaaaDoorPlainR
namespace Go.Proofs.YtfbgdjcnlnfoaaaDoor
namespace Cle

/-- A code point that was decoded needs no more than its own bytes. -/
theorem decN_cut (n b0 b1 b2 b3 c1 c2 c3 w : Nat) (hw : (Lib.decodeN n b0 b1 b2 b3).2 = w) (h1 : 1 < w → c1 = b1) (h2 : 2 < w → c2 = b2) (h3 : 3 < w → c3 = b3)
    (hok : (Lib.decodeN n b0 b1 b2 b3).1 ≠ 65533 ∨ 1 < (Lib.decodeN n b0 b1 b2 b3).2) : Lib.decodeN w b0 c1 c2 c3 = Lib.decodeN n b0 b1 b2 b3 := by
  unfold Lib.decodeN at hok hw ⊢
  by_cases a1 : b0 < 128
  · rw [if_pos a1, if_pos a1]
  · rw [if_neg a1] at hok hw
    rw [if_neg a1, if_neg a1]
    by_cases a2 : b0 / 32 = 6 ∧ (1 < n ∧ b1 / 64 = 2)
    · rw [if_pos a2] at hok hw
      by_cases q : b0 % 32 * 64 + b1 % 64 ≥ 128
      · rw [if_pos q] at hw
        simp only at hw
        obtain rfl := h1 (by omega)
        rw [if_pos a2, if_pos ⟨a2.1, by omega, a2.2.2⟩]
      · rw [if_neg q] at hok; simp at hok
    · rw [if_neg a2] at hok hw
      by_cases a3 : b0 / 16 = 14 ∧ (1 < n ∧ b1 / 64 = 2) ∧ (2 < n ∧ b2 / 64 = 2)
      · rw [if_pos a3] at hok hw
        by_cases q : b0 % 16 * 4096 + b1 % 64 * 64 + b2 % 64 ≥ 2048 ∧ (b0 % 16 * 4096 + b1 % 64 * 64 + b2 % 64 < 55296 ∨ (57344 ≤ b0 % 16 * 4096 + b1 % 64 * 64 + b2 % 64 ∧ b0 % 16 * 4096 + b1 % 64 * 64 + b2 % 64 ≤ 1114111))
        · rw [if_pos q] at hw
          simp only at hw
          obtain rfl := h1 (by omega)
          obtain rfl := h2 (by omega)
          rw [if_neg a2, if_pos a3, if_neg (by omega), if_pos ⟨a3.1, ⟨by omega, a3.2.1.2⟩, ⟨by omega, a3.2.2.2⟩⟩]
        · rw [if_neg q] at hok; simp at hok
      · rw [if_neg a3] at hok hw
        by_cases a4 : b0 / 8 = 30 ∧ (1 < n ∧ b1 / 64 = 2) ∧ (2 < n ∧ b2 / 64 = 2) ∧ (3 < n ∧ b3 / 64 = 2)
        · rw [if_pos a4] at hok hw
          by_cases q : b0 % 8 * 262144 + b1 % 64 * 4096 + b2 % 64 * 64 + b3 % 64 ≥ 65536 ∧ (b0 % 8 * 262144 + b1 % 64 * 4096 + b2 % 64 * 64 + b3 % 64 < 55296 ∨ (57344 ≤ b0 % 8 * 262144 + b1 % 64 * 4096 + b2 % 64 * 64 + b3 % 64 ∧ b0 % 8 * 262144 + b1 % 64 * 4096 + b2 % 64 * 64 + b3 % 64 ≤ 1114111))
          · rw [if_pos q] at hw
            simp only at hw
            obtain rfl := h1 (by omega)
            obtain rfl := h2 (by omega)
            obtain rfl := h3 (by omega)
            rw [if_neg a2, if_neg a3, if_pos a4, if_neg (by omega), if_neg (by omega), if_pos ⟨a4.1, ⟨by omega, a4.2.1.2⟩, ⟨by omega, a4.2.2.1.2⟩, ⟨by omega, a4.2.2.2.2⟩⟩]
          · rw [if_neg q] at hok; simp at hok
        · rw [if_neg a4] at hok; simp at hok

theorem bY_take (s : ByteArray) (n k : Nat) (hk : k < n) (hn : n ≤ s.size) : bY (s.extract 0 n) k = bY s k := by
  have h1 : k < (s.extract 0 n).size := by rw [ByteArray.size_extract]; omega
  rw [← bY_eq _ k h1, ← bY_eq s k (by omega)]
  congr 1
  rw [ByteArray.getElem_extract]
  simp
theorem split_at (s : ByteArray) (n : Nat) (hn : n ≤ s.size) : s = s.extract 0 n ++ s.extract n s.size := by
  apply ByteArray.ext
  apply Array.ext'
  simp only [ByteArray.data_extract, ByteArray.data_append, Array.toList_extract, Array.toList_append, List.extract_eq_take_drop, List.drop_zero, Nat.sub_zero]
  rw [List.take_of_length_le (l := s.data.toList.drop n) (by simp)]
  exact (List.take_append_drop n _).symm

theorem valid_ind {C : ByteArray → Prop} (nil : C ⟨#[]⟩)
    (cons : ∀ c t, valid c = true → (pts c).length = 1 → ((∃ b : UInt8, c = ⟨#[b]⟩ ∧ b.toNat < 128) ∨ (∀ b ∈ c.data.toList, 128 ≤ b.toNat)) → valid t = true → C t → C (c ++ t)) :
    ∀ (n : Nat) (s : ByteArray), s.size ≤ n → valid s = true → C s := by
  intro n
  induction n with
  | zero =>
    intro s hs _
    have : s = ⟨#[]⟩ := by
      apply ByteArray.ext
      exact Array.eq_empty_of_size_eq_zero (by show s.size = 0; omega)
    rw [this]; exact nil
  | succ n ih =>
    intro s hs hv
    by_cases h0 : s.size = 0
    · exact ih s (by omega) hv
    · have hlt : 0 < s.size := by omega
      have hw := width_pos s 0 hlt
      have hl := width_le s 0 hlt
      have hall : (ptsAt s 0).all Pt.ok = true := by rw [← pts_eq]; exact hv
      rw [ptsAt_step s 0 hlt, List.all_cons, Bool.and_eq_true] at hall
      have hok := (ok_iff s 0).1 hall.1
      obtain ⟨w, hwd⟩ : ∃ w, (Utf8.decode s 0).2 = w := ⟨_, rfl⟩
      rw [hwd] at hw hl
      rw [Nat.zero_add] at hl
      have hcs : (s.extract 0 w).size = w := by rw [ByteArray.size_extract]; omega
      have hf := dec_facts s 0 hlt
      have hbd : (Utf8.decode s 0).2 ≤ 4 := by
        rw [dec_bY]
        rcases decN_facts (s.size - 0) (bY s 0) (bY s (0 + 1)) (bY s (0 + 2)) (bY s (0 + 3)) (by omega) with h1 | ⟨_, _, _, h4, _⟩ <;> omega
      have hdec : Utf8.decode (s.extract 0 w) 0 = Utf8.decode s 0 := by
        rw [dec_bY, dec_bY s 0, hcs, Nat.sub_zero]
        rw [dec_bY] at hok hwd
        rw [bY_take s w 0 (by omega) (by omega)]
        exact decN_cut (s.size - 0) (bY s 0) (bY s (0 + 1)) (bY s (0 + 2)) (bY s (0 + 3)) _ _ _ w hwd (fun h => bY_take s w 1 (by omega) (by omega)) (fun h => bY_take s w 2 (by omega) (by omega)) (fun h => bY_take s w 3 (by omega) (by omega)) hok
      have hpc : pts (s.extract 0 w) = [⟨(Utf8.decode s 0).1, 0, w⟩] := by
        rw [pts_eq, ptsAt_step _ 0 (by omega), hdec, hwd, ptsAt_end _ _ (by omega)]
      have hvc : valid (s.extract 0 w) = true := by
        unfold valid
        rw [hpc]
        have := hall.1
        rw [hwd] at this
        simp [this]
      have hvt : valid (s.extract w s.size) = true := by
        have := valid_app (s.extract 0 w) (s.extract w s.size) hvc
        rw [← split_at s w (by omega), hv] at this
        exact this.symm
      have hcases : (∃ b : UInt8, s.extract 0 w = ⟨#[b]⟩ ∧ b.toNat < 128) ∨ (∀ b ∈ (s.extract 0 w).data.toList, 128 ≤ b.toNat) := by
        rcases hf with ⟨h1, h2⟩ | ⟨h1, h2, h3⟩
        · left
          have hw1 : w = 1 := by omega
          subst hw1
          refine ⟨s[0], extract1 s 0 hlt, ?_⟩
          rw [bY_eq s 0 hlt]
          rcases h2 with h2 | h2
          · exact h2.2
          · rw [h1] at hok; rcases hok with hok | hok
            · exact absurd h2 hok
            · omega
        · right
          intro b hb
          obtain ⟨k, hk, rfl⟩ := List.getElem_of_mem hb
          have hk' : k < (s.extract 0 w).size := hk
          have : (s.extract 0 w).data.toList[k] = (s.extract 0 w)[k] := rfl
          rw [this, bY_eq _ k hk', bY_take s w k (by omega) (by omega)]
          by_cases hk0 : k = 0
          · subst hk0; exact h1
          · have := h3 k (by omega) (by omega)
            rw [Nat.zero_add] at this
            omega
      rw [split_at s w (by omega)]
      exact cons _ _ hvc (by rw [hpc]; rfl) hcases hvt (ih _ (by rw [ByteArray.size_extract]; omega) hvt)

theorem dbl_app (a b : ByteArray) : (⟨((a ++ b).data.toList.flatMap dbl).toArray⟩ : ByteArray) = ⟨(a.data.toList.flatMap dbl).toArray⟩ ++ ⟨(b.data.toList.flatMap dbl).toArray⟩ := by
  apply ByteArray.ext
  apply Array.ext'
  simp
theorem dbl_high : ∀ (l : List UInt8), (∀ b ∈ l, 128 ≤ b.toNat) → l.flatMap dbl = l := by
  intro l
  induction l with
  | nil => intro _; rfl
  | cons c l ih =>
    intro h
    have hc : c ≠ 39 := fun e => by have := h c (List.mem_cons_self); rw [e] at this; exact absurd this (by decide)
    rw [List.flatMap_cons, ih (fun b hb => h b (List.mem_cons_of_mem _ hb))]
    simp [dbl, hc]
theorem valid_dbl (s : ByteArray) (h : valid s = true) : valid ⟨(s.data.toList.flatMap dbl).toArray⟩ = true := by
  refine valid_ind (C := fun s => valid ⟨(s.data.toList.flatMap dbl).toArray⟩ = true) rfl ?_ s.size s (Nat.le_refl _) h
  intro c t hc _ hcs _ ht
  rw [dbl_app]
  have hvc : valid ⟨(c.data.toList.flatMap dbl).toArray⟩ = true := by
    rcases hcs with ⟨b, rfl, hb⟩ | hhi
    · by_cases h39 : b = 39
      · subst h39; decide +kernel
      · have e : (⟨((⟨#[b]⟩ : ByteArray).data.toList.flatMap dbl).toArray⟩ : ByteArray) = ⟨#[b]⟩ := by
          apply ByteArray.ext; apply Array.ext'; simp [dbl, h39]
        rw [e]; exact one_valid b hb
    · rw [dbl_high _ hhi]
      exact hc
  rw [valid_app _ _ hvc]
  exact ht
theorem quote_parts (s : ByteArray) : quote s = ⟨#[39]⟩ ++ (⟨(s.data.toList.flatMap dbl).toArray⟩ ++ ⟨#[39]⟩) := by
  rw [quote_dbl]
  apply ByteArray.ext; apply Array.ext'; simp
theorem valid_quote (s : ByteArray) (h : valid s = true) : valid (quote s) = true := by
  rw [quote_parts, valid_app _ _ (one_valid 39 (by decide)), valid_app _ _ (valid_dbl s h)]
  exact one_valid 39 (by decide)

/-- The head is no quote. -/
def NoQ (t : ByteArray) : Prop := t.data.toList.head? ≠ some 39
theorem noq_one (c : UInt8) (hc : c ≠ 39) (t : ByteArray) : NoQ (⟨#[c]⟩ ++ t) := by
  unfold NoQ
  rw [ByteArray.data_append, Array.toList_append]
  simp [hc]
theorem unquote_head (v t : ByteArray) (ht : NoQ t) : unquote (quote v ++ t) 0 = some (v, (((quote v).size : Nat) : Int)) := by
  have hd : (quote v ++ t).data.toList = 39 :: (v.data.toList.flatMap dbl ++ 39 :: t.data.toList) := by
    rw [ByteArray.data_append, Array.toList_append, quote_data]; simp
  have hsz : (quote v ++ t).size = (quote v).size + t.size := by rw [ByteArray.size_append]
  have hq := quote_size v
  unfold unquote
  rw [if_pos ⟨by omega, by omega, by rw [hd]; rfl⟩, hd]
  simp only [Int.toNat_zero, Nat.zero_add, List.drop_succ_cons, List.drop_zero]
  rw [unq_dbl t.data.toList ht v.data.toList]
  simp only [Option.map_some, Option.some.injEq, Prod.mk.injEq]
  refine ⟨trivial, ?_⟩
  rw [hq]; omega
theorem ptsAt_lt (s : ByteArray) : ∀ n pos, s.size - pos ≤ n → ∀ p ∈ ptsAt s pos, p.at_ < s.size := by
  intro n
  induction n with
  | zero => intro pos h p hp; rw [ptsAt_end s pos (by omega)] at hp; cases hp
  | succ n ih =>
    intro pos h p hp
    by_cases hlt : pos < s.size
    · have hw := width_pos s pos hlt
      rw [ptsAt_step s pos hlt] at hp
      rcases List.mem_cons.1 hp with rfl | hp
      · exact hlt
      · exact ih _ (by omega) p hp
    · rw [ptsAt_end s pos hlt] at hp; cases hp
theorem at_lt (s : ByteArray) (k : Nat) (h : k < (pts s).length) : (pts s)[k].at_ < s.size :=
  ptsAt_lt s s.size 0 (by omega) _ (by rw [← pts_eq]; exact List.getElem_mem h)

theorem tok_text {v t : ByteArray} (hv : valid v = true) (hs : v.size ≤ 100) (ht : NoQ t) : tokO (quote v ++ t) (pts (quote v ++ t)) 0 = (⟨3, v, 0, 0⟩, true, (pts (quote v)).length) ∧ skip (pts (quote v ++ t)) 0 = 0 ∧ pts (quote v) ≠ [] := by
  have hvq := valid_quote v hv
  have hcut := Cut.of_valid (quote v) t hvq
  have hlen := hcut.len
  have e1 : quote v ++ t = ⟨#[39]⟩ ++ ((⟨(v.data.toList.flatMap dbl).toArray⟩ ++ ⟨#[39]⟩) ++ t) := by rw [quote_parts, app_assoc]
  have hst : Stop (quote v ++ t) := by rw [e1]; exact stop_one 39 (by decide) _
  have hB : ∀ c, isB (pts (quote v ++ t)) 0 c = ((39 : Int) == c) := fun c => by rw [e1]; exact one_isB 39 (by decide) _ c
  have hq := quote_size v
  have hne : pts (quote v) ≠ [] := by
    rw [quote_parts, (one_cut 39 (by decide) _).pts]; simp
  have hend : textEnd (pts (quote v ++ t)) (((quote v).size : Nat) : Int) 0 = (pts (quote v)).length := by
    refine runTo_all (by rw [hlen]; omega) (fun j hj => ?_) ?_
    · simp only [app_get (quote v) t hvq j hj, List.getElem?_eq_getElem hj]
      exact decide_eq_true (by have := at_lt (quote v) j hj; omega)
    · have := hcut.get 0
      rw [Nat.add_zero] at this
      simp only [this]
      cases hp : (pts t)[0]? with
      | none => rfl
      | some p =>
        simp only [Option.map_some]
        exact decide_eq_false (by show ¬ (((p.at_ + (quote v).size : Nat) : Int) < _); omega)
  refine ⟨?_, ?_, hne⟩
  · unfold tokO
    rw [hst.1, hst.2, hB, hB]
    show textO (quote v ++ t) (pts (quote v ++ t)) 0 = _
    unfold textO
    rw [byteAt_zero]
    show (match unquote (quote v ++ t) 0 with | some x => _ | none => _) = _
    rw [unquote_head v t ht]
    simp only []
    rw [hend, hv, decide_eq_true hs]; rfl
  · refine skip_stop ?_ ?_
    · unfold blankB; rw [hB, hB, hB, hB]; rfl
    · unfold dashB; rw [hB]; rfl
theorem Lx.text {v t : ByteArray} {l : List Tk} (hv : valid v = true) (hs : v.size ≤ 100) (ht : NoQ t) (h : Lx t l) : Lx (quote v ++ t) (⟨3, v, 0, 0⟩ :: l.map (Tk.on (pts (quote v)).length)) := by
  obtain ⟨h1, h2, h3⟩ := tok_text hv hs ht
  exact Lx.tok (valid_quote v hv) h3 h2 h1 h


/-- Digits, one behind the other: the number, whether it may be. -/
def numV : List UInt8 → Int → Bool → Int × Bool
  | [], v, ok => (v, ok)
  | c :: l, v, ok => numV l (min (v * 10 + ((c.toNat : Int) - 48)) 1099511627776) (ok && decide (v * 10 + ((c.toNat : Int) - 48) ≤ 1099511627776))
def digL (l : List UInt8) : Bool := l.all fun c => decide (48 ≤ c.toNat) && decide (c.toNat ≤ 57)
theorem cons_app (c : UInt8) (l : List UInt8) : (⟨(c :: l).toArray⟩ : ByteArray) = ⟨#[c]⟩ ++ ⟨l.toArray⟩ := by
  apply ByteArray.ext; apply Array.ext'; simp
theorem ascii_valid : ∀ l : List UInt8, (∀ c ∈ l, c.toNat < 128) → valid ⟨l.toArray⟩ = true ∧ (pts ⟨l.toArray⟩).length = l.length := by
  intro l
  induction l with
  | nil => intro _; exact ⟨rfl, rfl⟩
  | cons c l ih =>
    intro h
    have hc := h c (List.mem_cons_self)
    obtain ⟨h1, h2⟩ := ih (fun b hb => h b (List.mem_cons_of_mem _ hb))
    rw [cons_app]
    refine ⟨by rw [valid_app _ _ (one_valid c hc)]; exact h1, ?_⟩
    rw [(one_cut c hc _).len, h2]; simp; omega
theorem num_digits (t : ByteArray) (ht : digB (pts t) 0 = false) : ∀ (l : List UInt8), digL l = true → ∀ v ok,
    num (pts (⟨l.toArray⟩ ++ t)) 0 v ok = ((numV l v ok).1, (numV l v ok).2, l.length) := by
  intro l
  induction l with
  | nil =>
    intro _ v ok
    have e : (⟨([] : List UInt8).toArray⟩ : ByteArray) ++ t = t := by apply ByteArray.ext; simp
    rw [e, num_stop ht]; rfl
  | cons c l ih =>
    intro h v ok
    simp only [digL, List.all_cons, Bool.and_eq_true, decide_eq_true_eq] at h
    have hlt : c.toNat < 128 := by omega
    have ih' := ih (by unfold digL; exact h.2)
    rw [cons_app, app_assoc]
    have hcut := one_cut c hlt (⟨l.toArray⟩ ++ t)
    have hd : digB (pts (⟨#[c]⟩ ++ (⟨l.toArray⟩ ++ t))) 0 = true := by
      unfold digB; rw [one_get c hlt]
      simp only [digitB, Bool.and_eq_true, decide_eq_true_eq]; omega
    have hr : rAt (pts (⟨#[c]⟩ ++ (⟨l.toArray⟩ ++ t))) 0 = (c.toNat : Int) := by unfold rAt; rw [one_get c hlt]
    rw [num_go hd, hr]
    have := hcut.num 0 (min (v * 10 + ((c.toNat : Int) - 48)) 1099511627776) (ok && decide (v * 10 + ((c.toNat : Int) - 48) ≤ 1099511627776))
    rw [Nat.add_zero] at this
    show num _ ([(⟨c.toNat, 0, 1⟩ : Pt)].length) _ _ = _
    rw [this, ih']
    simp only [numV, List.length_cons, List.length_nil]
    rw [Nat.add_comm]
def minusL (neg : Bool) : List UInt8 := if neg then [45] else []
/-- A number's digits, as a token. -/
theorem tok_numberG (neg : Bool) (l : List UInt8) (hl : digL l = true) (hne : l ≠ []) (t : ByteArray) (ht : digB (pts t) 0 = false) (V : Int) (ok : Bool) (hV : numV l 0 true = (V, ok)) :
    tokO (⟨(minusL neg ++ l).toArray⟩ ++ t) (pts (⟨(minusL neg ++ l).toArray⟩ ++ t)) 0 = (⟨2, ⟨#[]⟩, if neg then -V else V, 0⟩, ok && !letB (pts t) 0, (minusL neg ++ l).length) ∧ skip (pts (⟨(minusL neg ++ l).toArray⟩ ++ t)) 0 = 0 ∧ valid ⟨(minusL neg ++ l).toArray⟩ = true ∧ (pts ⟨(minusL neg ++ l).toArray⟩).length = (minusL neg ++ l).length := by
  have hall : ∀ c ∈ minusL neg ++ l, c.toNat < 128 := by
    intro c hc
    rcases List.mem_append.1 hc with hc | hc
    · unfold minusL at hc; split at hc
      · rw [List.mem_singleton.1 hc]; decide
      · cases hc
    · have := List.all_eq_true.1 hl c hc
      simp only [Bool.and_eq_true, decide_eq_true_eq] at this; omega
  obtain ⟨hv, hlen⟩ := ascii_valid _ hall
  obtain ⟨d, l', rfl⟩ : ∃ d l', l = d :: l' := by cases l with | nil => exact absurd rfl hne | cons d l' => exact ⟨d, l', rfl⟩
  have hdd : 48 ≤ d.toNat ∧ d.toNat ≤ 57 := by
    have := List.all_eq_true.1 hl d (List.mem_cons_self)
    simp only [Bool.and_eq_true, decide_eq_true_eq] at this; exact this
  have hdlt : d.toNat < 128 := by omega
  have hnum := num_digits t ht (d :: l') hl
  have hds : ∀ r, (⟨(d :: l').toArray⟩ : ByteArray) ++ r = ⟨#[d]⟩ ++ (⟨l'.toArray⟩ ++ r) := fun r => by rw [cons_app, app_assoc]
  have hdig : digB (pts (⟨(d :: l').toArray⟩ ++ t)) 0 = true := by
    rw [hds]; unfold digB; rw [one_get d hdlt]
    simp only [digitB, Bool.and_eq_true, decide_eq_true_eq]; omega
  have hend : letB (pts (⟨(minusL neg ++ (d :: l')).toArray⟩ ++ t)) (minusL neg ++ (d :: l')).length = letB (pts t) 0 := by
    have hcut := Cut.of_valid _ t hv
    have := hcut.letB 0
    rw [Nat.add_zero, hlen] at this
    exact this
  have hnb : ∀ x : Int, (x = 32 ∨ x = 9 ∨ x = 10 ∨ x = 13 ∨ x = 39 ∨ x = 45) → isB (pts (⟨(d :: l').toArray⟩ ++ t)) 0 x = false := by
    intro x hx
    rw [hds, one_isB d hdlt, beq_eq_false_iff_ne]; omega
  have hnl : letB (pts (⟨(d :: l').toArray⟩ ++ t)) 0 = false := by
    rw [hds]; unfold letB; rw [one_get d hdlt]
    simp only [letterB]
    rw [Bool.and_eq_false_iff]; right
    simp only [Bool.or_eq_false_iff, Bool.and_eq_false_iff, beq_eq_false_iff_ne, decide_eq_false_iff_not]
    omega
  cases neg with
  | false =>
    have e0 : minusL false ++ (d :: l') = d :: l' := rfl
    rw [e0] at hend hv hlen ⊢
    refine ⟨?_, ?_, hv, hlen⟩
    · unfold tokO
      rw [hnl, hdig]
      show numberO _ 0 = _
      unfold numberO numR numStart
      rw [hnb 45 (by omega)]
      simp only [Bool.false_eq_true, if_false]
      rw [hdig, hnum 0 true, hV]
      simp only []
      rw [hend]
      try rfl
    · refine skip_stop ?_ ?_
      · unfold blankB; rw [hnb 32 (by omega), hnb 9 (by omega), hnb 10 (by omega), hnb 13 (by omega)]; rfl
      · unfold dashB; rw [hnb 45 (by omega)]; rfl
  | true =>
    have e0 : minusL true ++ (d :: l') = 45 :: (d :: l') := rfl
    rw [e0] at hend hv hlen ⊢
    have e1 : (⟨(45 :: (d :: l')).toArray⟩ : ByteArray) ++ t = ⟨#[45]⟩ ++ (⟨(d :: l').toArray⟩ ++ t) := by rw [cons_app, app_assoc]
    have hcut := one_cut 45 (by decide) (⟨(d :: l').toArray⟩ ++ t)
    have hB : ∀ x, isB (pts (⟨#[45]⟩ ++ (⟨(d :: l').toArray⟩ ++ t))) 0 x = ((45 : Int) == x) := fun x => one_isB 45 (by decide) _ x
    have hst := stop_one 45 (by decide) (⟨(d :: l').toArray⟩ ++ t)
    have hd1 : digB (pts (⟨#[45]⟩ ++ (⟨(d :: l').toArray⟩ ++ t))) 1 = true := by
      have := hcut.digB 0; rw [Nat.add_zero] at this
      exact this.trans hdig
    have hn1 := hcut.num 0 0 true
    rw [Nat.add_zero, hnum 0 true, hV] at hn1
    rw [e1] at hend ⊢
    refine ⟨?_, ?_, hv, hlen⟩
    · unfold tokO
      rw [hst.1, hst.2, hB]
      show numberO _ 0 = _
      unfold numberO numR numStart
      rw [hB]
      show ((⟨2, ⟨#[]⟩, -(num _ (0 + 1) 0 (digB _ (0 + 1))).1, 0⟩, (num _ (0 + 1) 0 (digB _ (0 + 1))).2.1 && !letB _ (num _ (0 + 1) 0 (digB _ (0 + 1))).2.2, (num _ (0 + 1) 0 (digB _ (0 + 1))).2.2) : Tk × Bool × Nat) = _
      rw [hd1]
      have hn2 : num (pts (⟨#[45]⟩ ++ (⟨(d :: l').toArray⟩ ++ t))) (0 + 1) 0 true = (V, ok, (45 :: (d :: l')).length) := by
        refine hn1.trans ?_
        simp; omega
      rw [hn2]
      simp only []
      rw [hend]
      try rfl
    · refine skip_stop ?_ ?_
      · unfold blankB; rw [hB, hB, hB, hB]; rfl
      · unfold dashB
        have := hcut.isB 0 45; rw [Nat.add_zero] at this
        rw [show (0 + 1 : Nat) = [(⟨(45 : UInt8).toNat, 0, 1⟩ : Pt)].length from rfl, this, hnb 45 (by omega), Bool.and_false]
theorem tok_number (neg : Bool) (l : List UInt8) (hl : digL l = true) (hne : l ≠ []) (t : ByteArray) (ht : Stop t) (V : Int) (hV : numV l 0 true = (V, true)) :
    tokO (⟨(minusL neg ++ l).toArray⟩ ++ t) (pts (⟨(minusL neg ++ l).toArray⟩ ++ t)) 0 = (⟨2, ⟨#[]⟩, if neg then -V else V, 0⟩, true, (minusL neg ++ l).length) ∧ skip (pts (⟨(minusL neg ++ l).toArray⟩ ++ t)) 0 = 0 ∧ valid ⟨(minusL neg ++ l).toArray⟩ = true ∧ (pts ⟨(minusL neg ++ l).toArray⟩).length = (minusL neg ++ l).length := by
  have h := tok_numberG neg l hl hne t ht.2 V true hV
  rw [ht.1] at h
  exact h
theorem Lx.number (neg : Bool) (l : List UInt8) (hl : digL l = true) (hne : l ≠ []) {t : ByteArray} (ht : Stop t) (V : Int) (hV : numV l 0 true = (V, true)) {k : List Tk} (h : Lx t k) :
    Lx (⟨(minusL neg ++ l).toArray⟩ ++ t) (⟨2, ⟨#[]⟩, if neg then -V else V, 0⟩ :: k.map (Tk.on (minusL neg ++ l).length)) := by
  obtain ⟨h1, h2, h3, h4⟩ := tok_number neg l hl hne t ht V hV
  have := Lx.tok (l := k) h3 (by intro e; rw [e] at h4; simp at h4; exact hne (List.eq_nil_of_length_eq_zero (by omega))) h2 (by rw [h1, h4]) h
  rw [h4] at this
  exact this


/-- A number's decimal digits. -/
def decF : Nat → Nat → List UInt8
  | 0, _ => []
  | f + 1, n => if n < 10 then [UInt8.ofNat (48 + n)] else decF f (n / 10) ++ [UInt8.ofNat (48 + n % 10)]
def dec (n : Nat) : List UInt8 := decF (n + 1) n
theorem decF_fuel : ∀ f g n, n < f → n < g → decF f n = decF g n := by
  intro f
  induction f with
  | zero => intro g n h; omega
  | succ f ih =>
    intro g n h1 h2
    cases g with
    | zero => omega
    | succ g =>
      rw [decF, decF]
      split
      · rfl
      · rw [ih g (n / 10) (by omega) (by omega)]
theorem dec_one {n : Nat} (h : n < 10) : dec n = [UInt8.ofNat (48 + n)] := by unfold dec; rw [decF, if_pos h]
theorem dec_more {n : Nat} (h : 10 ≤ n) : dec n = dec (n / 10) ++ [UInt8.ofNat (48 + n % 10)] := by
  unfold dec
  rw [decF, if_neg (by omega), decF_fuel n (n / 10 + 1) (n / 10) (by omega) (by omega)]
theorem digit_nat (k : Nat) (h : k < 10) : (UInt8.ofNat (48 + k)).toNat = 48 + k := by
  rw [UInt8.toNat_ofNat']; omega
theorem dec_ind {C : Nat → Prop} (one : ∀ n, n < 10 → C n) (more : ∀ n, 10 ≤ n → C (n / 10) → C n) : ∀ n, C n := by
  intro n
  induction n using Nat.strongRecOn with
  | _ n ih =>
    by_cases h : n < 10
    · exact one n h
    · exact more n (by omega) (ih (n / 10) (by omega))
theorem dec_dig (n : Nat) : digL (dec n) = true ∧ dec n ≠ [] := by
  refine dec_ind (C := fun n => digL (dec n) = true ∧ dec n ≠ []) (fun n h => ?_) (fun n h ih => ?_) n
  · rw [dec_one h]
    refine ⟨?_, by simp⟩
    simp only [digL, List.all_cons, List.all_nil, Bool.and_true, Bool.and_eq_true, decide_eq_true_eq]
    rw [digit_nat n h]; omega
  · rw [dec_more h]
    refine ⟨?_, by simp⟩
    have := digit_nat (n % 10) (by omega)
    unfold digL at ih ⊢
    rw [List.all_append, ih.1]
    simp only [Bool.true_and, List.all_cons, List.all_nil, Bool.and_true, Bool.and_eq_true, decide_eq_true_eq]
    omega
theorem numV_app : ∀ (l : List UInt8) (m : List UInt8) v ok, numV (l ++ m) v ok = numV m (numV l v ok).1 (numV l v ok).2 := by
  intro l
  induction l with
  | nil => intro m v ok; rfl
  | cons c l ih => intro m v ok; rw [List.cons_append, numV, ih, numV]
theorem numV_dec (n : Nat) (h : n ≤ 1099511627776) : numV (dec n) 0 true = ((n : Int), true) := by
  revert h
  refine dec_ind (C := fun n => n ≤ 1099511627776 → numV (dec n) 0 true = ((n : Int), true)) (fun n h hn => ?_) (fun n h ih hn => ?_) n
  · rw [dec_one h, numV, numV, digit_nat n h]
    simp only [Prod.mk.injEq, Bool.true_and, decide_eq_true_eq]
    omega
  · rw [dec_more h, numV_app, ih (by omega), numV, numV, digit_nat (n % 10) (by omega)]
    simp only [Prod.mk.injEq, Bool.true_and, decide_eq_true_eq]
    omega
theorem numV_zeros (l : List UInt8) : ∀ z, numV (List.replicate z 48 ++ l) 0 true = numV l 0 true := by
  intro z
  induction z with
  | zero => rfl
  | succ z ih =>
    rw [List.replicate_succ, List.cons_append, numV]
    exact ih
theorem digL_zeros (l : List UInt8) (h : digL l = true) (z : Nat) : digL (List.replicate z 48 ++ l) = true := by
  unfold digL at h ⊢
  rw [List.all_append, h, Bool.and_true]
  rw [List.all_eq_true]
  intro c hc
  rw [(List.mem_replicate.1 hc).2]; decide
theorem dec_len (n : Nat) : (dec n).length ≤ n + 1 := by
  refine dec_ind (C := fun n => (dec n).length ≤ n + 1) (fun n h => ?_) (fun n h ih => ?_) n
  · rw [dec_one h]; simp
  · rw [dec_more h]; simp; omega
theorem dec_len13 (n : Nat) (h : n ≤ 1099511627776) : (dec n).length ≤ 13 := by
  have : ∀ k m, m < 10 ^ (k + 1) → (dec m).length ≤ k + 1 := by
    intro k
    induction k with
    | zero => intro m hm; rw [dec_one (by omega)]; simp
    | succ k ih =>
      intro m hm
      by_cases h10 : m < 10
      · rw [dec_one h10]; simp
      · have := ih (m / 10) (by rw [Nat.pow_succ] at hm; omega)
        rw [dec_more (by omega), List.length_append]; simp; omega
  exact this 12 n (by omega)

/-- What goes wrong. -/
def Lbad (t : ByteArray) (a : Nat) : Prop := lexF t (pts t) ((pts t).length + 1) 0 = .error a
theorem Lbad.lexL {t : ByteArray} {a : Nat} (h : Lbad t a) (hs : t.size ≤ 1000) : lexL t = ([], a, 3) := by
  unfold Lbad at h
  unfold Cle.lexL
  rw [if_neg (by omega), h]
theorem Lbad.here {t : ByteArray} (hne : pts t ≠ []) (hsk : skip (pts t) 0 = 0) (hb : (tokO t (pts t) 0).2.1 = false) : Lbad t 0 := by
  unfold Lbad
  rw [lexF_bad (by rw [hsk]; exact List.length_pos_iff.2 hne) (by rw [hsk]; exact hb), hsk]
theorem Lbad.blank (c : UInt8) (hc : c = 32 ∨ c = 9 ∨ c = 10 ∨ c = 13) {t : ByteArray} {a : Nat} (h : Lbad t a) : Lbad (⟨#[c]⟩ ++ t) (1 + a) := by
  have hlt : c.toNat < 128 := by rcases hc with rfl | rfl | rfl | rfl <;> decide
  have hcut := one_cut c hlt t
  have hlen := hcut.len
  have hb : blankB (pts (⟨#[c]⟩ ++ t)) 0 = true := by
    unfold blankB
    rw [one_isB c hlt, one_isB c hlt, one_isB c hlt, one_isB c hlt]
    rcases hc with rfl | rfl | rfl | rfl <;> rfl
  have hsk : skip (pts (⟨#[c]⟩ ++ t)) 0 = skip (pts (⟨#[c]⟩ ++ t)) 1 := skip_blank (by rw [hlen]; show 0 < 1 + _; omega) hb
  have hx := hcut.lexF ((pts (⟨#[c]⟩ ++ t)).length + 1) 0
  rw [Nat.add_zero, lexF_fuel t (pts t) _ ((pts t).length + 1) 0 (by rw [hlen]; show _ < 1 + _ + 1 + 0; omega) (by omega), h] at hx
  refine Eq.trans ?_ hx
  show _ = lexF _ _ _ 1
  rw [lexF, lexF, hsk]

end Cle
end Go.Proofs.YtfbgdjcnlnfoaaaDoor
