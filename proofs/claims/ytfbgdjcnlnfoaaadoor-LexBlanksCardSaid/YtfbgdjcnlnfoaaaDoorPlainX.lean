/- Plain: the law LexBlanks. -/
import Derived.Test.YtfbgdjcnlnfoaaaDoorPlainW
import Derived.Test.YtfbgdjcnlnfoaaaDoorPlainU
namespace Go.Proofs.YtfbgdjcnlnfoaaaDoor
namespace Cle

theorem runTo_at (f : Nat → Bool) (len i : Nat) (h : runTo f len i < len) : f (runTo f len i) = false := by
  have key : ∀ n i, len - i ≤ n → runTo f len i < len → f (runTo f len i) = false := by
    intro n
    induction n with
    | zero => intro i hn h; have := runTo_ge f len i; omega
    | succ n ih =>
      intro i hn h
      cases hf : f i with
      | false => rw [runTo_stop hf]; exact hf
      | true =>
        have := runTo_ge f len i
        have e1 := runTo_go (f := f) (len := len) (i := i) (by omega) hf
        rw [e1] at h ⊢
        exact ih (i + 1) (by omega) h
  exact key _ i (Nat.le_refl _) h
theorem runTo_same (f g : Nat → Bool) (lf lg a : Nat) (h1 : a ≤ lf) (h2 : a ≤ lg) (hfg : ∀ j, j < a → g j = f j) (i : Nat) (hi : runTo f lf i < a) : runTo g lg i = runTo f lf i := by
  have key : ∀ n i, a - i ≤ n → runTo f lf i < a → runTo g lg i = runTo f lf i := by
    intro n
    induction n with
    | zero => intro i hn hi; have := runTo_ge f lf i; omega
    | succ n ih =>
      intro i hn hi
      have hge := runTo_ge f lf i
      cases hf : f i with
      | false => rw [runTo_stop hf, runTo_stop (by rw [hfg i (by omega)]; exact hf)]
      | true =>
        have e1 := runTo_go (f := f) (len := lf) (i := i) (by omega) hf
        have e2 := runTo_go (f := g) (len := lg) (i := i) (by omega) (by rw [hfg i (by omega)]; exact hf)
        rw [e1] at hi ⊢
        rw [e2]
        exact ih (i + 1) (by omega) hi
  exact key _ i (Nat.le_refl _) hi
theorem tokO_at (s : ByteArray) (P : List Pt) (i : Nat) (h : (tokO s P i).2.1 = true) : (tokO s P i).1.at_ = i := by
  unfold tokO at h ⊢
  split
  · rfl
  · rename_i h1
    rw [if_neg h1] at h
    split
    · rfl
    · rename_i h2
      rw [if_neg h2] at h
      split
      · rw [textO_eq]
      · rename_i h3
        rw [if_neg h3] at h
        split
        · rfl
        · rename_i h4
          rw [if_neg h4] at h; cases h
theorem Cut.trans {s t r : ByteArray} {A A' : List Pt} {d d' : Nat} (h : Cut s t A d) (h' : Cut t r A' d') : Cut s r (A ++ A'.map (Pt.shift d)) (d + d') where
  bytes := by rw [← List.drop_drop, h.bytes, h'.bytes]
  size := by rw [h.size, h'.size]; omega
  pts := by
    rw [h.pts, h'.pts, List.map_append, List.map_map, List.append_assoc]
    congr 2
    apply List.map_congr_left
    intro p _
    show Pt.mk _ (p.at_ + d' + d) _ = Pt.mk _ (p.at_ + (d + d')) _
    rw [Nat.add_assoc, Nat.add_comm d' d]
    rfl

section
variable {s u r B : ByteArray} {a d : Nat} (h : Ins s u r B a d)
include h
theorem Ins.tokO {i : Nat} (hi : i < a) (hok : (Cle.tokO s (pts s) i).2.1 = true) (he : (Cle.tokO s (pts s) i).2.2 ≤ a) : Cle.tokO u (pts u) i = Cle.tokO s (pts s) i := by
  unfold Cle.tokO at hok he ⊢
  rw [h.letB hi, h.digB hi, h.isB hi, h.isB hi, h.rAt hi]
  split
  · rename_i h1
    rw [if_pos h1] at he
    exact h.wordO (by omega) he
  · rename_i h1
    rw [if_neg h1] at hok he
    split
    · rename_i h2
      rw [if_pos h2] at hok he
      exact h.numberO hi hok he
    · rename_i h2
      rw [if_neg h2] at hok he
      split
      · rename_i h3
        rw [if_pos h3] at hok he
        exact h.textO hi hok he
      · rfl
theorem Ins.blankB {i : Nat} (hi : i < a) : Cle.blankB (pts u) i = Cle.blankB (pts s) i := by
  unfold Cle.blankB; rw [h.isB hi, h.isB hi, h.isB hi, h.isB hi]
theorem Ins.dash_true {i : Nat} (hi : i + 1 < a) : Cle.dashB (pts u) i = Cle.dashB (pts s) i := by
  unfold Cle.dashB; rw [h.isB (by omega), h.isB hi]
/-- No comment begins with the sign ahead of what is laid between. -/
theorem Ins.dash_last {i : Nat} (hi : i + 1 = a) : Cle.dashB (pts u) i = false := by
  unfold Cle.dashB; rw [hi, h.headB 45 (by omega), Bool.and_false]
/-- Blanks and comments that end ahead of the place. -/
theorem Ins.skip_in : ∀ n i, a - i ≤ n → Cle.skip (pts s) i < a → Cle.skip (pts u) i = Cle.skip (pts s) i := by
  intro n
  induction n with
  | zero => intro i hn hs; have := skip_le (pts s) i; omega
  | succ n ih =>
    intro i hn hs
    have hge := skip_le (pts s) i
    have hia : i < a := by omega
    have hal := h.al
    have hul := h.ulen
    cases hb : Cle.blankB (pts s) i with
    | true =>
      rw [skip_blank (by omega) hb] at hs ⊢
      rw [skip_blank (by omega) (by rw [h.blankB hia]; exact hb)]
      exact ih (i + 1) (by omega) hs
    | false =>
      cases hd : Cle.dashB (pts s) i with
      | true =>
        have hle := lineEnd_gt hd
        rw [skip_dash (by omega) hb hd] at hs ⊢
        have hg2 := skip_le (pts s) (Cle.lineEnd (pts s) i)
        have hdu : Cle.dashB (pts u) i = true := by rw [h.dash_true (by omega)]; exact hd
        have hl : Cle.lineEnd (pts u) i = Cle.lineEnd (pts s) i := by
          -- the line's end lies ahead of the place
          have := runTo_same (fun j => !Cle.isB (pts s) j 10) (fun j => !Cle.isB (pts u) j 10) (pts s).length (pts u).length a (by omega) (by omega) (fun j hj => by simp only [h.isB hj]) i (by show Cle.lineEnd (pts s) i < a; omega)
          exact this
        rw [skip_dash (by omega) (by rw [h.blankB hia]; exact hb) hdu, hl]
        exact ih _ (by omega) hs
      | false =>
        rw [skip_stop hb hd] at hs ⊢
        refine skip_stop (by rw [h.blankB hia]; exact hb) ?_
        by_cases hi1 : i + 1 < a
        · rw [h.dash_true hi1]; exact hd
        · exact h.dash_last (by omega)
/-- Blanks and comments up to the place; there something begins, or the text ends. -/
theorem Ins.skip_to (hne : a = (pts s).length → bY u d = 10) (hcl : a < (pts s).length → Cle.isB (pts s) a 10 = false) : ∀ n i, a - i ≤ n → i ≤ a → Cle.skip (pts s) i = a → Cle.skip (pts u) i = Cle.skip (pts u) a := by
  intro n
  induction n with
  | zero => intro i hn hi hs; rw [show i = a by omega]
  | succ n ih =>
    intro i hn hi hs
    by_cases hia : i = a
    · rw [hia]
    have hlt : i < a := by omega
    have hal := h.al
    have hul := h.ulen
    cases hb : Cle.blankB (pts s) i with
    | true =>
      rw [skip_blank (by omega) hb] at hs
      rw [skip_blank (by omega) (by rw [h.blankB hlt]; exact hb)]
      exact ih (i + 1) (by omega) (by omega) hs
    | false =>
      cases hd : Cle.dashB (pts s) i with
      | true =>
        have hle := lineEnd_gt hd
        rw [skip_dash (by omega) hb hd] at hs
        have hg2 := skip_le (pts s) (Cle.lineEnd (pts s) i)
        have hi1 : i + 1 < (pts s).length := by
          unfold Cle.dashB at hd; rw [Bool.and_eq_true] at hd; exact isB_lt hd.2
        have hle2 : i + 1 < Cle.lineEnd (pts s) i := by
          have h45 := hd
          unfold Cle.dashB at h45; rw [Bool.and_eq_true] at h45
          have e1 := runTo_go (f := fun j => !Cle.isB (pts s) j 10) (show i < (pts s).length by omega) (by simp only [isB_other h45.1 (show (45 : Int) ≠ 10 by decide)]; rfl)
          have e2 := runTo_go (f := fun j => !Cle.isB (pts s) j 10) hi1 (by simp only [isB_other h45.2 (show (45 : Int) ≠ 10 by decide)]; rfl)
          have e3 := runTo_ge (fun j => !Cle.isB (pts s) j 10) (pts s).length (i + 1 + 1)
          unfold Cle.lineEnd; omega
        have hdu : Cle.dashB (pts u) i = true := by rw [h.dash_true (by omega)]; exact hd
        have hl : Cle.lineEnd (pts u) i = Cle.lineEnd (pts s) i := by
          by_cases hea : Cle.lineEnd (pts s) i < a
          · exact runTo_same (fun j => !Cle.isB (pts s) j 10) (fun j => !Cle.isB (pts u) j 10) (pts s).length (pts u).length a (by omega) (by omega) (fun j hj => by simp only [h.isB hj]) i hea
          · have hea2 : Cle.lineEnd (pts s) i = a := by omega
            by_cases hend : a = (pts s).length
            · refine h.runTo _ _ (fun j hj => by simp only [h.isB hj]) ?_ i hi (by show Cle.lineEnd (pts s) i ≤ a; omega)
              have : Cle.isB (pts u) a 10 = true := by unfold Cle.isB; rw [h.head]; simp only; rw [hne hend]; rfl
              simp only [this]; rfl
            · exfalso
              have h10 := runTo_at (fun j => !Cle.isB (pts s) j 10) (pts s).length i (by show Cle.lineEnd (pts s) i < _; omega)
              have : (!Cle.isB (pts s) (Cle.lineEnd (pts s) i) 10) = false := h10
              rw [hea2, hcl (by omega)] at this
              cases this
        rw [skip_dash (by omega) (by rw [h.blankB hlt]; exact hb) hdu, hl]
        exact ih _ (by omega) (by omega) hs
      | false =>
        rw [skip_stop hb hd] at hs; omega
end

theorem lexF_skip (s : ByteArray) (P : List Pt) (n i j : Nat) (h : skip P i = skip P j) : lexF s P n i = lexF s P n j := by
  cases n with
  | zero => rfl
  | succ n => rw [lexF, lexF, h]
theorem skip_skip (P : List Pt) (i : Nat) (hi : i ≤ P.length) : skip P (skip P i) = skip P i := by
  have key : ∀ n i, P.length - i ≤ n → i ≤ P.length → skip P (skip P i) = skip P i := by
    intro n
    induction n with
    | zero => intro i h hi; have e := skip_end (P := P) (i := i) (by omega); rw [e, e]
    | succ n ih =>
      intro i h hi
      by_cases hl : i < P.length
      · cases hb : blankB P i with
        | true => rw [skip_blank hl hb]; exact ih (i + 1) (by omega) (by omega)
        | false =>
          cases hd : dashB P i with
          | true => have := lineEnd_gt hd; rw [skip_dash hl hb hd]; exact ih _ (by omega) (by omega)
          | false => rw [skip_stop hb hd]; exact skip_stop hb hd
      · have e := skip_end (P := P) (i := i) (by omega); rw [e, e]
  exact key _ i (Nat.le_refl _) hi
theorem skip_noblank {P : List Pt} {i : Nat} (hi : i ≤ P.length) (h : skip P i < P.length) : blankB P (skip P i) = false := by
  cases hb : blankB P (skip P i) with
  | false => rfl
  | true =>
    have h1 := skip_skip P i hi
    rw [skip_blank h hb] at h1
    have := skip_le P (skip P i + 1)
    omega
theorem lexF_at (s : ByteArray) (P : List Pt) : ∀ n i l, lexF s P n i = .ok l → ∀ t ∈ l, i ≤ t.at_ ∧ t.at_ < P.length := by
  intro n
  induction n with
  | zero => intro i l h t ht; rw [lexF] at h; cases h; cases ht
  | succ n ih =>
    intro i l h t ht
    rw [lexF] at h
    split at h
    · cases h; cases ht
    · rename_i hl
      split at h
      · rename_i hok
        cases hx : lexF s P n (tokO s P (skip P i)).2.2 with
        | error a => rw [hx] at h; cases h
        | ok m =>
          rw [hx] at h
          have e : l = (tokO s P (skip P i)).1 :: m := by cases h; rfl
          rw [e] at ht
          have hg := tokO_gt (s := s) (P := P) (i := skip P i) (by omega) hok
          have hs := skip_le P i
          rcases List.mem_cons.1 ht with rfl | ht
          · rw [tokO_at s P _ hok]; omega
          · have := ih _ _ hx t ht; omega
      · cases h

/-- Sizes to start with: enough. -/
theorem Ins.lex {s u r B : ByteArray} {a d : Nat} (h : Ins s u r B a d) (hB : ∀ t : ByteArray, skip (pts (B ++ t)) 0 = B.size + skip (pts t) 0) (hBl : (pts (B ++ r)).length = B.size + (pts r).length) (hcB : Cut (B ++ r) r ((pts (B ++ r)).take B.size) B.size) (hne : a = (pts s).length → bY u d = 10) :
    ∀ k n m e l, lexF s (pts s) n e = .ok l → (pts s).length < n + e → (pts u).length < m + e → k ≤ l.length → (∀ x, l[k]? = some x → a = x.at_) → (k = l.length → a = (pts s).length) → e ≤ a →
      lexF u (pts u) m e = .ok (l.take k ++ (l.drop k).map (Tk.on B.size)) := by
  have hal := h.al
  have hul := h.ulen
  have hlen := h.len
  have hsl := h.cs.len
  rw [List.length_take, Nat.min_eq_left hal] at hsl
  have hta : ((pts s).take a).length = a := by rw [List.length_take]; omega
  have hcur : Cut u r ((pts s).take a ++ ((pts (B ++ r)).take B.size).map (Pt.shift d)) (d + B.size) := Cut.trans h.cu hcB
  have hcl : ((pts s).take a ++ ((pts (B ++ r)).take B.size).map (Pt.shift d)).length = a + B.size := by
    rw [List.length_append, hta, List.length_map, List.length_take]; omega
  intro k
  induction k with
  | zero =>
    intro n m e l hl hn hm _ hx hk0 hea
    rw [List.take_zero, List.drop_zero, List.nil_append]
    -- up to the place there are blanks alone
    have hska : skip (pts u) a = a + B.size + skip (pts r) 0 := by
      have := h.cu.skip 0
      rw [hta, Nat.add_zero] at this
      rw [this, hB r]; omega
    have hr0 := h.cs.skip 0
    rw [hta, Nat.add_zero] at hr0
    by_cases hl0 : l = []
    · subst hl0
      have ha := hk0 rfl
      have hrl : (pts r).length = 0 := by omega
      have hse : skip (pts s) e = a := by
        have h1 : (pts s).length ≤ skip (pts s) e := by
          cases n with
          | zero => have := skip_le (pts s) e; omega
          | succ n =>
            rw [lexF] at hl
            split at hl
            · rename_i hq; exact hq
            · split at hl
              · cases hq : lexF s (pts s) n (Cle.tokO s (pts s) (Cle.skip (pts s) e)).2.2 <;> rw [hq] at hl <;> cases hl
              · cases hl
        have h2 := skip_le_len (pts s) ((pts s).length - e) e (by omega)
        rw [show skipF (pts s) ((pts s).length - e) e = skip (pts s) e from rfl] at h2
        omega
      have hsu := h.skip_to hne (fun hh => absurd ha (by omega)) (a - e) e (Nat.le_refl _) hea hse
      have hr0' : skip (pts r) 0 = 0 := skip_end (by omega)
      cases m with
      | zero => omega
      | succ m => rw [lexF_end (by rw [hsu, hska]; omega)]; rfl
    · obtain ⟨t, l', rfl⟩ : ∃ t l', l = t :: l' := by cases l with | nil => exact absurd rfl hl0 | cons t l' => exact ⟨t, l', rfl⟩
      have hat : a = t.at_ := hx t rfl
      have hse : skip (pts s) e = a := by
        cases n with
        | zero => rw [lexF] at hl; cases hl
        | succ n =>
          rw [lexF] at hl
          split at hl
          · cases hl
          · split at hl
            · rename_i hok
              cases hq : lexF s (pts s) n (Cle.tokO s (pts s) (Cle.skip (pts s) e)).2.2 with
              | error b => rw [hq] at hl; cases hl
              | ok m' =>
                rw [hq] at hl
                have : t = (Cle.tokO s (pts s) (skip (pts s) e)).1 := by cases hl; rfl
                rw [hat, this, tokO_at s (pts s) _ hok]
            · cases hl
      have hlt : a < (pts s).length := by rw [hat]; exact (lexF_at s (pts s) n e _ hl t (List.mem_cons_self)).2
      have hnb := skip_noblank (P := pts s) (i := e) (by omega) (by rw [hse]; exact hlt)
      rw [hse] at hnb
      have hc10 : Cle.isB (pts s) a 10 = false := by
        unfold Cle.blankB at hnb
        simp only [Bool.or_eq_false_iff] at hnb
        exact hnb.1.2
      have hsu := h.skip_to hne (fun _ => hc10) (a - e) e (Nat.le_refl _) hea hse
      have hss := skip_skip (pts s) e (by omega)
      rw [hse] at hss
      have hr0' : skip (pts r) 0 = 0 := by omega
      have h1 := h.cs.lexF n 0
      rw [hta, Nat.add_zero] at h1
      have h2 := hcur.lexF m 0
      rw [hcl, Nat.add_zero] at h2
      rw [lexF_skip s (pts s) n e a (by rw [hse, hss]), h1] at hl
      have hsu2 : skip (pts u) (a + B.size) = a + B.size := by
        have := hcur.skip 0
        rw [hcl, Nat.add_zero, hr0'] at this
        omega
      rw [lexF_skip u (pts u) m e (a + B.size) (by rw [hsu, hska, hsu2, hr0']; omega), h2]
      rw [lexF_fuel r (pts r) n m 0 (by omega) (by omega)] at hl
      cases hq : Cle.lexF r (pts r) m 0 with
      | error b => rw [hq] at hl; cases hl
      | ok l0 =>
        rw [hq] at hl
        have e1 : t :: l' = l0.map (Tk.on a) := by
          have : lexOn a (.ok l0) = .ok (l0.map (Tk.on a)) := rfl
          rw [this] at hl
          injection hl with hl
          exact hl.symm
        rw [e1, List.map_map]
        show Except.ok (l0.map (Tk.on (a + B.size))) = _
        congr 2
        funext x
        show Tk.mk _ _ _ (x.at_ + (a + B.size)) = Tk.mk _ _ _ (x.at_ + a + B.size)
        rw [Nat.add_assoc]
        rfl
  | succ k ih =>
    intro n m e l hl hn hm hkl hx hk0 hea
    cases n with
    | zero => rw [lexF] at hl; cases hl; simp at hkl
    | succ n =>
      rw [lexF] at hl
      split at hl
      · cases hl; simp at hkl
      · rename_i hlen2
        split at hl
        · rename_i hok
          cases hq : lexF s (pts s) n (Cle.tokO s (pts s) (Cle.skip (pts s) e)).2.2 with
          | error b => rw [hq] at hl; cases hl
          | ok l1 =>
            rw [hq] at hl
            have e1 : l = (Cle.tokO s (pts s) (skip (pts s) e)).1 :: l1 := by cases hl; rfl
            subst e1
            have hg := tokO_gt (s := s) (P := pts s) (i := skip (pts s) e) (by omega) hok
            have hse := skip_le (pts s) e
            have hea2 : (Cle.tokO s (pts s) (skip (pts s) e)).2.2 ≤ a := by
              by_cases hkk : k < l1.length
              · have := hx l1[k] (by rw [List.getElem?_cons_succ, List.getElem?_eq_getElem hkk])
                rw [this]
                exact (lexF_at s (pts s) n _ l1 hq l1[k] (List.getElem_mem hkk)).1
              · have := hk0 (by simp at hkl ⊢; omega)
                omega
            have hska := h.skip_in (a - e) e (Nat.le_refl _) (by omega)
            have htk := h.tokO (i := skip (pts s) e) (by omega) hok hea2
            cases m with
            | zero => omega
            | succ m =>
              rw [lexF_go (by rw [hska]; omega) (by rw [hska, htk]; exact hok), hska, htk]
              have := ih n m _ l1 hq (by omega) (by omega) (by simpa using hkl) (fun x hx2 => hx x (by rw [List.getElem?_cons_succ]; exact hx2)) (fun hk => hk0 (by rw [List.length_cons]; omega)) hea2
              rw [this]
              rfl
        · cases hl

/-- What is skipped whole, whatever stands behind it. -/
def SkB (B : ByteArray) : Prop := ∀ t : ByteArray, skip (pts (B ++ t)) 0 = B.size + skip (pts t) 0
theorem skb_one (c : UInt8) (hc : c = 32 ∨ c = 9 ∨ c = 10 ∨ c = 13) : SkB ⟨#[c]⟩ := by
  intro t
  have hlt : c.toNat < 128 := by rcases hc with rfl | rfl | rfl | rfl <;> decide
  have hcut := one_cut c hlt t
  have hb : blankB (pts (⟨#[c]⟩ ++ t)) 0 = true := by
    unfold blankB
    rw [one_isB c hlt, one_isB c hlt, one_isB c hlt, one_isB c hlt]
    rcases hc with rfl | rfl | rfl | rfl <;> rfl
  rw [skip_blank (by rw [hcut.len]; show 0 < 1 + _; omega) hb]
  have := hcut.skip 0
  rw [Nat.add_zero] at this
  exact this
theorem skb_app {a b : ByteArray} (ha : SkB a) (hb : SkB b) : SkB (a ++ b) := by
  intro t
  rw [app_assoc, ha, hb, ByteArray.size_append]; omega
/-- A comment of so many signs, its line's end last. -/
theorem skb_line (C : ByteArray) (m : Nat) (hv : valid C = true) (hl : (pts C).length = m + 1) (hsz : C.size = m + 1) (h9 : ((List.range m).all fun j => !isB (pts C) j 10) = true) (h10 : isB (pts C) m 10 = true) (hd0 : isB (pts C) 0 45 = true) (hd1 : isB (pts C) 1 45 = true) : SkB C := by
  intro t
  have hcut := Cut.of_valid C t hv
  have hlen := hcut.len
  have hm1 := isB_lt hd1
  have hB : ∀ j, j < m + 1 → ∀ c, isB (pts (C ++ t)) j c = isB (pts C) j c := fun j hj c => by
    unfold isB; rw [app_get C t hv j (by omega)]
  have hd : dashB (pts (C ++ t)) 0 = true := by
    unfold dashB; rw [hB 0 (by omega), hB (0 + 1) (by omega), hd0, hd1]; rfl
  have hb : blankB (pts (C ++ t)) 0 = false := by
    unfold blankB; rw [hB 0 (by omega), hB 0 (by omega), hB 0 (by omega), hB 0 (by omega), isB_other hd0 (by decide), isB_other hd0 (by decide), isB_other hd0 (by decide), isB_other hd0 (by decide)]; rfl
  have hle : lineEnd (pts (C ++ t)) 0 = m := by
    refine runTo_all (by omega) (fun j hj => ?_) ?_
    · rw [hB j (by omega)]; exact List.all_eq_true.1 h9 j (List.mem_range.2 hj)
    · rw [hB m (by omega), h10]; rfl
  have hb9 : blankB (pts (C ++ t)) m = true := by
    unfold blankB; rw [hB m (by omega), hB m (by omega), hB m (by omega), hB m (by omega), h10]; simp
  rw [skip_dash (by omega) hb hd, hle, skip_blank (by omega) hb9]
  have := hcut.skip 0
  rw [Nat.add_zero, hl] at this
  rw [this, hsz]
theorem skb_cmt : SkB ⟨#[45, 45, 32, 105, 116, 39, 115, 32, 40, 10]⟩ := skb_line _ 9 (by decide +kernel) (by decide +kernel) (by decide) (by decide +kernel) (by decide +kernel) (by decide +kernel) (by decide +kernel)

/-- A blank or a comment, by a number; at the end a new line ahead of it. -/
def blk4 (j : Nat) : ByteArray := pick4 ⟨#[32]⟩ ⟨#[10, 9]⟩ ⟨#[32, 45, 45, 32, 105, 116, 39, 115, 32, 40, 10]⟩ ⟨#[13, 10, 32, 32]⟩ j
def insB (j : Nat) (last : Bool) : ByteArray := if last then ⟨#[10]⟩ ++ blk4 j else blk4 j
theorem blk4_ind {C : ByteArray → Prop} (h0 : C ⟨#[32]⟩) (h1 : C ⟨#[10, 9]⟩) (h2 : C ⟨#[32, 45, 45, 32, 105, 116, 39, 115, 32, 40, 10]⟩) (h3 : C ⟨#[13, 10, 32, 32]⟩) (j : Nat) : C (blk4 j) := by
  unfold blk4
  exact pick4_ind (C := fun b _ => C b) (a' := ⟨#[]⟩) (b' := ⟨#[]⟩) (c' := ⟨#[]⟩) (d' := ⟨#[]⟩) j h0 h1 h2 h3
theorem blk4_facts (j : Nat) : SkB (blk4 j) ∧ valid (blk4 j) = true ∧ (pts (blk4 j)).length = (blk4 j).size ∧ 0 < (blk4 j).size ∧ (blk4 j).size ≤ 11 ∧ (bY (blk4 j) 0 = 32 ∨ bY (blk4 j) 0 = 10 ∨ bY (blk4 j) 0 = 13) := by
  refine blk4_ind (C := fun b => SkB b ∧ valid b = true ∧ (pts b).length = b.size ∧ 0 < b.size ∧ b.size ≤ 11 ∧ (bY b 0 = 32 ∨ bY b 0 = 10 ∨ bY b 0 = 13)) ?_ ?_ ?_ ?_ j
  · exact ⟨skb_one 32 (by decide), by decide +kernel, by decide +kernel, by decide, by decide, by decide +kernel⟩
  · refine ⟨?_, by decide +kernel, by decide +kernel, by decide, by decide, by decide +kernel⟩
    rw [show (⟨#[10, 9]⟩ : ByteArray) = ⟨#[10]⟩ ++ ⟨#[9]⟩ from by decide +kernel]
    exact skb_app (skb_one 10 (by decide)) (skb_one 9 (by decide))
  · refine ⟨?_, by decide +kernel, by decide +kernel, by decide, by decide, by decide +kernel⟩
    rw [show (⟨#[32, 45, 45, 32, 105, 116, 39, 115, 32, 40, 10]⟩ : ByteArray) = ⟨#[32]⟩ ++ ⟨#[45, 45, 32, 105, 116, 39, 115, 32, 40, 10]⟩ from by decide +kernel]
    exact skb_app (skb_one 32 (by decide)) skb_cmt
  · refine ⟨?_, by decide +kernel, by decide +kernel, by decide, by decide, by decide +kernel⟩
    rw [show (⟨#[13, 10, 32, 32]⟩ : ByteArray) = ⟨#[13]⟩ ++ (⟨#[10]⟩ ++ (⟨#[32]⟩ ++ ⟨#[32]⟩)) from by decide +kernel]
    exact skb_app (skb_one 13 (by decide)) (skb_app (skb_one 10 (by decide)) (skb_app (skb_one 32 (by decide)) (skb_one 32 (by decide))))
theorem insB_facts (j : Nat) (last : Bool) : SkB (insB j last) ∧ valid (insB j last) = true ∧ (pts (insB j last)).length = (insB j last).size ∧ 0 < (insB j last).size ∧ (insB j last).size ≤ 12 ∧ (bY (insB j last) 0 = 32 ∨ bY (insB j last) 0 = 10 ∨ bY (insB j last) 0 = 13) ∧ (last = true → bY (insB j last) 0 = 10) := by
  obtain ⟨h1, h2, h3, h4, h5, h6⟩ := blk4_facts j
  cases last with
  | false => exact ⟨h1, h2, h3, h4, by show (blk4 j).size ≤ 12; omega, h6, fun h => by cases h⟩
  | true =>
    have e : bY ((⟨#[10]⟩ : ByteArray) ++ blk4 j) 0 = 10 := by rw [bY_app_lo _ _ 0 (by decide)]; decide +kernel
    refine ⟨skb_app (skb_one 10 (by decide)) h1, ?_, ?_, ?_, ?_, .inr (.inl e), fun _ => e⟩
    · show valid (_ ++ _) = true; rw [valid_app _ _ (one_valid 10 (by decide))]; exact h2
    · show (pts (_ ++ _)).length = _
      rw [(one_cut 10 (by decide) (blk4 j)).len, h3]; show _ = (_ ++ _ : ByteArray).size; rw [ByteArray.size_append]; rfl
    · show 0 < (_ ++ _ : ByteArray).size; rw [ByteArray.size_append]; omega
    · show (_ ++ _ : ByteArray).size ≤ 12; rw [ByteArray.size_append]; show 1 + _ ≤ 12; omega
theorem cut_take (B r : ByteArray) (hv : valid B = true) (hl : (pts B).length = B.size) : Cut (B ++ r) r ((pts (B ++ r)).take B.size) B.size ∧ (pts (B ++ r)).length = B.size + (pts r).length := by
  have hc := Cut.of_valid B r hv
  have e : (pts (B ++ r)).take B.size = pts B := by
    rw [hc.pts, ← hl, List.take_left]
  rw [e]
  exact ⟨hc, by rw [hc.len, hl]⟩

/-- Where a token begins; of the end the text's. -/
def cutAt (s : ByteArray) (l : List Tk) (k : Nat) : Nat := match l[k]? with | some t => t.at_ | none => (pts s).length
/-- Blanks more turn nothing but places. -/
theorem blanks_ok (s : ByteArray) (l : List Tk) (hl : lexL s = (l, 0, 0)) (hs : s.size ≤ 400) (hne : l ≠ []) (k j : Nat) (hk : k ≤ l.length) :
    lexL ((s.extract 0 (byteAt s (pts s) (cutAt s l k)) ++ insB j (decide (k = l.length))) ++ s.extract (byteAt s (pts s) (cutAt s l k)) s.size) = (l.take k ++ (l.drop k).map (Tk.on (insB j (decide (k = l.length))).size), 0, 0) := by
  have hLx : lexF s (pts s) ((pts s).length + 1) 0 = .ok l := by
    unfold lexL at hl
    rw [if_neg (by omega)] at hl
    cases hq : lexF s (pts s) ((pts s).length + 1) 0 with
    | ok m => rw [hq] at hl; injection hl with h1 _; rw [h1]
    | error b => rw [hq] at hl; injection hl with h1 h2; exact absurd h1.symm hne
  obtain ⟨h1, h2, h3, h4, h5, h6, h7⟩ := insB_facts j (decide (k = l.length))
  have hal : cutAt s l k ≤ (pts s).length := by
    unfold cutAt
    cases hq : l[k]? with
    | none => exact Nat.le_refl _
    | some t =>
      obtain ⟨hlt, rfl⟩ := List.getElem?_eq_some_iff.1 hq
      exact Nat.le_of_lt (lexF_at s (pts s) _ 0 l hLx _ (List.getElem_mem hlt)).2
  obtain ⟨B, hB⟩ : ∃ B, insB j (decide (k = l.length)) = B := ⟨_, rfl⟩
  rw [hB] at h1 h2 h3 h4 h5 h6 h7 ⊢
  have hI := ins_of s B (cutAt s l k) hal h6
  obtain ⟨a, ha⟩ : ∃ a, cutAt s l k = a := ⟨_, rfl⟩
  rw [ha] at hI hal ⊢
  obtain ⟨d, hd⟩ : ∃ d, byteAt s (pts s) a = d := ⟨_, rfl⟩
  rw [hd] at hI ⊢
  have hdl := byteAt_le s a
  rw [hd] at hdl
  obtain ⟨r, hr⟩ : ∃ r, s.extract d s.size = r := ⟨_, rfl⟩
  rw [hr] at hI ⊢
  obtain ⟨hcB, hBl⟩ := cut_take B r h2 h3
  have hus := hI.cu.size
  have hrs := hI.cs.size
  have hsz : ((s.extract 0 d ++ B) ++ r).size ≤ 1000 := by rw [hus, ByteArray.size_append]; omega
  obtain ⟨u, hu⟩ : ∃ u, (s.extract 0 d ++ B) ++ r = u := ⟨_, rfl⟩
  rw [hu] at hI hsz ⊢
  have hBb : bY u d = bY B 0 := by
    have hpre : (s.extract 0 d).size = d := by rw [ByteArray.size_extract]; omega
    rw [← hu, app_assoc]
    have := bY_app_hi (s.extract 0 d) (B ++ r) 0
    rw [hpre, Nat.add_zero] at this
    rw [this, bY_app_lo _ _ 0 h4]
  have hlx := hI.lex h1 hBl hcB (fun hend => by
      rw [hBb]; apply h7
      rw [decide_eq_true_eq]
      refine Decidable.byContradiction fun hkk => ?_
      have hlt : k < l.length := by omega
      have := (lexF_at s (pts s) _ 0 l hLx _ (List.getElem_mem hlt)).2
      unfold cutAt at ha
      rw [List.getElem?_eq_getElem hlt] at ha
      have ha' : (l[k]).at_ = a := ha
      omega) k ((pts s).length + 1) ((pts u).length + 1) 0 l hLx (by omega) (by omega) hk (fun x hx => by unfold cutAt at ha; rw [hx] at ha; exact ha.symm) (fun hkl => by unfold cutAt at ha; rw [List.getElem?_eq_none (by omega)] at ha; exact ha.symm) (Nat.zero_le _)
  exact Lx.lexL hlx hsz

end Cle
end Go.Proofs.YtfbgdjcnlnfoaaaDoor
