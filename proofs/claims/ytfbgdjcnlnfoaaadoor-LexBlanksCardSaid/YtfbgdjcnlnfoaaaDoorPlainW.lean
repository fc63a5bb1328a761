/- Plain: lex: what is laid between two tokens turns nothing but places. -/
import Derived.Test.YtfbgdjcnlnfoaaaDoorPlainV
namespace Go.Proofs.YtfbgdjcnlnfoaaaDoor
namespace Cle

theorem byteAt_step (s : ByteArray) (i : Nat) (hi : i < (pts s).length) : byteAt s (pts s) i < byteAt s (pts s) (i + 1) := by
  have key : ∀ k pos, pos ≤ s.size → k < (ptsAt s pos).length → byteAt s (ptsAt s pos) k < byteAt s (ptsAt s pos) (k + 1) := by
    intro k
    induction k with
    | zero =>
      intro pos h hk
      by_cases hp : pos < s.size
      · have hw := width_pos s pos hp
        have hl := width_le s pos hp
        rw [byteAt_head s pos h, ptsAt_step s pos hp]
        have := (byteAt_ge s 0 (pos + (Utf8.decode s pos).2) hl).1
        show pos < byteAt s (ptsAt s (pos + (Utf8.decode s pos).2)) 0
        omega
      · rw [ptsAt_end s pos hp] at hk; simp at hk
    | succ k ih =>
      intro pos h hk
      by_cases hp : pos < s.size
      · have hl := width_le s pos hp
        rw [ptsAt_step s pos hp] at hk ⊢
        exact ih _ hl (by simpa using hk)
      · rw [ptsAt_end s pos hp] at hk; simp at hk
  have := key i 0 (by omega) (by rw [← pts_eq]; exact hi)
  rw [← pts_eq] at this
  exact this
/-- A text's end lies no further than where the reading stops. -/
theorem textEnd_at (s : ByteArray) (next : Int) (i : Nat) (hn : next ≤ s.size) : next ≤ byteAt s (pts s) (textEnd (pts s) next i) := by
  have key : ∀ n i, (pts s).length - i ≤ n → next ≤ byteAt s (pts s) (textEnd (pts s) next i) := by
    intro n
    induction n with
    | zero =>
      intro i h
      unfold textEnd
      rw [runTo_end (by omega)]
      unfold byteAt; rw [List.getElem?_eq_none (by omega)]; exact hn
    | succ n ih =>
      intro i h
      by_cases hl : i < (pts s).length
      · by_cases hc : (((pts s)[i].at_ : Nat) : Int) < next
        · have : textEnd (pts s) next i = textEnd (pts s) next (i + 1) := by
            unfold textEnd
            exact runTo_go hl (by simp only [List.getElem?_eq_getElem hl]; exact decide_eq_true hc)
          rw [this]; exact ih (i + 1) (by omega)
        · have : textEnd (pts s) next i = i := by
            unfold textEnd
            exact runTo_stop (by simp only [List.getElem?_eq_getElem hl]; exact decide_eq_false hc)
          rw [this]; unfold byteAt; rw [List.getElem?_eq_getElem hl]
          show next ≤ (((pts s)[i].at_ : Nat) : Int); omega
      · unfold textEnd
        rw [runTo_end (by omega)]
        unfold byteAt; rw [List.getElem?_eq_none (by omega)]; exact hn
  exact key _ i (Nat.le_refl _)
theorem unq_next : ∀ (n : Nat) (l : List UInt8) (x : List UInt8 × Nat), l.length ≤ n → unq l = some x → l[x.2]? ≠ some 39 := by
  intro n
  induction n with
  | zero => intro l x hl hx; cases l with | nil => simp [unq] at hx | cons => simp at hl
  | succ n ih =>
    intro l x hl hx
    match l with
    | [] => simp [unq] at hx
    | c :: t =>
      rw [unq.eq_def] at hx
      simp only at hx
      by_cases hc : c = 39
      · rw [if_pos hc] at hx
        match t with
        | [] => simp at hx; subst hx; simp
        | e :: v =>
          simp only at hx
          by_cases he : e = 39
          · rw [if_pos he] at hx
            obtain ⟨y, hy, rfl⟩ := Option.map_eq_some_iff.1 hx
            have := ih v y (by simp at hl; omega) hy
            simpa using this
          · rw [if_neg he] at hx
            cases hx; simpa using he
      · rw [if_neg hc] at hx
        obtain ⟨y, hy, rfl⟩ := Option.map_eq_some_iff.1 hx
        have := ih t y (by simp at hl; omega) hy
        simpa using this
/-- What a text between quotes is hangs on its own bytes, and on whether a quote stands behind. -/
theorem unq_local : ∀ (n : Nat) (l m : List UInt8) (x : List UInt8 × Nat), l.length ≤ n → unq l = some x → (∀ k, k < x.2 → m[k]? = l[k]?) → m[x.2]? ≠ some 39 → unq m = some x := by
  intro n
  induction n with
  | zero => intro l m x hl hx; cases l with | nil => simp [unq] at hx | cons => simp at hl
  | succ n ih =>
    intro l m x hl hx hk hn
    match l with
    | [] => simp [unq] at hx
    | c :: t =>
      have hx0 := hx
      rw [unq.eq_def] at hx
      simp only at hx
      by_cases hc : c = 39
      · rw [if_pos hc] at hx
        match t with
        | [] =>
          simp at hx; subst hx
          have h0 := hk 0 (by simp)
          cases m with
          | nil => simp at h0
          | cons b m' =>
            simp at h0; subst h0
            rw [unq.eq_def]; simp only [if_pos hc]
            cases m' with
            | nil => rfl
            | cons b' m'' => simp at hn; simp [hn]
        | e :: v =>
          simp only at hx
          by_cases he : e = 39
          · rw [if_pos he] at hx
            obtain ⟨y, hy, rfl⟩ := Option.map_eq_some_iff.1 hx
            have h0 := hk 0 (by simp)
            have h1 := hk 1 (by simp)
            match m with
            | [] => simp at h0
            | [b] => simp at h1
            | b :: b' :: m' =>
              simp at h0 h1; subst h0; subst h1
              rw [unq.eq_def]; simp only [if_pos hc, if_pos he]
              rw [ih v m' y (by simp at hl; omega) hy (fun k hk2 => by have := hk (k + 2) (by simp; omega); simpa using this) (by simpa using hn)]
              rfl
          · rw [if_neg he] at hx
            cases hx
            have h0 := hk 0 (by simp)
            cases m with
            | nil => simp at h0
            | cons b m' =>
              simp at h0; subst h0
              rw [unq.eq_def]; simp only [if_pos hc]
              cases m' with
              | nil => rfl
              | cons b' m'' => simp at hn; simp [hn]
      · rw [if_neg hc] at hx
        obtain ⟨y, hy, rfl⟩ := Option.map_eq_some_iff.1 hx
        have h0 := hk 0 (by simp)
        cases m with
        | nil => simp at h0
        | cons b m' =>
          simp at h0; subst h0
          rw [unq.eq_def]; simp only [if_neg hc]
          rw [ih t m' y (by simp at hl; omega) hy (fun k hk2 => by have := hk (k + 1) (by simp; omega); simpa using this) (by simpa using hn)]
          rfl

section
variable {s u r B : ByteArray} {a d : Nat} (h : Ins s u r B a d)
include h
theorem Ins.get {j : Nat} (hj : j < a) : (pts u)[j]? = (pts s)[j]? := by
  have := h.al
  rw [h.cu.pts, List.getElem?_append_left (by rw [List.length_take]; omega), List.getElem?_take_of_lt hj]
theorem Ins.isB {j : Nat} (hj : j < a) (c : Int) : Cle.isB (pts u) j c = Cle.isB (pts s) j c := by unfold Cle.isB; rw [h.get hj]
theorem Ins.letB {j : Nat} (hj : j < a) : Cle.letB (pts u) j = Cle.letB (pts s) j := by unfold Cle.letB; rw [h.get hj]
theorem Ins.digB {j : Nat} (hj : j < a) : Cle.digB (pts u) j = Cle.digB (pts s) j := by unfold Cle.digB; rw [h.get hj]
theorem Ins.rAt {j : Nat} (hj : j < a) : Cle.rAt (pts u) j = Cle.rAt (pts s) j := by unfold Cle.rAt; rw [h.get hj]
theorem Ins.headB (c : Int) (hc : c ≠ 32 ∧ c ≠ 10 ∧ c ≠ 13) : Cle.isB (pts u) a c = false := by
  unfold Cle.isB; rw [h.head, beq_eq_false_iff_ne]
  have := h.lo; show ((bY u d : Nat) : Int) ≠ c; omega
theorem Ins.headL : Cle.letB (pts u) a = false := by
  unfold Cle.letB; rw [h.head]
  have := h.lo
  simp only [letterB]
  rw [Bool.and_eq_false_iff]; right
  simp only [Bool.or_eq_false_iff, Bool.and_eq_false_iff, beq_eq_false_iff_ne, decide_eq_false_iff_not]
  omega
theorem Ins.headD : Cle.digB (pts u) a = false := by
  unfold Cle.digB; rw [h.head]
  have := h.lo
  simp only [digitB, Bool.and_eq_false_iff, decide_eq_false_iff_not]; omega
theorem Ins.ulen : a < (pts u).length := (List.getElem?_eq_some_iff.1 h.head).1
theorem Ins.byteAt {j : Nat} (hj : j ≤ a) : Cle.byteAt u (pts u) j = Cle.byteAt s (pts s) j := by
  by_cases hlt : j < a
  · unfold Cle.byteAt
    have := h.al
    rw [h.get hlt, List.getElem?_eq_getElem (by omega)]
  · obtain rfl : j = a := by omega
    rw [h.at_]; unfold Cle.byteAt; rw [h.head]
theorem Ins.len : (pts u).length = a + (pts (B ++ r)).length := by
  have := h.al
  rw [h.cu.len, List.length_take, Nat.min_eq_left this]
/-- On as long as it was, where it ended in time. -/
theorem Ins.runTo (f g : Nat → Bool) (hfg : ∀ j, j < a → f j = g j) (hst : f a = false) (i : Nat) (hi : i ≤ a) (he : Cle.runTo g (pts s).length i ≤ a) : Cle.runTo f (pts u).length i = Cle.runTo g (pts s).length i := by
  have hal := h.al
  have hul := h.ulen
  have key : ∀ n i, a - i ≤ n → i ≤ a → Cle.runTo g (pts s).length i ≤ a → Cle.runTo f (pts u).length i = Cle.runTo g (pts s).length i := by
    intro n
    induction n with
    | zero =>
      intro i hn hi he
      obtain rfl : i = a := by omega
      rw [runTo_stop hst]
      have := runTo_ge g (pts s).length i
      omega
    | succ n ih =>
      intro i hn hi he
      by_cases hia : i = a
      · subst hia
        rw [runTo_stop hst]
        have := runTo_ge g (pts s).length i
        omega
      · cases hg : g i with
        | false => rw [runTo_stop hg, runTo_stop (by rw [hfg i (by omega)]; exact hg)]
        | true =>
          rw [runTo_go (by omega) hg] at he ⊢
          rw [runTo_go (by omega) (by rw [hfg i (by omega)]; exact hg)]
          exact ih (i + 1) (by omega) (by omega) he
  exact key _ i (Nat.le_refl _) hi he
theorem Ins.wordEnd {i : Nat} (hi : i ≤ a) (he : Cle.wordEnd (pts s) i ≤ a) : Cle.wordEnd (pts u) i = Cle.wordEnd (pts s) i :=
  h.runTo _ _ (fun j hj => by rw [h.letB hj, h.digB hj]) (by rw [h.headL, h.headD]; rfl) i hi he
theorem Ins.extract (x y : Nat) (hy : y ≤ d) : u.extract x y = s.extract x y := by
  have hu := h.cu.size
  have hs := h.cs.size
  apply ByteArray.ext
  apply Array.ext'
  apply List.ext_getElem?
  intro k
  simp only [ByteArray.data_extract, Array.toList_extract, List.extract_eq_take_drop, List.getElem?_take, List.getElem?_drop]
  by_cases hk : k < y - x
  · rw [if_pos hk, if_pos hk]
    have hks : x + k < s.size := by omega
    have hku : x + k < u.size := by omega
    have := h.eq (x + k) (by omega)
    rw [← bY_eq u _ hku, ← bY_eq s _ hks] at this
    rw [List.getElem?_eq_getElem (show x + k < u.data.toList.length from hku), List.getElem?_eq_getElem (show x + k < s.data.toList.length from hks)]
    exact congrArg some (UInt8.toNat_inj.1 this)
  · rw [if_neg hk, if_neg hk]
theorem Ins.wordO {i : Nat} (hi : i ≤ a) (he : Cle.wordEnd (pts s) i ≤ a) : Cle.wordO u (pts u) i = Cle.wordO s (pts s) i := by
  have hb : Cle.byteAt s (pts s) (Cle.wordEnd (pts s) i) ≤ d := by rw [← h.at_]; exact byteAt_mono s _ _ he
  have ht : Cle.wordT u (pts u) i = Cle.wordT s (pts s) i := by
    unfold Cle.wordT
    rw [h.wordEnd hi he, h.byteAt hi, h.byteAt he, h.extract _ _ hb]
  unfold Cle.wordO
  rw [ht, h.wordEnd hi he]
theorem Ins.num (i : Nat) (hi : i ≤ a) : ∀ (v : Int) (ok : Bool), (Cle.num (pts s) i v ok).2.2 ≤ a → Cle.num (pts u) i v ok = Cle.num (pts s) i v ok := by
  have key : ∀ n i, a - i ≤ n → i ≤ a → ∀ (v : Int) (ok : Bool), (Cle.num (pts s) i v ok).2.2 ≤ a → Cle.num (pts u) i v ok = Cle.num (pts s) i v ok := by
    intro n
    induction n with
    | zero =>
      intro i hn hi v ok he
      obtain rfl : i = a := by omega
      cases hd : Cle.digB (pts s) i with
      | false => rw [num_stop h.headD, num_stop hd]
      | true =>
        rw [num_go hd] at he
        have := numF_ge (pts s) ((pts s).length - (i + 1)) (i + 1) (min (v * 10 + (Cle.rAt (pts s) i - 48)) 1099511627776) (ok && decide (v * 10 + (Cle.rAt (pts s) i - 48) ≤ 1099511627776))
        unfold Cle.num at he; omega
    | succ n ih =>
      intro i hn hi v ok he
      by_cases hia : i = a
      · subst hia
        cases hd : Cle.digB (pts s) i with
        | false => rw [num_stop h.headD, num_stop hd]
        | true =>
          rw [num_go hd] at he
          have := numF_ge (pts s) ((pts s).length - (i + 1)) (i + 1) (min (v * 10 + (Cle.rAt (pts s) i - 48)) 1099511627776) (ok && decide (v * 10 + (Cle.rAt (pts s) i - 48) ≤ 1099511627776))
          unfold Cle.num at he; omega
      · have hlt : i < a := by omega
        cases hd : Cle.digB (pts s) i with
        | false => rw [num_stop hd, num_stop (by rw [h.digB hlt]; exact hd)]
        | true =>
          rw [num_go hd] at he ⊢
          rw [num_go (by rw [h.digB hlt]; exact hd), h.rAt hlt]
          exact ih (i + 1) (by omega) (by omega) _ _ he
  exact key _ i (Nat.le_refl _) hi
theorem Ins.numberO {i : Nat} (hi : i < a) (hok : (Cle.numberO (pts s) i).2.1 = true) (he : (Cle.numberO (pts s) i).2.2 ≤ a) : Cle.numberO (pts u) i = Cle.numberO (pts s) i := by
  have hok1 : ((Cle.numR (pts s) i).2.1 && !Cle.letB (pts s) (Cle.numR (pts s) i).2.2) = true := hok
  have he1 : (Cle.numR (pts s) i).2.2 ≤ a := he
  rw [Bool.and_eq_true] at hok1
  have hst : Cle.numStart (pts u) i = Cle.numStart (pts s) i := by unfold Cle.numStart; rw [h.isB hi]
  have hge := (numR_gt (P := pts s) (i := i) (by have := h.al; omega) hok1.1).1
  have hnr : Cle.numR (pts u) i = Cle.numR (pts s) i := by
    have hd0 : Cle.digB (pts s) (Cle.numStart (pts s) i) = true := by
      cases hd : Cle.digB (pts s) (Cle.numStart (pts s) i) with
      | true => rfl
      | false =>
        have := hok1.1
        unfold Cle.numR at this
        rw [hd] at this
        unfold Cle.num at this; rw [numF_ok] at this; cases this
    have hsl : Cle.numStart (pts s) i < a := by
      have h1 : (Cle.numR (pts s) i).2.2 = (Cle.num (pts s) (Cle.numStart (pts s) i) 0 (Cle.digB (pts s) (Cle.numStart (pts s) i))).2.2 := rfl
      rw [h1, num_go hd0] at he1
      have := numF_ge (pts s) ((pts s).length - (Cle.numStart (pts s) i + 1)) (Cle.numStart (pts s) i + 1) (min (0 * 10 + (Cle.rAt (pts s) (Cle.numStart (pts s) i) - 48)) 1099511627776) (Cle.digB (pts s) (Cle.numStart (pts s) i) && decide (0 * 10 + (Cle.rAt (pts s) (Cle.numStart (pts s) i) - 48) ≤ 1099511627776))
      unfold Cle.num at he1; omega
    unfold Cle.numR
    rw [hst, h.digB hsl]
    exact h.num _ (by omega) _ _ he1
  unfold Cle.numberO
  rw [hnr, h.isB hi]
  have hl : Cle.letB (pts u) (Cle.numR (pts s) i).2.2 = Cle.letB (pts s) (Cle.numR (pts s) i).2.2 := by
    by_cases hea : (Cle.numR (pts s) i).2.2 = a
    · have := hok1.2
      rw [hea] at this ⊢
      rw [h.headL]
      cases hx : Cle.letB (pts s) a with
      | false => rfl
      | true => rw [hx] at this; cases this
    · exact h.letB (by omega)
  rw [hl]
theorem Ins.textO {i : Nat} (hi : i < a) (hok : (Cle.textO s (pts s) i).2.1 = true) (he : (Cle.textO s (pts s) i).2.2 ≤ a) : Cle.textO u (pts u) i = Cle.textO s (pts s) i := by
  rw [textO_eq] at hok he ⊢
  rw [textO_eq, h.byteAt (by omega)]
  simp only [Bool.and_eq_true] at hok
  obtain ⟨f, hf⟩ : ∃ f, Cle.byteAt s (pts s) i = f := ⟨_, rfl⟩
  rw [hf] at hok he ⊢
  have hfd : f < d := by
    have h1 := h.al
    have h2 := byteAt_mono s (i + 1) a (by omega)
    rw [h.at_] at h2
    have h3 : Cle.byteAt s (pts s) i < Cle.byteAt s (pts s) (i + 1) := byteAt_step s i (by omega)
    omega
  -- where the text ends
  have hnd : unqN s f ≤ d := by
    have h1 : Cle.textEnd (pts s) (unqN s f) i ≤ a := he
    have h2 := byteAt_mono s _ _ h1
    rw [h.at_] at h2
    have h3 := textEnd_at s (unqN s f) i (unqN_bd s f).2
    omega
  have hun : unquote u f = unquote s f := by
    have hs := h.cs.size
    have hu := h.cu.size
    unfold unqO at hok
    unfold unqN at hnd
    unfold unquote at hok hnd ⊢
    by_cases hc : 0 ≤ (f : Int) ∧ (f : Int) < s.size ∧ s.data.toList[(f : Int).toNat]? = some 39
    · rw [if_pos hc] at hok hnd ⊢
      simp only [Int.toNat_natCast] at hc hok hnd ⊢
      have hbu : u.data.toList[f]? = some 39 := by
        rw [← hc.2.2]
        have := congrArg (fun x : ByteArray => x.data.toList[f]?) (h.extract 0 d (Nat.le_refl _))
        simp only [ByteArray.data_extract, Array.toList_extract, List.extract_eq_take_drop, List.drop_zero, Nat.sub_zero, List.getElem?_take] at this
        rw [if_pos hfd, if_pos hfd] at this
        exact this
      rw [if_pos ⟨by omega, by omega, hbu⟩]
      cases hq : unq (s.data.toList.drop (f + 1)) with
      | none => rw [hq] at hok; simp at hok
      | some x =>
        rw [hq] at hnd
        simp only [Option.map_some] at hnd
        have hx : f + 1 + x.2 ≤ d := by omega
        have hpre : ∀ k, k < x.2 → (u.data.toList.drop (f + 1))[k]? = (s.data.toList.drop (f + 1))[k]? := by
          intro k hk
          rw [List.getElem?_drop, List.getElem?_drop]
          have := congrArg (fun x : ByteArray => x.data.toList[f + 1 + k]?) (h.extract 0 d (Nat.le_refl _))
          simp only [ByteArray.data_extract, Array.toList_extract, List.extract_eq_take_drop, List.drop_zero, Nat.sub_zero, List.getElem?_take] at this
          rw [if_pos (by omega), if_pos (by omega)] at this
          exact this
        have hnext : (u.data.toList.drop (f + 1))[x.2]? ≠ some 39 := by
          rw [List.getElem?_drop]
          by_cases hxd : f + 1 + x.2 = d
          · rw [hxd]
            have hlt : d < u.size := by
              have := h.lo
              exact bY_size u d (by omega)
            rw [List.getElem?_eq_getElem (show d < u.data.toList.length from hlt)]
            intro e
            have e2 : u[d]'hlt = 39 := Option.some.inj e
            have := h.lo
            rw [← bY_eq u d hlt, e2] at this
            exact absurd this (by decide)
          · have h1 := unq_next _ _ x (Nat.le_refl _) hq
            rw [List.getElem?_drop] at h1
            have h2 := congrArg (fun y : ByteArray => y.data.toList[f + 1 + x.2]?) (h.extract 0 d (Nat.le_refl _))
            simp only [ByteArray.data_extract, Array.toList_extract, List.extract_eq_take_drop, List.drop_zero, Nat.sub_zero, List.getElem?_take] at h2
            rw [if_pos (by omega), if_pos (by omega)] at h2
            rw [h2]; exact h1
        rw [unq_local _ _ _ x (Nat.le_refl _) hq hpre hnext]
    · rw [if_neg hc] at hok; cases hok.1
  unfold unqS unqN unqO at *
  rw [hun]
  refine Prod.ext rfl (Prod.ext rfl ?_)
  show Cle.textEnd (pts u) _ i = Cle.textEnd (pts s) _ i
  refine h.runTo _ _ (fun j hj => by rw [h.get hj]) ?_ i (by omega) he
  simp only [h.head]
  exact decide_eq_false (by show ¬ ((d : Int) < _); omega)
end

end Cle
end Go.Proofs.YtfbgdjcnlnfoaaaDoor
