/- Walks: the law BindValues. -/
import Derived.Test.YtljoenpgokhekaaDoorBindC
import Derived.Test.YtljoenpgokhekaaDoorLawA
namespace Go.Proofs.YtljoenpgokhekaaDoor
open Go.RowKit
open Cle

theorem valF_no {c ty : Int} {s : ByteArray} {n : Int} (h : (valF c ty s n).2 = false) : valF c ty s n = (⟨#[]⟩, false) := by
  unfold valF at h ⊢
  split
  · rename_i h1; rw [if_pos h1] at h; split at h
    · cases h
    · rename_i h2; rw [if_neg h2]
  · rename_i h1; rw [if_neg h1] at h; split
    · rename_i h2; rw [if_pos h2] at h; split at h
      · cases h
      · rename_i h3; rw [if_neg h3]
    · rfl
theorem valF_yes {c ty : Int} {s : ByteArray} {n : Int} (h : (valF c ty s n).2 = true) : (c = 1 ∧ ty = 1 ∧ txtB s = true ∧ valF c ty s n = (s, true)) ∨ (c = 2 ∧ ty = 2 ∧ inB n = true ∧ valF c ty s n = (enc8 n, true)) := by
  unfold valF at h ⊢
  split
  · rename_i h1; rw [if_pos h1] at h; split at h
    · rename_i h2; exact .inl ⟨h2, h1.1, h1.2, by rw [if_pos h2]⟩
    · cases h
  · rename_i h1; rw [if_neg h1] at h; split at h
    · rename_i h2; split at h
      · rename_i h3; exact .inr ⟨h3, h2.1, h2.2, by rw [if_pos h2, if_pos h3]⟩
      · cases h
    · cases h

set_option maxRecDepth 100000 in
set_option maxHeartbeats 1000000 in
theorem awake17_any (w : World) (hG : Glob w) :
    Calls Tryd.prog 14 #[] w fun e w' => e = .returned (.bool true) ∧ St w w' := by
  have hS := St.refl hG
  clear hG
  have hv := fun w hG => bval_any ⟨#[107]⟩ 2 2 ⟨#[]⟩ 0 w hG (by decide)
  have ht := fun w hG => btrm_any ⟨#[107]⟩ 2 ⟨#[128, 0, 0, 0, 0, 0, 0, 0]⟩ w hG (by decide)
  rw [show valF 2 2 ⟨#[]⟩ 0 = (⟨#[128, 0, 0, 0, 0, 0, 0, 0]⟩, true) from by decide +kernel] at hv
  rw [show trmF 2 ⟨#[128, 0, 0, 0, 0, 0, 0, 0]⟩ = (2, ⟨#[]⟩, 0, true) from by decide +kernel] at ht
  simp only [trmV] at ht
  go_enter Tryd.func14, Tryd.ntmps14
  go_wp2_with (first
    | (go_at_call 15; refine (hv _ hS.2).mono ?_; rintro e w' ⟨rfl, hb⟩; replace hS := hS.step hb; clear hb)
    | (go_at_call 17; refine (ht _ hS.2).mono ?_; rintro e w' ⟨rfl, hb⟩; replace hS := hS.step hb; clear hb))
  go_ret
  exact ⟨rfl, hS.step ((Below.refl _ _).alloc (Nat.le_refl _) _)⟩

theorem dec8_enc8 (n : Int) (h : inB n = true) : dec8 (enc8 n) = some n := by
  simp only [inB, Bool.and_eq_true, decide_eq_true_eq] at h
  exact dec8_enc8' n (by omega) (by omega)
theorem bel2 (w : World) (o p : Obj) : Below w.heap.size w ((w.alloc o).alloc p) := ((Below.refl _ _).alloc (Nat.le_refl _) _).alloc (by simp) _
theorem cells2 {w : World} {k : Nat} {a b : Value} {T : TypeId} (h : w.heap[k]? = some (.cells #[a, b] T (0, 0))) :
    w.cell? ⟨k, 0, none⟩ = some a ∧ w.cell? ⟨k, 1, none⟩ = some b :=
  ⟨by rw [blk_cell h]; rfl, by rw [blk_cell h]; rfl⟩
theorem blk3 (w : World) (o p q : Obj) : (((w.alloc o).alloc p).alloc q).heap[w.heap.size]? = some o ∧ (((w.alloc o).alloc p).alloc q).heap[w.heap.size + 1]? = some p ∧ (((w.alloc o).alloc p).alloc q).heap[w.heap.size + 1 + 1]? = some q := by
  have h1 := blk_new w o
  have h2 := blk_new (w.alloc o) p
  have h3 := blk_new ((w.alloc o).alloc p) q
  rw [w_size1] at h2
  rw [w_size1, w_size1] at h3
  exact ⟨blk_alloc (blk_alloc h1 _) _, blk_alloc h2 _, h3⟩

set_option maxRecDepth 100000 in
set_option maxHeartbeats 1000000 in
theorem bindValues_any (typ at_ : Int) (sa : ByteArray) (an bt : Int) (sb : ByteArray) (bn : Int) (s : ByteArray) (w : World) (hG : Glob w) :
    Calls Tryd.prog 3 #[.int .i64 typ, .agg #[.int .i64 at_, .string sa, .int .i64 an], .agg #[.int .i64 bt, .string sb, .int .i64 bn], .string s] w fun e w' => e = .returned (.bool true) ∧ St w w' := by
  have hS := St.refl hG
  clear hG
  by_cases hl : 300 < sa.size ∨ 300 < sb.size ∨ 300 < s.size
  · have h1 : (decide ((300 : Int) < sa.size) || decide ((300 : Int) < sb.size) || decide ((300 : Int) < s.size)) = true := by
      simp only [Bool.or_eq_true, decide_eq_true_eq]; omega
    have haw := fun w1 hS1 => awake17_any w1 hS1
    clear hl
    have hB2 := bel2 w (.cells #[.int .i64 at_, .string sa, .int .i64 an] 23) (.cells #[.int .i64 bt, .string sb, .int .i64 bn] 23)
    go_enter Tryd.func3, Tryd.ntmps3
    go_wp2_with (go_at_call 14; refine (haw _ (hS.step hB2).2).mono ?_; rintro e w8 ⟨rfl, hb8⟩)
    all_goals go_ret
    all_goals exact ⟨rfl, (hS.step hB2).trans hb8⟩
  · obtain ⟨l1, l2, l3⟩ : sa.size ≤ 300 ∧ sb.size ≤ 300 ∧ s.size ≤ 300 := by omega
    clear hl
    go_enter Tryd.func3, Tryd.ntmps3
    go_wp2_with fail
    obtain ⟨hA, hB, hC⟩ := blk3 w (.cells #[.int .i64 at_, .string sa, .int .i64 an] 23) (.cells #[.int .i64 bt, .string sb, .int .i64 bn] 23) (.cells #[.string ⟨#[107]⟩, .int .i64 typ] 26)
    replace hS := hS.step (bel3 w (.cells #[.int .i64 at_, .string sa, .int .i64 an] 23) (.cells #[.int .i64 bt, .string sb, .int .i64 bn] 23) (.cells #[.string ⟨#[107]⟩, .int .i64 typ] 26))
    generalize ((w.alloc (.cells #[.int .i64 at_, .string sa, .int .i64 an] 23)).alloc (.cells #[.int .i64 bt, .string sb, .int .i64 bn] 23)).alloc (.cells #[.string ⟨#[107]⟩, .int .i64 typ] 26) = w0 at *
    have hv := bval_any ⟨#[107]⟩ typ at_ sa an w0 hS.2 (by omega)
    refine hv.mono ?_; rintro e w1 ⟨rfl, hb⟩
    replace hA := blk_below hA hb (blk_lt hA); replace hB := blk_below hB hb (blk_lt hB); replace hC := blk_below hC hb (blk_lt hC); replace hS := hS.step hb; clear hb; obtain ⟨a0, a1, a2, _⟩ := cells3 hA; obtain ⟨b0, b1, b2, _⟩ := cells3 hB; obtain ⟨c0, c1⟩ := cells2 hC; have lA := blk_lt hA; have lB := blk_lt hB; have lC := blk_lt hC
    go_wp2_with fail
    refine (rval_any ⟨#[107]⟩ typ at_ sa an w1 (by omega)).mono ?_; rintro e w2 ⟨rfl, hb⟩
    replace hA := blk_below hA hb (blk_lt hA); replace hB := blk_below hB hb (blk_lt hB); replace hC := blk_below hC hb (blk_lt hC); replace hS := hS.step hb; clear hb; obtain ⟨a0, a1, a2, _⟩ := cells3 hA; obtain ⟨b0, b1, b2, _⟩ := cells3 hB; obtain ⟨c0, c1⟩ := cells2 hC; have lA := blk_lt hA; have lB := blk_lt hB; have lC := blk_lt hC
    go_wp2_with fail
    refine (btrm_any ⟨#[107]⟩ typ s w2 hS.2 (by omega)).mono ?_; rintro e w3 ⟨rfl, hb⟩
    replace hA := blk_below hA hb (blk_lt hA); replace hB := blk_below hB hb (blk_lt hB); replace hC := blk_below hC hb (blk_lt hC); replace hS := hS.step hb; clear hb; obtain ⟨a0, a1, a2, _⟩ := cells3 hA; obtain ⟨b0, b1, b2, _⟩ := cells3 hB; obtain ⟨c0, c1⟩ := cells2 hC; have lA := blk_lt hA; have lB := blk_lt hB; have lC := blk_lt hC
    have ht := fun w => rtrm_any ⟨#[107]⟩ typ s w (by omega)
    obtain ⟨⟨T0, T1, T2, T3⟩, hT⟩ : ∃ x, trmF typ s = x := ⟨_, rfl⟩
    rw [hT] at ht ⊢
    clear hT
    simp only [trmV] at ht ⊢
    go_wp2_with fail
    have hT := blk_new w3 (.cells #[.int .i64 T0, .string T1, .int .i64 T2] 23)
    replace hA := blk_alloc hA (.cells #[.int .i64 T0, .string T1, .int .i64 T2] 23); replace hB := blk_alloc hB (.cells #[.int .i64 T0, .string T1, .int .i64 T2] 23); replace hC := blk_alloc hC (.cells #[.int .i64 T0, .string T1, .int .i64 T2] 23); replace hS := hS.step ((Below.refl w3.heap.size w3).alloc (Nat.le_refl _) (.cells #[.int .i64 T0, .string T1, .int .i64 T2] 23))
    clear lA lB lC a0 a1 a2 b0 b1 b2 c0 c1
    obtain ⟨k, hk⟩ : ∃ k, k = w3.heap.size := ⟨_, rfl⟩
    rw [← hk] at hT ⊢
    generalize w3.alloc (.cells #[.int .i64 T0, .string T1, .int .i64 T2] 23) = w4 at *
    clear hk
    refine (ht w4).mono ?_; rintro e w5 ⟨rfl, hb⟩
    replace hT := blk_below hT hb (blk_lt hT); obtain ⟨t0, t1, t2, _⟩ := cells3 hT; have lT := blk_lt hT
    replace hA := blk_below hA hb (blk_lt hA); replace hB := blk_below hB hb (blk_lt hB); replace hC := blk_below hC hb (blk_lt hC); replace hS := hS.step hb; clear hb; obtain ⟨a0, a1, a2, _⟩ := cells3 hA; obtain ⟨b0, b1, b2, _⟩ := cells3 hB; obtain ⟨c0, c1⟩ := cells2 hC; have lA := blk_lt hA; have lB := blk_lt hB; have lC := blk_lt hC
    obtain ⟨⟨X, ok⟩, hX⟩ : ∃ x, valF typ at_ sa an = x := ⟨_, rfl⟩
    have hY := valF_yes (c := typ) (ty := at_) (s := sa) (n := an)
    rw [hX] at hY ⊢
    clear hX ht
    go_wp2_with fail
    replace hA := blk_alloc hA (.cells #[.int .i64 T0, .string T1, .int .i64 T2] 23); replace hB := blk_alloc hB (.cells #[.int .i64 T0, .string T1, .int .i64 T2] 23); replace hC := blk_alloc hC (.cells #[.int .i64 T0, .string T1, .int .i64 T2] 23); replace hS := hS.step ((Below.refl w5.heap.size w5).alloc (Nat.le_refl _) (.cells #[.int .i64 T0, .string T1, .int .i64 T2] 23))
    clear lA lB lC lT a0 a1 a2 b0 b1 b2 c0 c1 t0 t1 t2 hT
    generalize w5.alloc (.cells #[.int .i64 T0, .string T1, .int .i64 T2] 23) = w6 at *
    have hv2 := bval_any ⟨#[107]⟩ typ bt sb bn w6 hS.2 (by omega)
    obtain ⟨⟨Y, two⟩, hY2⟩ : ∃ x, valF typ bt sb bn = x := ⟨_, rfl⟩
    have hZ := valF_yes (c := typ) (ty := bt) (s := sb) (n := bn)
    rw [hY2] at hZ hv2
    clear hY2
    refine hv2.mono ?_; rintro e w7 ⟨rfl, hb⟩
    clear hv2
    replace hA := blk_below hA hb (blk_lt hA); replace hB := blk_below hB hb (blk_lt hB); replace hC := blk_below hC hb (blk_lt hC); replace hS := hS.step hb; clear hb; obtain ⟨a0, a1, a2, _⟩ := cells3 hA; obtain ⟨b0, b1, b2, _⟩ := cells3 hB; obtain ⟨c0, c1⟩ := cells2 hC; have lA := blk_lt hA; have lB := blk_lt hB; have lC := blk_lt hC
    have haw := fun w1 hS1 => awake17_any w1 hS1
    cases ok
    · go_wp2_with (go_at_call 14; refine (haw _ hS.2).mono ?_; rintro e w8 ⟨rfl, hb8⟩)
      go_ret
      exact ⟨rfl, hS.trans hb8⟩
    · have hz := fun w1 hG1 => btrm_any ⟨#[107]⟩ typ X w1 hG1
      rcases hY rfl with ⟨rfl, rfl, hx, hX⟩ | ⟨rfl, rfl, hx, hX⟩
      · obtain ⟨rfl⟩ : X = sa := congrArg Prod.fst hX
        rw [show trmF 1 sa = (1, sa, 0, true) from by unfold trmF; rw [if_pos rfl, if_pos hx]] at hz
        simp only [trmV] at hz
        clear hx hX hY hZ
        go_wp2_with (first
          | (go_at_call 17; refine (hz _ hS.2 (by omega)).mono ?_; rintro e w8 ⟨rfl, hb⟩; replace hA := blk_below hA hb (blk_lt hA); replace hB := blk_below hB hb (blk_lt hB); replace hC := blk_below hC hb (blk_lt hC); replace hS := hS.step hb; clear hb; obtain ⟨a0, a1, a2, _⟩ := cells3 hA; obtain ⟨b0, b1, b2, _⟩ := cells3 hB; obtain ⟨c0, c1⟩ := cells2 hC; have lA := blk_lt hA; have lB := blk_lt hB; have lC := blk_lt hC)
          | (go_at_call 14; refine (haw _ (hS.2.below ((Below.refl _ _).alloc (Nat.le_refl _) _))).mono ?_; rintro e w9 ⟨rfl, hb8⟩))
        all_goals go_ret
        all_goals exact ⟨rfl, (hS.step ((Below.refl _ _).alloc (Nat.le_refl _) _)).trans hb8⟩
      · obtain ⟨rfl⟩ : X = enc8 an := congrArg Prod.fst hX
        rw [show trmF 2 (enc8 an) = (2, ⟨#[]⟩, an, true) from by unfold trmF; rw [dec8_enc8 an hx]; simp [hx]] at hz
        simp only [trmV] at hz
        have hes := enc8_size an
        cases two
        · clear hX hY hZ
          go_wp2_with (first
            | (go_at_call 17; refine (hz _ hS.2 (by omega)).mono ?_; rintro e w8 ⟨rfl, hb⟩; replace hA := blk_below hA hb (blk_lt hA); replace hB := blk_below hB hb (blk_lt hB); replace hC := blk_below hC hb (blk_lt hC); replace hS := hS.step hb; clear hb; obtain ⟨a0, a1, a2, _⟩ := cells3 hA; obtain ⟨b0, b1, b2, _⟩ := cells3 hB; obtain ⟨c0, c1⟩ := cells2 hC; have lA := blk_lt hA; have lB := blk_lt hB; have lC := blk_lt hC)
            | (go_at_call 14; refine (haw _ (hS.2.below ((Below.refl _ _).alloc (Nat.le_refl _) _))).mono ?_; rintro e w9 ⟨rfl, hb8⟩))
          all_goals go_ret
          all_goals exact ⟨rfl, (hS.step ((Below.refl _ _).alloc (Nat.le_refl _) _)).trans hb8⟩
        · rcases hZ rfl with ⟨hc, _⟩ | ⟨_, rfl, hw, hW⟩
          · exact absurd hc (by decide)
          obtain ⟨rfl⟩ : Y = enc8 bn := congrArg Prod.fst hW
          have hls : Op.bytesLess (enc8 an).toList (enc8 bn).toList = decide (an < bn) := by
            simp only [inB, Bool.and_eq_true, decide_eq_true_eq] at hx hw
            exact enc8_less an bn (by omega) (by omega) (by omega) (by omega)
          clear hX hY hZ hW
          go_wp2_with (first
            | (go_at_call 17; refine (hz _ hS.2 (by omega)).mono ?_; rintro e w8 ⟨rfl, hb⟩; replace hA := blk_below hA hb (blk_lt hA); replace hB := blk_below hB hb (blk_lt hB); replace hC := blk_below hC hb (blk_lt hC); replace hS := hS.step hb; clear hb; obtain ⟨a0, a1, a2, _⟩ := cells3 hA; obtain ⟨b0, b1, b2, _⟩ := cells3 hB; obtain ⟨c0, c1⟩ := cells2 hC; have lA := blk_lt hA; have lB := blk_lt hB; have lC := blk_lt hC)
            | (go_at_call 14; refine (haw _ (hS.2.below ((Below.refl _ _).alloc (Nat.le_refl _) _))).mono ?_; rintro e w9 ⟨rfl, hb8⟩))
          all_goals go_ret
          all_goals exact ⟨rfl, (hS.step ((Below.refl _ _).alloc (Nat.le_refl _) _)).trans hb8⟩

end Go.Proofs.YtljoenpgokhekaaDoor
