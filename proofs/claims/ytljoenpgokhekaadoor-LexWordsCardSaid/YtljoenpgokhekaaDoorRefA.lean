/- Walks: the reference of layer 1: cont, one. -/
import Derived.Test.YtljoenpgokhekaaDoorRunesC
import Derived.Test.YtljoenpgokhekaaDoorPlainD
namespace Go.Proofs.YtljoenpgokhekaaDoor
open Go.RowKit
open Cle

theorem contB_step (s : ByteArray) (a k : Nat) : contB s a (k + 1) = (contB s a k && decide (a + k < s.size ∧ bY s (a + k) / 64 = 2)) := rfl
theorem contB_mono (s : ByteArray) (a : Nat) : ∀ n k, k ≤ n → contB s a n = true → contB s a k = true := by
  intro n
  induction n with
  | zero => intro k hk h; have : k = 0 := by omega
            subst this; exact h
  | succ n ih =>
    intro k hk h
    rw [contB_step, Bool.and_eq_true] at h
    by_cases e : k = n + 1
    · subst e; rw [contB_step, Bool.and_eq_true]; exact h
    · exact ih k (by omega) h.1

set_option maxHeartbeats 400000 in
theorem cont_any (s : ByteArray) (a n : Nat) (w : World) (hs : s.size ≤ 1000000) (ha : a ≤ 1000000) (hn : 1 ≤ n) (hn3 : n ≤ 3) :
    Calls Tryd.prog 77 #[.string s, .int .i64 a, .int .i64 n] w fun e w' => e = .returned (.bool (contB s a n)) ∧ w = w' := by
  by_cases hb : s.size < a + n
  · have HF : Hid (contB s a n = false) := by
      obtain ⟨n, rfl⟩ : ∃ m, n = m + 1 := ⟨n - 1, by omega⟩
      show _ = _
      rw [contB_step, decide_eq_false (by omega), Bool.and_false]
    have hb1 : (s.size : Int) < (a : Int) + (n : Int) := by omega
    clear hb
    go_enter Tryd.func77, Tryd.ntmps77
    go_wp2_with fail
    go_ret
    exact ⟨ret_bool HF.out.symm, rfl⟩
  · have hb1 : ¬ (s.size : Int) < (a : Int) + (n : Int) := by omega
    have hb2 : a + n ≤ s.size := by omega
    clear hb
    go_enter Tryd.func77, Tryd.ntmps77
    go_wp2_with fail
    go_loop [7] (fun v => ∃ k : Nat, k ≤ n ∧ v = .int .i64 (a + k : Nat) ∧ Hid (contB s a k = true)) (fun v => a + n - (intOf v).toNat)
    case atStart => exact ⟨0, by omega, by go_num, rfl⟩
    case round =>
      obtain ⟨k, hk, rfl, HS⟩ := hrel
      by_cases hlt : k < n
      · have hlt1 : ((a + k : Nat) : Int) < (a : Int) + (n : Int) := by omega
        have hix : a + k < s.size := by omega
        obtain ⟨c, hc⟩ : ∃ c, s[a + k].toNat = c := ⟨_, rfl⟩
        have hcb : bY s (a + k) = c := by rw [← bY_eq s _ hix]; exact hc
        have hc2 : c < 256 := by rw [← hcb]; exact bY_lt _ _
        have hand : bits .and .u8 (c : Int) 192 = ((c &&& 192 : Nat) : Int) := u8_and_nat c 192 hc2 (by omega)
        have hS : Hid (contB s a (k + 1) = decide (c / 64 = 2)) := by
          show _ = _
          rw [contB_step, HS.out, Bool.true_and, hcb]
          exact decide_eq_decide.2 ⟨fun h => h.2, fun h => ⟨hix, h⟩⟩
        have hwi : ((a + k : Nat) : Int).toNat = a + k := by omega
        have HN : Hid (contB s a (k + 1) = false → contB s a n = false) := fun h => by
          cases hh : contB s a n with
          | false => rfl
          | true => rw [contB_mono s a n (k + 1) (by omega) hh] at h; cases h
        have h192 := and192 c hc2
        by_cases hq : c / 64 = 2
        · have hq1 : (((c &&& 192 : Nat) : Int) != 128) = false := by rw [h192.2 hq]; rfl
          have HT : Hid (contB s a (k + 1) = true) := by show _ = _; rw [hS.out]; exact decide_eq_true hq
          have Hc : Hid (s[a + k].toNat = c) := hc
          clear h192 hcb hq hS
          go_wp2_with fail
          go_round
          case rel => exact ⟨k + 1, by omega, by go_num, HT⟩
          case measure => simp [intOf]; omega
        · have hq1 : (((c &&& 192 : Nat) : Int) != 128) = true := by
            have : (c &&& 192 : Nat) ≠ 128 := fun e => hq (h192.1 e)
            exact bne_iff_ne.2 (by omega)
          have HT : Hid (contB s a n = false) := HN.out (by rw [hS.out]; exact decide_eq_false hq)
          clear h192 hcb hq hS
          go_wp2_with fail
          go_ret
          exact ⟨ret_bool HT.out.symm, rfl⟩
      · have hkn : k = n := by omega
        have HF : Hid (contB s a n = true) := by rw [← hkn]; exact HS.out
        clear hkn HS
        go_wp2_with fail
        go_ret
        exact ⟨ret_bool HF.out.symm, rfl⟩

/-- A code point as the reference keeps it. -/
def ptV (p : Pt) : Value := .agg #[.int .i32 p.r, .int .i64 p.at_, .int .i64 p.n, .bool p.ok]
def ptAt (s : ByteArray) (a : Nat) : Pt := ⟨(Utf8.decode s a).1, a, (Utf8.decode s a).2⟩

theorem ret_pt {fn : Func} {R : Ending → World → Prop} {a : Act} {w : World} {q : Pt} {v : Value} (hr : (results fn a.tmps).run Tryd.prog w = .ok v w) (hd : a.defers = []) (hv : v = ptV q) (hR : R (.returned (ptV q)) w) : bodyPost Tryd.prog fn R .ret a w := by
  subst hv
  exact bodyPost_ret hr hd hR

set_option maxRecDepth 100000 in
set_option maxHeartbeats 400000 in
theorem one_ascii (s : ByteArray) (a : Nat) (w : World) (_hs : s.size ≤ 1000000) (h : a < s.size) (h0 : bY s a < 128) :
    Calls Tryd.prog 66 #[.string s, .int .i64 a] w fun e w' => e = .returned (ptV (ptAt s a)) ∧ Below w.heap.size w w' := by
  obtain ⟨c, hc⟩ : ∃ c, s[a].toNat = c := ⟨_, rfl⟩
  have hcb : bY s a = c := by rw [← bY_eq s _ h]; exact hc
  have HD : Hid (ptAt s a = ⟨c, a, 1⟩) := by show _ = _; unfold ptAt; rw [dec_ascii s a h h0, hcb]
  rw [hcb] at h0
  clear hcb
  go_enter Tryd.func66, Tryd.ntmps66
  go_wp2_with fail
  refine ret_pt (q := ptAt s a) (v := .agg #[.int .i32 c, .int .i64 a, .int .i64 1, .bool true]) (by simp [results, Tryd.results66, go_sem]) rfl ?_ ⟨rfl, ((Below.refl _ _).alloc (Nat.le_refl _) _).alloc (by simp) _⟩
  rw [HD.out]
  have : (⟨c, a, 1⟩ : Pt).ok = true := by simp [Pt.ok]; omega
  unfold ptV
  rw [this]; rfl

set_option maxRecDepth 100000 in
set_option maxHeartbeats 400000 in
theorem one_bad (s : ByteArray) (a : Nat) (w : World) (_hs : s.size ≤ 1000000) (h : a < s.size) (h0 : 128 ≤ bY s a) (h1 : bY s a < 194 ∨ 245 ≤ bY s a) :
    Calls Tryd.prog 66 #[.string s, .int .i64 a] w fun e w' => e = .returned (ptV (ptAt s a)) ∧ Below w.heap.size w w' := by
  have HD : Hid (ptAt s a = ⟨65533, a, 1⟩) := by show _ = _; unfold ptAt; rw [dec_bad s a h h0 (by omega)]
  obtain ⟨c, hc⟩ : ∃ c, s[a].toNat = c := ⟨_, rfl⟩
  have hcb : bY s a = c := by rw [← bY_eq s _ h]; exact hc
  rw [hcb] at h0 h1
  have hc256 : c < 256 := by rw [← hcb]; exact bY_lt _ _
  clear hcb
  rcases h1 with h1 | h1
  all_goals
    go_enter Tryd.func66, Tryd.ntmps66
    go_wp2_with fail
    refine ret_pt (q := ptAt s a) (v := .agg #[.int .i32 65533, .int .i64 a, .int .i64 1, .bool false]) (by simp [results, Tryd.results66, go_sem]) rfl ?_ ⟨rfl, (((Below.refl _ _).alloc (Nat.le_refl _) _).alloc (by simp) _)⟩
    rw [HD.out]
    rfl

set_option maxRecDepth 100000 in
set_option maxHeartbeats 1000000 in
theorem one_two (s : ByteArray) (a : Nat) (w : World) (hs : s.size ≤ 1000000) (h : a < s.size) (h0 : 194 ≤ bY s a ∧ bY s a < 224) :
    Calls Tryd.prog 66 #[.string s, .int .i64 a] w fun e w' => e = .returned (ptV (ptAt s a)) ∧ Below w.heap.size w w' := by
  obtain ⟨r, hr⟩ : ∃ r, r = bY s a % 32 * 64 + bY s (a + 1) % 64 := ⟨_, rfl⟩
  have HD := Lib.hid (dec_two s a h h0)
  have hcc := fun w => cont_any s (a + 1) 1 w hs (by omega) (by omega) (by omega)
  obtain ⟨c, hc⟩ : ∃ c, s[a].toNat = c := ⟨_, rfl⟩
  have hcb : bY s a = c := by rw [← bY_eq s _ h]; exact hc
  rw [hcb] at h0
  obtain ⟨h01, h02⟩ := h0
  have HR : Hid (r = bY s a % 32 * 64 + bY s (a + 1) % 64) := hr
  have HB : Hid (bY s a = c) := hcb
  clear hr hcb
  have hd128 : decide ((c : Int) < 128) = false := decide_eq_false (by omega)
  have hand : bits .and .i32 (c : Int) 31 = ((c % 32 : Nat) : Int) := by
    have := bits_mask .i32 31 (by decide) (fun n h0 h1 => wraps_i32 n h0 h1) 5 (by decide) (c : Int) (by omega) (by omega)
    simpa using this
  cases hcont : contB s (a + 1) 1
  · have HE : Hid (ptAt s a = ⟨65533, a, 1⟩) := by
      have := HD.out
      rw [hcont] at this
      show _ = _
      unfold ptAt
      rw [this]; rfl
    rw [hcont] at hcc
    clear hcont HD
    go_enter Tryd.func66, Tryd.ntmps66
    go_wp2_with (go_at_call 77; refine (hcc _).mono ?_; rintro e w' ⟨rfl, rfl⟩)
    refine ret_pt (q := ptAt s a) (v := .agg #[.int .i32 65533, .int .i64 a, .int .i64 1, .bool false]) (by simp [results, Tryd.results66, go_sem]) rfl ?_ ⟨rfl, (((Below.refl _ _).alloc (Nat.le_refl _) _).alloc (by simp) _)⟩
    rw [HE.out]
    rfl
  have HDc : Hid (Utf8.decode s a = if true then (r, 2) else (65533, 1)) := by
    have := HD.out
    rw [hcont] at this
    rw [← HR.out] at this
    exact this
  rw [hcont] at hcc
  have HC : Hid (a + 1 < s.size) := by
    rw [contB_one] at hcont; exact (of_decide_eq_true hcont).1
  clear hcont HD
  go_enter Tryd.func66, Tryd.ntmps66
  go_wp2_with (go_at_call 77; refine (hcc _).mono ?_; rintro e w' ⟨rfl, rfl⟩)
  go_loop [8, 9] (fun r i => ∃ k : Nat, k ≤ 1 ∧ i = .int .i64 (k + 1 : Nat) ∧ r = .int .i32 (accR s a (c % 32) k : Nat)) (fun _ i => 8 - (intOf i).toNat)
  case atStart => exact ⟨0, by omega, rfl, by show Value.int _ _ = Value.int _ (((c % 32 : Nat)) : Int); go_num⟩
  case round =>
    obtain ⟨k, hk, rfl, rfl⟩ := hrel
    by_cases hlt : k < 1
    · have hix : a + (k + 1) < s.size := by have := HC.out; omega
      have hacc := accR_lo s a (c % 32) (by omega) k (by omega)
      obtain ⟨A, hA⟩ : ∃ A, accR s a (c % 32) k = A := ⟨_, rfl⟩
      have HA : Hid (accR s a (c % 32) (k + 1) = A * 64 + bY s (a + (k + 1)) % 64) := by show _ = _; rw [← hA]; rfl
      rw [hA] at hacc ⊢
      clear hA
      obtain ⟨b, hb⟩ : ∃ b, s[a + (k + 1)].toNat = b := ⟨_, rfl⟩
      have HBb : Hid (bY s (a + (k + 1)) = b) := by rw [← bY_eq s _ hix]; exact hb
      have hb2 : b < 256 := by rw [← HBb.out]; exact bY_lt _ _
      go_wp2_with fail
      go_round
      case rel => exact ⟨k + 1, by omega, by go_num, by rw [HA.out, HBb.out]; go_num⟩
      case measure => simp [intOf]; omega
    · have hk2 : k = 1 := by omega
      subst hk2
      have hRl := accR_le s a (c % 32) (by omega) 1 (by omega)
      obtain ⟨R, hR⟩ : ∃ R, accR s a (c % 32) 1 = R := ⟨_, rfl⟩
      rw [hR] at hRl ⊢
      have hRr : R = r := by rw [HR.out, ← hR, HB.out]; simp only [accR, Nat.add_zero]
      rw [← hRr] at HDc
      clear hR hRr
      by_cases hg : True
      · have HE : Hid (ptAt s a = ⟨R, a, 2⟩) := by
          show _ = _
          unfold ptAt
          rw [HDc.out, if_pos (by simp)]
        clear HDc
        skip
        all_goals
          go_wp2_with fail
        all_goals
          refine ret_pt (q := ptAt s a) (v := .agg #[.int .i32 R, .int .i64 a, .int .i64 2, .bool true]) (by simp [results, Tryd.results66, go_sem]) rfl ?_ ⟨rfl, (((Below.refl _ _).alloc (Nat.le_refl _) _).alloc (by simp) _)⟩
          rw [HE.out]
          have : (⟨R, a, 2⟩ : Pt).ok = true := by simp [Pt.ok]
          unfold ptV
          rw [this]; rfl
      · exact absurd trivial hg

set_option maxRecDepth 100000 in
set_option maxHeartbeats 1000000 in
theorem one_three (s : ByteArray) (a : Nat) (w : World) (hs : s.size ≤ 1000000) (h : a < s.size) (h0 : 224 ≤ bY s a ∧ bY s a < 240) :
    Calls Tryd.prog 66 #[.string s, .int .i64 a] w fun e w' => e = .returned (ptV (ptAt s a)) ∧ Below w.heap.size w w' := by
  obtain ⟨r, hr⟩ : ∃ r, r = bY s a % 16 * 4096 + bY s (a + 1) % 64 * 64 + bY s (a + 2) % 64 := ⟨_, rfl⟩
  have HD := Lib.hid (dec_three s a h h0 r hr)
  have hcc := fun w => cont_any s (a + 1) 2 w hs (by omega) (by omega) (by omega)
  obtain ⟨c, hc⟩ : ∃ c, s[a].toNat = c := ⟨_, rfl⟩
  have hcb : bY s a = c := by rw [← bY_eq s _ h]; exact hc
  rw [hcb] at h0
  obtain ⟨h01, h02⟩ := h0
  have HR : Hid (r = bY s a % 16 * 4096 + bY s (a + 1) % 64 * 64 + bY s (a + 2) % 64) := hr
  have HB : Hid (bY s a = c) := hcb
  clear hr hcb
  have hd128 : decide ((c : Int) < 128) = false := decide_eq_false (by omega)
  have hd224 : decide ((c : Int) < 224) = false := decide_eq_false (by omega)
  have hand : bits .and .i32 (c : Int) 15 = ((c % 16 : Nat) : Int) := by
    have := bits_mask .i32 31 (by decide) (fun n h0 h1 => wraps_i32 n h0 h1) 4 (by decide) (c : Int) (by omega) (by omega)
    simpa using this
  cases hcont : contB s (a + 1) 2
  · have HE : Hid (ptAt s a = ⟨65533, a, 1⟩) := by
      have := HD.out
      rw [hcont] at this
      show _ = _
      unfold ptAt
      rw [this]; rfl
    rw [hcont] at hcc
    clear hcont HD
    go_enter Tryd.func66, Tryd.ntmps66
    go_wp2_with (go_at_call 77; refine (hcc _).mono ?_; rintro e w' ⟨rfl, rfl⟩)
    refine ret_pt (q := ptAt s a) (v := .agg #[.int .i32 65533, .int .i64 a, .int .i64 1, .bool false]) (by simp [results, Tryd.results66, go_sem]) rfl ?_ ⟨rfl, (((Below.refl _ _).alloc (Nat.le_refl _) _).alloc (by simp) _)⟩
    rw [HE.out]
    rfl
  have HDc : Hid (Utf8.decode s a = if (true && !(decide (r < 2048) || (decide (55296 ≤ r) && decide (r < 57344)))) then (r, 3) else (65533, 1)) := by
    have := HD.out
    rw [hcont] at this
    skip
    exact this
  rw [hcont] at hcc
  have HC : Hid (a + 2 < s.size) := by
    rw [contB_two, Bool.and_eq_true] at hcont; exact (of_decide_eq_true hcont.2).1
  clear hcont HD
  go_enter Tryd.func66, Tryd.ntmps66
  go_wp2_with (go_at_call 77; refine (hcc _).mono ?_; rintro e w' ⟨rfl, rfl⟩)
  go_loop [8, 9] (fun r i => ∃ k : Nat, k ≤ 2 ∧ i = .int .i64 (k + 1 : Nat) ∧ r = .int .i32 (accR s a (c % 16) k : Nat)) (fun _ i => 8 - (intOf i).toNat)
  case atStart => exact ⟨0, by omega, rfl, by show Value.int _ _ = Value.int _ (((c % 16 : Nat)) : Int); go_num⟩
  case round =>
    obtain ⟨k, hk, rfl, rfl⟩ := hrel
    by_cases hlt : k < 2
    · have hix : a + (k + 1) < s.size := by have := HC.out; omega
      have hacc := accR_lo s a (c % 16) (by omega) k (by omega)
      obtain ⟨A, hA⟩ : ∃ A, accR s a (c % 16) k = A := ⟨_, rfl⟩
      have HA : Hid (accR s a (c % 16) (k + 1) = A * 64 + bY s (a + (k + 1)) % 64) := by show _ = _; rw [← hA]; rfl
      rw [hA] at hacc ⊢
      clear hA
      obtain ⟨b, hb⟩ : ∃ b, s[a + (k + 1)].toNat = b := ⟨_, rfl⟩
      have HBb : Hid (bY s (a + (k + 1)) = b) := by rw [← bY_eq s _ hix]; exact hb
      have hb2 : b < 256 := by rw [← HBb.out]; exact bY_lt _ _
      go_wp2_with fail
      go_round
      case rel => exact ⟨k + 1, by omega, by go_num, by rw [HA.out, HBb.out]; go_num⟩
      case measure => simp [intOf]; omega
    · have hk2 : k = 2 := by omega
      subst hk2
      have hRl := accR_le s a (c % 16) (by omega) 2 (by omega)
      obtain ⟨R, hR⟩ : ∃ R, accR s a (c % 16) 2 = R := ⟨_, rfl⟩
      rw [hR] at hRl ⊢
      have hRr : R = r := by rw [HR.out, ← hR, HB.out]; simp only [accR, Nat.add_zero, Nat.add_assoc, Nat.reduceAdd]; omega
      rw [← hRr] at HDc
      clear hR hRr
      by_cases hg : (2048 ≤ R ∧ (R < 55296 ∨ 57344 ≤ R))
      · have HE : Hid (ptAt s a = ⟨R, a, 3⟩) := by
          show _ = _
          unfold ptAt
          rw [HDc.out, if_pos (by simp; omega)]
        clear HDc
        rcases hg with ⟨hg1, hg2 | hg2⟩
        all_goals
          go_wp2_with fail
        all_goals
          refine ret_pt (q := ptAt s a) (v := .agg #[.int .i32 R, .int .i64 a, .int .i64 3, .bool true]) (by simp [results, Tryd.results66, go_sem]) rfl ?_ ⟨rfl, (((Below.refl _ _).alloc (Nat.le_refl _) _).alloc (by simp) _)⟩
          rw [HE.out]
          have : (⟨R, a, 3⟩ : Pt).ok = true := by simp [Pt.ok]
          unfold ptV
          rw [this]; rfl
      · have HE : Hid (ptAt s a = ⟨65533, a, 1⟩) := by
          show _ = _
          unfold ptAt
          rw [HDc.out, if_neg (by simp; omega)]
        clear HDc
        have hg2 : (R < 2048) ∨ (55296 ≤ R ∧ R < 57344) := by omega
        clear hg
        rcases hg2 with hg | ⟨hg1, hg3⟩
        all_goals
          go_wp2_with fail
        all_goals
          refine ret_pt (q := ptAt s a) (v := .agg #[.int .i32 65533, .int .i64 a, .int .i64 1, .bool false]) (by simp [results, Tryd.results66, go_sem]) rfl ?_ ⟨rfl, (((Below.refl _ _).alloc (Nat.le_refl _) _).alloc (by simp) _)⟩
          rw [HE.out]
          rfl

set_option maxRecDepth 100000 in
set_option maxHeartbeats 1000000 in
theorem one_four (s : ByteArray) (a : Nat) (w : World) (hs : s.size ≤ 1000000) (h : a < s.size) (h0 : 240 ≤ bY s a ∧ bY s a < 245) :
    Calls Tryd.prog 66 #[.string s, .int .i64 a] w fun e w' => e = .returned (ptV (ptAt s a)) ∧ Below w.heap.size w w' := by
  obtain ⟨r, hr⟩ : ∃ r, r = bY s a % 8 * 262144 + bY s (a + 1) % 64 * 4096 + bY s (a + 2) % 64 * 64 + bY s (a + 3) % 64 := ⟨_, rfl⟩
  have HD := Lib.hid (dec_four s a h h0 r hr)
  have hcc := fun w => cont_any s (a + 1) 3 w hs (by omega) (by omega) (by omega)
  obtain ⟨c, hc⟩ : ∃ c, s[a].toNat = c := ⟨_, rfl⟩
  have hcb : bY s a = c := by rw [← bY_eq s _ h]; exact hc
  rw [hcb] at h0
  obtain ⟨h01, h02⟩ := h0
  have HR : Hid (r = bY s a % 8 * 262144 + bY s (a + 1) % 64 * 4096 + bY s (a + 2) % 64 * 64 + bY s (a + 3) % 64) := hr
  have HB : Hid (bY s a = c) := hcb
  clear hr hcb
  have hd128 : decide ((c : Int) < 128) = false := decide_eq_false (by omega)
  have hd224 : decide ((c : Int) < 224) = false := decide_eq_false (by omega)
  have hd240 : decide ((c : Int) < 240) = false := decide_eq_false (by omega)
  have hand : bits .and .i32 (c : Int) 7 = ((c % 8 : Nat) : Int) := by
    have := bits_mask .i32 31 (by decide) (fun n h0 h1 => wraps_i32 n h0 h1) 3 (by decide) (c : Int) (by omega) (by omega)
    simpa using this
  cases hcont : contB s (a + 1) 3
  · have HE : Hid (ptAt s a = ⟨65533, a, 1⟩) := by
      have := HD.out
      rw [hcont] at this
      show _ = _
      unfold ptAt
      rw [this]; rfl
    rw [hcont] at hcc
    clear hcont HD
    go_enter Tryd.func66, Tryd.ntmps66
    go_wp2_with (go_at_call 77; refine (hcc _).mono ?_; rintro e w' ⟨rfl, rfl⟩)
    refine ret_pt (q := ptAt s a) (v := .agg #[.int .i32 65533, .int .i64 a, .int .i64 1, .bool false]) (by simp [results, Tryd.results66, go_sem]) rfl ?_ ⟨rfl, (((Below.refl _ _).alloc (Nat.le_refl _) _).alloc (by simp) _)⟩
    rw [HE.out]
    rfl
  have HDc : Hid (Utf8.decode s a = if (true && !(decide (r < 65536) || decide (1114111 < r))) then (r, 4) else (65533, 1)) := by
    have := HD.out
    rw [hcont] at this
    skip
    exact this
  rw [hcont] at hcc
  have HC : Hid (a + 3 < s.size) := by
    rw [contB_three, Bool.and_eq_true, Bool.and_eq_true] at hcont; exact (of_decide_eq_true hcont.2).1
  clear hcont HD
  go_enter Tryd.func66, Tryd.ntmps66
  go_wp2_with (go_at_call 77; refine (hcc _).mono ?_; rintro e w' ⟨rfl, rfl⟩)
  go_loop [8, 9] (fun r i => ∃ k : Nat, k ≤ 3 ∧ i = .int .i64 (k + 1 : Nat) ∧ r = .int .i32 (accR s a (c % 8) k : Nat)) (fun _ i => 8 - (intOf i).toNat)
  case atStart => exact ⟨0, by omega, rfl, by show Value.int _ _ = Value.int _ (((c % 8 : Nat)) : Int); go_num⟩
  case round =>
    obtain ⟨k, hk, rfl, rfl⟩ := hrel
    by_cases hlt : k < 3
    · have hix : a + (k + 1) < s.size := by have := HC.out; omega
      have hacc := accR_lo s a (c % 8) (by omega) k (by omega)
      obtain ⟨A, hA⟩ : ∃ A, accR s a (c % 8) k = A := ⟨_, rfl⟩
      have HA : Hid (accR s a (c % 8) (k + 1) = A * 64 + bY s (a + (k + 1)) % 64) := by show _ = _; rw [← hA]; rfl
      rw [hA] at hacc ⊢
      clear hA
      obtain ⟨b, hb⟩ : ∃ b, s[a + (k + 1)].toNat = b := ⟨_, rfl⟩
      have HBb : Hid (bY s (a + (k + 1)) = b) := by rw [← bY_eq s _ hix]; exact hb
      have hb2 : b < 256 := by rw [← HBb.out]; exact bY_lt _ _
      go_wp2_with fail
      go_round
      case rel => exact ⟨k + 1, by omega, by go_num, by rw [HA.out, HBb.out]; go_num⟩
      case measure => simp [intOf]; omega
    · have hk2 : k = 3 := by omega
      subst hk2
      have hRl := accR_le s a (c % 8) (by omega) 3 (by omega)
      obtain ⟨R, hR⟩ : ∃ R, accR s a (c % 8) 3 = R := ⟨_, rfl⟩
      rw [hR] at hRl ⊢
      have hRr : R = r := by rw [HR.out, ← hR, HB.out]; simp only [accR, Nat.add_zero, Nat.add_assoc, Nat.reduceAdd]; omega
      rw [← hRr] at HDc
      clear hR hRr
      by_cases hg : (65536 ≤ R ∧ R ≤ 1114111)
      · have HE : Hid (ptAt s a = ⟨R, a, 4⟩) := by
          show _ = _
          unfold ptAt
          rw [HDc.out, if_pos (by simp; omega)]
        clear HDc
        obtain ⟨hg1, hg2⟩ := hg
        all_goals
          go_wp2_with fail
        all_goals
          refine ret_pt (q := ptAt s a) (v := .agg #[.int .i32 R, .int .i64 a, .int .i64 4, .bool true]) (by simp [results, Tryd.results66, go_sem]) rfl ?_ ⟨rfl, (((Below.refl _ _).alloc (Nat.le_refl _) _).alloc (by simp) _)⟩
          rw [HE.out]
          have : (⟨R, a, 4⟩ : Pt).ok = true := by simp [Pt.ok]
          unfold ptV
          rw [this]; rfl
      · have HE : Hid (ptAt s a = ⟨65533, a, 1⟩) := by
          show _ = _
          unfold ptAt
          rw [HDc.out, if_neg (by simp; omega)]
        clear HDc
        have hg2 : (R < 65536) ∨ (1114111 < R) := by omega
        clear hg
        rcases hg2 with hg | hg
        all_goals
          go_wp2_with fail
        all_goals
          refine ret_pt (q := ptAt s a) (v := .agg #[.int .i32 65533, .int .i64 a, .int .i64 1, .bool false]) (by simp [results, Tryd.results66, go_sem]) rfl ?_ ⟨rfl, (((Below.refl _ _).alloc (Nat.le_refl _) _).alloc (by simp) _)⟩
          rw [HE.out]
          rfl

theorem one_any (s : ByteArray) (a : Nat) (w : World) (hs : s.size ≤ 1000000) (h : a < s.size) :
    Calls Tryd.prog 66 #[.string s, .int .i64 a] w fun e w' => e = .returned (ptV (ptAt s a)) ∧ Below w.heap.size w w' := by
  by_cases h1 : bY s a < 128
  · exact one_ascii s a w hs h h1
  · by_cases h2 : bY s a < 194 ∨ 245 ≤ bY s a
    · exact one_bad s a w hs h (by omega) h2
    · by_cases h3 : bY s a < 224
      · exact one_two s a w hs h (by omega)
      · by_cases h4 : bY s a < 240
        · exact one_three s a w hs h (by omega)
        · exact one_four s a w hs h (by omega)

end Go.Proofs.YtljoenpgokhekaaDoor
