/- Parts of the proof, joined: PlainD RefA RefB RefC PlainPO WrdA. -/
import Derived.Deep.QuietTactic
import Derived.BigQuiet
import Derived.Test.YtfbgdjcnlnfoaaaGreatDoorB01
import Derived.Test.YtfbgdjcnlnfoaaaGreatDoorB02
import Derived.Test.YtfbgdjcnlnfoaaaGreatDoorB03
import Derived.Test.YtfbgdjcnlnfoaaaGreatDoorB04
import Derived.Test.YtfbgdjcnlnfoaaaGreatDoorB05
import Derived.Test.YtfbgdjcnlnfoaaaGreatDoorB06
import Derived.Test.YtfbgdjcnlnfoaaaGreatDoorB07
import Derived.Test.YtfbgdjcnlnfoaaaGreatDoorB08
import Derived.Test.YtfbgdjcnlnfoaaaGreatDoorB09
import Derived.Test.YtfbgdjcnlnfoaaaGreatDoorB10
import Derived.Test.YtfbgdjcnlnfoaaaGreatDoorB11
import Derived.Test.YtfbgdjcnlnfoaaaGreatDoorB12a
import Derived.Test.YtfbgdjcnlnfoaaaGreatDoorB12b
import Derived.Test.YtfbgdjcnlnfoaaaGreatDoorB12c
import Derived.Test.YtfbgdjcnlnfoaaaGreatDoorB12d
import Derived.Test.YtfbgdjcnlnfoaaaGreatDoorB12e
import Derived.Test.YtfbgdjcnlnfoaaaGreatDoorB12f
import Derived.Test.YtfbgdjcnlnfoaaaGreatDoorB12g
import Derived.Test.YtfbgdjcnlnfoaaaGreatDoorB12h
import Derived.Test.YtfbgdjcnlnfoaaaGreatDoorB12i
import Derived.Test.YtfbgdjcnlnfoaaaGreatDoorB12j
import Derived.Test.YtfbgdjcnlnfoaaaGreatDoorB13a
import Derived.Test.YtfbgdjcnlnfoaaaGreatDoorB13b
import Derived.Test.YtfbgdjcnlnfoaaaGreatDoorB13c
import Derived.Test.YtfbgdjcnlnfoaaaGreatDoorB13d
import Derived.Test.YtfbgdjcnlnfoaaaGreatDoorB13e
import Derived.Test.YtfbgdjcnlnfoaaaGreatDoorRows
namespace Go.Proofs.YtfbgdjcnlnfoaaaGreatDoor
namespace Cle

def contB (s : ByteArray) (a : Nat) : Nat → Bool
  | 0 => true
  | n + 1 => contB s a n && decide (a + n < s.size ∧ (s.get! (a + n)).toNat / 64 = 2)

theorem and192 (n : Nat) (h : n < 256) : ((n &&& 192 : Nat) = 128) ↔ n / 64 = 2 := by
  have : ∀ k : Fin 256, ((k.val &&& 192 : Nat) = 128) ↔ k.val / 64 = 2 := by decide +kernel
  exact this ⟨n, h⟩
theorem bY_lt (s : ByteArray) (k : Nat) : bY s k < 256 := (s.get! k).toNat_lt
theorem contB_one (s : ByteArray) (a : Nat) : contB s a 1 = decide (a < s.size ∧ bY s a / 64 = 2) := rfl
theorem contB_two (s : ByteArray) (a : Nat) : contB s a 2 = (decide (a < s.size ∧ bY s a / 64 = 2) && decide (a + 1 < s.size ∧ bY s (a + 1) / 64 = 2)) := rfl
theorem contB_three (s : ByteArray) (a : Nat) : contB s a 3 = ((decide (a < s.size ∧ bY s a / 64 = 2) && decide (a + 1 < s.size ∧ bY s (a + 1) / 64 = 2)) && decide (a + 2 < s.size ∧ bY s (a + 2) / 64 = 2)) := rfl

theorem dec_bad (s : ByteArray) (a : Nat) (h : a < s.size) (h0 : 128 ≤ bY s a) (h1 : ¬ (194 ≤ bY s a ∧ bY s a < 245)) : Utf8.decode s a = (65533, 1) := by
  rw [Lib.decode_at]; unfold Lib.decodeN
  have e : (s.get! a).toNat = bY s a := rfl
  have b1 := bY_lt s (a + 1); have e1 : (s.get! (a + 1)).toNat = bY s (a + 1) := rfl
  have b0 := bY_lt s a
  rw [e, e1]
  repeat' split
  all_goals first | rfl | (exfalso; omega)
theorem dec_two (s : ByteArray) (a : Nat) (h : a < s.size) (h0 : 194 ≤ bY s a ∧ bY s a < 224) :
    Utf8.decode s a = if contB s (a + 1) 1 then (bY s a % 32 * 64 + bY s (a + 1) % 64, 2) else (65533, 1) := by
  rw [Lib.decode_at, contB_one]; unfold Lib.decodeN
  have e : (s.get! a).toNat = bY s a := rfl
  have e1 : (s.get! (a + 1)).toNat = bY s (a + 1) := rfl
  rw [e, e1]
  by_cases hc : a + 1 < s.size ∧ bY s (a + 1) / 64 = 2
  · rw [decide_eq_true hc, if_pos rfl, if_neg (by omega), if_pos ⟨by omega, by omega, hc.2⟩, if_pos (by omega)]
  · rw [decide_eq_false hc, if_neg (by omega), if_neg (by omega), if_neg (by omega), if_neg (by omega)]; rfl
theorem dec_three (s : ByteArray) (a : Nat) (h : a < s.size) (h0 : 224 ≤ bY s a ∧ bY s a < 240) (r : Nat) (hr : r = bY s a % 16 * 4096 + bY s (a + 1) % 64 * 64 + bY s (a + 2) % 64) :
    Utf8.decode s a = if contB s (a + 1) 2 && !(decide (r < 2048) || (decide (55296 ≤ r) && decide (r < 57344))) then (r, 3) else (65533, 1) := by
  rw [Lib.decode_at, contB_two, show a + 1 + 1 = a + 2 from rfl]; unfold Lib.decodeN
  have e : (s.get! a).toNat = bY s a := rfl
  have e1 : (s.get! (a + 1)).toNat = bY s (a + 1) := rfl
  have e2 : (s.get! (a + 2)).toNat = bY s (a + 2) := rfl
  have b0 := bY_lt s a; have b1 := bY_lt s (a + 1); have b2 := bY_lt s (a + 2)
  rw [e, e1, e2, ← hr, if_neg (by omega), if_neg (by omega)]
  by_cases hc : (a + 1 < s.size ∧ bY s (a + 1) / 64 = 2) ∧ (a + 2 < s.size ∧ bY s (a + 2) / 64 = 2)
  · rw [decide_eq_true hc.1, decide_eq_true hc.2, if_pos ⟨by omega, ⟨by omega, hc.1.2⟩, ⟨by omega, hc.2.2⟩⟩]
    by_cases hv : r ≥ 2048 ∧ (r < 55296 ∨ (57344 ≤ r ∧ r ≤ 1114111))
    · rw [if_pos hv, if_pos (by simp; omega)]
    · rw [if_neg hv, if_neg (by simp; omega)]
  · rw [if_neg (by omega), if_neg (by omega), if_neg (by simp; omega)]
theorem dec_four (s : ByteArray) (a : Nat) (h : a < s.size) (h0 : 240 ≤ bY s a ∧ bY s a < 245) (r : Nat) (hr : r = bY s a % 8 * 262144 + bY s (a + 1) % 64 * 4096 + bY s (a + 2) % 64 * 64 + bY s (a + 3) % 64) :
    Utf8.decode s a = if contB s (a + 1) 3 && !(decide (r < 65536) || decide (1114111 < r)) then (r, 4) else (65533, 1) := by
  rw [Lib.decode_at, contB_three, show a + 1 + 1 = a + 2 from rfl, show a + 1 + 2 = a + 3 from rfl]; unfold Lib.decodeN
  have e : (s.get! a).toNat = bY s a := rfl
  have e1 : (s.get! (a + 1)).toNat = bY s (a + 1) := rfl
  have e2 : (s.get! (a + 2)).toNat = bY s (a + 2) := rfl
  have e3 : (s.get! (a + 3)).toNat = bY s (a + 3) := rfl
  have b0 := bY_lt s a; have b1 := bY_lt s (a + 1); have b2 := bY_lt s (a + 2); have b3 := bY_lt s (a + 3)
  rw [e, e1, e2, e3, ← hr, if_neg (by omega), if_neg (by omega), if_neg (by omega)]
  by_cases hc : ((a + 1 < s.size ∧ bY s (a + 1) / 64 = 2) ∧ (a + 2 < s.size ∧ bY s (a + 2) / 64 = 2)) ∧ (a + 3 < s.size ∧ bY s (a + 3) / 64 = 2)
  · rw [decide_eq_true hc.1.1, decide_eq_true hc.1.2, decide_eq_true hc.2, if_pos ⟨by omega, ⟨by omega, hc.1.1.2⟩, ⟨by omega, hc.1.2.2⟩, ⟨by omega, hc.2.2⟩⟩]
    by_cases hv : r ≥ 65536 ∧ (r < 55296 ∨ (57344 ≤ r ∧ r ≤ 1114111))
    · rw [if_pos hv, if_pos (by simp; omega)]
    · rw [if_neg hv, if_neg (by simp; omega)]
  · rw [if_neg (by omega), if_neg (by simp; omega)]

def accR (s : ByteArray) (a m : Nat) : Nat → Nat
  | 0 => m
  | k + 1 => accR s a m k * 64 + bY s (a + k + 1) % 64
theorem accR_lt (s : ByteArray) (a m : Nat) (hm : m < 32) : accR s a m 0 < 32 ∧ accR s a m 1 < 2048 ∧ accR s a m 2 < 131072 ∧ accR s a m 3 < 8388608 := by
  have e0 : accR s a m 0 = m := rfl
  have e1 : accR s a m 1 = accR s a m 0 * 64 + bY s (a + 0 + 1) % 64 := rfl
  have e2 : accR s a m 2 = accR s a m 1 * 64 + bY s (a + 1 + 1) % 64 := rfl
  have e3 : accR s a m 3 = accR s a m 2 * 64 + bY s (a + 2 + 1) % 64 := rfl
  omega
theorem accR_le (s : ByteArray) (a m : Nat) (hm : m < 32) (k : Nat) (hk : k ≤ 3) : accR s a m k < 8388608 := by
  have := accR_lt s a m hm
  match k, hk with
  | 0, _ => omega
  | 1, _ => omega
  | 2, _ => omega
  | 3, _ => omega
theorem accR_lo (s : ByteArray) (a m : Nat) (hm : m < 32) (k : Nat) (hk : k < 3) : accR s a m k < 131072 := by
  have := accR_lt s a m hm
  match k, hk with
  | 0, _ => omega
  | 1, _ => omega
  | 2, _ => omega

end Cle
end Go.Proofs.YtfbgdjcnlnfoaaaGreatDoor

namespace Go.Proofs.YtfbgdjcnlnfoaaaGreatDoor
open Go.RowKit
open Cle

theorem contB_step (s : ByteArray) (a k : Nat) : contB s a (k + 1) = (contB s a k && decide (a + k < s.size ∧ bY s (a + k) / 64 = 2)) := rfl
theorem contB_mono (s : ByteArray) (a : Nat) : ∀ n k, k ≤ n → contB s a n = true → contB s a k = true := by
  intro n
  induction n with
  | zero => intro k hk h; have : k = 0 := by omega
            subst this; exact h
  | succ n ih =>
    intro k hk h
    rw [contB_step, Bool.and_eq_true] at h
    by_cases e : k = n + 1
    · subst e; rw [contB_step, Bool.and_eq_true]; exact h
    · exact ih k (by omega) h.1

set_option maxHeartbeats 400000 in
theorem cont_any (s : ByteArray) (a n : Nat) (w : World) (hs : s.size ≤ 1000000) (ha : a ≤ 1000000) (hn : 1 ≤ n) (hn3 : n ≤ 3) :
    Calls Tryz.prog 137 #[.string s, .int .i64 a, .int .i64 n] w fun e w' => e = .returned (.bool (contB s a n)) ∧ w = w' := by
  by_cases hb : s.size < a + n
  · have HF : Hid (contB s a n = false) := by
      obtain ⟨n, rfl⟩ : ∃ m, n = m + 1 := ⟨n - 1, by omega⟩
      show _ = _
      rw [contB_step, decide_eq_false (by omega), Bool.and_false]
    have hb1 : (s.size : Int) < (a : Int) + (n : Int) := by omega
    clear hb
    go_enter Tryz.func137, Tryz.ntmps137
    go_wp2_with fail
    go_ret
    exact ⟨ret_bool HF.out.symm, rfl⟩
  · have hb1 : ¬ (s.size : Int) < (a : Int) + (n : Int) := by omega
    have hb2 : a + n ≤ s.size := by omega
    clear hb
    go_enter Tryz.func137, Tryz.ntmps137
    go_wp2_with fail
    go_loop [7] (fun v => ∃ k : Nat, k ≤ n ∧ v = .int .i64 (a + k : Nat) ∧ Hid (contB s a k = true)) (fun v => a + n - (intOf v).toNat)
    case atStart => exact ⟨0, by omega, by go_num, rfl⟩
    case round =>
      obtain ⟨k, hk, rfl, HS⟩ := hrel
      by_cases hlt : k < n
      · have hlt1 : ((a + k : Nat) : Int) < (a : Int) + (n : Int) := by omega
        have hix : a + k < s.size := by omega
        obtain ⟨c, hc⟩ : ∃ c, s[a + k].toNat = c := ⟨_, rfl⟩
        have hcb : bY s (a + k) = c := by rw [← bY_eq s _ hix]; exact hc
        have hc2 : c < 256 := by rw [← hcb]; exact bY_lt _ _
        have hand : bits .and .u8 (c : Int) 192 = ((c &&& 192 : Nat) : Int) := u8_and_nat c 192 hc2 (by omega)
        have hS : Hid (contB s a (k + 1) = decide (c / 64 = 2)) := by
          show _ = _
          rw [contB_step, HS.out, Bool.true_and, hcb]
          exact decide_eq_decide.2 ⟨fun h => h.2, fun h => ⟨hix, h⟩⟩
        have hwi : ((a + k : Nat) : Int).toNat = a + k := by omega
        have HN : Hid (contB s a (k + 1) = false → contB s a n = false) := fun h => by
          cases hh : contB s a n with
          | false => rfl
          | true => rw [contB_mono s a n (k + 1) (by omega) hh] at h; cases h
        have h192 := and192 c hc2
        by_cases hq : c / 64 = 2
        · have hq1 : (((c &&& 192 : Nat) : Int) != 128) = false := by rw [h192.2 hq]; rfl
          have HT : Hid (contB s a (k + 1) = true) := by show _ = _; rw [hS.out]; exact decide_eq_true hq
          have Hc : Hid (s[a + k].toNat = c) := hc
          clear h192 hcb hq hS
          go_wp2_with fail
          go_round
          case rel => exact ⟨k + 1, by omega, by go_num, HT⟩
          case measure => simp [intOf]; omega
        · have hq1 : (((c &&& 192 : Nat) : Int) != 128) = true := by
            have : (c &&& 192 : Nat) ≠ 128 := fun e => hq (h192.1 e)
            exact bne_iff_ne.2 (by omega)
          have HT : Hid (contB s a n = false) := HN.out (by rw [hS.out]; exact decide_eq_false hq)
          clear h192 hcb hq hS
          go_wp2_with fail
          go_ret
          exact ⟨ret_bool HT.out.symm, rfl⟩
      · have hkn : k = n := by omega
        have HF : Hid (contB s a n = true) := by rw [← hkn]; exact HS.out
        clear hkn HS
        go_wp2_with fail
        go_ret
        exact ⟨ret_bool HF.out.symm, rfl⟩

def ptV (p : Pt) : Value := .agg #[.int .i32 p.r, .int .i64 p.at_, .int .i64 p.n, .bool p.ok]
def ptAt (s : ByteArray) (a : Nat) : Pt := ⟨(Utf8.decode s a).1, a, (Utf8.decode s a).2⟩

theorem ret_pt {fn : Func} {R : Ending → World → Prop} {a : Act} {w : World} {q : Pt} {v : Value} (hr : (results fn a.tmps).run Tryz.prog w = .ok v w) (hd : a.defers = []) (hv : v = ptV q) (hR : R (.returned (ptV q)) w) : bodyPost Tryz.prog fn R .ret a w := by
  subst hv
  exact bodyPost_ret hr hd hR

set_option maxRecDepth 100000 in
set_option maxHeartbeats 400000 in
theorem one_ascii (s : ByteArray) (a : Nat) (w : World) (_hs : s.size ≤ 1000000) (h : a < s.size) (h0 : bY s a < 128) :
    Calls Tryz.prog 91 #[.string s, .int .i64 a] w fun e w' => e = .returned (ptV (ptAt s a)) ∧ Below w.heap.size w w' := by
  obtain ⟨c, hc⟩ : ∃ c, s[a].toNat = c := ⟨_, rfl⟩
  have hcb : bY s a = c := by rw [← bY_eq s _ h]; exact hc
  have HD : Hid (ptAt s a = ⟨c, a, 1⟩) := by show _ = _; unfold ptAt; rw [dec_ascii s a h h0, hcb]
  rw [hcb] at h0
  clear hcb
  go_enter Tryz.func91, Tryz.ntmps91
  go_wp2_with fail
  refine ret_pt (q := ptAt s a) (v := .agg #[.int .i32 c, .int .i64 a, .int .i64 1, .bool true]) (by simp [results, Tryz.results91, go_sem]) rfl ?_ ⟨rfl, ((Below.refl _ _).alloc (Nat.le_refl _) _).alloc (by simp) _⟩
  rw [HD.out]
  have : (⟨c, a, 1⟩ : Pt).ok = true := by simp [Pt.ok]; omega
  unfold ptV
  rw [this]; rfl

set_option maxRecDepth 100000 in
set_option maxHeartbeats 400000 in
theorem one_bad (s : ByteArray) (a : Nat) (w : World) (_hs : s.size ≤ 1000000) (h : a < s.size) (h0 : 128 ≤ bY s a) (h1 : bY s a < 194 ∨ 245 ≤ bY s a) :
    Calls Tryz.prog 91 #[.string s, .int .i64 a] w fun e w' => e = .returned (ptV (ptAt s a)) ∧ Below w.heap.size w w' := by
  have HD : Hid (ptAt s a = ⟨65533, a, 1⟩) := by show _ = _; unfold ptAt; rw [dec_bad s a h h0 (by omega)]
  obtain ⟨c, hc⟩ : ∃ c, s[a].toNat = c := ⟨_, rfl⟩
  have hcb : bY s a = c := by rw [← bY_eq s _ h]; exact hc
  rw [hcb] at h0 h1
  have hc256 : c < 256 := by rw [← hcb]; exact bY_lt _ _
  clear hcb
  rcases h1 with h1 | h1
  all_goals
    go_enter Tryz.func91, Tryz.ntmps91
    go_wp2_with fail
    refine ret_pt (q := ptAt s a) (v := .agg #[.int .i32 65533, .int .i64 a, .int .i64 1, .bool false]) (by simp [results, Tryz.results91, go_sem]) rfl ?_ ⟨rfl, (((Below.refl _ _).alloc (Nat.le_refl _) _).alloc (by simp) _)⟩
    rw [HD.out]
    rfl

set_option maxRecDepth 100000 in
set_option maxHeartbeats 1000000 in
theorem one_two (s : ByteArray) (a : Nat) (w : World) (hs : s.size ≤ 1000000) (h : a < s.size) (h0 : 194 ≤ bY s a ∧ bY s a < 224) :
    Calls Tryz.prog 91 #[.string s, .int .i64 a] w fun e w' => e = .returned (ptV (ptAt s a)) ∧ Below w.heap.size w w' := by
  obtain ⟨r, hr⟩ : ∃ r, r = bY s a % 32 * 64 + bY s (a + 1) % 64 := ⟨_, rfl⟩
  have HD := Lib.hid (dec_two s a h h0)
  have hcc := fun w => cont_any s (a + 1) 1 w hs (by omega) (by omega) (by omega)
  obtain ⟨c, hc⟩ : ∃ c, s[a].toNat = c := ⟨_, rfl⟩
  have hcb : bY s a = c := by rw [← bY_eq s _ h]; exact hc
  rw [hcb] at h0
  obtain ⟨h01, h02⟩ := h0
  have HR : Hid (r = bY s a % 32 * 64 + bY s (a + 1) % 64) := hr
  have HB : Hid (bY s a = c) := hcb
  clear hr hcb
  have hd128 : decide ((c : Int) < 128) = false := decide_eq_false (by omega)
  have hand : bits .and .i32 (c : Int) 31 = ((c % 32 : Nat) : Int) := by
    have := bits_mask .i32 31 (by decide) (fun n h0 h1 => wraps_i32 n h0 h1) 5 (by decide) (c : Int) (by omega) (by omega)
    simpa using this
  cases hcont : contB s (a + 1) 1
  · have HE : Hid (ptAt s a = ⟨65533, a, 1⟩) := by
      have := HD.out
      rw [hcont] at this
      show _ = _
      unfold ptAt
      rw [this]; rfl
    rw [hcont] at hcc
    clear hcont HD
    go_enter Tryz.func91, Tryz.ntmps91
    go_wp2_with (go_at_call 137; refine (hcc _).mono ?_; rintro e w' ⟨rfl, rfl⟩)
    refine ret_pt (q := ptAt s a) (v := .agg #[.int .i32 65533, .int .i64 a, .int .i64 1, .bool false]) (by simp [results, Tryz.results91, go_sem]) rfl ?_ ⟨rfl, (((Below.refl _ _).alloc (Nat.le_refl _) _).alloc (by simp) _)⟩
    rw [HE.out]
    rfl
  have HDc : Hid (Utf8.decode s a = if true then (r, 2) else (65533, 1)) := by
    have := HD.out
    rw [hcont] at this
    rw [← HR.out] at this
    exact this
  rw [hcont] at hcc
  have HC : Hid (a + 1 < s.size) := by
    rw [contB_one] at hcont; exact (of_decide_eq_true hcont).1
  clear hcont HD
  go_enter Tryz.func91, Tryz.ntmps91
  go_wp2_with (go_at_call 137; refine (hcc _).mono ?_; rintro e w' ⟨rfl, rfl⟩)
  go_loop [8, 9] (fun r i => ∃ k : Nat, k ≤ 1 ∧ i = .int .i64 (k + 1 : Nat) ∧ r = .int .i32 (accR s a (c % 32) k : Nat)) (fun _ i => 8 - (intOf i).toNat)
  case atStart => exact ⟨0, by omega, rfl, by show Value.int _ _ = Value.int _ (((c % 32 : Nat)) : Int); go_num⟩
  case round =>
    obtain ⟨k, hk, rfl, rfl⟩ := hrel
    by_cases hlt : k < 1
    · have hix : a + (k + 1) < s.size := by have := HC.out; omega
      have hacc := accR_lo s a (c % 32) (by omega) k (by omega)
      obtain ⟨A, hA⟩ : ∃ A, accR s a (c % 32) k = A := ⟨_, rfl⟩
      have HA : Hid (accR s a (c % 32) (k + 1) = A * 64 + bY s (a + (k + 1)) % 64) := by show _ = _; rw [← hA]; rfl
      rw [hA] at hacc ⊢
      clear hA
      obtain ⟨b, hb⟩ : ∃ b, s[a + (k + 1)].toNat = b := ⟨_, rfl⟩
      have HBb : Hid (bY s (a + (k + 1)) = b) := by rw [← bY_eq s _ hix]; exact hb
      have hb2 : b < 256 := by rw [← HBb.out]; exact bY_lt _ _
      go_wp2_with fail
      go_round
      case rel => exact ⟨k + 1, by omega, by go_num, by rw [HA.out, HBb.out]; go_num⟩
      case measure => simp [intOf]; omega
    · have hk2 : k = 1 := by omega
      subst hk2
      have hRl := accR_le s a (c % 32) (by omega) 1 (by omega)
      obtain ⟨R, hR⟩ : ∃ R, accR s a (c % 32) 1 = R := ⟨_, rfl⟩
      rw [hR] at hRl ⊢
      have hRr : R = r := by rw [HR.out, ← hR, HB.out]; simp only [accR, Nat.add_zero]
      rw [← hRr] at HDc
      clear hR hRr
      by_cases hg : True
      · have HE : Hid (ptAt s a = ⟨R, a, 2⟩) := by
          show _ = _
          unfold ptAt
          rw [HDc.out, if_pos (by simp)]
        clear HDc
        skip
        all_goals
          go_wp2_with fail
        all_goals
          refine ret_pt (q := ptAt s a) (v := .agg #[.int .i32 R, .int .i64 a, .int .i64 2, .bool true]) (by simp [results, Tryz.results91, go_sem]) rfl ?_ ⟨rfl, (((Below.refl _ _).alloc (Nat.le_refl _) _).alloc (by simp) _)⟩
          rw [HE.out]
          have : (⟨R, a, 2⟩ : Pt).ok = true := by simp [Pt.ok]
          unfold ptV
          rw [this]; rfl
      · exact absurd trivial hg

set_option maxRecDepth 100000 in
set_option maxHeartbeats 1000000 in
theorem one_three (s : ByteArray) (a : Nat) (w : World) (hs : s.size ≤ 1000000) (h : a < s.size) (h0 : 224 ≤ bY s a ∧ bY s a < 240) :
    Calls Tryz.prog 91 #[.string s, .int .i64 a] w fun e w' => e = .returned (ptV (ptAt s a)) ∧ Below w.heap.size w w' := by
  obtain ⟨r, hr⟩ : ∃ r, r = bY s a % 16 * 4096 + bY s (a + 1) % 64 * 64 + bY s (a + 2) % 64 := ⟨_, rfl⟩
  have HD := Lib.hid (dec_three s a h h0 r hr)
  have hcc := fun w => cont_any s (a + 1) 2 w hs (by omega) (by omega) (by omega)
  obtain ⟨c, hc⟩ : ∃ c, s[a].toNat = c := ⟨_, rfl⟩
  have hcb : bY s a = c := by rw [← bY_eq s _ h]; exact hc
  rw [hcb] at h0
  obtain ⟨h01, h02⟩ := h0
  have HR : Hid (r = bY s a % 16 * 4096 + bY s (a + 1) % 64 * 64 + bY s (a + 2) % 64) := hr
  have HB : Hid (bY s a = c) := hcb
  clear hr hcb
  have hd128 : decide ((c : Int) < 128) = false := decide_eq_false (by omega)
  have hd224 : decide ((c : Int) < 224) = false := decide_eq_false (by omega)
  have hand : bits .and .i32 (c : Int) 15 = ((c % 16 : Nat) : Int) := by
    have := bits_mask .i32 31 (by decide) (fun n h0 h1 => wraps_i32 n h0 h1) 4 (by decide) (c : Int) (by omega) (by omega)
    simpa using this
  cases hcont : contB s (a + 1) 2
  · have HE : Hid (ptAt s a = ⟨65533, a, 1⟩) := by
      have := HD.out
      rw [hcont] at this
      show _ = _
      unfold ptAt
      rw [this]; rfl
    rw [hcont] at hcc
    clear hcont HD
    go_enter Tryz.func91, Tryz.ntmps91
    go_wp2_with (go_at_call 137; refine (hcc _).mono ?_; rintro e w' ⟨rfl, rfl⟩)
    refine ret_pt (q := ptAt s a) (v := .agg #[.int .i32 65533, .int .i64 a, .int .i64 1, .bool false]) (by simp [results, Tryz.results91, go_sem]) rfl ?_ ⟨rfl, (((Below.refl _ _).alloc (Nat.le_refl _) _).alloc (by simp) _)⟩
    rw [HE.out]
    rfl
  have HDc : Hid (Utf8.decode s a = if (true && !(decide (r < 2048) || (decide (55296 ≤ r) && decide (r < 57344)))) then (r, 3) else (65533, 1)) := by
    have := HD.out
    rw [hcont] at this
    skip
    exact this
  rw [hcont] at hcc
  have HC : Hid (a + 2 < s.size) := by
    rw [contB_two, Bool.and_eq_true] at hcont; exact (of_decide_eq_true hcont.2).1
  clear hcont HD
  go_enter Tryz.func91, Tryz.ntmps91
  go_wp2_with (go_at_call 137; refine (hcc _).mono ?_; rintro e w' ⟨rfl, rfl⟩)
  go_loop [8, 9] (fun r i => ∃ k : Nat, k ≤ 2 ∧ i = .int .i64 (k + 1 : Nat) ∧ r = .int .i32 (accR s a (c % 16) k : Nat)) (fun _ i => 8 - (intOf i).toNat)
  case atStart => exact ⟨0, by omega, rfl, by show Value.int _ _ = Value.int _ (((c % 16 : Nat)) : Int); go_num⟩
  case round =>
    obtain ⟨k, hk, rfl, rfl⟩ := hrel
    by_cases hlt : k < 2
    · have hix : a + (k + 1) < s.size := by have := HC.out; omega
      have hacc := accR_lo s a (c % 16) (by omega) k (by omega)
      obtain ⟨A, hA⟩ : ∃ A, accR s a (c % 16) k = A := ⟨_, rfl⟩
      have HA : Hid (accR s a (c % 16) (k + 1) = A * 64 + bY s (a + (k + 1)) % 64) := by show _ = _; rw [← hA]; rfl
      rw [hA] at hacc ⊢
      clear hA
      obtain ⟨b, hb⟩ : ∃ b, s[a + (k + 1)].toNat = b := ⟨_, rfl⟩
      have HBb : Hid (bY s (a + (k + 1)) = b) := by rw [← bY_eq s _ hix]; exact hb
      have hb2 : b < 256 := by rw [← HBb.out]; exact bY_lt _ _
      go_wp2_with fail
      go_round
      case rel => exact ⟨k + 1, by omega, by go_num, by rw [HA.out, HBb.out]; go_num⟩
      case measure => simp [intOf]; omega
    · have hk2 : k = 2 := by omega
      subst hk2
      have hRl := accR_le s a (c % 16) (by omega) 2 (by omega)
      obtain ⟨R, hR⟩ : ∃ R, accR s a (c % 16) 2 = R := ⟨_, rfl⟩
      rw [hR] at hRl ⊢
      have hRr : R = r := by rw [HR.out, ← hR, HB.out]; simp only [accR, Nat.add_zero, Nat.add_assoc, Nat.reduceAdd]; omega
      rw [← hRr] at HDc
      clear hR hRr
      by_cases hg : (2048 ≤ R ∧ (R < 55296 ∨ 57344 ≤ R))
      · have HE : Hid (ptAt s a = ⟨R, a, 3⟩) := by
          show _ = _
          unfold ptAt
          rw [HDc.out, if_pos (by simp; omega)]
        clear HDc
        rcases hg with ⟨hg1, hg2 | hg2⟩
        all_goals
          go_wp2_with fail
        all_goals
          refine ret_pt (q := ptAt s a) (v := .agg #[.int .i32 R, .int .i64 a, .int .i64 3, .bool true]) (by simp [results, Tryz.results91, go_sem]) rfl ?_ ⟨rfl, (((Below.refl _ _).alloc (Nat.le_refl _) _).alloc (by simp) _)⟩
          rw [HE.out]
          have : (⟨R, a, 3⟩ : Pt).ok = true := by simp [Pt.ok]
          unfold ptV
          rw [this]; rfl
      · have HE : Hid (ptAt s a = ⟨65533, a, 1⟩) := by
          show _ = _
          unfold ptAt
          rw [HDc.out, if_neg (by simp; omega)]
        clear HDc
        have hg2 : (R < 2048) ∨ (55296 ≤ R ∧ R < 57344) := by omega
        clear hg
        rcases hg2 with hg | ⟨hg1, hg3⟩
        all_goals
          go_wp2_with fail
        all_goals
          refine ret_pt (q := ptAt s a) (v := .agg #[.int .i32 65533, .int .i64 a, .int .i64 1, .bool false]) (by simp [results, Tryz.results91, go_sem]) rfl ?_ ⟨rfl, (((Below.refl _ _).alloc (Nat.le_refl _) _).alloc (by simp) _)⟩
          rw [HE.out]
          rfl

set_option maxRecDepth 100000 in
set_option maxHeartbeats 1000000 in
theorem one_four (s : ByteArray) (a : Nat) (w : World) (hs : s.size ≤ 1000000) (h : a < s.size) (h0 : 240 ≤ bY s a ∧ bY s a < 245) :
    Calls Tryz.prog 91 #[.string s, .int .i64 a] w fun e w' => e = .returned (ptV (ptAt s a)) ∧ Below w.heap.size w w' := by
  obtain ⟨r, hr⟩ : ∃ r, r = bY s a % 8 * 262144 + bY s (a + 1) % 64 * 4096 + bY s (a + 2) % 64 * 64 + bY s (a + 3) % 64 := ⟨_, rfl⟩
  have HD := Lib.hid (dec_four s a h h0 r hr)
  have hcc := fun w => cont_any s (a + 1) 3 w hs (by omega) (by omega) (by omega)
  obtain ⟨c, hc⟩ : ∃ c, s[a].toNat = c := ⟨_, rfl⟩
  have hcb : bY s a = c := by rw [← bY_eq s _ h]; exact hc
  rw [hcb] at h0
  obtain ⟨h01, h02⟩ := h0
  have HR : Hid (r = bY s a % 8 * 262144 + bY s (a + 1) % 64 * 4096 + bY s (a + 2) % 64 * 64 + bY s (a + 3) % 64) := hr
  have HB : Hid (bY s a = c) := hcb
  clear hr hcb
  have hd128 : decide ((c : Int) < 128) = false := decide_eq_false (by omega)
  have hd224 : decide ((c : Int) < 224) = false := decide_eq_false (by omega)
  have hd240 : decide ((c : Int) < 240) = false := decide_eq_false (by omega)
  have hand : bits .and .i32 (c : Int) 7 = ((c % 8 : Nat) : Int) := by
    have := bits_mask .i32 31 (by decide) (fun n h0 h1 => wraps_i32 n h0 h1) 3 (by decide) (c : Int) (by omega) (by omega)
    simpa using this
  cases hcont : contB s (a + 1) 3
  · have HE : Hid (ptAt s a = ⟨65533, a, 1⟩) := by
      have := HD.out
      rw [hcont] at this
      show _ = _
      unfold ptAt
      rw [this]; rfl
    rw [hcont] at hcc
    clear hcont HD
    go_enter Tryz.func91, Tryz.ntmps91
    go_wp2_with (go_at_call 137; refine (hcc _).mono ?_; rintro e w' ⟨rfl, rfl⟩)
    refine ret_pt (q := ptAt s a) (v := .agg #[.int .i32 65533, .int .i64 a, .int .i64 1, .bool false]) (by simp [results, Tryz.results91, go_sem]) rfl ?_ ⟨rfl, (((Below.refl _ _).alloc (Nat.le_refl _) _).alloc (by simp) _)⟩
    rw [HE.out]
    rfl
  have HDc : Hid (Utf8.decode s a = if (true && !(decide (r < 65536) || decide (1114111 < r))) then (r, 4) else (65533, 1)) := by
    have := HD.out
    rw [hcont] at this
    skip
    exact this
  rw [hcont] at hcc
  have HC : Hid (a + 3 < s.size) := by
    rw [contB_three, Bool.and_eq_true, Bool.and_eq_true] at hcont; exact (of_decide_eq_true hcont.2).1
  clear hcont HD
  go_enter Tryz.func91, Tryz.ntmps91
  go_wp2_with (go_at_call 137; refine (hcc _).mono ?_; rintro e w' ⟨rfl, rfl⟩)
  go_loop [8, 9] (fun r i => ∃ k : Nat, k ≤ 3 ∧ i = .int .i64 (k + 1 : Nat) ∧ r = .int .i32 (accR s a (c % 8) k : Nat)) (fun _ i => 8 - (intOf i).toNat)
  case atStart => exact ⟨0, by omega, rfl, by show Value.int _ _ = Value.int _ (((c % 8 : Nat)) : Int); go_num⟩
  case round =>
    obtain ⟨k, hk, rfl, rfl⟩ := hrel
    by_cases hlt : k < 3
    · have hix : a + (k + 1) < s.size := by have := HC.out; omega
      have hacc := accR_lo s a (c % 8) (by omega) k (by omega)
      obtain ⟨A, hA⟩ : ∃ A, accR s a (c % 8) k = A := ⟨_, rfl⟩
      have HA : Hid (accR s a (c % 8) (k + 1) = A * 64 + bY s (a + (k + 1)) % 64) := by show _ = _; rw [← hA]; rfl
      rw [hA] at hacc ⊢
      clear hA
      obtain ⟨b, hb⟩ : ∃ b, s[a + (k + 1)].toNat = b := ⟨_, rfl⟩
      have HBb : Hid (bY s (a + (k + 1)) = b) := by rw [← bY_eq s _ hix]; exact hb
      have hb2 : b < 256 := by rw [← HBb.out]; exact bY_lt _ _
      go_wp2_with fail
      go_round
      case rel => exact ⟨k + 1, by omega, by go_num, by rw [HA.out, HBb.out]; go_num⟩
      case measure => simp [intOf]; omega
    · have hk2 : k = 3 := by omega
      subst hk2
      have hRl := accR_le s a (c % 8) (by omega) 3 (by omega)
      obtain ⟨R, hR⟩ : ∃ R, accR s a (c % 8) 3 = R := ⟨_, rfl⟩
      rw [hR] at hRl ⊢
      have hRr : R = r := by rw [HR.out, ← hR, HB.out]; simp only [accR, Nat.add_zero, Nat.add_assoc, Nat.reduceAdd]; omega
      rw [← hRr] at HDc
      clear hR hRr
      by_cases hg : (65536 ≤ R ∧ R ≤ 1114111)
      · have HE : Hid (ptAt s a = ⟨R, a, 4⟩) := by
          show _ = _
          unfold ptAt
          rw [HDc.out, if_pos (by simp; omega)]
        clear HDc
        obtain ⟨hg1, hg2⟩ := hg
        all_goals
          go_wp2_with fail
        all_goals
          refine ret_pt (q := ptAt s a) (v := .agg #[.int .i32 R, .int .i64 a, .int .i64 4, .bool true]) (by simp [results, Tryz.results91, go_sem]) rfl ?_ ⟨rfl, (((Below.refl _ _).alloc (Nat.le_refl _) _).alloc (by simp) _)⟩
          rw [HE.out]
          have : (⟨R, a, 4⟩ : Pt).ok = true := by simp [Pt.ok]
          unfold ptV
          rw [this]; rfl
      · have HE : Hid (ptAt s a = ⟨65533, a, 1⟩) := by
          show _ = _
          unfold ptAt
          rw [HDc.out, if_neg (by simp; omega)]
        clear HDc
        have hg2 : (R < 65536) ∨ (1114111 < R) := by omega
        clear hg
        rcases hg2 with hg | hg
        all_goals
          go_wp2_with fail
        all_goals
          refine ret_pt (q := ptAt s a) (v := .agg #[.int .i32 65533, .int .i64 a, .int .i64 1, .bool false]) (by simp [results, Tryz.results91, go_sem]) rfl ?_ ⟨rfl, (((Below.refl _ _).alloc (Nat.le_refl _) _).alloc (by simp) _)⟩
          rw [HE.out]
          rfl

theorem rone_any (s : ByteArray) (a : Nat) (w : World) (hs : s.size ≤ 1000000) (h : a < s.size) :
    Calls Tryz.prog 91 #[.string s, .int .i64 a] w fun e w' => e = .returned (ptV (ptAt s a)) ∧ Below w.heap.size w w' := by
  by_cases h1 : bY s a < 128
  · exact one_ascii s a w hs h h1
  · by_cases h2 : bY s a < 194 ∨ 245 ≤ bY s a
    · exact one_bad s a w hs h (by omega) h2
    · by_cases h3 : bY s a < 224
      · exact one_two s a w hs h (by omega)
      · by_cases h4 : bY s a < 240
        · exact one_three s a w hs h (by omega)
        · exact one_four s a w hs h (by omega)

end Go.Proofs.YtfbgdjcnlnfoaaaGreatDoor

namespace Go.Proofs.YtfbgdjcnlnfoaaaGreatDoor
open Go.RowKit
open Cle

def ptCells (p : Pt) : List Value := [.int .i32 p.r, .int .i64 p.at_, .int .i64 p.n, .bool p.ok]
def rflatP (l : List Pt) : List Value := l.flatMap ptCells
theorem flatP_snoc (l : List Pt) (p : Pt) : rflatP l ++ ptCells p = rflatP (l ++ [p]) := by simp [rflatP]
theorem Tryz.infoR : (Tryz.prog.info? 126).map (fun i => (i.zero, i.size, i.bytes)) = some (some (.agg #[.int .i32 0, .int .i64 0, .int .i64 0, .bool false]), 4, 32) := by kernel_rfl

theorem news_pt (w1 : World) (X : Obj) (q : Pt) (t : TypeId) : ∀ j u, (ptCells q)[j]? = some u → ((w1.alloc X).alloc (.cells #[.int .i32 q.r, .int .i64 q.at_, .int .i64 q.n, .bool q.ok] t)).cell? ((⟨w1.heap.size + 1, 0, none⟩ : Addr).add j) = some u := by
  have := cells_new (w1.alloc X) (ptCells q) t
  have e : (w1.alloc X).heap.size = w1.heap.size + 1 := by simp
  rw [e] at this
  exact this
theorem ptCells_one (q : Pt) : ∀ u ∈ ptCells q, u.oneCell' = true := by
  intro u hu; simp [ptCells] at hu; rcases hu with rfl | rfl | rfl | rfl <;> rfl

set_option maxRecDepth 100000 in
set_option maxHeartbeats 1000000 in
theorem rall_any (s : ByteArray) (w : World) (hs : s.size ≤ 1000000) :
    Calls Tryz.prog 42 #[.string s] w fun e w' => (∃ v, e = .returned v ∧ w'.ownsRow w.heap.size 126 4 v (pts s).length (rflatP (pts s))) ∧ Below w.heap.size w w' := by
  obtain ⟨i0, hi, hz0, hz1, hz2⟩ := info_parts Tryz.infoR
  go_enter Tryz.func42, Tryz.ntmps42
  go_wp2_with fail
  go_loopw [3, 4] (fun v a wr => ∃ (pos : Nat) (done : List Pt), a = .int .i64 pos ∧ wr.ownsRow w.heap.size 126 4 v done.length (rflatP done) ∧ Below w.heap.size w wr ∧ Hid (pts s = done ++ ptsAt s pos) ∧ done.length ≤ pos ∧ pos ≤ s.size) (fun _ a _ => s.size - (intOf a).toNat)
  case atStart => exact ⟨0, [], rfl, World.ownsRow_nil _ _ _ _, Below.refl _ _, rfl, by simp, by omega⟩
  case round =>
    obtain ⟨pos, done, rfl, hown, hbw, HS, hd, hpos⟩ := hrel
    by_cases hp : pos < s.size
    · have hone := rone_any s pos wr hs hp
      have hwd := width_pos s pos hp
      have hwl := width_le s pos hp
      have hsz := hbw.size
      have HPt : Hid (ptAt s pos = ⟨(Utf8.decode s pos).1, pos, (Utf8.decode s pos).2⟩) := rfl
      have HS2 : Hid (pts s = (done ++ [ptAt s pos]) ++ ptsAt s (pos + (Utf8.decode s pos).2)) := by
        show _ = _; rw [HS.out, ptsAt_step s pos hp]; simp [ptAt]
      obtain ⟨q, hq⟩ : ∃ q, ptAt s pos = q := ⟨_, rfl⟩
      have hq3 : (Utf8.decode s pos).2 = q.n := by rw [← hq]; rfl
      rw [hq] at hone HS2
      rw [hq3] at hwd hwl HS2
      clear hq hq3 HPt HS
      unfold ptV at hone
      go_wp2_with (first
        | (go_at_call 91; refine hone.mono ?_; rintro e w1 ⟨rfl, hb1⟩; have hown1 := ownsRow_below hown hb1; have hbw1 := hbw.trans (hb1.mono hsz); have hsz1 := hb1.size; clear hb1 hown hbw hone)
        | (at_builtin; refine wpList_append_own _ rfl _ _ 77 rfl w.heap.size 126 i0 (.agg #[.int .i32 0, .int .i64 0, .int .i64 0, .bool false]) 4 32 Tryz.underlying77 hi hz0 hz1 hz2 rfl (by decide) _ _ _ rfl ((hown1.alloc _).alloc _) ⟨w1.heap.size + 1, 0, none⟩ 1 1 (ptCells q) rfl rfl (news_pt _ _ _ _) (ptCells_one q) (by unfold maxLen; omega) (by omega) (by simp; omega) ?_; intro v' w2 hown2 hg2 _;
           rw [flatP_snoc] at hown2
           have hx2 : w2.cell? ⟨w1.heap.size, 2, none⟩ = some (.int .i64 q.n) := by
             refine hg2.cell ?_ ?_
             · rw [blk_cell (blk_alloc (blk_new w1 _) _)]; rfl
             · intro h
               have := hown1.lt _ h.symm
               simp at this
           have hbw2 : Below w.heap.size w w2 := ((hbw1.alloc (by omega) _).alloc (by simp; omega) _).grown hg2 (by simp; omega) (fun k hk => (hown1.lt _ hk).1)
           clear hown1 hg2 hbw1 hi hz0 hz1 hz2))
      have hl2 : (done ++ [q]).length = done.length + 1 := by simp
      go_roundw
      case rel =>
        refine ⟨pos + q.n, done ++ [q], ?_, ?_, hbw2, HS2, ?_, hwl⟩
        · go_num
        · rw [hl2]; exact hown2
        · rw [hl2]; omega
      case measure => simp [intOf]; omega
    · have HF : Hid (pts s = done) := by show _ = _; rw [HS.out, ptsAt_end s pos hp]; simp
      clear HS
      go_wp2_with fail
      go_ret
      exact ⟨⟨_, rfl, by rw [HF.out]; exact hown⟩, hbw⟩

end Go.Proofs.YtfbgdjcnlnfoaaaGreatDoor

namespace Go.Proofs.YtfbgdjcnlnfoaaaGreatDoor
open Go.RowKit
open Cle

set_option maxHeartbeats 400000 in
theorem rcount_any (s : ByteArray) (w : World) (hs : s.size ≤ 1000000) :
    Calls Tryz.prog 24 #[.string s] w fun e w' => e = .returned (.int .i64 (pts s).length) ∧ Below w.heap.size w w' := by
  have ha := rall_any s w hs
  go_enter Tryz.func24, Tryz.ntmps24
  go_wp2_with fail
  refine ha.mono ?_
  rintro e w1 ⟨⟨v, rfl, hown⟩, hb⟩
  obtain ⟨a, cap, rfl, _⟩ := row_read hown
  go_wp2_with fail
  go_ret
  exact ⟨rfl, hb⟩

end Go.Proofs.YtfbgdjcnlnfoaaaGreatDoor

namespace Go.Proofs.YtfbgdjcnlnfoaaaGreatDoor
namespace Cle

def words8 : List (List ByteArray) := [
  [(⟨#[99, 114, 101, 97, 116, 101]⟩ : ByteArray), (⟨#[116, 97, 98, 108, 101]⟩ : ByteArray), (⟨#[116]⟩ : ByteArray), (⟨#[40]⟩ : ByteArray), (⟨#[112]⟩ : ByteArray), (⟨#[116, 101, 120, 116]⟩ : ByteArray), (⟨#[44]⟩ : ByteArray), (⟨#[107]⟩ : ByteArray), (⟨#[105, 110, 116]⟩ : ByteArray), (⟨#[44]⟩ : ByteArray), (⟨#[97]⟩ : ByteArray), (⟨#[116, 101, 120, 116]⟩ : ByteArray), (⟨#[44]⟩ : ByteArray), (⟨#[112, 114, 105, 109, 97, 114, 121]⟩ : ByteArray), (⟨#[107, 101, 121]⟩ : ByteArray), (⟨#[40]⟩ : ByteArray), (⟨#[112]⟩ : ByteArray), (⟨#[44]⟩ : ByteArray), (⟨#[107]⟩ : ByteArray), (⟨#[41]⟩ : ByteArray), (⟨#[41]⟩ : ByteArray)],
  [(⟨#[67, 82, 69, 65, 84, 69]⟩ : ByteArray), (⟨#[77, 65, 84, 69, 82, 73, 65, 76, 73, 90, 69, 68]⟩ : ByteArray), (⟨#[86, 73, 69, 87]⟩ : ByteArray), (⟨#[118]⟩ : ByteArray), (⟨#[65, 83]⟩ : ByteArray), (⟨#[83, 69, 76, 69, 67, 84]⟩ : ByteArray), (⟨#[98]⟩ : ByteArray), (⟨#[44]⟩ : ByteArray), (⟨#[99]⟩ : ByteArray), (⟨#[70, 82, 79, 77]⟩ : ByteArray), (⟨#[116]⟩ : ByteArray), (⟨#[87, 72, 69, 82, 69]⟩ : ByteArray), (⟨#[97]⟩ : ByteArray), (⟨#[73, 83]⟩ : ByteArray), (⟨#[78, 79, 84]⟩ : ByteArray), (⟨#[78, 85, 76, 76]⟩ : ByteArray), (⟨#[80, 82, 73, 77, 65, 82, 89]⟩ : ByteArray), (⟨#[75, 69, 89]⟩ : ByteArray), (⟨#[40]⟩ : ByteArray), (⟨#[97]⟩ : ByteArray), (⟨#[44]⟩ : ByteArray), (⟨#[112]⟩ : ByteArray), (⟨#[44]⟩ : ByteArray), (⟨#[107]⟩ : ByteArray), (⟨#[41]⟩ : ByteArray)],
  [(⟨#[99, 114, 101, 97, 116, 101]⟩ : ByteArray), (⟨#[105, 110, 100, 101, 120]⟩ : ByteArray), (⟨#[105]⟩ : ByteArray), (⟨#[111, 110]⟩ : ByteArray), (⟨#[116]⟩ : ByteArray), (⟨#[40]⟩ : ByteArray), (⟨#[97]⟩ : ByteArray), (⟨#[41]⟩ : ByteArray)],
  [(⟨#[105, 110, 115, 101, 114, 116]⟩ : ByteArray), (⟨#[105, 110, 116, 111]⟩ : ByteArray), (⟨#[116]⟩ : ByteArray), (⟨#[40]⟩ : ByteArray), (⟨#[112]⟩ : ByteArray), (⟨#[44]⟩ : ByteArray), (⟨#[107]⟩ : ByteArray), (⟨#[41]⟩ : ByteArray), (⟨#[118, 97, 108, 117, 101, 115]⟩ : ByteArray), (⟨#[40]⟩ : ByteArray), (⟨#[39, 120, 39]⟩ : ByteArray), (⟨#[44]⟩ : ByteArray), (⟨#[49]⟩ : ByteArray), (⟨#[41]⟩ : ByteArray), (⟨#[117, 115, 105, 110, 103]⟩ : ByteArray), (⟨#[116, 105, 109, 101, 115, 116, 97, 109, 112]⟩ : ByteArray), (⟨#[53]⟩ : ByteArray), (⟨#[97, 110, 100]⟩ : ByteArray), (⟨#[116, 116, 108]⟩ : ByteArray), (⟨#[57]⟩ : ByteArray)],
  [(⟨#[117, 112, 100, 97, 116, 101]⟩ : ByteArray), (⟨#[116]⟩ : ByteArray), (⟨#[117, 115, 105, 110, 103]⟩ : ByteArray), (⟨#[116, 116, 108]⟩ : ByteArray), (⟨#[51]⟩ : ByteArray), (⟨#[115, 101, 116]⟩ : ByteArray), (⟨#[97]⟩ : ByteArray), (⟨#[61]⟩ : ByteArray), (⟨#[39, 121, 39]⟩ : ByteArray), (⟨#[44]⟩ : ByteArray), (⟨#[98]⟩ : ByteArray), (⟨#[61]⟩ : ByteArray), (⟨#[50]⟩ : ByteArray), (⟨#[119, 104, 101, 114, 101]⟩ : ByteArray), (⟨#[112]⟩ : ByteArray), (⟨#[61]⟩ : ByteArray), (⟨#[39, 120, 39]⟩ : ByteArray), (⟨#[97, 110, 100]⟩ : ByteArray), (⟨#[107]⟩ : ByteArray), (⟨#[61]⟩ : ByteArray), (⟨#[49]⟩ : ByteArray)],
  [(⟨#[100, 101, 108, 101, 116, 101]⟩ : ByteArray), (⟨#[97]⟩ : ByteArray), (⟨#[44]⟩ : ByteArray), (⟨#[98]⟩ : ByteArray), (⟨#[102, 114, 111, 109]⟩ : ByteArray), (⟨#[116]⟩ : ByteArray), (⟨#[117, 115, 105, 110, 103]⟩ : ByteArray), (⟨#[116, 105, 109, 101, 115, 116, 97, 109, 112]⟩ : ByteArray), (⟨#[55]⟩ : ByteArray), (⟨#[119, 104, 101, 114, 101]⟩ : ByteArray), (⟨#[112]⟩ : ByteArray), (⟨#[61]⟩ : ByteArray), (⟨#[39, 120, 39]⟩ : ByteArray)],
  [(⟨#[115, 101, 108, 101, 99, 116]⟩ : ByteArray), (⟨#[42]⟩ : ByteArray), (⟨#[102, 114, 111, 109]⟩ : ByteArray), (⟨#[116]⟩ : ByteArray), (⟨#[119, 104, 101, 114, 101]⟩ : ByteArray), (⟨#[112]⟩ : ByteArray), (⟨#[61]⟩ : ByteArray), (⟨#[39, 120, 39]⟩ : ByteArray), (⟨#[108, 105, 109, 105, 116]⟩ : ByteArray), (⟨#[51]⟩ : ByteArray)],
  [(⟨#[98, 101, 103, 105, 110]⟩ : ByteArray), (⟨#[98, 97, 116, 99, 104]⟩ : ByteArray), (⟨#[100, 101, 108, 101, 116, 101]⟩ : ByteArray), (⟨#[102, 114, 111, 109]⟩ : ByteArray), (⟨#[116]⟩ : ByteArray), (⟨#[119, 104, 101, 114, 101]⟩ : ByteArray), (⟨#[112]⟩ : ByteArray), (⟨#[61]⟩ : ByteArray), (⟨#[39, 120, 39]⟩ : ByteArray), (⟨#[59]⟩ : ByteArray), (⟨#[97, 112, 112, 108, 121]⟩ : ByteArray), (⟨#[98, 97, 116, 99, 104]⟩ : ByteArray)]]
def other5 : List ByteArray := [(⟨#[104, 111, 112, 32, 104, 111, 112]⟩ : ByteArray), (⟨#[115, 101, 108, 101, 99, 116]⟩ : ByteArray), (⟨#[59]⟩ : ByteArray), (⟨#[41]⟩ : ByteArray), (⟨#[39, 120, 39]⟩ : ByteArray)]
def catW (s : ByteArray) (l : List ByteArray) : ByteArray := l.foldl (fun s w => s ++ w ++ (⟨#[32]⟩ : ByteArray)) s
def othW (t : ByteArray) (l : List ByteArray) : ByteArray := l.foldl (fun t w => t ++ (⟨#[32]⟩ : ByteArray) ++ w) t
def lenW (l : List ByteArray) : Nat := l.foldl (fun n w => n + w.size + 1) 0
def cutOK (w : List ByteArray) (k : Nat) : Bool :=
  let p := (parseL (catW ⟨#[]⟩ (w.take k))).2
  decide (p.2 = 0 ∨ p.2 = 3 ∧ p.1 = lenW (w.take k))
def chgOK (w : List ByteArray) (k : Nat) (o : ByteArray) : Bool :=
  let q := (parseL (othW (catW ⟨#[]⟩ (w.take k) ++ o) (w.drop (k + 1)))).2
  decide (q.2 = 0 ∨ q.2 = 3 ∧ (lenW (w.take k) : Int) ≤ q.1)
def allOK (w : List ByteArray) : Bool := decide ((parseL (catW ⟨#[]⟩ w)).2.2 = 0)
def atOK (w : List ByteArray) (k : Nat) : Bool := cutOK w k && other5.all (chgOK w k)
def wrongOK (w : List ByteArray) : Bool := allOK w && (List.range w.length).all fun k => cutOK w k && other5.all (chgOK w k)
end Cle
end Go.Proofs.YtfbgdjcnlnfoaaaGreatDoor

namespace Go.Proofs.YtfbgdjcnlnfoaaaGreatDoor
open Go.RowKit
open Cle

theorem idx8_0 (a0 a1 a2 a3 a4 a5 a6 a7 : Value) (w : World) : (Instr.index 76 (.agg #[a0, a1, a2, a3, a4, a5, a6, a7]) (.int .i64 0)).run Tryz.prog w = .ok a0 w := by kernel_rfl
theorem idx8_1 (a0 a1 a2 a3 a4 a5 a6 a7 : Value) (w : World) : (Instr.index 76 (.agg #[a0, a1, a2, a3, a4, a5, a6, a7]) (.int .i64 1)).run Tryz.prog w = .ok a1 w := by kernel_rfl
theorem idx8_2 (a0 a1 a2 a3 a4 a5 a6 a7 : Value) (w : World) : (Instr.index 76 (.agg #[a0, a1, a2, a3, a4, a5, a6, a7]) (.int .i64 2)).run Tryz.prog w = .ok a2 w := by kernel_rfl
theorem idx8_3 (a0 a1 a2 a3 a4 a5 a6 a7 : Value) (w : World) : (Instr.index 76 (.agg #[a0, a1, a2, a3, a4, a5, a6, a7]) (.int .i64 3)).run Tryz.prog w = .ok a3 w := by kernel_rfl
theorem idx8_4 (a0 a1 a2 a3 a4 a5 a6 a7 : Value) (w : World) : (Instr.index 76 (.agg #[a0, a1, a2, a3, a4, a5, a6, a7]) (.int .i64 4)).run Tryz.prog w = .ok a4 w := by kernel_rfl
theorem idx8_5 (a0 a1 a2 a3 a4 a5 a6 a7 : Value) (w : World) : (Instr.index 76 (.agg #[a0, a1, a2, a3, a4, a5, a6, a7]) (.int .i64 5)).run Tryz.prog w = .ok a5 w := by kernel_rfl
theorem idx8_6 (a0 a1 a2 a3 a4 a5 a6 a7 : Value) (w : World) : (Instr.index 76 (.agg #[a0, a1, a2, a3, a4, a5, a6, a7]) (.int .i64 6)).run Tryz.prog w = .ok a6 w := by kernel_rfl
theorem idx8_7 (a0 a1 a2 a3 a4 a5 a6 a7 : Value) (w : World) : (Instr.index 76 (.agg #[a0, a1, a2, a3, a4, a5, a6, a7]) (.int .i64 7)).run Tryz.prog w = .ok a7 w := by kernel_rfl
theorem blk_newAt {w : World} {b : Nat} (o : Obj) (h : b = w.heap.size) : (w.alloc o).heap[b]? = some o := by subst h; exact blk_new w o
theorem hs_alloc (w : World) (o : Obj) : (w.alloc o).heap.size = w.heap.size + 1 := by
  show (w.heap.push o).size = _
  simp
theorem rd_blk {w : World} {b : Nat} {T : TypeId} {fr : Nat × Nat} {A : Array Value} (xs : List Value) (n : Nat) (hn : n = xs.length) (h : w.heap[b]? = some (.cells A T fr)) (hA : A = xs.toArray) : Rd w (.slice (some ⟨b, 0, none⟩) n n) xs.length xs := by
  subst hn hA
  refine ⟨_, _, rfl, fun _ => ⟨b, 0, rfl, fun k v hk => ?_⟩⟩
  rw [Nat.zero_add, blk_cell h]
  simpa using hk
set_option maxRecDepth 100000 in
set_option maxHeartbeats 8000000 in
theorem words_any (n : Int) (w : World) (hn0 : -9223372036854775808 ≤ n) (hn1 : n ≤ 9223372036854775807) :
    Calls Tryz.prog 22 #[.int .i64 n] w fun e w' => ∃ (j : Nat) (u : Value), j < 8 ∧ e = .returned u ∧ Below w.heap.size w w' ∧ Rd w' u (words8.getD j []).length ((words8.getD j []).map Value.string) := by
  have hpl := fun w => place_any n 8 w (by omega) (by omega) hn0 hn1
  obtain ⟨j, hj⟩ : ∃ j : Nat, n % 8 = j := ⟨(n % 8).toNat, by omega⟩
  have hjl : j < 8 := by omega
  rw [hj] at hpl
  clear hj hn0 hn1
  go_enter Tryz.func22, Tryz.ntmps22
  go_wp2_with fail
  refine (hpl _).mono ?_; rintro e w1 ⟨rfl, rfl⟩
  have h : j = 0 ∨ j = 1 ∨ j = 2 ∨ j = 3 ∨ j = 4 ∨ j = 5 ∨ j = 6 ∨ j = 7 := by omega
  clear hpl hjl
  rcases h with rfl | rfl | rfl | rfl | rfl | rfl | rfl | rfl
  · have hi := idx8_0
    go_wp2_with fail
    go_ret
    refine ⟨0, _, by omega, rfl, ?_, rd_blk (T := 9) (fr := (0, 0)) ((words8.getD 0 []).map Value.string) _ rfl ?_ rfl⟩
    · repeat (first | exact Below.refl _ _ | refine Below.alloc ?_ (by first | exact Nat.le_refl _ | (simp only [hs_alloc]; omega)) _)
    · repeat (first | exact blk_newAt _ (by first | rfl | simp only [hs_alloc]) | refine blk_alloc ?_ _)
  · have hi := idx8_1
    go_wp2_with fail
    go_ret
    refine ⟨1, _, by omega, rfl, ?_, rd_blk (T := 9) (fr := (0, 0)) ((words8.getD 1 []).map Value.string) _ rfl ?_ rfl⟩
    · repeat (first | exact Below.refl _ _ | refine Below.alloc ?_ (by first | exact Nat.le_refl _ | (simp only [hs_alloc]; omega)) _)
    · repeat (first | exact blk_newAt _ (by first | rfl | simp only [hs_alloc]) | refine blk_alloc ?_ _)
  · have hi := idx8_2
    go_wp2_with fail
    go_ret
    refine ⟨2, _, by omega, rfl, ?_, rd_blk (T := 9) (fr := (0, 0)) ((words8.getD 2 []).map Value.string) _ rfl ?_ rfl⟩
    · repeat (first | exact Below.refl _ _ | refine Below.alloc ?_ (by first | exact Nat.le_refl _ | (simp only [hs_alloc]; omega)) _)
    · repeat (first | exact blk_newAt _ (by first | rfl | simp only [hs_alloc]) | refine blk_alloc ?_ _)
  · have hi := idx8_3
    go_wp2_with fail
    go_ret
    refine ⟨3, _, by omega, rfl, ?_, rd_blk (T := 9) (fr := (0, 0)) ((words8.getD 3 []).map Value.string) _ rfl ?_ rfl⟩
    · repeat (first | exact Below.refl _ _ | refine Below.alloc ?_ (by first | exact Nat.le_refl _ | (simp only [hs_alloc]; omega)) _)
    · repeat (first | exact blk_newAt _ (by first | rfl | simp only [hs_alloc]) | refine blk_alloc ?_ _)
  · have hi := idx8_4
    go_wp2_with fail
    go_ret
    refine ⟨4, _, by omega, rfl, ?_, rd_blk (T := 9) (fr := (0, 0)) ((words8.getD 4 []).map Value.string) _ rfl ?_ rfl⟩
    · repeat (first | exact Below.refl _ _ | refine Below.alloc ?_ (by first | exact Nat.le_refl _ | (simp only [hs_alloc]; omega)) _)
    · repeat (first | exact blk_newAt _ (by first | rfl | simp only [hs_alloc]) | refine blk_alloc ?_ _)
  · have hi := idx8_5
    go_wp2_with fail
    go_ret
    refine ⟨5, _, by omega, rfl, ?_, rd_blk (T := 9) (fr := (0, 0)) ((words8.getD 5 []).map Value.string) _ rfl ?_ rfl⟩
    · repeat (first | exact Below.refl _ _ | refine Below.alloc ?_ (by first | exact Nat.le_refl _ | (simp only [hs_alloc]; omega)) _)
    · repeat (first | exact blk_newAt _ (by first | rfl | simp only [hs_alloc]) | refine blk_alloc ?_ _)
  · have hi := idx8_6
    go_wp2_with fail
    go_ret
    refine ⟨6, _, by omega, rfl, ?_, rd_blk (T := 9) (fr := (0, 0)) ((words8.getD 6 []).map Value.string) _ rfl ?_ rfl⟩
    · repeat (first | exact Below.refl _ _ | refine Below.alloc ?_ (by first | exact Nat.le_refl _ | (simp only [hs_alloc]; omega)) _)
    · repeat (first | exact blk_newAt _ (by first | rfl | simp only [hs_alloc]) | refine blk_alloc ?_ _)
  · have hi := idx8_7
    go_wp2_with fail
    go_ret
    refine ⟨7, _, by omega, rfl, ?_, rd_blk (T := 9) (fr := (0, 0)) ((words8.getD 7 []).map Value.string) _ rfl ?_ rfl⟩
    · repeat (first | exact Below.refl _ _ | refine Below.alloc ?_ (by first | exact Nat.le_refl _ | (simp only [hs_alloc]; omega)) _)
    · repeat (first | exact blk_newAt _ (by first | rfl | simp only [hs_alloc]) | refine blk_alloc ?_ _)
end Go.Proofs.YtfbgdjcnlnfoaaaGreatDoor

