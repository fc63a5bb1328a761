/- Walks: of layer 13: awake, places by numbers. -/
import Derived.Test.YtfbgdjcnlnfoaaaDoorLexH
import Derived.Test.YtfbgdjcnlnfoaaaDoorSt
import Derived.Test.YtfbgdjcnlnfoaaaDoorPlainU
namespace Go.Proofs.YtfbgdjcnlnfoaaaDoor
open Go.RowKit
open Cle

theorem flatT_at : ∀ (l : List Tk) (k j : Nat) (h : k < l.length) (_ : j < 4), (flatT l)[k * 4 + j]? = (tkCells l[k])[j]?
  | p :: l, 0, j, _, hj => by
    simp only [flatT, List.flatMap_cons, Nat.zero_mul, Nat.zero_add, List.getElem_cons_zero]
    rw [List.getElem?_append_left (by simp [tkCells]; omega)]
  | p :: l, k + 1, j, h, hj => by
    have := flatT_at l k j (by simp at h; omega) hj
    simp only [flatT, List.flatMap_cons, List.getElem_cons_succ] at this ⊢
    rw [List.getElem?_append_right (by simp [tkCells]; omega)]
    have e : (k + 1) * 4 + j - (tkCells p).length = k * 4 + j := by simp [tkCells]; omega
    rw [e]; exact this

def exT : List Tk := [⟨1, ⟨#[97]⟩, 0, 0⟩, ⟨4, ⟨#[61]⟩, 0, 1⟩, ⟨2, ⟨#[]⟩, -5, 2⟩]
theorem lex_ex : lexL ⟨#[97, 61, 45, 53]⟩ = (exT, 0, 0) := by kernel_rfl

set_option maxRecDepth 100000 in
set_option maxHeartbeats 1000000 in
theorem awake13_any (w : World) (hG : Glob w) :
    Calls Tryd.prog 5 #[] w fun e w' => e = .returned (.bool true) ∧ St w w' := by
  have hS := St.refl hG
  have hl := lexall_any ⟨#[97, 61, 45, 53]⟩ w hG
  rw [lex_ex] at hl
  clear hG
  go_enter Tryd.func5, Tryd.ntmps5
  go_wp2_with fail
  refine hl.mono ?_; rintro e w1 ⟨⟨v, rfl, hown⟩, hb⟩
  replace hS := hS.step hb
  clear hl hb
  obtain ⟨a, cap, rfl, hr⟩ := row_read hown
  obtain ⟨g, rfl, _, _, hc⟩ := hr (by decide)
  have c0 := hc 0 (.int .i64 1) rfl
  have c4 := hc 4 (.int .i64 4) rfl
  have c8 := hc 8 (.int .i64 2) rfl
  have c10 := hc 10 (.int .i64 (-5)) rfl
  have c11 := hc 11 (.int .i64 2) rfl
  rw [show (exT, 0, 0).1.length = 3 from rfl]
  clear hc hr hown
  go_wp2_with fail
  go_ret
  exact ⟨rfl, hS⟩

set_option maxHeartbeats 400000 in
theorem place13_any (v n : Int) (w : World) (hn : 1 ≤ n) (hn2 : n ≤ 10000000000000) (hv0 : -9223372036854775808 ≤ v) (hv1 : v ≤ 9223372036854775807) :
    Calls Tryd.prog 6 #[.int .i64 v, .int .i64 n] w fun e w' => e = .returned (.int .i64 (v % n)) ∧ w = w' := by
  have hp := Lib.hid (place_tmod v n hn)
  by_cases h0 : 0 ≤ v
  · have h2 := Int.emod_nonneg v (show n ≠ 0 by omega)
    have h3 := Int.emod_lt_of_pos v (show 0 < n by omega)
    clear hv0
    go_enter Tryd.func6, Tryd.ntmps6
    go_wp2_with fail
    go_ret
    exact ⟨rfl, rfl⟩
  · have hm : v.tmod n ≤ 0 := by have := Int.tmod_nonneg n (show 0 ≤ -v by omega); rw [Int.neg_tmod] at this; omega
    have hm2 : -n < v.tmod n := by
      have := Int.tmod_lt_of_pos (-v) (show 0 < n by omega); rw [Int.neg_tmod] at this; omega
    clear hv0 hv1
    by_cases hz : v.tmod n < 0
    · have HE : Hid (v.tmod n + n = v % n) := by have := hp.out; rw [if_pos hz] at this; exact this
      go_enter Tryd.func6, Tryd.ntmps6
      go_wp2_with fail
      go_ret
      exact ⟨ret_int HE.out, rfl⟩
    · have HE : Hid (v.tmod n = v % n) := by have := hp.out; rw [if_neg hz] at this; exact this
      go_enter Tryd.func6, Tryd.ntmps6
      go_wp2_with fail
      go_ret
      exact ⟨ret_int HE.out, rfl⟩
theorem index4_0 (a b c d : ByteArray) (w : World) : (Instr.index 27 (.agg #[.string a, .string b, .string c, .string d]) (.int .i64 0)).run Tryd.prog w = .ok (.string a) w := by kernel_rfl
theorem index4_1 (a b c d : ByteArray) (w : World) : (Instr.index 27 (.agg #[.string a, .string b, .string c, .string d]) (.int .i64 1)).run Tryd.prog w = .ok (.string b) w := by kernel_rfl
theorem index4_2 (a b c d : ByteArray) (w : World) : (Instr.index 27 (.agg #[.string a, .string b, .string c, .string d]) (.int .i64 2)).run Tryd.prog w = .ok (.string c) w := by kernel_rfl
theorem index4_3 (a b c d : ByteArray) (w : World) : (Instr.index 27 (.agg #[.string a, .string b, .string c, .string d]) (.int .i64 3)).run Tryd.prog w = .ok (.string d) w := by kernel_rfl
theorem index4 (a b c d : ByteArray) (j : Nat) (i : Int) (hi : i = j) (h : j < 4) (w : World) : (Instr.index 27 (.agg #[.string a, .string b, .string c, .string d]) (.int .i64 i)).run Tryd.prog w = .ok (.string (pick4 a b c d j)) w := by
  subst hi
  have : j = 0 ∨ j = 1 ∨ j = 2 ∨ j = 3 := by omega
  rcases this with rfl | rfl | rfl | rfl
  · exact index4_0 a b c d w
  · exact index4_1 a b c d w
  · exact index4_2 a b c d w
  · exact index4_3 a b c d w

end Go.Proofs.YtfbgdjcnlnfoaaaDoor
