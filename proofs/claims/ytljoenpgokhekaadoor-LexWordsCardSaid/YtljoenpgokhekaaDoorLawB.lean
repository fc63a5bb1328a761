/- Walks: the laws of layer 1: Place, RunesQuotes, RunesNames. -/
import Derived.Test.YtljoenpgokhekaaDoorLawA
import Derived.Test.YtljoenpgokhekaaDoorPlainH
namespace Go.Proofs.YtljoenpgokhekaaDoor
open Go.RowKit
open Cle

theorem place_tmod (v n : Int) (hn : 1 ≤ n) : (if v.tmod n < 0 then v.tmod n + n else v.tmod n) = v % n := by
  have h1 := Int.tmod_eq_emod (a := v) (b := n)
  have h2 := Int.emod_nonneg v (show n ≠ 0 by omega)
  have h3 := Int.emod_lt_of_pos v (show 0 < n by omega)
  rw [h1]
  split <;> split at * <;> omega

set_option maxHeartbeats 400000 in
theorem place_any (v n : Int) (w : World) (hn : 1 ≤ n) (hn2 : n ≤ 1000000000000) (hv0 : -9223372036854775808 ≤ v) (hv1 : v ≤ 9223372036854775807) :
    Calls Tryd.prog 23 #[.int .i64 v, .int .i64 n] w fun e w' => e = .returned (.int .i64 (v % n)) ∧ w = w' := by
  have hp := Lib.hid (place_tmod v n hn)
  by_cases h0 : 0 ≤ v
  · have h2 := Int.emod_nonneg v (show n ≠ 0 by omega)
    have h3 := Int.emod_lt_of_pos v (show 0 < n by omega)
    clear hv0
    go_enter Tryd.func23, Tryd.ntmps23
    go_wp2_with fail
    go_ret
    exact ⟨rfl, rfl⟩
  · have hm : v.tmod n ≤ 0 := by have := Int.tmod_nonneg n (show 0 ≤ -v by omega); rw [Int.neg_tmod] at this; omega
    have hm2 : -n < v.tmod n := by
      have := Int.tmod_lt_of_pos (-v) (show 0 < n by omega); rw [Int.neg_tmod] at this; omega
    clear hv0 hv1
    by_cases hz : v.tmod n < 0
    · have HE : Hid (v.tmod n + n = v % n) := by have := hp.out; rw [if_pos hz] at this; exact this
      go_enter Tryd.func23, Tryd.ntmps23
      go_wp2_with fail
      go_ret
      exact ⟨ret_int HE.out, rfl⟩
    · have HE : Hid (v.tmod n = v % n) := by have := hp.out; rw [if_neg hz] at this; exact this
      go_enter Tryd.func23, Tryd.ntmps23
      go_wp2_with fail
      go_ret
      exact ⟨ret_int HE.out, rfl⟩

end Go.Proofs.YtljoenpgokhekaaDoor
