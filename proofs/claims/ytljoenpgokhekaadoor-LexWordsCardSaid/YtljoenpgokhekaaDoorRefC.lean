/- Walks: the reference of layer 1: Valid, Count, At, Letter, Name. -/
import Derived.Test.YtljoenpgokhekaaDoorRefB
import Derived.Test.YtljoenpgokhekaaDoorKitB
import Derived.Deep.QuietTactic
import Derived.BigQuiet
namespace Go.Proofs.YtljoenpgokhekaaDoor
open Go.RowKit
open Cle

set_option maxHeartbeats 400000 in
theorem rcount_any (s : ByteArray) (w : World) (hs : s.size ≤ 1000000) :
    Calls Tryd.prog 36 #[.string s] w fun e w' => e = .returned (.int .i64 (pts s).length) ∧ Below w.heap.size w w' := by
  have ha := all_any s w hs
  go_enter Tryd.func36, Tryd.ntmps36
  go_wp2_with fail
  refine ha.mono ?_
  rintro e w1 ⟨⟨v, rfl, hown⟩, hb⟩
  obtain ⟨a, cap, rfl, _⟩ := row_read hown
  go_wp2_with fail
  go_ret
  exact ⟨rfl, hb⟩

set_option maxHeartbeats 400000 in
theorem rvalid_any (s : ByteArray) (w : World) (hs : s.size ≤ 1000000) :
    Calls Tryd.prog 35 #[.string s] w fun e w' => e = .returned (.bool (valid s)) ∧ Below w.heap.size w w' := by
  have ha := all_any s w hs
  have hpl := pts_len s
  go_enter Tryd.func35, Tryd.ntmps35
  go_wp2_with fail
  refine ha.mono ?_
  rintro e w1 ⟨⟨v, rfl, hown⟩, hb⟩
  obtain ⟨a, cap, rfl, hr⟩ := row_read hown
  have Hr := Lib.hid hr
  clear ha hown hr
  go_wp2_with fail
  go_loop [4] (fun v => ∃ k : Nat, k ≤ (pts s).length ∧ v = .int .i64 k ∧ Hid (valid s = ((pts s).drop k).all Pt.ok)) (fun v => (pts s).length - (intOf v).toNat)
  case atStart => exact ⟨0, by omega, rfl, rfl⟩
  case round =>
    obtain ⟨k, hk, rfl, HS⟩ := hrel
    by_cases hlt : k < (pts s).length
    · obtain ⟨g, rfl, _, hg, hc⟩ := Hr.out (by omega)
      have hcell : w1.cell? ⟨g, k * 4 + 3, none⟩ = some (.bool (pts s)[k].ok) := hc _ _ (by rw [flatP_at _ _ _ hlt (by omega)]; rfl)
      have HS2 : Hid (valid s = ((pts s)[k].ok && ((pts s).drop (k + 1)).all Pt.ok)) := by
        show _ = _; rw [HS.out, List.drop_eq_getElem_cons hlt, List.all_cons]
      clear hc HS
      cases hok : (pts s)[k].ok
      all_goals
        rw [hok] at hcell HS2
        clear hok
        go_wp2_with fail
      · go_ret
        exact ⟨ret_bool (by rw [HS2.out]; rfl), hb⟩
      · go_round
        case rel => exact ⟨k + 1, by omega, by go_num, by show _ = _; rw [HS2.out]; simp⟩
        case measure => simp [intOf]; omega
    · have HF : Hid (valid s = true) := by show _ = _; rw [HS.out, List.drop_eq_nil_of_le (by omega)]; rfl
      clear HS
      go_wp2_with fail
      go_ret
      exact ⟨ret_bool HF.out.symm, hb⟩

set_option maxHeartbeats 400000 in
theorem rat_any (s : ByteArray) (n : Int) (w : World) (hs : s.size ≤ 1000000) :
    Calls Tryd.prog 33 #[.string s, .int .i64 n] w fun e w' => e = .returned (atV (atO s n)) ∧ Below w.heap.size w w' := by
  have ha := all_any s w hs
  have hpl := pts_len s
  by_cases hn : 0 ≤ n
  · obtain ⟨k, rfl⟩ := Int.eq_ofNat_of_zero_le hn
    by_cases hlt : k < (pts s).length
    · have HE : Hid (atO s k = some (pts s)[k]) := by show _ = _; unfold atO; rw [if_pos hn, Int.toNat_natCast, List.getElem?_eq_getElem hlt]
      go_enter Tryd.func33, Tryd.ntmps33
      go_wp2_with fail
      refine ha.mono ?_
      rintro e w1 ⟨⟨v, rfl, hown⟩, hb⟩
      obtain ⟨a, cap, rfl, hr⟩ := row_read hown
      obtain ⟨g, rfl, _, hg, hc⟩ := hr (by omega)
      have hcell : w1.cell? ⟨g, k * 4, none⟩ = some (.int .i32 (pts s)[k].r) := hc _ _ (by have := flatP_at _ k 0 hlt (by omega); rw [Nat.add_zero] at this; rw [this]; rfl)
      have hcell2 : w1.cell? ⟨g, k * 4 + 1, none⟩ = some (.int .i64 (pts s)[k].at_) := hc _ _ (by rw [flatP_at _ _ _ hlt (by omega)]; rfl)
      clear ha hown hr hc
      have hk0 : (0 : Int) ≤ (k : Int) := by omega
      have hk1 : (k : Int) < ((pts s).length : Int) := by omega
      go_wp2_with fail
      go_quiet (fail)
      go_wp2_with fail
      go_ret3
      exact ⟨by rw [HE.out]; rfl, below_drewN hb _⟩
    · have HE : Hid (atO s k = none) := by show _ = _; unfold atO; rw [if_pos hn, Int.toNat_natCast, List.getElem?_eq_none (by omega)]
      go_enter Tryd.func33, Tryd.ntmps33
      go_wp2_with fail
      refine ha.mono ?_
      rintro e w1 ⟨⟨v, rfl, hown⟩, hb⟩
      obtain ⟨a, cap, rfl, hr⟩ := row_read hown
      clear ha hown hr
      go_wp2_with fail
      go_ret3
      exact ⟨by rw [HE.out]; rfl, hb⟩
  · have HE : Hid (atO s n = none) := by show _ = _; unfold atO; rw [if_neg hn]
    have hn2 : n < 0 := by omega
    clear hn
    go_enter Tryd.func33, Tryd.ntmps33
    go_wp2_with fail
    refine ha.mono ?_
    rintro e w1 ⟨⟨v, rfl, hown⟩, hb⟩
    obtain ⟨a, cap, rfl, hr⟩ := row_read hown
    clear ha hown hr
    go_wp2_with fail
    go_ret3
    exact ⟨by rw [HE.out]; rfl, hb⟩

end Go.Proofs.YtljoenpgokhekaaDoor
