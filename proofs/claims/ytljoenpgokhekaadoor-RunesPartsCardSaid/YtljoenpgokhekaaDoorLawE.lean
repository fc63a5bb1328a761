/- Walks: the laws of layer 1: RunesDoubled. -/
import Derived.Test.YtljoenpgokhekaaDoorLawD
import Derived.Deep.RegionHeld3
namespace Go.Proofs.YtljoenpgokhekaaDoor
open Go.RowKit
open Cle

theorem St.drew {w0 w : World} (h : St w0 w) : St w0 w.drew := h.step (Below.refl _ _).drew
theorem St.glob {w0 w : World} (h : St w0 w) : Glob w := h.2
theorem count_take (s : ByteArray) (k : Nat) (h : k < s.data.toList.length) : (s.data.toList.take (k + 1)).count 39 = (s.data.toList.take k).count 39 + if s.data.toList[k] = 39 then 1 else 0 := by
  rw [List.take_succ_eq_append_getElem h, List.count_append]
  simp [List.count_cons]

set_option maxRecDepth 100000 in
set_option maxHeartbeats 1000000 in
theorem runesDoubled_small (s : ByteArray) (w : World) (hG : Glob w) (hs1 : s.size ≤ 500) :
    Calls Tryd.prog 9 #[.string s] w fun e w' => e = .returned (.bool true) ∧ St w w' := by
  have hS := St.refl hG
  clear hG
  have c1 := Lib.hid (fun w hG => quote_any s w hG (by omega))
  have c2 := Lib.hid (fun w hG => quote_any (s ++ s) w hG (by rw [ByteArray.size_append]; omega))
  obtain ⟨hq2, hqm⟩ := quote_le s
  have Hl : Hid (s.data.toList.length = s.size) := by show _ = _; simp
  obtain ⟨Q, hQ⟩ : ∃ Q, quote s = Q := ⟨_, rfl⟩
  rw [hQ] at c1 hq2 hqm
  have HQ := Lib.hid hQ
  clear hQ
  go_enter Tryd.func9, Tryd.ntmps9
  go_wp2_with fail
  refine (c1.out _ hS.2).mono ?_; rintro e w1 ⟨rfl, hb⟩; replace hS := hS.step hb; clear hb
  go_wp2_with fail
  go_loop [4, 5] (fun n i => ∃ k : Nat, k ≤ s.size ∧ i = .int .i64 k ∧ n = .int .i64 ((s.data.toList.take k).count 39)) (fun _ i => s.size - (intOf i).toNat)
  case atStart => exact ⟨0, by omega, rfl, rfl⟩
  case round =>
    obtain ⟨k, hk, rfl, rfl⟩ := hrel
    by_cases hlt : k < s.size
    · have hlt2 : k < s.data.toList.length := by rw [Hl.out]; exact hlt
      have hct := count_take s k hlt2
      rw [byte_get s k hlt hlt2] at hct
      by_cases hq : s[k] = 39
      · have hq1 : ((s[k].toNat : Int) == 39) = true := by rw [hq]; rfl
        rw [if_pos hq] at hct
        have hcl : (s.data.toList.take k).count 39 ≤ k := by have := List.count_le_length (a := 39) (l := s.data.toList.take k); rw [List.length_take] at this; omega
        have HCT := Lib.hid hct
        clear hct hq
        obtain ⟨cnt, hcnt⟩ : ∃ cnt, (s.data.toList.take k).count 39 = cnt := ⟨_, rfl⟩
        rw [hcnt] at HCT hcl ⊢
        clear hcnt
        go_wp2_with fail
        go_round
        case rel => exact ⟨k + 1, by omega, by go_num, by rw [HCT.out]; go_num⟩
        case measure => simp [intOf]; omega
      · have hq1 : ((s[k].toNat : Int) == 39) = false := by
          have : s[k].toNat ≠ 39 := fun e => hq (UInt8.toNat_inj.1 e)
          exact beq_eq_false_iff_ne.2 (by omega)
        rw [if_neg hq] at hct
        have HCT := Lib.hid hct
        clear hct hq
        go_wp2_with fail
        go_round
        case rel => exact ⟨k + 1, by omega, by go_num, by rw [HCT.out]; rfl⟩
        case measure => simp [intOf]; omega
    · have hks : k = s.size := by omega
      have HE : Hid ((s.data.toList.take k).count 39 + s.size + 2 = Q.size) := by
        show _ = _
        rw [← HQ.out, quote_size, dbl_count, hks, List.take_of_length_le (by rw [Hl.out]; omega), Hl.out]; omega
      have hcl : (s.data.toList.take k).count 39 ≤ 500 := by have := HE.out; omega
      obtain ⟨cnt, hcnt⟩ : ∃ cnt, (s.data.toList.take k).count 39 = cnt := ⟨_, rfl⟩
      rw [hcnt] at HE hcl ⊢
      clear hks hcnt
      have hA : ((Q.size : Int) == (s.size : Int) + (cnt : Int) + 2) = true := by have := HE.out; exact beq_iff_eq.2 (by omega)
      have hB : (((Q[0]'(by omega)).toNat : Int) == 39) = true := by
        have : Q[0]'(by omega) = 39 := by
          rw [← byte_get Q 0 (by omega) (by simp; omega)]
          simp only [← HQ.out, quote_data, List.getElem_cons_zero]
        rw [this]; rfl
      have hC : (((Q[Q.size - 1]'(by omega)).toNat : Int) == 39) = true := by
        have : Q[Q.size - 1]'(by omega) = 39 := by
          have h1 : Q.data.toList[Q.size - 1]? = some 39 := by
            rw [← HQ.out, quote_data, quote_size]
            have e : (s.data.toList.flatMap dbl).length + 2 - 1 = (39 :: s.data.toList.flatMap dbl).length := by simp only [List.length_cons]; omega
            rw [e, ← List.cons_append, List.getElem?_append_right (Nat.le_refl _)]
            simp
          have h2 : Q.size - 1 < Q.data.toList.length := by have : Q.data.toList.length = Q.size := by simp
                                                            omega
          rw [List.getElem?_eq_getElem h2] at h1
          rw [← byte_get Q (Q.size - 1) (by omega) h2]
          exact Option.some.inj h1
        rw [this]; rfl
      go_wp2_with fail
      have hw1 : IntKind.i64.wrap ((s.size : Int) + (cnt : Int)) = (s.size : Int) + (cnt : Int) := IntWalk.i64_in _ (by omega)
      have hw2 : IntKind.i64.wrap ((s.size : Int) + (cnt : Int) + 2) = (s.size : Int) + (cnt : Int) + 2 := IntWalk.i64_in _ (by omega)
      have hw3 : IntKind.i64.wrap ((Q.size : Int) - 1) = (Q.size : Int) - 1 := IntWalk.i64_in _ (by omega)
      have hi0 : (0 : Int) < (Q.size : Int) := by omega
      have hi0' : 0 < Q.size := by omega
      have hi1 : (0 : Int) ≤ (Q.size : Int) - 1 := by omega
      have hi2 : (Q.size : Int) - 1 < (Q.size : Int) := by omega
      have hi3 : ((Q.size : Int) - 1).toNat = Q.size - 1 := by omega
      have hi4 : Q.size - 1 < Q.size := by omega
      have hi5 : (Q.size : Int) - 1 ≤ (Q.size : Int) := by omega
      have hi6 : (1 : Int) ≤ (Q.size : Int) := by omega
      have ha1 : ∀ w, (Op.stringOp .add s s).run Tryd.prog w = .ok (.string (s ++ s)) w := fun w => run_string_add_sum w _ _ (by omega)
      have ha2 : ∀ w, (Op.stringOp .add (Q.extract 0 (Q.size - 1)) (Q.extract 1 Q.size)).run Tryd.prog w = .ok (.string (quote (s ++ s))) w := fun w => by
        have e : Q.extract 0 (Q.size - 1) ++ Q.extract 1 Q.size = quote (s ++ s) := by
          rw [← HQ.out]
          have h1 : ((quote s).extract 0 ((quote s).size - 1)).data.toList = 39 :: s.data.toList.flatMap dbl := by
            rw [ByteArray.data_extract, Array.toList_extract, List.extract_eq_take_drop, quote_data, quote_size, List.drop_zero]
            have e : (s.data.toList.flatMap dbl).length + 2 - 1 - 0 = (39 :: s.data.toList.flatMap dbl).length := by simp only [List.length_cons]; omega
            rw [e, ← List.cons_append, List.take_append_of_le_length (Nat.le_refl _), List.take_length]
          have h2 : ((quote s).extract 1 (quote s).size).data.toList = s.data.toList.flatMap dbl ++ [39] := by
            rw [ByteArray.data_extract, Array.toList_extract, List.extract_eq_take_drop, quote_data, quote_size, List.drop_succ_cons, List.drop_zero]
            have e : (s.data.toList.flatMap dbl).length + 2 - 1 = (s.data.toList.flatMap dbl ++ [39]).length := by simp only [List.length_append, List.length_cons, List.length_nil]; omega
            rw [e, List.take_length]
          apply ByteArray.ext
          apply Array.ext'
          rw [ByteArray.data_append, Array.toList_append, h1, h2, quote_data, ByteArray.data_append, Array.toList_append, List.flatMap_append]
          simp
        rw [run_string_add_sum w _ _ (by rw [ByteArray.size_extract, ByteArray.size_extract]; omega), e]
      go_region_held3 (fun w' => St w w') (first | exact hS.drew | exact St.step (by assumption) hb2 | exact St.trans (by assumption) hb3)
        (first
          | (go_at_call 26; refine (c2.out _ (St.glob (w0 := w) (by assumption))).mono ?_; rintro e w2 ⟨rfl, hb2⟩)
          | (go_at_call 25; refine (awake01_any _ (St.glob (w0 := w) (by assumption))).mono ?_; rintro e w3 ⟨rfl, hb3⟩))
      go_wp2_with fail
      go_ret
      exact ⟨rfl, ‹St w _›⟩

theorem runesDoubled_any (s : ByteArray) (w : World) (hG : Glob w) :
    Calls Tryd.prog 9 #[.string s] w fun e w' => e = .returned (.bool true) ∧ St w w' := by
  by_cases hsz : 500 < s.size
  · have hS := St.refl hG
    clear hG
    go_enter Tryd.func9, Tryd.ntmps9
    go_wp2_with (go_at_call 25; refine (awake01_any _ hS.2).mono ?_; rintro e w' ⟨rfl, hb⟩; replace hS := hS.trans hb; clear hb)
    go_ret
    exact ⟨rfl, hS⟩
  · exact runesDoubled_small s w hG (by omega)

end Go.Proofs.YtljoenpgokhekaaDoor
