/- Walks: the laws of layer 1: RunesParts. -/
import Derived.Test.YtljoenpgokhekaaDoorLawE
namespace Go.Proofs.YtljoenpgokhekaaDoor
open Go.RowKit
open Cle

theorem pts_app_len (s t : ByteArray) (hs : valid s = true) : (pts (s ++ t)).length = (pts s).length + (pts t).length := by
  rw [pts_app s t hs, List.length_append, List.length_map]
theorem atO_lo (s t : ByteArray) (hs : valid s = true) (k : Nat) (h : k < (pts s).length) : atO (s ++ t) k = some (pts s)[k] ∧ atO s k = some (pts s)[k] := by
  unfold atO
  rw [if_pos (by omega), if_pos (by omega), Int.toNat_natCast, pts_app s t hs, List.getElem?_append_left h, List.getElem?_eq_getElem h]
  exact ⟨rfl, rfl⟩
theorem atO_hi (s t : ByteArray) (hs : valid s = true) (j : Nat) : atO (s ++ t) (((pts s).length + j : Nat) : Int) = (atO t j).map (Pt.shift s.size) ∧ atO s (((pts s).length + j : Nat) : Int) = none := by
  unfold atO
  rw [if_pos (by omega), if_pos (by omega), if_pos (by omega), Int.toNat_natCast, Int.toNat_natCast, pts_app s t hs, List.getElem?_append_right (by omega), List.getElem?_map]
  refine ⟨by congr 2; omega, ?_⟩
  rw [List.getElem?_eq_none (by omega)]

theorem ptsAt_mem_lt (s : ByteArray) : ∀ n pos, s.size - pos ≤ n → ∀ p ∈ ptsAt s pos, p.at_ < s.size := by
  intro n
  induction n with
  | zero => intro pos h p hp; rw [ptsAt_end s pos (by omega)] at hp; cases hp
  | succ n ih =>
    intro pos h p hp
    by_cases hk : pos < s.size
    · have hw := width_pos s pos hk
      rw [ptsAt_step s pos hk] at hp
      cases hp with
      | head => exact hk
      | tail _ hp => exact ih _ (by omega) p hp
    · rw [ptsAt_end s pos hk] at hp; cases hp
theorem atO_lt (t : ByteArray) (j : Int) (p : Pt) (h : atO t j = some p) : p.at_ < t.size := by
  unfold atO at h
  split at h
  · exact ptsAt_mem_lt t t.size 0 (by omega) p (List.mem_of_getElem? h)
  · cases h

set_option maxRecDepth 100000 in
set_option maxHeartbeats 1000000 in
theorem runesParts_small (s t : ByteArray) (a : Int) (w : World) (hG : Glob w) (hn0 : -9223372036854775808 ≤ a) (hn1 : a ≤ 9223372036854775807) (hs1 : s.size ≤ 500) (ht1 : t.size ≤ 500) (hs2 : valid s = true) (ht2 : valid t = true) :
    Calls Tryd.prog 12 #[.string s, .string t, .int .i64 a] w fun e w' => e = .returned (.bool true) ∧ St w w' := by
  have hS := St.refl hG
  clear hG
  have hst : (s ++ t).size ≤ 1000000 := by rw [ByteArray.size_append]; omega
  have v1 := Lib.hid (fun w hG => valid_any s w hG (by omega))
  have v2 := Lib.hid (fun w hG => valid_any t w hG (by omega))
  have v3 := Lib.hid (fun w hG => valid_any (s ++ t) w hG hst)
  rw [hs2] at v1
  rw [ht2] at v2
  rw [valid_app s t hs2, ht2] at v3
  have n1 := Lib.hid (fun w => count_any s w (by omega))
  have n2 := Lib.hid (fun w => count_any t w (by omega))
  have n3 := Lib.hid (fun w => count_any (s ++ t) w hst)
  have hl1 := pts_len s
  have hl2 := pts_len t
  rw [pts_app_len s t hs2] at n3
  have p1 := Lib.hid (fun w => place_any a ((((pts s).length + (pts t).length + 1 : Nat)) : Int) w (by omega) (by omega) hn0 hn1)
  have hp0 := Int.emod_nonneg a (show ((((pts s).length + (pts t).length + 1 : Nat)) : Int) ≠ 0 by omega)
  have hp1 := Int.emod_lt_of_pos a (show (0 : Int) < ((((pts s).length + (pts t).length + 1 : Nat)) : Int) by omega)
  obtain ⟨k, hk⟩ : ∃ k : Nat, a % ((((pts s).length + (pts t).length + 1 : Nat)) : Int) = k := ⟨(a % ((((pts s).length + (pts t).length + 1 : Nat)) : Int)).toNat, by omega⟩
  rw [hk] at p1 hp1
  clear hk hp0 hn0 hn1
  have a1 := Lib.hid (fun w => at_any (s ++ t) k w hst (by omega) (by omega))
  have a2 := Lib.hid (fun w => at_any s k w (by omega) (by omega) (by omega))
  have hkl : k ≤ (pts s).length + (pts t).length := by omega
  clear hp1
  by_cases hlt : k < (pts s).length
  · obtain ⟨e1, e2⟩ := atO_lo s t hs2 k hlt
    rw [e1] at a1
    rw [e2] at a2
    simp only [atV] at a1 a2
    generalize (pts s)[k] = q at *
    generalize (pts s).length = N at *
    generalize (pts t).length = M at *
    clear e1 e2 hs2 ht2
    push_cast at p1 n3
    go_enter Tryd.func12, Tryd.ntmps12
    go_wp2_with fail
    refine (v1.out _ hS.2).mono ?_; rintro e w1 ⟨rfl, hb⟩; replace hS := hS.step hb; clear hb
    go_wp2_with fail
    refine (v2.out _ hS.2).mono ?_; rintro e w1 ⟨rfl, hb⟩; replace hS := hS.step hb; clear hb
    go_wp2_with fail
    refine (n1.out _).mono ?_; rintro e w1 ⟨rfl, hb⟩; replace hS := hS.step hb; clear hb
    go_wp2_with fail
    refine (n2.out _).mono ?_; rintro e w1 ⟨rfl, hb⟩; replace hS := hS.step hb; clear hb
    go_wp2_with fail
    refine (p1.out _).mono ?_; rintro e w1 ⟨rfl, rfl⟩
    go_wp2_with fail
    refine (a1.out _).mono ?_; rintro e w1 ⟨rfl, hb⟩; replace hS := hS.step hb; clear hb
    go_wp2_with fail
    refine (a2.out _).mono ?_; rintro e w1 ⟨rfl, hb⟩; replace hS := hS.step hb; clear hb
    go_wp2_with fail
    refine (n3.out _).mono ?_; rintro e w1 ⟨rfl, hb⟩; replace hS := hS.step hb; clear hb
    go_wp2_with fail
    refine (v3.out _ hS.2).mono ?_; rintro e w1 ⟨rfl, hb⟩; replace hS := hS.step hb; clear hb
    go_wp2_with fail
    refine (awake01_any _ hS.2).mono ?_; rintro e w' ⟨rfl, hb⟩; replace hS := hS.trans hb; clear hb
    go_wp2_with fail
    go_ret
    exact ⟨rfl, hS⟩
  · obtain ⟨j, rfl⟩ : ∃ j, k = (pts s).length + j := ⟨k - (pts s).length, by omega⟩
    obtain ⟨e1, e2⟩ := atO_hi s t hs2 j
    rw [e1] at a1
    rw [e2] at a2
    have a3 : Hid (∀ x : Int, x = j → ∀ w, Calls Tryd.prog 30 #[.string t, .int .i64 x] w fun e w' => e = .returned (atV (atO t j)) ∧ Below w.heap.size w w') := by
      intro x hx w
      subst hx
      exact at_any t j w (by omega) (by omega) (by omega)
    cases hO : atO t j with
    | none =>
      rw [hO] at a1 a3
      simp only [atV, Option.map_none] at a1 a2 a3
      generalize (pts s).length = N at *
      generalize (pts t).length = M at *
      clear e1 e2 hs2 ht2 hO hlt
      push_cast at a1 a2
      push_cast at p1 n3
      go_enter Tryd.func12, Tryd.ntmps12
      go_wp2_with fail
      refine (v1.out _ hS.2).mono ?_; rintro e w1 ⟨rfl, hb⟩; replace hS := hS.step hb; clear hb
      go_wp2_with fail
      refine (v2.out _ hS.2).mono ?_; rintro e w1 ⟨rfl, hb⟩; replace hS := hS.step hb; clear hb
      go_wp2_with fail
      refine (n1.out _).mono ?_; rintro e w1 ⟨rfl, hb⟩; replace hS := hS.step hb; clear hb
      go_wp2_with fail
      refine (n2.out _).mono ?_; rintro e w1 ⟨rfl, hb⟩; replace hS := hS.step hb; clear hb
      go_wp2_with fail
      refine (p1.out _).mono ?_; rintro e w1 ⟨rfl, rfl⟩
      go_wp2_with fail
      refine (a1.out _).mono ?_; rintro e w1 ⟨rfl, hb⟩; replace hS := hS.step hb; clear hb
      go_wp2_with fail
      refine (a2.out _).mono ?_; rintro e w1 ⟨rfl, hb⟩; replace hS := hS.step hb; clear hb
      go_wp2_with fail
      refine (a3.out _ (by omega) _).mono ?_; rintro e w1 ⟨rfl, hb⟩; replace hS := hS.step hb; clear hb
      go_wp2_with fail
      refine (n3.out _).mono ?_; rintro e w1 ⟨rfl, hb⟩; replace hS := hS.step hb; clear hb
      go_wp2_with fail
      refine (v3.out _ hS.2).mono ?_; rintro e w1 ⟨rfl, hb⟩; replace hS := hS.step hb; clear hb
      go_wp2_with fail
      refine (awake01_any _ hS.2).mono ?_; rintro e w' ⟨rfl, hb⟩; replace hS := hS.trans hb; clear hb
      go_wp2_with fail
      go_ret
      exact ⟨rfl, hS⟩
    | some q =>
      have hqa := atO_lt t j q hO
      rw [hO] at a1 a3
      simp only [atV, Option.map_some, Pt.shift] at a1 a2 a3
      generalize (pts s).length = N at *
      generalize (pts t).length = M at *
      clear e1 e2 hs2 ht2 hO hlt
      push_cast at a1 a2
      push_cast at p1 n3
      go_enter Tryd.func12, Tryd.ntmps12
      go_wp2_with fail
      refine (v1.out _ hS.2).mono ?_; rintro e w1 ⟨rfl, hb⟩; replace hS := hS.step hb; clear hb
      go_wp2_with fail
      refine (v2.out _ hS.2).mono ?_; rintro e w1 ⟨rfl, hb⟩; replace hS := hS.step hb; clear hb
      go_wp2_with fail
      refine (n1.out _).mono ?_; rintro e w1 ⟨rfl, hb⟩; replace hS := hS.step hb; clear hb
      go_wp2_with fail
      refine (n2.out _).mono ?_; rintro e w1 ⟨rfl, hb⟩; replace hS := hS.step hb; clear hb
      go_wp2_with fail
      refine (p1.out _).mono ?_; rintro e w1 ⟨rfl, rfl⟩
      go_wp2_with fail
      refine (a1.out _).mono ?_; rintro e w1 ⟨rfl, hb⟩; replace hS := hS.step hb; clear hb
      go_wp2_with fail
      refine (a2.out _).mono ?_; rintro e w1 ⟨rfl, hb⟩; replace hS := hS.step hb; clear hb
      go_wp2_with fail
      refine (a3.out _ (by omega) _).mono ?_; rintro e w1 ⟨rfl, hb⟩; replace hS := hS.step hb; clear hb
      go_wp2_with fail
      refine (n3.out _).mono ?_; rintro e w1 ⟨rfl, hb⟩; replace hS := hS.step hb; clear hb
      go_wp2_with fail
      refine (v3.out _ hS.2).mono ?_; rintro e w1 ⟨rfl, hb⟩; replace hS := hS.step hb; clear hb
      go_wp2_with fail
      refine (awake01_any _ hS.2).mono ?_; rintro e w' ⟨rfl, hb⟩; replace hS := hS.trans hb; clear hb
      go_wp2_with fail
      go_ret
      exact ⟨rfl, hS⟩

theorem runesParts_any (s t : ByteArray) (a : Int) (w : World) (hG : Glob w) (hn0 : -9223372036854775808 ≤ a) (hn1 : a ≤ 9223372036854775807) :
    Calls Tryd.prog 12 #[.string s, .string t, .int .i64 a] w fun e w' => e = .returned (.bool true) ∧ St w w' := by
  by_cases h1 : 500 < s.size
  · have hS := St.refl hG
    clear hG hn0 hn1
    go_enter Tryd.func12, Tryd.ntmps12
    go_wp2_with (go_at_call 25; refine (awake01_any _ hS.2).mono ?_; rintro e w' ⟨rfl, hb⟩; replace hS := hS.trans hb; clear hb)
    go_ret
    exact ⟨rfl, hS⟩
  · have h1' : s.size ≤ 500 := by omega
    by_cases h2 : 500 < t.size
    · have hS := St.refl hG
      clear hG hn0 hn1 h1
      go_enter Tryd.func12, Tryd.ntmps12
      go_wp2_with (go_at_call 25; refine (awake01_any _ hS.2).mono ?_; rintro e w' ⟨rfl, hb⟩; replace hS := hS.trans hb; clear hb)
      go_ret
      exact ⟨rfl, hS⟩
    · have h2' : t.size ≤ 500 := by omega
      have hS := St.refl hG
      have v1 := Lib.hid (fun w hG => valid_any s w hG (by omega))
      have v2 := Lib.hid (fun w hG => valid_any t w hG (by omega))
      cases e1 : valid s with
      | false =>
        rw [e1] at v1
        clear hG hn0 hn1 h1 h2 e1
        go_enter Tryd.func12, Tryd.ntmps12
        go_wp2_with fail
        refine (v1.out _ hS.2).mono ?_; rintro e w1 ⟨rfl, hb⟩; replace hS := hS.step hb; clear hb
        go_wp2_with (go_at_call 25; refine (awake01_any _ hS.2).mono ?_; rintro e w' ⟨rfl, hb⟩; replace hS := hS.trans hb; clear hb)
        go_ret
        exact ⟨rfl, hS⟩
      | true =>
        cases e2 : valid t with
        | false =>
          rw [e1] at v1
          rw [e2] at v2
          clear hG hn0 hn1 h1 h2 e1 e2
          go_enter Tryd.func12, Tryd.ntmps12
          go_wp2_with fail
          refine (v1.out _ hS.2).mono ?_; rintro e w1 ⟨rfl, hb⟩; replace hS := hS.step hb; clear hb
          go_wp2_with fail
          refine (v2.out _ hS.2).mono ?_; rintro e w1 ⟨rfl, hb⟩; replace hS := hS.step hb; clear hb
          go_wp2_with (go_at_call 25; refine (awake01_any _ hS.2).mono ?_; rintro e w' ⟨rfl, hb⟩; replace hS := hS.trans hb; clear hb)
          go_ret
          exact ⟨rfl, hS⟩
        | true => exact runesParts_small s t a w hG hn0 hn1 h1' h2' e1 e2

end Go.Proofs.YtljoenpgokhekaaDoor
