/- Walks: the law LexNumbers. -/
import Derived.Test.YtljoenpgokhekaaDoorLawLexA
import Derived.Test.YtljoenpgokhekaaDoorLawB
import Derived.Test.YtljoenpgokhekaaDoorPlainT
namespace Go.Proofs.YtljoenpgokhekaaDoor
open Go.RowKit
open Cle

set_option maxHeartbeats 400000 in
theorem place13_any (v n : Int) (w : World) (hn : 1 ≤ n) (hn2 : n ≤ 10000000000000) (hv0 : -9223372036854775808 ≤ v) (hv1 : v ≤ 9223372036854775807) :
    Calls Tryd.prog 22 #[.int .i64 v, .int .i64 n] w fun e w' => e = .returned (.int .i64 (v % n)) ∧ w = w' := by
  have hp := Lib.hid (place_tmod v n hn)
  by_cases h0 : 0 ≤ v
  · have h2 := Int.emod_nonneg v (show n ≠ 0 by omega)
    have h3 := Int.emod_lt_of_pos v (show 0 < n by omega)
    clear hv0
    go_enter Tryd.func22, Tryd.ntmps22
    go_wp2_with fail
    go_ret
    exact ⟨rfl, rfl⟩
  · have hm : v.tmod n ≤ 0 := by have := Int.tmod_nonneg n (show 0 ≤ -v by omega); rw [Int.neg_tmod] at this; omega
    have hm2 : -n < v.tmod n := by
      have := Int.tmod_lt_of_pos (-v) (show 0 < n by omega); rw [Int.neg_tmod] at this; omega
    clear hv0 hv1
    by_cases hz : v.tmod n < 0
    · have HE : Hid (v.tmod n + n = v % n) := by have := hp.out; rw [if_pos hz] at this; exact this
      go_enter Tryd.func22, Tryd.ntmps22
      go_wp2_with fail
      go_ret
      exact ⟨ret_int HE.out, rfl⟩
    · have HE : Hid (v.tmod n = v % n) := by have := hp.out; rw [if_neg hz] at this; exact this
      go_enter Tryd.func22, Tryd.ntmps22
      go_wp2_with fail
      go_ret
      exact ⟨ret_int HE.out, rfl⟩


theorem mk_size (l : List UInt8) : (⟨l.toArray⟩ : ByteArray).size = l.length := by simp [ByteArray.size]
set_option maxRecDepth 100000 in
set_option maxHeartbeats 2000000 in
theorem lexNumbers_law (v zeros : Int) (w : World) (hG : Glob w) (hv0 : -9223372036854775808 ≤ v) (hv1 : v ≤ 9223372036854775807) (hz0 : -9223372036854775808 ≤ zeros) (hz1 : zeros ≤ 9223372036854775807) :
    Calls Tryd.prog 6 #[.int .i64 v, .int .i64 zeros] w fun e w' => e = .returned (.bool true) ∧ St w w' := by
  have hS := St.refl hG
  clear hG
  have haw := fun w1 hS1 => awake13_any w1 hS1
  have hp1 := fun w => place13_any v 2199023255553 w (by omega) (by omega) hv0 hv1
  have hp2 := fun w => place13_any zeros 20 w (by omega) (by omega) hz0 hz1
  have hm1 := Int.emod_nonneg v (show (2199023255553 : Int) ≠ 0 by omega)
  have hm2 := Int.emod_lt_of_pos v (show (0 : Int) < 2199023255553 by omega)
  have hm3 := Int.emod_nonneg zeros (show (20 : Int) ≠ 0 by omega)
  have hm4 := Int.emod_lt_of_pos zeros (show (0 : Int) < 20 by omega)
  obtain ⟨x, hx⟩ : ∃ x, v % 2199023255553 = x := ⟨_, rfl⟩
  rw [hx] at hp1 hm1 hm2
  obtain ⟨z, hz⟩ : ∃ z : Nat, zeros % 20 = z := ⟨(zeros % 20).toNat, by omega⟩
  rw [hz] at hp2 hm3 hm4
  clear hx hz hv0 hv1 hz0 hz1
  by_cases hneg : x < 1099511627776
  · skip
    obtain ⟨D, hD⟩ : ∃ D : Nat, -(x - 1099511627776) = D := ⟨(-(x - 1099511627776)).toNat, by omega⟩
    have hDl : D ≤ 1099511627776 := by omega
    have HDI := dec_len13 D hDl
    go_enter Tryd.func6, Tryd.ntmps6
    go_wp2_with (go_at_call 22; refine (hp1 _).mono ?_; rintro e w1 ⟨rfl, rfl⟩)
    go_loopw [6, 8] (fun a t wr => w = wr ∧ ∃ (d : Nat) (S : List UInt8), a = .int .i64 d ∧ t = .string ⟨S.toArray⟩ ∧ Hid (dec D = dec d ++ S) ∧ d ≤ D) (fun a _ _ => (intOf a).toNat)
    case atStart => exact ⟨rfl, D, [], by first | (rw [hD]; done) | (go_num; done), rfl, (by show _ = _; rw [List.append_nil]), by omega⟩
    case round =>
      obtain ⟨rfl, d, S, rfl, rfl, HS, hd⟩ := hrel
      have hSl : S.length ≤ 13 := by have := congrArg List.length HS.out; rw [List.length_append] at this; omega
      have hSz := mk_size S
      have HT := Lib.hid (ten_at (d % 10) (by omega))
      by_cases h10 : 10 ≤ d
      · go_wp2_with fail
        all_goals
          go_roundw
          case rel => exact ⟨trivial, d / 10, UInt8.ofNat (48 + d % 10) :: S, by go_num, (by rw [show (⟨#[48, 49, 50, 51, 52, 53, 54, 55, 56, 57]⟩ : ByteArray).extract (d % 10) (d % 10 + 1) = _ from HT.out, cons_app _ S]), (by show _ = _; rw [HS.out, dec_step h10]), by omega⟩
          case measure => simp [intOf]; omega
      · have HT2 : Hid ((⟨#[48, 49, 50, 51, 52, 53, 54, 55, 56, 57]⟩ : ByteArray).extract d (d + 1) ++ ⟨S.toArray⟩ = ⟨(dec D).toArray⟩) := by
          show _ = _
          rw [HS.out, dec_one (by omega), List.singleton_append, cons_app _ S, show (⟨#[48, 49, 50, 51, 52, 53, 54, 55, 56, 57]⟩ : ByteArray).extract d (d + 1) = _ from ten_at d (by omega)]
        go_wp2_with (go_at_call 22; refine (hp2 _).mono ?_; rintro e w1 ⟨rfl, rfl⟩)
        rw [HT2.out]
        go_loopw [8, 9] (fun t i wr => w = wr ∧ ∃ (k j : Nat), i = .int .i64 j ∧ k + j = z ∧ t = .string ⟨(List.replicate k 48 ++ dec D).toArray⟩) (fun _ i _ => (intOf i).toNat)
        case atStart => exact ⟨rfl, 0, z, rfl, by omega, rfl⟩
        case round =>
          obtain ⟨rfl, k, j, rfl, hkj, rfl⟩ := hrel
          have hsz : (⟨(List.replicate k 48 ++ dec D).toArray⟩ : ByteArray).size = k + (dec D).length := by rw [mk_size]; simp
          by_cases hj : 0 < j
          · have HX : Hid ((⟨#[48]⟩ : ByteArray) ++ ⟨(List.replicate k 48 ++ dec D).toArray⟩ = ⟨(List.replicate (k + 1) 48 ++ dec D).toArray⟩) := by
              show _ = _; rw [List.replicate_succ, List.cons_append, cons_app 48 (List.replicate k 48 ++ dec D)]
            generalize (⟨(List.replicate k 48 ++ dec D).toArray⟩ : ByteArray) = T at *
            go_wp2_with fail
            go_roundw
            case rel => exact ⟨trivial, k + 1, j - 1, by go_num, by omega, (by rw [HX.out])⟩
            case measure => simp [intOf]; omega
          · have hk : k = z := by omega
            subst hk
            obtain ⟨at2, h1⟩ := numbers_ok true k D (by omega) hDl
            have h2 := numbers_x true k D (by omega) hDl
            have h3 := numbers_big true
            have e1 : (⟨(numS true k D).toArray⟩ : ByteArray) = ⟨#[45]⟩ ++ ⟨(List.replicate k 48 ++ dec D).toArray⟩ := mk_app (minusL true) _
            rw [e1] at h1 h2
            have e3 : (⟨(minusL true ++ [49, 48, 57, 57, 53, 49, 49, 54, 50, 55, 55, 55, 55]).toArray⟩ : ByteArray) = ⟨#[45]⟩ ++ ⟨#[49, 48, 57, 57, 53, 49, 49, 54, 50, 55, 55, 55, 55]⟩ := mk_app (minusL true) [49, 48, 57, 57, 53, 49, 49, 54, 50, 55, 55, 55, 55]
            rw [e3] at h3
            clear e3
            simp only [if_true] at h1
            rw [show (-(D : Int)) = x - 1099511627776 by omega] at h1
            generalize (⟨(List.replicate k 48 ++ dec D).toArray⟩ : ByteArray) = T at *
            have hT : T.size ≤ 40 := by omega
            simp only [← app_assoc] at h1 h2
            clear hsz e1
            have sz1 : ∀ c : UInt8, (((⟨#[32]⟩ : ByteArray) ++ ⟨#[45]⟩) ++ T ++ ⟨#[c]⟩).size ≤ 100000 := fun c => by
              rw [ByteArray.size_append, ByteArray.size_append, ByteArray.size_append]
              show 1 + 1 + T.size + 1 ≤ 100000; omega
            have c1 := fun w1 hg => lexall_any (((⟨#[32]⟩ : ByteArray) ++ ⟨#[45]⟩) ++ T ++ ⟨#[44]⟩) w1 hg (sz1 44)
            have c2 := fun w1 hg => lexall_any (((⟨#[32]⟩ : ByteArray) ++ ⟨#[45]⟩) ++ T ++ ⟨#[120]⟩) w1 hg (sz1 120)
            have c3 := fun w1 hg => lexall_any ((⟨#[45]⟩ : ByteArray) ++ ⟨#[49, 48, 57, 57, 53, 49, 49, 54, 50, 55, 55, 55, 55]⟩) w1 hg (by rw [ByteArray.size_append]; decide)
            rw [h1] at c1
            rw [h2] at c2
            rw [h3] at c3
            clear h1 h2 h3 sz1
            obtain ⟨l2, hl2⟩ : ∃ l : List Tk, l = [⟨2, ⟨#[]⟩, x - 1099511627776, 1⟩, ⟨4, ⟨#[44]⟩, 0, at2⟩] := ⟨_, rfl⟩
            rw [← hl2] at c1
            have HL2 := Lib.hid hl2
            have hl3 : l2.length = 2 := by rw [hl2]; rfl
            clear hl2
            go_wp2_with fail
            refine (c1 _ hS.2).mono ?_; rintro e w1 ⟨⟨u, rfl, hown⟩, hb⟩
            replace hS := hS.step hb
            clear hb c1
            obtain ⟨a, cap, rfl, hr⟩ := row_read hown
            replace hr := hr (by show 0 < l2.length; omega)
            obtain ⟨g, rfl, _, hg, hc⟩ := hr
            have k0 := hc 0 (.int .i64 2) (by show (flatT l2)[0]? = _; rw [HL2.out]; rfl)
            have k2 := hc 2 (.int .i64 (x - 1099511627776)) (by show (flatT l2)[2]? = _; rw [HL2.out]; rfl)
            have k3 := hc 3 (.int .i64 1) (by show (flatT l2)[3]? = _; rw [HL2.out]; rfl)
            rw [show (l2, 0, 0).1.length = 2 from hl3]
            clear hc hown HL2 hl3
            have Hg := Lib.hid hg
            clear hg
            go_wp2_with fail
            refine (c2 _ hS.2).mono ?_; rintro e w2 ⟨⟨u2, rfl, _⟩, hb⟩
            replace hS := hS.step hb
            replace k0 := (hb.cell (p := ⟨g, 0, none⟩) Hg.out).trans k0
            replace k2 := (hb.cell (p := ⟨g, 2, none⟩) Hg.out).trans k2
            replace k3 := (hb.cell (p := ⟨g, 3, none⟩) Hg.out).trans k3
            have Hg2 : Hid (g < w2.heap.size) := Nat.lt_of_lt_of_le Hg.out hb.size
            clear hb c2
            go_wp2_with fail
            refine (c3 _ hS.2).mono ?_; rintro e w3 ⟨⟨u3, rfl, _⟩, hb⟩
            replace hS := hS.step hb
            replace k0 := (hb.cell (p := ⟨g, 0, none⟩) Hg2.out).trans k0
            replace k2 := (hb.cell (p := ⟨g, 2, none⟩) Hg2.out).trans k2
            replace k3 := (hb.cell (p := ⟨g, 3, none⟩) Hg2.out).trans k3
            clear hb c3
            go_wp2_with (go_at_call 19; refine (haw _ hS.2).mono ?_; rintro e w' ⟨rfl, hb⟩; replace hS := hS.trans hb; clear hb)
            go_ret
            exact ⟨rfl, hS⟩
  · skip
    obtain ⟨D, hD⟩ : ∃ D : Nat, x - 1099511627776 = D := ⟨(x - 1099511627776).toNat, by omega⟩
    have hDl : D ≤ 1099511627776 := by omega
    have HDI := dec_len13 D hDl
    go_enter Tryd.func6, Tryd.ntmps6
    go_wp2_with (go_at_call 22; refine (hp1 _).mono ?_; rintro e w1 ⟨rfl, rfl⟩)
    go_loopw [6, 8] (fun a t wr => w = wr ∧ ∃ (d : Nat) (S : List UInt8), a = .int .i64 d ∧ t = .string ⟨S.toArray⟩ ∧ Hid (dec D = dec d ++ S) ∧ d ≤ D) (fun a _ _ => (intOf a).toNat)
    case atStart => exact ⟨rfl, D, [], by first | (rw [hD]; done) | (go_num; done), rfl, (by show _ = _; rw [List.append_nil]), by omega⟩
    case round =>
      obtain ⟨rfl, d, S, rfl, rfl, HS, hd⟩ := hrel
      have hSl : S.length ≤ 13 := by have := congrArg List.length HS.out; rw [List.length_append] at this; omega
      have hSz := mk_size S
      have HT := Lib.hid (ten_at (d % 10) (by omega))
      by_cases h10 : 10 ≤ d
      · go_wp2_with fail
        all_goals
          go_roundw
          case rel => exact ⟨trivial, d / 10, UInt8.ofNat (48 + d % 10) :: S, by go_num, (by rw [show (⟨#[48, 49, 50, 51, 52, 53, 54, 55, 56, 57]⟩ : ByteArray).extract (d % 10) (d % 10 + 1) = _ from HT.out, cons_app _ S]), (by show _ = _; rw [HS.out, dec_step h10]), by omega⟩
          case measure => simp [intOf]; omega
      · have HT2 : Hid ((⟨#[48, 49, 50, 51, 52, 53, 54, 55, 56, 57]⟩ : ByteArray).extract d (d + 1) ++ ⟨S.toArray⟩ = ⟨(dec D).toArray⟩) := by
          show _ = _
          rw [HS.out, dec_one (by omega), List.singleton_append, cons_app _ S, show (⟨#[48, 49, 50, 51, 52, 53, 54, 55, 56, 57]⟩ : ByteArray).extract d (d + 1) = _ from ten_at d (by omega)]
        go_wp2_with (go_at_call 22; refine (hp2 _).mono ?_; rintro e w1 ⟨rfl, rfl⟩)
        rw [HT2.out]
        go_loopw [8, 9] (fun t i wr => w = wr ∧ ∃ (k j : Nat), i = .int .i64 j ∧ k + j = z ∧ t = .string ⟨(List.replicate k 48 ++ dec D).toArray⟩) (fun _ i _ => (intOf i).toNat)
        case atStart => exact ⟨rfl, 0, z, rfl, by omega, rfl⟩
        case round =>
          obtain ⟨rfl, k, j, rfl, hkj, rfl⟩ := hrel
          have hsz : (⟨(List.replicate k 48 ++ dec D).toArray⟩ : ByteArray).size = k + (dec D).length := by rw [mk_size]; simp
          by_cases hj : 0 < j
          · have HX : Hid ((⟨#[48]⟩ : ByteArray) ++ ⟨(List.replicate k 48 ++ dec D).toArray⟩ = ⟨(List.replicate (k + 1) 48 ++ dec D).toArray⟩) := by
              show _ = _; rw [List.replicate_succ, List.cons_append, cons_app 48 (List.replicate k 48 ++ dec D)]
            generalize (⟨(List.replicate k 48 ++ dec D).toArray⟩ : ByteArray) = T at *
            go_wp2_with fail
            go_roundw
            case rel => exact ⟨trivial, k + 1, j - 1, by go_num, by omega, (by rw [HX.out])⟩
            case measure => simp [intOf]; omega
          · have hk : k = z := by omega
            subst hk
            obtain ⟨at2, h1⟩ := numbers_ok false k D (by omega) hDl
            have h2 := numbers_x false k D (by omega) hDl
            have h3 := numbers_big false
            have e1 : (⟨(numS false k D).toArray⟩ : ByteArray) = ⟨#[]⟩ ++ ⟨(List.replicate k 48 ++ dec D).toArray⟩ := mk_app (minusL false) _
            rw [e1] at h1 h2
            have e3 : (⟨(minusL false ++ [49, 48, 57, 57, 53, 49, 49, 54, 50, 55, 55, 55, 55]).toArray⟩ : ByteArray) = ⟨#[]⟩ ++ ⟨#[49, 48, 57, 57, 53, 49, 49, 54, 50, 55, 55, 55, 55]⟩ := mk_app (minusL false) [49, 48, 57, 57, 53, 49, 49, 54, 50, 55, 55, 55, 55]
            rw [e3] at h3
            clear e3
            simp only [Bool.false_eq_true, if_false] at h1
            generalize (⟨(List.replicate k 48 ++ dec D).toArray⟩ : ByteArray) = T at *
            have hT : T.size ≤ 40 := by omega
            simp only [← app_assoc] at h1 h2
            clear hsz e1
            have sz1 : ∀ c : UInt8, (((⟨#[32]⟩ : ByteArray) ++ ⟨#[]⟩) ++ T ++ ⟨#[c]⟩).size ≤ 100000 := fun c => by
              rw [ByteArray.size_append, ByteArray.size_append, ByteArray.size_append]
              show 1 + 0 + T.size + 1 ≤ 100000; omega
            have c1 := fun w1 hg => lexall_any (((⟨#[32]⟩ : ByteArray) ++ ⟨#[]⟩) ++ T ++ ⟨#[44]⟩) w1 hg (sz1 44)
            have c2 := fun w1 hg => lexall_any (((⟨#[32]⟩ : ByteArray) ++ ⟨#[]⟩) ++ T ++ ⟨#[120]⟩) w1 hg (sz1 120)
            have c3 := fun w1 hg => lexall_any ((⟨#[]⟩ : ByteArray) ++ ⟨#[49, 48, 57, 57, 53, 49, 49, 54, 50, 55, 55, 55, 55]⟩) w1 hg (by rw [ByteArray.size_append]; decide)
            rw [h1] at c1
            rw [h2] at c2
            rw [h3] at c3
            clear h1 h2 h3 sz1
            obtain ⟨l2, hl2⟩ : ∃ l : List Tk, l = [⟨2, ⟨#[]⟩, (D : Int), 1⟩, ⟨4, ⟨#[44]⟩, 0, at2⟩] := ⟨_, rfl⟩
            rw [← hl2] at c1
            have HL2 := Lib.hid hl2
            have hl3 : l2.length = 2 := by rw [hl2]; rfl
            clear hl2
            go_wp2_with fail
            refine (c1 _ hS.2).mono ?_; rintro e w1 ⟨⟨u, rfl, hown⟩, hb⟩
            replace hS := hS.step hb
            clear hb c1
            obtain ⟨a, cap, rfl, hr⟩ := row_read hown
            replace hr := hr (by show 0 < l2.length; omega)
            obtain ⟨g, rfl, _, hg, hc⟩ := hr
            have k0 := hc 0 (.int .i64 2) (by show (flatT l2)[0]? = _; rw [HL2.out]; rfl)
            have k2 := hc 2 (.int .i64 ((D : Int))) (by show (flatT l2)[2]? = _; rw [HL2.out]; rfl)
            have k3 := hc 3 (.int .i64 1) (by show (flatT l2)[3]? = _; rw [HL2.out]; rfl)
            rw [show (l2, 0, 0).1.length = 2 from hl3]
            clear hc hown HL2 hl3
            have Hg := Lib.hid hg
            clear hg
            go_wp2_with fail
            refine (c2 _ hS.2).mono ?_; rintro e w2 ⟨⟨u2, rfl, _⟩, hb⟩
            replace hS := hS.step hb
            replace k0 := (hb.cell (p := ⟨g, 0, none⟩) Hg.out).trans k0
            replace k2 := (hb.cell (p := ⟨g, 2, none⟩) Hg.out).trans k2
            replace k3 := (hb.cell (p := ⟨g, 3, none⟩) Hg.out).trans k3
            have Hg2 : Hid (g < w2.heap.size) := Nat.lt_of_lt_of_le Hg.out hb.size
            clear hb c2
            go_wp2_with fail
            refine (c3 _ hS.2).mono ?_; rintro e w3 ⟨⟨u3, rfl, _⟩, hb⟩
            replace hS := hS.step hb
            replace k0 := (hb.cell (p := ⟨g, 0, none⟩) Hg2.out).trans k0
            replace k2 := (hb.cell (p := ⟨g, 2, none⟩) Hg2.out).trans k2
            replace k3 := (hb.cell (p := ⟨g, 3, none⟩) Hg2.out).trans k3
            clear hb c3
            go_wp2_with (go_at_call 19; refine (haw _ hS.2).mono ?_; rintro e w' ⟨rfl, hb⟩; replace hS := hS.trans hb; clear hb)
            go_ret
            exact ⟨rfl, hS⟩

end Go.Proofs.YtljoenpgokhekaaDoor
