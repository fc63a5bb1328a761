/- Walks: the laws of layer 1: RunesQuotes. -/
import Derived.Test.YtljoenpgokhekaaDoorLawB
namespace Go.Proofs.YtljoenpgokhekaaDoor
open Go.RowKit
open Cle

theorem quote_le (s : ByteArray) : 2 ≤ (quote s).size ∧ (quote s).size ≤ 2 * s.size + 2 := by
  have h1 := quote_size s
  have h2 := count_len s.data.toList
  have h3 : s.data.toList.length = s.size := by simp
  omega

set_option maxRecDepth 100000 in
set_option maxHeartbeats 1000000 in
theorem runesQuotes_any (s head : ByteArray) (at_ : Int) (w : World) (hG : Glob w) (hn0 : -9223372036854775808 ≤ at_) (hn1 : at_ ≤ 9223372036854775807) :
    Calls Tryd.prog 8 #[.string s, .string head, .int .i64 at_] w fun e w' => e = .returned (.bool true) ∧ St w w' := by
  have hS := St.refl hG
  clear hG
  by_cases hsz : 500 < s.size ∨ 100 < head.size
  · clear hn0 hn1
    by_cases hs1 : 500 < s.size
    all_goals
      go_enter Tryd.func8, Tryd.ntmps8
    · clear hsz
      go_wp2_with (go_at_call 25; refine (awake01_any _ hS.2).mono ?_; rintro e w' ⟨rfl, hb⟩; replace hS := hS.trans hb; clear hb)
      go_ret
      exact ⟨rfl, hS⟩
    · have hs2 : 100 < head.size := by omega
      clear hsz
      go_wp2_with (go_at_call 25; refine (awake01_any _ hS.2).mono ?_; rintro e w' ⟨rfl, hb⟩; replace hS := hS.trans hb; clear hb)
      go_ret
      exact ⟨rfl, hS⟩
  · have hs1 : s.size ≤ 500 := by omega
    have hs2 : head.size ≤ 100 := by omega
    clear hsz
    obtain ⟨hq2, hqm⟩ := quote_le s
    have c1 := fun w hG => quote_any s w hG (by omega)
    have hUq := unquote_quote s head
    have HC := Lib.hid (unquote_cut s)
    obtain ⟨Q, hQ⟩ : ∃ Q, quote s = Q := ⟨_, rfl⟩
    rw [hQ] at hq2 hqm c1 hUq HC
    clear hQ
    have c2 := fun w => unquote_any (head ++ Q ++ ⟨#[120]⟩) head.size w (by simp only [ByteArray.size_append', ByteArray.size_mk', List.size_toArray, List.length_cons, List.length_nil]; omega)
    rw [hUq] at c2
    clear hUq
    simp only [unqV] at c2
    have c3 := Lib.hid (fun w => place_any at_ Q.size w (by omega) (by omega) hn0 hn1)
    have hp0 := Int.emod_nonneg at_ (show (Q.size : Int) ≠ 0 by omega)
    have hp1 := Int.emod_lt_of_pos at_ (show (0 : Int) < (Q.size : Int) by omega)
    clear hn0 hn1
    obtain ⟨k, hk⟩ : ∃ k : Nat, at_ % (Q.size : Int) = k := ⟨(at_ % (Q.size : Int)).toNat, by omega⟩
    rw [hk] at c3 hp1
    clear hk hp0
    have hk2 : k < Q.size := by omega
    have he : (Q.extract 0 k).size = k := by rw [ByteArray.size_extract]; omega
    have c4 := fun w => unquote_any (Q.extract 0 k) 0 w (by omega)
    have HC2 := Lib.hid (HC.out k hk2)
    clear HC he
    cases hU : unquote (Q.extract 0 k) 0 with
    | none =>
      rw [hU] at c4
      simp only [unqV] at c4
      clear hU
      go_enter Tryd.func8, Tryd.ntmps8
      go_wp2_with fail
      refine (c1 _ hS.2).mono ?_; rintro e w1 ⟨rfl, hb⟩; replace hS := hS.step hb; clear hb
      go_wp2_with fail
      refine (c2 _).mono ?_; rintro e w1 ⟨rfl, hb⟩; replace hS := hS.step hb; clear hb
      go_wp2_with fail
      refine (c3.out _).mono ?_; rintro e w1 ⟨rfl, rfl⟩
      go_wp2_with fail
      refine (c4 _).mono ?_; rintro e w1 ⟨rfl, hb⟩; replace hS := hS.step hb; clear hb
      go_wp2_with fail
      refine (awake01_any _ hS.2).mono ?_; rintro e w' ⟨rfl, hb⟩; replace hS := hS.trans hb; clear hb
      go_wp2_with fail
      go_ret
      exact ⟨rfl, hS⟩
    | some x =>
      have hx := HC2.out x hU
      rw [hU] at c4
      simp only [unqV] at c4
      obtain ⟨u, m⟩ := x
      simp only at c4 hx
      clear hU
      go_enter Tryd.func8, Tryd.ntmps8
      go_wp2_with fail
      refine (c1 _ hS.2).mono ?_; rintro e w1 ⟨rfl, hb⟩; replace hS := hS.step hb; clear hb
      go_wp2_with fail
      refine (c2 _).mono ?_; rintro e w1 ⟨rfl, hb⟩; replace hS := hS.step hb; clear hb
      go_wp2_with fail
      refine (c3.out _).mono ?_; rintro e w1 ⟨rfl, rfl⟩
      go_wp2_with fail
      refine (c4 _).mono ?_; rintro e w1 ⟨rfl, hb⟩; replace hS := hS.step hb; clear hb
      go_wp2_with fail
      refine (awake01_any _ hS.2).mono ?_; rintro e w' ⟨rfl, hb⟩; replace hS := hS.trans hb; clear hb
      go_wp2_with fail
      go_ret
      exact ⟨rfl, hS⟩

end Go.Proofs.YtljoenpgokhekaaDoor
