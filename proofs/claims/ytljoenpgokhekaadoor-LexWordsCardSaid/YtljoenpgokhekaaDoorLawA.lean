/- Walks: the laws of layer 1: awake, RunesAll. -/
import Derived.Test.YtljoenpgokhekaaDoorRefE
namespace Go.Proofs.YtljoenpgokhekaaDoor
open Go.RowKit
open Cle

/-- Behind so many calls: what was there is there; the library's tables are. -/
def St (w0 w : World) : Prop := Below w0.heap.size w0 w ∧ Glob w
theorem St.refl {w : World} (h : Glob w) : St w w := ⟨Below.refl _ _, h⟩
theorem St.step {w0 w w' : World} (h : St w0 w) (hb : Below w.heap.size w w') : St w0 w' := ⟨h.1.trans (hb.mono h.1.size), h.2.below hb⟩
theorem St.same {w0 w w' : World} (h : St w0 w) (hb : w = w') : St w0 w' := hb ▸ h
theorem St.trans {w0 w w' : World} (h : St w0 w) (hb : St w w') : St w0 w' := ⟨h.1.trans (hb.1.mono h.1.size), hb.2⟩

theorem awake01_any (w : World) (hG : Glob w) :
    Calls Tryd.prog 25 #[] w fun e w' => e = .returned (.bool true) ∧ St w w' := by
  have hS := St.refl hG
  clear hG
  have hu := fun w => unquote_any ⟨#[120, 39, 105, 116, 39, 39, 115, 39]⟩ 1 w (by decide)
  have e1 : unqV (unquote ⟨#[120, 39, 105, 116, 39, 39, 115, 39]⟩ 1) = .tuple #[.string ⟨#[105, 116, 39, 115]⟩, .int .i64 8, .bool true] := by kernel_rfl
  have hq := fun w h => quote_any ⟨#[105, 116, 39, 115]⟩ w h (by decide)
  have e2 : quote ⟨#[105, 116, 39, 115]⟩ = ⟨#[39, 105, 116, 39, 39, 115, 39]⟩ := by kernel_rfl
  have hn := fun w h => name_any ⟨#[95, 97, 49]⟩ w h (by decide)
  have e3 : name ⟨#[95, 97, 49]⟩ = true := by kernel_rfl
  rw [e1] at hu
  rw [e2] at hq
  rw [e3] at hn
  clear e1 e2 e3
  go_enter Tryd.func25, Tryd.ntmps25
  go_wp2_with (first
    | (go_at_call 27; refine (hu _).mono ?_; rintro e w' ⟨rfl, hb⟩; replace hS := hS.step hb; clear hb)
    | (go_at_call 26; refine (hq _ hS.2).mono ?_; rintro e w' ⟨rfl, hb⟩; replace hS := hS.step hb; clear hb)
    | (go_at_call 28; refine (hn _ hS.2).mono ?_; rintro e w' ⟨rfl, hb⟩; replace hS := hS.step hb; clear hb))
  go_ret
  exact ⟨rfl, hS⟩

set_option maxRecDepth 100000 in
set_option maxHeartbeats 2000000 in
theorem runesAll_any (s : ByteArray) (n f : Int) (w : World) (hG : Glob w) (hn0 : -9223372036854775808 ≤ n) (hn1 : n ≤ 9223372036854775807) :
    Calls Tryd.prog 13 #[.string s, .int .i64 n, .int .i64 f] w fun e w' => e = .returned (.bool true) ∧ St w w' := by
  have hS := St.refl hG
  clear hG
  by_cases hsz : 1500 < s.size
  · clear hn0 hn1
    go_enter Tryd.func13, Tryd.ntmps13
    go_wp2_with (go_at_call 25; refine (awake01_any _ hS.2).mono ?_; rintro e w' ⟨rfl, hb⟩; replace hS := hS.trans hb; clear hb)
    go_ret
    exact ⟨rfl, hS⟩
  · have hs : s.size ≤ 1000000 := by omega
    have c1 := fun w => at_any s n w hs hn0 hn1
    have c2 := fun w => rat_any s n w hs
    have c3 := fun w => unquote_any s f w hs
    have c4 := fun w => runquote_any s f w hs
    clear hn0 hn1
    cases hO : atO s n <;> cases hU : unquote s f
    all_goals
      rw [hO] at c1 c2
      rw [hU] at c3 c4
      simp only [atV] at c1 c2
      simp only [unqV] at c3 c4
      clear hO hU
      go_enter Tryd.func13, Tryd.ntmps13
      go_wp2_with (first
        | (go_at_call 30; refine (c1 _).mono ?_; rintro e w' ⟨rfl, hb⟩; replace hS := hS.step hb; clear hb)
        | (go_at_call 33; refine (c2 _).mono ?_; rintro e w' ⟨rfl, hb⟩; replace hS := hS.step hb; clear hb)
        | (go_at_call 27; refine (c3 _).mono ?_; rintro e w' ⟨rfl, hb⟩; replace hS := hS.step hb; clear hb)
        | (go_at_call 34; refine (c4 _).mono ?_; rintro e w' ⟨rfl, rfl⟩)
        | (go_at_call 32; refine (valid_any _ _ hS.2 hs).mono ?_; rintro e w' ⟨rfl, hb⟩; replace hS := hS.step hb; clear hb)
        | (go_at_call 35; refine (rvalid_any _ _ hs).mono ?_; rintro e w' ⟨rfl, hb⟩; replace hS := hS.step hb; clear hb)
        | (go_at_call 31; refine (count_any _ _ hs).mono ?_; rintro e w' ⟨rfl, hb⟩; replace hS := hS.step hb; clear hb)
        | (go_at_call 36; refine (rcount_any _ _ hs).mono ?_; rintro e w' ⟨rfl, hb⟩; replace hS := hS.step hb; clear hb)
        | (go_at_call 29; refine (fold_any _ _ hs).mono ?_; rintro e w' ⟨rfl, hb⟩; replace hS := hS.step hb; clear hb)
        | (go_at_call 37; refine (rfold_any _ _ hs).mono ?_; rintro e w' ⟨rfl, hb⟩; replace hS := hS.step hb; clear hb)
        | (go_at_call 26; refine (quote_any _ _ hS.2 hs).mono ?_; rintro e w' ⟨rfl, hb⟩; replace hS := hS.step hb; clear hb)
        | (go_at_call 38; refine (rquote_any _ _ hs).mono ?_; rintro e w' ⟨rfl, rfl⟩)
        | (go_at_call 28; refine (name_any _ _ hS.2 hs).mono ?_; rintro e w' ⟨rfl, hb⟩; replace hS := hS.step hb; clear hb)
        | (go_at_call 39; refine (rname_any _ _ hs).mono ?_; rintro e w' ⟨rfl, hb⟩; replace hS := hS.step hb; clear hb)
        | (go_at_call 25; refine (awake01_any _ hS.2).mono ?_; rintro e w' ⟨rfl, hb⟩; replace hS := hS.trans hb; clear hb))
      go_ret
      exact ⟨rfl, hS⟩

end Go.Proofs.YtljoenpgokhekaaDoor
