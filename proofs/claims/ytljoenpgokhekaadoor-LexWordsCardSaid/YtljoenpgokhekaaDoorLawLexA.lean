/- Walks: the laws of layer 13: awake, LexAll. -/
import Derived.Test.YtljoenpgokhekaaDoorRLexE
import Derived.Test.YtljoenpgokhekaaDoorLawA
namespace Go.Proofs.YtljoenpgokhekaaDoor
open Go.RowKit
open Cle

theorem flatT_at : ∀ (l : List Tk) (k j : Nat) (h : k < l.length) (_ : j < 4), (flatT l)[k * 4 + j]? = (tkCells l[k])[j]?
  | p :: l, 0, j, _, hj => by
    simp only [flatT, List.flatMap_cons, Nat.zero_mul, Nat.zero_add, List.getElem_cons_zero]
    rw [List.getElem?_append_left (by simp [tkCells]; omega)]
  | p :: l, k + 1, j, h, hj => by
    have := flatT_at l k j (by simp at h; omega) hj
    simp only [flatT, List.flatMap_cons, List.getElem_cons_succ] at this ⊢
    rw [List.getElem?_append_right (by simp [tkCells]; omega)]
    have e : (k + 1) * 4 + j - (tkCells p).length = k * 4 + j := by simp [tkCells]; omega
    rw [e]; exact this

def exT : List Tk := [⟨1, ⟨#[97]⟩, 0, 0⟩, ⟨4, ⟨#[61]⟩, 0, 1⟩, ⟨2, ⟨#[]⟩, -5, 2⟩]
theorem lex_ex : lexL ⟨#[97, 61, 45, 53]⟩ = (exT, 0, 0) := by kernel_rfl

set_option maxRecDepth 100000 in
set_option maxHeartbeats 1000000 in
theorem awake13_any (w : World) (hG : Glob w) :
    Calls Tryd.prog 19 #[] w fun e w' => e = .returned (.bool true) ∧ St w w' := by
  have hS := St.refl hG
  have hl := lexall_any ⟨#[97, 61, 45, 53]⟩ w hG (by decide)
  rw [lex_ex] at hl
  clear hG
  go_enter Tryd.func19, Tryd.ntmps19
  go_wp2_with fail
  refine hl.mono ?_; rintro e w1 ⟨⟨v, rfl, hown⟩, hb⟩
  replace hS := hS.step hb
  clear hl hb
  obtain ⟨a, cap, rfl, hr⟩ := row_read hown
  obtain ⟨g, rfl, _, _, hc⟩ := hr (by decide)
  have c0 := hc 0 (.int .i64 1) rfl
  have c4 := hc 4 (.int .i64 4) rfl
  have c8 := hc 8 (.int .i64 2) rfl
  have c10 := hc 10 (.int .i64 (-5)) rfl
  have c11 := hc 11 (.int .i64 2) rfl
  rw [show (exT, 0, 0).1.length = 3 from rfl]
  clear hc hr hown
  go_wp2_with fail
  go_ret
  exact ⟨rfl, hS⟩

set_option maxRecDepth 100000 in
set_option maxHeartbeats 2000000 in
theorem lexAll_law (s : ByteArray) (w : World) (hG : Glob w) :
    Calls Tryd.prog 4 #[.string s] w fun e w' => e = .returned (.bool true) ∧ St w w' := by
  have hS := St.refl hG
  have haw := fun w1 hS1 => awake13_any w1 hS1
  by_cases hsz : (1500 : Int) < s.size
  · go_enter Tryd.func4, Tryd.ntmps4
    go_wp2_with (go_at_call 19; refine (haw _ hS.2).mono ?_; rintro e w' ⟨rfl, hb⟩; replace hS := hS.trans hb; clear hb)
    go_ret
    exact ⟨rfl, hS⟩
  have hl := lexall_any s w hG (by omega)
  have hm := fun w => rlexall_any s w (by omega)
  have hll := lexL_len s
  obtain ⟨⟨l, at0, e0⟩, hX⟩ : ∃ x, lexL s = x := ⟨_, rfl⟩
  rw [hX] at hl hm hll
  replace hll : l.length ≤ s.size + 1 := hll
  clear hX hG
  go_enter Tryd.func4, Tryd.ntmps4
  go_wp2_with fail
  refine hl.mono ?_; rintro e w1 ⟨⟨v, rfl, hown⟩, hb⟩
  replace hS := hS.step hb
  clear hl hb
  go_wp2_with fail
  refine (hm w1).mono ?_; rintro e w2 ⟨⟨u, rfl, hown2⟩, hb⟩
  replace hS := hS.step hb
  replace hown := ownsRow_below hown hb
  clear hm hb
  obtain ⟨a, cap, rfl, hr⟩ := row_read hown
  obtain ⟨b, cap2, rfl, hr2⟩ := row_read hown2
  have Hr := Lib.hid hr
  have Hr2 := Lib.hid hr2
  clear hr hr2 hown hown2
  go_wp2_with fail
  go_loopw [9] (fun v wr => ∃ k : Nat, v = .int .i64 k ∧ k ≤ l.length ∧ (∀ p, wr.cell? p = w2.cell? p) ∧ St w wr) (fun v _ => l.length - (intOf v).toNat)
  case atStart => exact ⟨0, rfl, by omega, fun _ => rfl, hS⟩
  case round =>
    clear hS
    obtain ⟨k, rfl, hk, hW, hS⟩ := hrel
    by_cases hlt : k < l.length
    · have q5 : (k : Int) < (l.length : Int) := by omega
      have q6 : (0 : Int) ≤ (k : Int) := by omega
      obtain ⟨g1, rfl, _, _, hg1⟩ := Hr.out (by omega)
      have c0 : wr.cell? ⟨g1, k * 4, none⟩ = some (.int .i64 l[k].kind) := (hW _).trans (hg1 _ _ (by have := flatT_at l k 0 hlt (by omega); rw [Nat.add_zero] at this; rw [this]; rfl))
      have c1 : wr.cell? ⟨g1, k * 4 + 1, none⟩ = some (.string l[k].s) := (hW _).trans (hg1 _ _ (by rw [flatT_at l k 1 hlt (by omega)]; rfl))
      have c2 : wr.cell? ⟨g1, k * 4 + 2, none⟩ = some (.int .i64 l[k].n) := (hW _).trans (hg1 _ _ (by rw [flatT_at l k 2 hlt (by omega)]; rfl))
      have c3 : wr.cell? ⟨g1, k * 4 + 3, none⟩ = some (.int .i64 l[k].at_) := (hW _).trans (hg1 _ _ (by rw [flatT_at l k 3 hlt (by omega)]; rfl))
      clear hg1
      obtain ⟨g2, rfl, _, _, hg2⟩ := Hr2.out (by omega)
      have d0 : wr.cell? ⟨g2, k * 4, none⟩ = some (.int .i64 l[k].kind) := (hW _).trans (hg2 _ _ (by have := flatT_at l k 0 hlt (by omega); rw [Nat.add_zero] at this; rw [this]; rfl))
      have d1 : wr.cell? ⟨g2, k * 4 + 1, none⟩ = some (.string l[k].s) := (hW _).trans (hg2 _ _ (by rw [flatT_at l k 1 hlt (by omega)]; rfl))
      have d2 : wr.cell? ⟨g2, k * 4 + 2, none⟩ = some (.int .i64 l[k].n) := (hW _).trans (hg2 _ _ (by rw [flatT_at l k 2 hlt (by omega)]; rfl))
      have d3 : wr.cell? ⟨g2, k * 4 + 3, none⟩ = some (.int .i64 l[k].at_) := (hW _).trans (hg2 _ _ (by rw [flatT_at l k 3 hlt (by omega)]; rfl))
      clear hg2
      have HW := Lib.hid hW
      clear hW
      generalize l[k] = t at *
      go_wp2_with fail
      go_quiet (fail)
      go_wp2_with fail
      go_roundw
      case rel => exact ⟨k + 1, by go_num, by omega, HW.out, hS.step (below_drewN (Below.refl _ _) _)⟩
      case measure => simp [intOf]; omega
    · go_wp2_with (go_at_call 19; refine (haw _ hS.2).mono ?_; rintro e w' ⟨rfl, hb⟩; replace hS := hS.trans hb; clear hb)
      go_ret
      exact ⟨rfl, hS⟩

end Go.Proofs.YtljoenpgokhekaaDoor
