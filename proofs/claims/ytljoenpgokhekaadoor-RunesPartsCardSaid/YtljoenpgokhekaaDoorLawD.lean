/- Walks: the laws of layer 1: RunesNames. -/
import Derived.Test.YtljoenpgokhekaaDoorLawC
namespace Go.Proofs.YtljoenpgokhekaaDoor
open Go.RowKit
open Cle

theorem more_idx (k : Int) (h0 : 0 ≤ k) (h1 : k < 4) : ∃ M : ByteArray, (∀ w, (Instr.index 43 (.agg #[.string ⟨#[97]⟩, .string ⟨#[95]⟩, .string ⟨#[55]⟩, .string ⟨#[195, 169]⟩]) (.int .i64 k)).run Tryd.prog w = .ok (.string M) w) ∧ M.size ≤ 2 ∧ (∀ d, 0 < d → ((pts M).map (Pt.shift d)).all Pt.named = true) := by
  have hk : k = 0 ∨ k = 1 ∨ k = 2 ∨ k = 3 := by omega
  rcases hk with rfl | rfl | rfl | rfl
  · refine ⟨⟨#[97]⟩, fun _ => by kernel_rfl, by decide, fun d hd => ?_⟩
    rw [show pts ⟨#[97]⟩ = [⟨97, 0, 1⟩] by rfl]; rfl
  · refine ⟨⟨#[95]⟩, fun _ => by kernel_rfl, by decide, fun d hd => ?_⟩
    rw [show pts ⟨#[95]⟩ = [⟨95, 0, 1⟩] by rfl]; rfl
  · refine ⟨⟨#[55]⟩, fun _ => by kernel_rfl, by decide, fun d hd => ?_⟩
    rw [show pts ⟨#[55]⟩ = [⟨55, 0, 1⟩] by rfl]
    simp only [List.map_cons, List.map_nil, List.all_cons, List.all_nil, Bool.and_true, Pt.shift, Pt.named, Pt.ok]
    rw [show decide (0 < 0 + d) = true from decide_eq_true (by omega)]; rfl
  · refine ⟨⟨#[195, 169]⟩, fun _ => by kernel_rfl, by decide, fun d hd => ?_⟩
    rw [show pts ⟨#[195, 169]⟩ = [⟨233, 0, 2⟩] by rfl]; rfl

theorem bad_idx (k : Int) (h0 : 0 ≤ k) (h1 : k < 5) : ∃ b : UInt8, (∀ w, (Instr.index 56 (.agg #[.string ⟨#[32]⟩, .string ⟨#[45]⟩, .string ⟨#[255]⟩, .string ⟨#[65]⟩, .string ⟨#[39]⟩]) (.int .i64 k)).run Tryd.prog w = .ok (.string ⟨#[b]⟩) w) ∧ (b = 32 ∨ b = 45 ∨ b = 255 ∨ b = 65 ∨ b = 39) := by
  have hk : k = 0 ∨ k = 1 ∨ k = 2 ∨ k = 3 ∨ k = 4 := by omega
  rcases hk with rfl | rfl | rfl | rfl | rfl
  · exact ⟨32, fun _ => by kernel_rfl, by decide⟩
  · exact ⟨45, fun _ => by kernel_rfl, by decide⟩
  · exact ⟨255, fun _ => by kernel_rfl, by decide⟩
  · exact ⟨65, fun _ => by kernel_rfl, by decide⟩
  · exact ⟨39, fun _ => by kernel_rfl, by decide⟩

set_option maxRecDepth 100000 in
set_option maxHeartbeats 2000000 in
theorem runesNames_any (s : ByteArray) (which : Int) (w : World) (hG : Glob w) (hn0 : -9223372036854775808 ≤ which) (hn1 : which ≤ 9223372036854775807) :
    Calls Tryd.prog 10 #[.string s, .int .i64 which] w fun e w' => e = .returned (.bool true) ∧ St w w' := by
  have hS := St.refl hG
  clear hG
  by_cases hsz : 300 < s.size
  · clear hn0 hn1
    go_enter Tryd.func10, Tryd.ntmps10
    go_wp2_with (go_at_call 25; refine (awake01_any _ hS.2).mono ?_; rintro e w' ⟨rfl, hb⟩; replace hS := hS.trans hb; clear hb)
    go_ret
    exact ⟨rfl, hS⟩
  · have hs1 : s.size ≤ 300 := by omega
    clear hsz
    have p4 := Lib.hid (fun w => place_any which 4 w (by omega) (by omega) hn0 hn1)
    have p5 := Lib.hid (fun w => place_any which 5 w (by omega) (by omega) hn0 hn1)
    obtain ⟨k4, hk4⟩ : ∃ k, which % 4 = k := ⟨_, rfl⟩
    obtain ⟨k5, hk5⟩ : ∃ k, which % 5 = k := ⟨_, rfl⟩
    obtain ⟨M, hM, hMs, hMn⟩ := more_idx k4 (by omega) (by omega)
    obtain ⟨b, hB, hBb⟩ := bad_idx k5 (by omega) (by omega)
    rw [hk4] at p4
    rw [hk5] at p5
    clear hk4 hk5 hn0 hn1
    have hbad := name_bad s b hBb
    have h7 := name_seven s
    have hff := fold_fold s
    have hfs := fold_size s
    have HM := Lib.hid (name_more s M hMn)
    have HF := Lib.hid (name_fold s)
    clear hMn hBb
    have hsM : (s ++ M).size ≤ 1000000 := by rw [ByteArray.size_append]; omega
    have hsb : (s ++ ⟨#[b]⟩).size ≤ 1000000 := by rw [ByteArray.size_append]; show s.size + 1 ≤ _; omega
    have hs7 : (⟨#[55]⟩ ++ s).size ≤ 1000000 := by rw [ByteArray.size_append]; show 1 + s.size ≤ _; omega
    have c0 := fun w hG => name_any s w hG (by omega)
    have c1 := fun w hG => name_any (s ++ M) w hG hsM
    have c2 := fun w hG => name_any (s ++ ⟨#[b]⟩) w hG hsb
    have c3 := fun w hG => name_any (⟨#[55]⟩ ++ s) w hG hs7
    have f0 := fun w => fold_any s w (by omega)
    have f1 := fun w => fold_any (fold s) w (by omega)
    rw [hbad] at c2
    rw [h7] at c3
    rw [hff] at f1
    clear hbad h7 hff hsM hsb hs7
    cases hN : name s
    · rw [hN] at c0
      clear hN HM HF
      have C0 := Lib.hid c0; have C1 := Lib.hid c1; have C2 := Lib.hid c2; have C3 := Lib.hid c3; have F0 := Lib.hid f0; have F1 := Lib.hid f1
      clear c0 c1 c2 c3 f0 f1
      obtain ⟨FS, hFS⟩ : ∃ FS, fold s = FS := ⟨_, rfl⟩
      rw [hFS] at F0 F1 hfs
      have hfs2 : (FS.size : Int) = (s.size : Int) := by omega
      clear hFS hfs
      go_enter Tryd.func10, Tryd.ntmps10
      go_wp2_with fail
      refine (C0.out _ hS.2).mono ?_; rintro e w1 ⟨rfl, hb⟩; replace hS := hS.step hb; clear hb
      go_wp2_with fail
      refine (p4.out _).mono ?_; rintro e w1 ⟨rfl, rfl⟩
      go_wp2_with fail
      refine (p5.out _).mono ?_; rintro e w1 ⟨rfl, rfl⟩
      go_wp2_with fail
      refine (C2.out _ hS.2).mono ?_; rintro e w1 ⟨rfl, hb⟩; replace hS := hS.step hb; clear hb
      go_wp2_with fail
      refine (C3.out _ hS.2).mono ?_; rintro e w1 ⟨rfl, hb⟩; replace hS := hS.step hb; clear hb
      go_wp2_with fail
      refine (F0.out _).mono ?_; rintro e w1 ⟨rfl, hb⟩; replace hS := hS.step hb; clear hb
      go_wp2_with fail
      refine (F1.out _).mono ?_; rintro e w1 ⟨rfl, hb⟩; replace hS := hS.step hb; clear hb
      go_wp2_with fail
      refine (F0.out _).mono ?_; rintro e w1 ⟨rfl, hb⟩; replace hS := hS.step hb; clear hb
      go_wp2_with fail
      refine (F0.out _).mono ?_; rintro e w1 ⟨rfl, hb⟩; replace hS := hS.step hb; clear hb
      go_wp2_with fail
      refine (awake01_any _ hS.2).mono ?_; rintro e w' ⟨rfl, hb⟩; replace hS := hS.trans hb; clear hb
      go_wp2_with fail
      go_ret
      exact ⟨rfl, hS⟩
    · rw [hN] at c0
      rw [HM.out hN] at c1
      rw [HF.out hN] at f0 f1
      clear hN HM HF hfs
      have C0 := Lib.hid c0; have C1 := Lib.hid c1; have C2 := Lib.hid c2; have C3 := Lib.hid c3; have F0 := Lib.hid f0; have F1 := Lib.hid f1
      clear c0 c1 c2 c3 f0 f1
      go_enter Tryd.func10, Tryd.ntmps10
      go_wp2_with fail
      refine (C0.out _ hS.2).mono ?_; rintro e w1 ⟨rfl, hb⟩; replace hS := hS.step hb; clear hb
      go_wp2_with fail
      refine (p4.out _).mono ?_; rintro e w1 ⟨rfl, rfl⟩
      go_wp2_with fail
      refine (p5.out _).mono ?_; rintro e w1 ⟨rfl, rfl⟩
      go_wp2_with fail
      refine (C1.out _ hS.2).mono ?_; rintro e w1 ⟨rfl, hb⟩; replace hS := hS.step hb; clear hb
      go_wp2_with fail
      refine (C2.out _ hS.2).mono ?_; rintro e w1 ⟨rfl, hb⟩; replace hS := hS.step hb; clear hb
      go_wp2_with fail
      refine (C3.out _ hS.2).mono ?_; rintro e w1 ⟨rfl, hb⟩; replace hS := hS.step hb; clear hb
      go_wp2_with fail
      refine (F0.out _).mono ?_; rintro e w1 ⟨rfl, hb⟩; replace hS := hS.step hb; clear hb
      go_wp2_with fail
      refine (F1.out _).mono ?_; rintro e w1 ⟨rfl, hb⟩; replace hS := hS.step hb; clear hb
      go_wp2_with fail
      refine (F0.out _).mono ?_; rintro e w1 ⟨rfl, hb⟩; replace hS := hS.step hb; clear hb
      go_wp2_with fail
      refine (F0.out _).mono ?_; rintro e w1 ⟨rfl, hb⟩; replace hS := hS.step hb; clear hb
      go_wp2_with fail
      refine (F0.out _).mono ?_; rintro e w1 ⟨rfl, hb⟩; replace hS := hS.step hb; clear hb
      go_wp2_with fail
      refine (awake01_any _ hS.2).mono ?_; rintro e w' ⟨rfl, hb⟩; replace hS := hS.trans hb; clear hb
      go_wp2_with fail
      go_ret
      exact ⟨rfl, hS⟩

end Go.Proofs.YtljoenpgokhekaaDoor
