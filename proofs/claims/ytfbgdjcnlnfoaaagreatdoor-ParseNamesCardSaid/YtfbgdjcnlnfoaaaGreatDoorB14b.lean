/- Parts of the proof, joined: LawPA. -/
import Derived.Test.YtfbgdjcnlnfoaaaGreatDoorB01
import Derived.Test.YtfbgdjcnlnfoaaaGreatDoorB13e
namespace Go.Proofs.YtfbgdjcnlnfoaaaGreatDoor
open Go.RowKit
open Cle

def let26 : ByteArray := (⟨#[113, 120, 122, 106, 118, 119, 121, 107, 113, 120, 122, 106, 118, 119, 121, 107, 113, 120, 122, 106, 118, 119, 121, 107, 113, 120]⟩ : ByteArray)
def ltA (v : Nat) : UInt8 := let26.data.getD v 0
theorem ltA_cut : ∀ v < 26, let26.extract v (v + 1) = ⟨#[ltA v]⟩ ∧ ltA v ∈ rare := by decide +kernel
theorem index12_0 (w : World) : (Instr.index 50 (.agg #[.string (⟨#[115, 101, 108, 101, 99, 116]⟩ : ByteArray), .string (⟨#[70, 82, 79, 77]⟩ : ByteArray), .string (⟨#[84, 97, 98, 108, 101]⟩ : ByteArray), .string (⟨#[105, 110, 116]⟩ : ByteArray), .string (⟨#[116, 101, 120, 116]⟩ : ByteArray), .string (⟨#[116, 116, 108]⟩ : ByteArray), .string (⟨#[98, 97, 116, 99, 104]⟩ : ByteArray), .string (⟨#[97, 112, 112, 108, 121]⟩ : ByteArray), .string (⟨#[107, 101, 121]⟩ : ByteArray), .string (⟨#[97, 110, 100]⟩ : ByteArray), .string (⟨#[105, 115]⟩ : ByteArray), .string (⟨#[110, 111, 116]⟩ : ByteArray)]) (.int .i64 0)).run Tryz.prog w = .ok (.string (⟨#[115, 101, 108, 101, 99, 116]⟩ : ByteArray)) w := by kernel_rfl
theorem index12_1 (w : World) : (Instr.index 50 (.agg #[.string (⟨#[115, 101, 108, 101, 99, 116]⟩ : ByteArray), .string (⟨#[70, 82, 79, 77]⟩ : ByteArray), .string (⟨#[84, 97, 98, 108, 101]⟩ : ByteArray), .string (⟨#[105, 110, 116]⟩ : ByteArray), .string (⟨#[116, 101, 120, 116]⟩ : ByteArray), .string (⟨#[116, 116, 108]⟩ : ByteArray), .string (⟨#[98, 97, 116, 99, 104]⟩ : ByteArray), .string (⟨#[97, 112, 112, 108, 121]⟩ : ByteArray), .string (⟨#[107, 101, 121]⟩ : ByteArray), .string (⟨#[97, 110, 100]⟩ : ByteArray), .string (⟨#[105, 115]⟩ : ByteArray), .string (⟨#[110, 111, 116]⟩ : ByteArray)]) (.int .i64 1)).run Tryz.prog w = .ok (.string (⟨#[70, 82, 79, 77]⟩ : ByteArray)) w := by kernel_rfl
theorem index12_2 (w : World) : (Instr.index 50 (.agg #[.string (⟨#[115, 101, 108, 101, 99, 116]⟩ : ByteArray), .string (⟨#[70, 82, 79, 77]⟩ : ByteArray), .string (⟨#[84, 97, 98, 108, 101]⟩ : ByteArray), .string (⟨#[105, 110, 116]⟩ : ByteArray), .string (⟨#[116, 101, 120, 116]⟩ : ByteArray), .string (⟨#[116, 116, 108]⟩ : ByteArray), .string (⟨#[98, 97, 116, 99, 104]⟩ : ByteArray), .string (⟨#[97, 112, 112, 108, 121]⟩ : ByteArray), .string (⟨#[107, 101, 121]⟩ : ByteArray), .string (⟨#[97, 110, 100]⟩ : ByteArray), .string (⟨#[105, 115]⟩ : ByteArray), .string (⟨#[110, 111, 116]⟩ : ByteArray)]) (.int .i64 2)).run Tryz.prog w = .ok (.string (⟨#[84, 97, 98, 108, 101]⟩ : ByteArray)) w := by kernel_rfl
theorem index12_3 (w : World) : (Instr.index 50 (.agg #[.string (⟨#[115, 101, 108, 101, 99, 116]⟩ : ByteArray), .string (⟨#[70, 82, 79, 77]⟩ : ByteArray), .string (⟨#[84, 97, 98, 108, 101]⟩ : ByteArray), .string (⟨#[105, 110, 116]⟩ : ByteArray), .string (⟨#[116, 101, 120, 116]⟩ : ByteArray), .string (⟨#[116, 116, 108]⟩ : ByteArray), .string (⟨#[98, 97, 116, 99, 104]⟩ : ByteArray), .string (⟨#[97, 112, 112, 108, 121]⟩ : ByteArray), .string (⟨#[107, 101, 121]⟩ : ByteArray), .string (⟨#[97, 110, 100]⟩ : ByteArray), .string (⟨#[105, 115]⟩ : ByteArray), .string (⟨#[110, 111, 116]⟩ : ByteArray)]) (.int .i64 3)).run Tryz.prog w = .ok (.string (⟨#[105, 110, 116]⟩ : ByteArray)) w := by kernel_rfl
theorem index12_4 (w : World) : (Instr.index 50 (.agg #[.string (⟨#[115, 101, 108, 101, 99, 116]⟩ : ByteArray), .string (⟨#[70, 82, 79, 77]⟩ : ByteArray), .string (⟨#[84, 97, 98, 108, 101]⟩ : ByteArray), .string (⟨#[105, 110, 116]⟩ : ByteArray), .string (⟨#[116, 101, 120, 116]⟩ : ByteArray), .string (⟨#[116, 116, 108]⟩ : ByteArray), .string (⟨#[98, 97, 116, 99, 104]⟩ : ByteArray), .string (⟨#[97, 112, 112, 108, 121]⟩ : ByteArray), .string (⟨#[107, 101, 121]⟩ : ByteArray), .string (⟨#[97, 110, 100]⟩ : ByteArray), .string (⟨#[105, 115]⟩ : ByteArray), .string (⟨#[110, 111, 116]⟩ : ByteArray)]) (.int .i64 4)).run Tryz.prog w = .ok (.string (⟨#[116, 101, 120, 116]⟩ : ByteArray)) w := by kernel_rfl
theorem index12_5 (w : World) : (Instr.index 50 (.agg #[.string (⟨#[115, 101, 108, 101, 99, 116]⟩ : ByteArray), .string (⟨#[70, 82, 79, 77]⟩ : ByteArray), .string (⟨#[84, 97, 98, 108, 101]⟩ : ByteArray), .string (⟨#[105, 110, 116]⟩ : ByteArray), .string (⟨#[116, 101, 120, 116]⟩ : ByteArray), .string (⟨#[116, 116, 108]⟩ : ByteArray), .string (⟨#[98, 97, 116, 99, 104]⟩ : ByteArray), .string (⟨#[97, 112, 112, 108, 121]⟩ : ByteArray), .string (⟨#[107, 101, 121]⟩ : ByteArray), .string (⟨#[97, 110, 100]⟩ : ByteArray), .string (⟨#[105, 115]⟩ : ByteArray), .string (⟨#[110, 111, 116]⟩ : ByteArray)]) (.int .i64 5)).run Tryz.prog w = .ok (.string (⟨#[116, 116, 108]⟩ : ByteArray)) w := by kernel_rfl
theorem index12_6 (w : World) : (Instr.index 50 (.agg #[.string (⟨#[115, 101, 108, 101, 99, 116]⟩ : ByteArray), .string (⟨#[70, 82, 79, 77]⟩ : ByteArray), .string (⟨#[84, 97, 98, 108, 101]⟩ : ByteArray), .string (⟨#[105, 110, 116]⟩ : ByteArray), .string (⟨#[116, 101, 120, 116]⟩ : ByteArray), .string (⟨#[116, 116, 108]⟩ : ByteArray), .string (⟨#[98, 97, 116, 99, 104]⟩ : ByteArray), .string (⟨#[97, 112, 112, 108, 121]⟩ : ByteArray), .string (⟨#[107, 101, 121]⟩ : ByteArray), .string (⟨#[97, 110, 100]⟩ : ByteArray), .string (⟨#[105, 115]⟩ : ByteArray), .string (⟨#[110, 111, 116]⟩ : ByteArray)]) (.int .i64 6)).run Tryz.prog w = .ok (.string (⟨#[98, 97, 116, 99, 104]⟩ : ByteArray)) w := by kernel_rfl
theorem index12_7 (w : World) : (Instr.index 50 (.agg #[.string (⟨#[115, 101, 108, 101, 99, 116]⟩ : ByteArray), .string (⟨#[70, 82, 79, 77]⟩ : ByteArray), .string (⟨#[84, 97, 98, 108, 101]⟩ : ByteArray), .string (⟨#[105, 110, 116]⟩ : ByteArray), .string (⟨#[116, 101, 120, 116]⟩ : ByteArray), .string (⟨#[116, 116, 108]⟩ : ByteArray), .string (⟨#[98, 97, 116, 99, 104]⟩ : ByteArray), .string (⟨#[97, 112, 112, 108, 121]⟩ : ByteArray), .string (⟨#[107, 101, 121]⟩ : ByteArray), .string (⟨#[97, 110, 100]⟩ : ByteArray), .string (⟨#[105, 115]⟩ : ByteArray), .string (⟨#[110, 111, 116]⟩ : ByteArray)]) (.int .i64 7)).run Tryz.prog w = .ok (.string (⟨#[97, 112, 112, 108, 121]⟩ : ByteArray)) w := by kernel_rfl
theorem index12_8 (w : World) : (Instr.index 50 (.agg #[.string (⟨#[115, 101, 108, 101, 99, 116]⟩ : ByteArray), .string (⟨#[70, 82, 79, 77]⟩ : ByteArray), .string (⟨#[84, 97, 98, 108, 101]⟩ : ByteArray), .string (⟨#[105, 110, 116]⟩ : ByteArray), .string (⟨#[116, 101, 120, 116]⟩ : ByteArray), .string (⟨#[116, 116, 108]⟩ : ByteArray), .string (⟨#[98, 97, 116, 99, 104]⟩ : ByteArray), .string (⟨#[97, 112, 112, 108, 121]⟩ : ByteArray), .string (⟨#[107, 101, 121]⟩ : ByteArray), .string (⟨#[97, 110, 100]⟩ : ByteArray), .string (⟨#[105, 115]⟩ : ByteArray), .string (⟨#[110, 111, 116]⟩ : ByteArray)]) (.int .i64 8)).run Tryz.prog w = .ok (.string (⟨#[107, 101, 121]⟩ : ByteArray)) w := by kernel_rfl
theorem index12_9 (w : World) : (Instr.index 50 (.agg #[.string (⟨#[115, 101, 108, 101, 99, 116]⟩ : ByteArray), .string (⟨#[70, 82, 79, 77]⟩ : ByteArray), .string (⟨#[84, 97, 98, 108, 101]⟩ : ByteArray), .string (⟨#[105, 110, 116]⟩ : ByteArray), .string (⟨#[116, 101, 120, 116]⟩ : ByteArray), .string (⟨#[116, 116, 108]⟩ : ByteArray), .string (⟨#[98, 97, 116, 99, 104]⟩ : ByteArray), .string (⟨#[97, 112, 112, 108, 121]⟩ : ByteArray), .string (⟨#[107, 101, 121]⟩ : ByteArray), .string (⟨#[97, 110, 100]⟩ : ByteArray), .string (⟨#[105, 115]⟩ : ByteArray), .string (⟨#[110, 111, 116]⟩ : ByteArray)]) (.int .i64 9)).run Tryz.prog w = .ok (.string (⟨#[97, 110, 100]⟩ : ByteArray)) w := by kernel_rfl
theorem index12_10 (w : World) : (Instr.index 50 (.agg #[.string (⟨#[115, 101, 108, 101, 99, 116]⟩ : ByteArray), .string (⟨#[70, 82, 79, 77]⟩ : ByteArray), .string (⟨#[84, 97, 98, 108, 101]⟩ : ByteArray), .string (⟨#[105, 110, 116]⟩ : ByteArray), .string (⟨#[116, 101, 120, 116]⟩ : ByteArray), .string (⟨#[116, 116, 108]⟩ : ByteArray), .string (⟨#[98, 97, 116, 99, 104]⟩ : ByteArray), .string (⟨#[97, 112, 112, 108, 121]⟩ : ByteArray), .string (⟨#[107, 101, 121]⟩ : ByteArray), .string (⟨#[97, 110, 100]⟩ : ByteArray), .string (⟨#[105, 115]⟩ : ByteArray), .string (⟨#[110, 111, 116]⟩ : ByteArray)]) (.int .i64 10)).run Tryz.prog w = .ok (.string (⟨#[105, 115]⟩ : ByteArray)) w := by kernel_rfl
theorem index12_11 (w : World) : (Instr.index 50 (.agg #[.string (⟨#[115, 101, 108, 101, 99, 116]⟩ : ByteArray), .string (⟨#[70, 82, 79, 77]⟩ : ByteArray), .string (⟨#[84, 97, 98, 108, 101]⟩ : ByteArray), .string (⟨#[105, 110, 116]⟩ : ByteArray), .string (⟨#[116, 101, 120, 116]⟩ : ByteArray), .string (⟨#[116, 116, 108]⟩ : ByteArray), .string (⟨#[98, 97, 116, 99, 104]⟩ : ByteArray), .string (⟨#[97, 112, 112, 108, 121]⟩ : ByteArray), .string (⟨#[107, 101, 121]⟩ : ByteArray), .string (⟨#[97, 110, 100]⟩ : ByteArray), .string (⟨#[105, 115]⟩ : ByteArray), .string (⟨#[110, 111, 116]⟩ : ByteArray)]) (.int .i64 11)).run Tryz.prog w = .ok (.string (⟨#[110, 111, 116]⟩ : ByteArray)) w := by kernel_rfl
theorem index12 (j : Nat) (hj : j < 12) (w : World) : (Instr.index 50 (.agg #[.string (⟨#[115, 101, 108, 101, 99, 116]⟩ : ByteArray), .string (⟨#[70, 82, 79, 77]⟩ : ByteArray), .string (⟨#[84, 97, 98, 108, 101]⟩ : ByteArray), .string (⟨#[105, 110, 116]⟩ : ByteArray), .string (⟨#[116, 101, 120, 116]⟩ : ByteArray), .string (⟨#[116, 116, 108]⟩ : ByteArray), .string (⟨#[98, 97, 116, 99, 104]⟩ : ByteArray), .string (⟨#[97, 112, 112, 108, 121]⟩ : ByteArray), .string (⟨#[107, 101, 121]⟩ : ByteArray), .string (⟨#[97, 110, 100]⟩ : ByteArray), .string (⟨#[105, 115]⟩ : ByteArray), .string (⟨#[110, 111, 116]⟩ : ByteArray)]) (.int .i64 (j : Int))).run Tryz.prog w = .ok (.string (words12.getD j ⟨#[]⟩)) w := by
  have h : j = 0 ∨ j = 1 ∨ j = 2 ∨ j = 3 ∨ j = 4 ∨ j = 5 ∨ j = 6 ∨ j = 7 ∨ j = 8 ∨ j = 9 ∨ j = 10 ∨ j = 11 := by omega
  rcases h with rfl | rfl | rfl | rfl | rfl | rfl | rfl | rfl | rfl | rfl | rfl | rfl
  · exact index12_0 w
  · exact index12_1 w
  · exact index12_2 w
  · exact index12_3 w
  · exact index12_4 w
  · exact index12_5 w
  · exact index12_6 w
  · exact index12_7 w
  · exact index12_8 w
  · exact index12_9 w
  · exact index12_10 w
  · exact index12_11 w
theorem word12 (j : Nat) (hj : j < 12) : wordy (words12.getD j ⟨#[]⟩) = true ∧ (words12.getD j ⟨#[]⟩).size ≤ 100 ∧ (parseL ((⟨#[68, 82, 79, 80, 32]⟩ : ByteArray) ++ words12.getD j ⟨#[]⟩)).2 = (5, 3) := by
  have hm : words12.getD j ⟨#[]⟩ ∈ words12 := by
    rw [List.getD_eq_getElem?_getD, List.getElem?_eq_getElem (show j < words12.length from hj)]
    exact List.getElem_mem _
  have h1 := List.all_eq_true.1 words_ok _ hm
  have h2 := List.all_eq_true.1 words_bad _ hm
  simp only [Bool.and_eq_true, decide_eq_true_eq] at h1 h2
  exact ⟨h1.1, h1.2, h2⟩
theorem snoc_str (l : List UInt8) (c : UInt8) : (⟨l.toArray⟩ : ByteArray) ++ ⟨#[c]⟩ = ⟨(l ++ [c]).toArray⟩ := by
  apply ByteArray.ext; apply Array.ext'; simp
set_option maxRecDepth 100000 in
set_option maxHeartbeats 8000000 in
theorem parseNames_law (V : Value) (zs : List Int) (word : Int) (w : World) (hG : Gp w) (hV : IntsIn w V zs) (hz : ∀ z ∈ zs, -9223372036854775808 ≤ z ∧ z ≤ 9223372036854775807) (hzl : zs.length ≤ 9223372036854775807) (hw0 : -9223372036854775808 ≤ word) (hw1 : word ≤ 9223372036854775807) :
    Calls Tryz.prog 8 #[V, .int .i64 word] w fun e w' => e = .returned (.bool true) ∧ Sp w w' := by
  obtain ⟨a0, cap0, rfl, hcell⟩ := hV
  have HC := Lib.hid hcell
  have HZ := Lib.hid hz
  have HG := Lib.hid hG
  have HW := Lib.hid (show -9223372036854775808 ≤ word ∧ word ≤ 9223372036854775807 from ⟨hw0, hw1⟩)
  clear hcell hz hG hw0 hw1
  go_enter Tryz.func8, Tryz.ntmps8
  go_wp2_with fail
  go_loopw [5, 6, 7] (fun s i _ wr => ∃ (k : Nat) (l : List UInt8), i = .int .i64 k ∧ s = .string ⟨l.toArray⟩ ∧ k ≤ zs.length ∧ k ≤ 12 ∧ l.length = k ∧ Hid (∀ c ∈ l, c ∈ rare) ∧ Hid (Sp w wr)) (fun _ i _ _ => 13 - (intOf i).toNat)
  case atStart => exact ⟨0, [], rfl, rfl, Nat.zero_le _, Nat.zero_le _, rfl, fun c hc => absurd hc (by simp), Sp.refl HG.out⟩
  case round =>
    obtain ⟨k, l, rfl, rfl, hk, hk12, hl, HR, HS⟩ := hrel
    by_cases hlt : k < zs.length
    · have q1 : ((k : Int) < (zs.length : Int)) := by omega
      by_cases hlt2 : k < 12
      · have q2 : ((k : Int) < 12) := by omega
        have hd2 : (0 : Int) ≤ (k : Int) := by omega
        obtain ⟨g, off, rfl, hg, hc⟩ := HC.out (by omega)
        have c0 : wr.cell? ⟨g, off + k, none⟩ = some (.int .i64 zs[k]) := (HS.out.1.cell (p := ⟨g, off + k, none⟩) hg).trans (hc k hlt)
        have hz1 := HZ.out zs[k] (List.getElem_mem hlt)
        clear hc
        obtain ⟨z, hzv⟩ : ∃ z, zs[k] = z := ⟨_, rfl⟩
        rw [hzv] at c0 hz1
        clear hzv
        have hpl := fun w => place_any z 26 w (by omega) (by omega) hz1.1 hz1.2
        obtain ⟨v, hv⟩ : ∃ v : Nat, z % 26 = v := ⟨(z % 26).toNat, by omega⟩
        have hvl : v < 26 := by omega
        rw [hv] at hpl
        have HA := Lib.hid (ltA_cut v hvl)
        have HK := Lib.hid hl
        have hls := add_str (⟨l.toArray⟩ : ByteArray) (let26.extract v (v + 1)) (by rw [HA.out.1]; show l.length + 1 ≤ _; omega)
        unfold let26 at hls
        clear hv hz1 hl
        go_wp2_with fail
        refine (hpl _).mono ?_; rintro e w1 ⟨rfl, rfl⟩
        have p2 : (v : Int) + 1 ≤ 26 := by omega
        have p3 : (v : Int) ≤ (v : Int) + 1 := by omega
        have p4 : (0 : Int) ≤ (v : Int) := by omega
        have t1 : ((v : Int) + 1).toNat = v + 1 := by omega
        go_wp2_with fail
        go_roundw
        case rel => exact ⟨k + 1, l ++ [ltA v], by go_num, by rw [← snoc_str, ← HA.out.1]; rfl, by omega, by omega, by rw [List.length_append, HK.out]; rfl, fun c hc => by
          rcases List.mem_append.1 hc with h | h
          · exact HR.out c h
          · rw [List.mem_singleton.1 h]; exact HA.out.2, HS⟩
        case measure => simp [intOf]; omega
      · have q2 : ¬ ((k : Int) < 12) := by omega
        have hie : l.isEmpty = false := by
          cases l with
          | nil => exact absurd hl (by show ¬ 0 = k; omega)
          | cons => rfl
        have HL0 := Lib.hid hl
        have hke : k = 12 := by omega
        have HKE := Lib.hid hke
        clear hl hke
        have HSS : Hid (∀ c ∈ l, c ∈ rare) := Lib.hid (HR.out)
        have HNE : Hid (l ≠ []) := Lib.hid (fun h => by have := HL0.out; have h2 := HKE.out; rw [h] at this; have h3 : 0 = k := this; omega)
        have HLL : Hid ((l).length ≤ 12) := Lib.hid (by have := HL0.out; omega)
        have HNM : Hid (nameOK (⟨l.toArray⟩ : ByteArray)) := rare_name HSS.out HNE.out (by have := HLL.out; omega)
        have hsz : ((⟨l.toArray⟩ : ByteArray)).size ≤ 12 := HLL.out
        have hpl := fun w => place_any word 12 w (by omega) (by omega) HW.out.1 HW.out.2
        obtain ⟨j, hj⟩ : ∃ j : Nat, word % 12 = j := ⟨(word % 12).toNat, by omega⟩
        have hjl : j < 12 := by omega
        rw [hj] at hpl
        clear hj
        obtain ⟨y1, y2, y3⟩ := word12 j hjl
        have hix := index12 j hjl
        obtain ⟨W, hWd⟩ : ∃ W, words12.getD j ⟨#[]⟩ = W := ⟨_, rfl⟩
        rw [hWd] at y1 y2 y3 hix
        have HP1 : Hid (∀ w', Gp w' → Calls Tryz.prog 18 #[.string ((⟨#[68, 82, 79, 80, 32]⟩ : ByteArray) ++ (⟨l.toArray⟩ : ByteArray))] w' fun en w'' => ∃ (x : Sx) (tc c s wv pv : Value) (L : List Pw), en = .returned (.tuple #[.agg (stC x tc c s wv pv), .int .i64 0, .int .i64 0]) ∧ Below w'.heap.size w' w'' ∧ HasS w'' w'.heap.size ⟨x, tc, c, s, wv, pv⟩ L (dropS (⟨l.toArray⟩ : ByteArray))) := fun w' hG' => parse_at hG' (by rw [drop_parse HNM.out]) (by rw [drop_parse HNM.out]) (by rw [drop_parse HNM.out])
        have HP2 : Hid (∀ w', Gp w' → Calls Tryz.prog 18 #[.string ((⟨#[68, 82, 79, 80, 32]⟩ : ByteArray) ++ W)] w' fun en w'' => ∃ (x : Sx) (tc c s wv pv : Value) (L : List Pw), en = .returned (.tuple #[.agg (stC x tc c s wv pv), .int .i64 5, .int .i64 3]) ∧ Below w'.heap.size w' w'' ∧ HasS w'' w'.heap.size ⟨x, tc, c, s, wv, pv⟩ L (parseL ((⟨#[68, 82, 79, 80, 32]⟩ : ByteArray) ++ W)).1) := fun w' hG' => parse_at hG' rfl (by rw [y3]) (by rw [y3])
        have hnw := name_word HSS.out HNE.out (by have := HLL.out; omega) y1 y2
        have HP3 : Hid (∀ w', Gp w' → Calls Tryz.prog 18 #[.string ((((⟨#[68, 82, 79, 80, 32]⟩ : ByteArray) ++ (⟨l.toArray⟩ : ByteArray)) ++ (⟨#[32]⟩ : ByteArray)) ++ W)] w' fun en w'' => ∃ (x : Sx) (tc c s wv pv : Value) (L : List Pw), en = .returned (.tuple #[.agg (stC x tc c s wv pv), .int .i64 (6 + (((⟨l.toArray⟩ : ByteArray)).size : Int)), .int .i64 3]) ∧ Below w'.heap.size w' w'' ∧ HasS w'' w'.heap.size ⟨x, tc, c, s, wv, pv⟩ L Stt.zero) := fun w' hG' => parse_at hG' (by rw [hnw]) (by rw [hnw]; show (((6 + (l).length : Nat)) : Int) = 6 + (((l).length : Nat) : Int); omega) (by rw [hnw])
        have hnm : (dropS (⟨l.toArray⟩ : ByteArray)).x.name = (⟨l.toArray⟩ : ByteArray) := rfl
        obtain ⟨A1, eA1⟩ : ∃ r, (⟨#[68, 82, 79, 80, 32]⟩ : ByteArray) ++ (⟨l.toArray⟩ : ByteArray) = r := ⟨_, rfl⟩
        have hA1 := add_str (⟨#[68, 82, 79, 80, 32]⟩ : ByteArray) (⟨l.toArray⟩ : ByteArray) (by show 5 + _ ≤ _; omega)
        rw [eA1] at hA1 HP1 HP3
        have zA1 : A1.size ≤ 17 := by rw [← eA1, ByteArray.size_append]; show 5 + _ ≤ _; omega
        obtain ⟨A2, eA2⟩ : ∃ r, (⟨#[68, 82, 79, 80, 32]⟩ : ByteArray) ++ W = r := ⟨_, rfl⟩
        have hA2 := add_str (⟨#[68, 82, 79, 80, 32]⟩ : ByteArray) W (by show 5 + _ ≤ _; omega)
        rw [eA2] at hA2 HP2
        obtain ⟨A3, eA3⟩ : ∃ r, A1 ++ (⟨#[32]⟩ : ByteArray) = r := ⟨_, rfl⟩
        have hA3 := add_str A1 (⟨#[32]⟩ : ByteArray) (by show _ + 1 ≤ _; omega)
        rw [eA3] at hA3 HP3
        have zA3 : A3.size ≤ 18 := by rw [← eA3, ByteArray.size_append]; show _ + 1 ≤ _; omega
        obtain ⟨A4, eA4⟩ : ∃ r, A3 ++ W = r := ⟨_, rfl⟩
        have hA4 := add_str A3 W (by omega)
        rw [eA4] at hA4 HP3
        have hSS : (((⟨l.toArray⟩ : ByteArray)).toList == ((⟨l.toArray⟩ : ByteArray)).toList) = true := tl_eq rfl
        obtain ⟨SZ, eSZ⟩ : ∃ z, dropS (⟨l.toArray⟩ : ByteArray) = z := ⟨_, rfl⟩
        rw [eSZ] at hnm HP1
        have HNm := Lib.hid hnm
        clear hnm eSZ hnw y1 y2 y3 hWd zA1 zA3 hsz
        have hA1T := hA1
        obtain ⟨T, hT⟩ : ∃ T, (⟨l.toArray⟩ : ByteArray) = T := ⟨_, rfl⟩
        rw [hT] at HNm HP3 hA1T
        clear hSS
        have HT := Lib.hid hT
        clear hT
        go_wp2_with fail
        rw [HT.out]
        have hTs : T.size ≤ 12 := by rw [← HT.out]; exact HLL.out
        have hTi : 6 + (T.size : Int) ≤ 18 := by omega
        have hTj : (0 : Int) ≤ 6 + (T.size : Int) := by omega
        refine (HP1.out _ HS.out.2).mono ?_; rintro en w1 ⟨x, tc, c, s, wv, pv, L1, rfl, hb1, hS1⟩
        have hk1 := HS.out.step hb1
        have hq1 := hS1.wd.one
        have hxn : x.name = T := by rw [show x = SZ.x from hS1.x]; exact HNm.out
        have HXN := Lib.hid hxn
        have hk2 := hk1.alloc (.cells (stC x tc c s wv pv) 31)
        have hbx := blk_new w1 (.cells (stC x tc c s wv pv) 31)
        clear hS1 hxn hb1
        go_wp2_with (refine wpl_sto2 rfl _ _ rfl rfl rfl rfl rfl hq1 ?_)
        refine (hpl _).mono ?_; rintro e w2 ⟨rfl, rfl⟩
        go_wp2_with fail
        refine (HP2.out _ hk2.2).mono ?_; rintro en w3 ⟨x2, tc2, c2, s2, wv2, pv2, L2, rfl, hb3, hS2⟩
        have hk3 := hk2.step hb3
        have hq2 := hS2.wd.one
        have hbx3 := keep_blk hb3 hbx
        have hk4 := hk3.alloc (.cells (stC x2 tc2 c2 s2 wv2 pv2) 31)
        have hbx4 := alloc_blk hbx3 (.cells (stC x2 tc2 c2 s2 wv2 pv2) 31)
        clear hS2 hb3 hbx hbx3
        go_wp2_with (refine wpl_sto2 rfl _ _ rfl rfl rfl rfl rfl hq2 ?_)
        refine (HP3.out _ hk4.2).mono ?_; rintro en w5 ⟨x3, tc3, c3, s3, wv3, pv3, L3, rfl, hb5, hS3⟩
        have hk5 := hk4.step hb5
        have hq3 := hS3.wd.one
        have hk6 := hk5.alloc (.cells (stC x3 tc3 c3 s3 wv3 pv3) 31)
        have hbx6 := alloc_blk (keep_blk hb5 hbx4) (.cells (stC x3 tc3 c3 s3 wv3 pv3) 31)
        obtain ⟨d0, d1, d2, d3, d4, d5, d6, d7, d8, d9, d10, d11, d12, d13, d14, d15, d16, d17⟩ := st18 hbx6
        rw [HXN.out] at d1
        have haw := awake14_any hk6.2
        clear hS3 hb5 hbx4 hbx6 d0 d2 d3 d4 d5 d6 d7 d8 d9 d10 d11 d12 d13 d14 d15 d16 d17
        go_wp2_with (refine wpl_sto2 rfl _ _ rfl rfl rfl rfl rfl hq3 ?_)
        refine haw.mono ?_; rintro e w7 ⟨rfl, h7⟩
        go_wp2_with fail
        go_ret
        exact ⟨rfl, hk6.trans h7⟩
    · have q1 : ¬ ((k : Int) < (zs.length : Int)) := by omega
      have HL0 := Lib.hid hl
      clear hl
      cases l with
      | nil =>
        have HSS : Hid (∀ c ∈ ([113] : List UInt8), c ∈ rare) := Lib.hid (fun c hc => by rw [List.mem_singleton.1 hc]; decide)
        have HNE : Hid (([113] : List UInt8) ≠ []) := Lib.hid (by decide)
        have HLL : Hid ((([113] : List UInt8)).length ≤ 12) := Lib.hid (by decide)
        have HNM : Hid (nameOK (⟨#[113]⟩ : ByteArray)) := rare_name HSS.out HNE.out (by have := HLL.out; omega)
        have hsz : ((⟨#[113]⟩ : ByteArray)).size ≤ 12 := HLL.out
        have hpl := fun w => place_any word 12 w (by omega) (by omega) HW.out.1 HW.out.2
        obtain ⟨j, hj⟩ : ∃ j : Nat, word % 12 = j := ⟨(word % 12).toNat, by omega⟩
        have hjl : j < 12 := by omega
        rw [hj] at hpl
        clear hj
        obtain ⟨y1, y2, y3⟩ := word12 j hjl
        have hix := index12 j hjl
        obtain ⟨W, hWd⟩ : ∃ W, words12.getD j ⟨#[]⟩ = W := ⟨_, rfl⟩
        rw [hWd] at y1 y2 y3 hix
        have HP1 : Hid (∀ w', Gp w' → Calls Tryz.prog 18 #[.string ((⟨#[68, 82, 79, 80, 32]⟩ : ByteArray) ++ (⟨#[113]⟩ : ByteArray))] w' fun en w'' => ∃ (x : Sx) (tc c s wv pv : Value) (L : List Pw), en = .returned (.tuple #[.agg (stC x tc c s wv pv), .int .i64 0, .int .i64 0]) ∧ Below w'.heap.size w' w'' ∧ HasS w'' w'.heap.size ⟨x, tc, c, s, wv, pv⟩ L (dropS (⟨#[113]⟩ : ByteArray))) := fun w' hG' => parse_at hG' (by rw [drop_parse HNM.out]) (by rw [drop_parse HNM.out]) (by rw [drop_parse HNM.out])
        have HP2 : Hid (∀ w', Gp w' → Calls Tryz.prog 18 #[.string ((⟨#[68, 82, 79, 80, 32]⟩ : ByteArray) ++ W)] w' fun en w'' => ∃ (x : Sx) (tc c s wv pv : Value) (L : List Pw), en = .returned (.tuple #[.agg (stC x tc c s wv pv), .int .i64 5, .int .i64 3]) ∧ Below w'.heap.size w' w'' ∧ HasS w'' w'.heap.size ⟨x, tc, c, s, wv, pv⟩ L (parseL ((⟨#[68, 82, 79, 80, 32]⟩ : ByteArray) ++ W)).1) := fun w' hG' => parse_at hG' rfl (by rw [y3]) (by rw [y3])
        have hnw := name_word HSS.out HNE.out (by have := HLL.out; omega) y1 y2
        have HP3 : Hid (∀ w', Gp w' → Calls Tryz.prog 18 #[.string ((((⟨#[68, 82, 79, 80, 32]⟩ : ByteArray) ++ (⟨#[113]⟩ : ByteArray)) ++ (⟨#[32]⟩ : ByteArray)) ++ W)] w' fun en w'' => ∃ (x : Sx) (tc c s wv pv : Value) (L : List Pw), en = .returned (.tuple #[.agg (stC x tc c s wv pv), .int .i64 (6 + (((⟨#[113]⟩ : ByteArray)).size : Int)), .int .i64 3]) ∧ Below w'.heap.size w' w'' ∧ HasS w'' w'.heap.size ⟨x, tc, c, s, wv, pv⟩ L Stt.zero) := fun w' hG' => parse_at hG' (by rw [hnw]) (by rw [hnw]; show (((6 + (([113] : List UInt8)).length : Nat)) : Int) = 6 + (((([113] : List UInt8)).length : Nat) : Int); omega) (by rw [hnw])
        have hnm : (dropS (⟨#[113]⟩ : ByteArray)).x.name = (⟨#[113]⟩ : ByteArray) := rfl
        obtain ⟨A1, eA1⟩ : ∃ r, (⟨#[68, 82, 79, 80, 32]⟩ : ByteArray) ++ (⟨#[113]⟩ : ByteArray) = r := ⟨_, rfl⟩
        have hA1 := add_str (⟨#[68, 82, 79, 80, 32]⟩ : ByteArray) (⟨#[113]⟩ : ByteArray) (by show 5 + _ ≤ _; omega)
        rw [eA1] at hA1 HP1 HP3
        have zA1 : A1.size ≤ 17 := by rw [← eA1, ByteArray.size_append]; show 5 + _ ≤ _; omega
        obtain ⟨A2, eA2⟩ : ∃ r, (⟨#[68, 82, 79, 80, 32]⟩ : ByteArray) ++ W = r := ⟨_, rfl⟩
        have hA2 := add_str (⟨#[68, 82, 79, 80, 32]⟩ : ByteArray) W (by show 5 + _ ≤ _; omega)
        rw [eA2] at hA2 HP2
        obtain ⟨A3, eA3⟩ : ∃ r, A1 ++ (⟨#[32]⟩ : ByteArray) = r := ⟨_, rfl⟩
        have hA3 := add_str A1 (⟨#[32]⟩ : ByteArray) (by show _ + 1 ≤ _; omega)
        rw [eA3] at hA3 HP3
        have zA3 : A3.size ≤ 18 := by rw [← eA3, ByteArray.size_append]; show _ + 1 ≤ _; omega
        obtain ⟨A4, eA4⟩ : ∃ r, A3 ++ W = r := ⟨_, rfl⟩
        have hA4 := add_str A3 W (by omega)
        rw [eA4] at hA4 HP3
        have hSS : (((⟨#[113]⟩ : ByteArray)).toList == ((⟨#[113]⟩ : ByteArray)).toList) = true := tl_eq rfl
        obtain ⟨SZ, eSZ⟩ : ∃ z, dropS (⟨#[113]⟩ : ByteArray) = z := ⟨_, rfl⟩
        rw [eSZ] at hnm HP1
        have HNm := Lib.hid hnm
        clear hnm eSZ hnw y1 y2 y3 hWd zA1 zA3 hsz
        go_wp2_with fail
        refine (HP1.out _ HS.out.2).mono ?_; rintro en w1 ⟨x, tc, c, s, wv, pv, L1, rfl, hb1, hS1⟩
        have hk1 := HS.out.step hb1
        have hq1 := hS1.wd.one
        have hxn : x.name = (⟨#[113]⟩ : ByteArray) := by rw [show x = SZ.x from hS1.x]; exact HNm.out
        have HXN := Lib.hid hxn
        have hk2 := hk1.alloc (.cells (stC x tc c s wv pv) 31)
        have hbx := blk_new w1 (.cells (stC x tc c s wv pv) 31)
        clear hS1 hxn hb1
        go_wp2_with (refine wpl_sto2 rfl _ _ rfl rfl rfl rfl rfl hq1 ?_)
        refine (hpl _).mono ?_; rintro e w2 ⟨rfl, rfl⟩
        go_wp2_with fail
        refine (HP2.out _ hk2.2).mono ?_; rintro en w3 ⟨x2, tc2, c2, s2, wv2, pv2, L2, rfl, hb3, hS2⟩
        have hk3 := hk2.step hb3
        have hq2 := hS2.wd.one
        have hbx3 := keep_blk hb3 hbx
        have hk4 := hk3.alloc (.cells (stC x2 tc2 c2 s2 wv2 pv2) 31)
        have hbx4 := alloc_blk hbx3 (.cells (stC x2 tc2 c2 s2 wv2 pv2) 31)
        clear hS2 hb3 hbx hbx3
        go_wp2_with (refine wpl_sto2 rfl _ _ rfl rfl rfl rfl rfl hq2 ?_)
        refine (HP3.out _ hk4.2).mono ?_; rintro en w5 ⟨x3, tc3, c3, s3, wv3, pv3, L3, rfl, hb5, hS3⟩
        have hk5 := hk4.step hb5
        have hq3 := hS3.wd.one
        have hk6 := hk5.alloc (.cells (stC x3 tc3 c3 s3 wv3 pv3) 31)
        have hbx6 := alloc_blk (keep_blk hb5 hbx4) (.cells (stC x3 tc3 c3 s3 wv3 pv3) 31)
        obtain ⟨d0, d1, d2, d3, d4, d5, d6, d7, d8, d9, d10, d11, d12, d13, d14, d15, d16, d17⟩ := st18 hbx6
        rw [HXN.out] at d1
        have haw := awake14_any hk6.2
        clear hS3 hb5 hbx4 hbx6 d0 d2 d3 d4 d5 d6 d7 d8 d9 d10 d11 d12 d13 d14 d15 d16 d17
        go_wp2_with (refine wpl_sto2 rfl _ _ rfl rfl rfl rfl rfl hq3 ?_)
        refine haw.mono ?_; rintro e w7 ⟨rfl, h7⟩
        go_wp2_with fail
        go_ret
        exact ⟨rfl, hk6.trans h7⟩
      | cons c0 l0 =>
        obtain ⟨l, hll⟩ : ∃ l, c0 :: l0 = l := ⟨_, rfl⟩
        have hie : l.isEmpty = false := by rw [← hll]; rfl
        have HLN : Hid (l ≠ []) := by rw [← hll]; exact List.cons_ne_nil _ _
        rw [hll] at HR HL0 ⊢
        clear hll
        have HSS : Hid (∀ c ∈ l, c ∈ rare) := Lib.hid (HR.out)
        have HNE : Hid (l ≠ []) := Lib.hid (HLN.out)
        have HLL : Hid ((l).length ≤ 12) := Lib.hid (by have := HL0.out; omega)
        have HNM : Hid (nameOK (⟨l.toArray⟩ : ByteArray)) := rare_name HSS.out HNE.out (by have := HLL.out; omega)
        have hsz : ((⟨l.toArray⟩ : ByteArray)).size ≤ 12 := HLL.out
        have hpl := fun w => place_any word 12 w (by omega) (by omega) HW.out.1 HW.out.2
        obtain ⟨j, hj⟩ : ∃ j : Nat, word % 12 = j := ⟨(word % 12).toNat, by omega⟩
        have hjl : j < 12 := by omega
        rw [hj] at hpl
        clear hj
        obtain ⟨y1, y2, y3⟩ := word12 j hjl
        have hix := index12 j hjl
        obtain ⟨W, hWd⟩ : ∃ W, words12.getD j ⟨#[]⟩ = W := ⟨_, rfl⟩
        rw [hWd] at y1 y2 y3 hix
        have HP1 : Hid (∀ w', Gp w' → Calls Tryz.prog 18 #[.string ((⟨#[68, 82, 79, 80, 32]⟩ : ByteArray) ++ (⟨l.toArray⟩ : ByteArray))] w' fun en w'' => ∃ (x : Sx) (tc c s wv pv : Value) (L : List Pw), en = .returned (.tuple #[.agg (stC x tc c s wv pv), .int .i64 0, .int .i64 0]) ∧ Below w'.heap.size w' w'' ∧ HasS w'' w'.heap.size ⟨x, tc, c, s, wv, pv⟩ L (dropS (⟨l.toArray⟩ : ByteArray))) := fun w' hG' => parse_at hG' (by rw [drop_parse HNM.out]) (by rw [drop_parse HNM.out]) (by rw [drop_parse HNM.out])
        have HP2 : Hid (∀ w', Gp w' → Calls Tryz.prog 18 #[.string ((⟨#[68, 82, 79, 80, 32]⟩ : ByteArray) ++ W)] w' fun en w'' => ∃ (x : Sx) (tc c s wv pv : Value) (L : List Pw), en = .returned (.tuple #[.agg (stC x tc c s wv pv), .int .i64 5, .int .i64 3]) ∧ Below w'.heap.size w' w'' ∧ HasS w'' w'.heap.size ⟨x, tc, c, s, wv, pv⟩ L (parseL ((⟨#[68, 82, 79, 80, 32]⟩ : ByteArray) ++ W)).1) := fun w' hG' => parse_at hG' rfl (by rw [y3]) (by rw [y3])
        have hnw := name_word HSS.out HNE.out (by have := HLL.out; omega) y1 y2
        have HP3 : Hid (∀ w', Gp w' → Calls Tryz.prog 18 #[.string ((((⟨#[68, 82, 79, 80, 32]⟩ : ByteArray) ++ (⟨l.toArray⟩ : ByteArray)) ++ (⟨#[32]⟩ : ByteArray)) ++ W)] w' fun en w'' => ∃ (x : Sx) (tc c s wv pv : Value) (L : List Pw), en = .returned (.tuple #[.agg (stC x tc c s wv pv), .int .i64 (6 + (((⟨l.toArray⟩ : ByteArray)).size : Int)), .int .i64 3]) ∧ Below w'.heap.size w' w'' ∧ HasS w'' w'.heap.size ⟨x, tc, c, s, wv, pv⟩ L Stt.zero) := fun w' hG' => parse_at hG' (by rw [hnw]) (by rw [hnw]; show (((6 + (l).length : Nat)) : Int) = 6 + (((l).length : Nat) : Int); omega) (by rw [hnw])
        have hnm : (dropS (⟨l.toArray⟩ : ByteArray)).x.name = (⟨l.toArray⟩ : ByteArray) := rfl
        obtain ⟨A1, eA1⟩ : ∃ r, (⟨#[68, 82, 79, 80, 32]⟩ : ByteArray) ++ (⟨l.toArray⟩ : ByteArray) = r := ⟨_, rfl⟩
        have hA1 := add_str (⟨#[68, 82, 79, 80, 32]⟩ : ByteArray) (⟨l.toArray⟩ : ByteArray) (by show 5 + _ ≤ _; omega)
        rw [eA1] at hA1 HP1 HP3
        have zA1 : A1.size ≤ 17 := by rw [← eA1, ByteArray.size_append]; show 5 + _ ≤ _; omega
        obtain ⟨A2, eA2⟩ : ∃ r, (⟨#[68, 82, 79, 80, 32]⟩ : ByteArray) ++ W = r := ⟨_, rfl⟩
        have hA2 := add_str (⟨#[68, 82, 79, 80, 32]⟩ : ByteArray) W (by show 5 + _ ≤ _; omega)
        rw [eA2] at hA2 HP2
        obtain ⟨A3, eA3⟩ : ∃ r, A1 ++ (⟨#[32]⟩ : ByteArray) = r := ⟨_, rfl⟩
        have hA3 := add_str A1 (⟨#[32]⟩ : ByteArray) (by show _ + 1 ≤ _; omega)
        rw [eA3] at hA3 HP3
        have zA3 : A3.size ≤ 18 := by rw [← eA3, ByteArray.size_append]; show _ + 1 ≤ _; omega
        obtain ⟨A4, eA4⟩ : ∃ r, A3 ++ W = r := ⟨_, rfl⟩
        have hA4 := add_str A3 W (by omega)
        rw [eA4] at hA4 HP3
        have hSS : (((⟨l.toArray⟩ : ByteArray)).toList == ((⟨l.toArray⟩ : ByteArray)).toList) = true := tl_eq rfl
        obtain ⟨SZ, eSZ⟩ : ∃ z, dropS (⟨l.toArray⟩ : ByteArray) = z := ⟨_, rfl⟩
        rw [eSZ] at hnm HP1
        have HNm := Lib.hid hnm
        clear hnm eSZ hnw y1 y2 y3 hWd zA1 zA3 hsz
        have hA1T := hA1
        obtain ⟨T, hT⟩ : ∃ T, (⟨l.toArray⟩ : ByteArray) = T := ⟨_, rfl⟩
        rw [hT] at HNm HP3 hA1T
        clear hSS
        have HT := Lib.hid hT
        clear hT
        go_wp2_with fail
        rw [HT.out]
        have hTs : T.size ≤ 12 := by rw [← HT.out]; exact HLL.out
        have hTi : 6 + (T.size : Int) ≤ 18 := by omega
        have hTj : (0 : Int) ≤ 6 + (T.size : Int) := by omega
        refine (HP1.out _ HS.out.2).mono ?_; rintro en w1 ⟨x, tc, c, s, wv, pv, L1, rfl, hb1, hS1⟩
        have hk1 := HS.out.step hb1
        have hq1 := hS1.wd.one
        have hxn : x.name = T := by rw [show x = SZ.x from hS1.x]; exact HNm.out
        have HXN := Lib.hid hxn
        have hk2 := hk1.alloc (.cells (stC x tc c s wv pv) 31)
        have hbx := blk_new w1 (.cells (stC x tc c s wv pv) 31)
        clear hS1 hxn hb1
        go_wp2_with (refine wpl_sto2 rfl _ _ rfl rfl rfl rfl rfl hq1 ?_)
        refine (hpl _).mono ?_; rintro e w2 ⟨rfl, rfl⟩
        go_wp2_with fail
        refine (HP2.out _ hk2.2).mono ?_; rintro en w3 ⟨x2, tc2, c2, s2, wv2, pv2, L2, rfl, hb3, hS2⟩
        have hk3 := hk2.step hb3
        have hq2 := hS2.wd.one
        have hbx3 := keep_blk hb3 hbx
        have hk4 := hk3.alloc (.cells (stC x2 tc2 c2 s2 wv2 pv2) 31)
        have hbx4 := alloc_blk hbx3 (.cells (stC x2 tc2 c2 s2 wv2 pv2) 31)
        clear hS2 hb3 hbx hbx3
        go_wp2_with (refine wpl_sto2 rfl _ _ rfl rfl rfl rfl rfl hq2 ?_)
        refine (HP3.out _ hk4.2).mono ?_; rintro en w5 ⟨x3, tc3, c3, s3, wv3, pv3, L3, rfl, hb5, hS3⟩
        have hk5 := hk4.step hb5
        have hq3 := hS3.wd.one
        have hk6 := hk5.alloc (.cells (stC x3 tc3 c3 s3 wv3 pv3) 31)
        have hbx6 := alloc_blk (keep_blk hb5 hbx4) (.cells (stC x3 tc3 c3 s3 wv3 pv3) 31)
        obtain ⟨d0, d1, d2, d3, d4, d5, d6, d7, d8, d9, d10, d11, d12, d13, d14, d15, d16, d17⟩ := st18 hbx6
        rw [HXN.out] at d1
        have haw := awake14_any hk6.2
        clear hS3 hb5 hbx4 hbx6 d0 d2 d3 d4 d5 d6 d7 d8 d9 d10 d11 d12 d13 d14 d15 d16 d17
        go_wp2_with (refine wpl_sto2 rfl _ _ rfl rfl rfl rfl rfl hq3 ?_)
        refine haw.mono ?_; rintro e w7 ⟨rfl, h7⟩
        go_wp2_with fail
        go_ret
        exact ⟨rfl, hk6.trans h7⟩
end Go.Proofs.YtfbgdjcnlnfoaaaGreatDoor

