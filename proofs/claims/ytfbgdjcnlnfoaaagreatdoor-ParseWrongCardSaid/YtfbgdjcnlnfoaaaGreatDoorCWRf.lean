/- Parts of the proof, joined: PlainPU LawPD. -/
import Derived.BigQuiet
import Derived.Test.YtfbgdjcnlnfoaaaGreatDoorB01
import Derived.Test.YtfbgdjcnlnfoaaaGreatDoorB02
import Derived.Test.YtfbgdjcnlnfoaaaGreatDoorB03
import Derived.Test.YtfbgdjcnlnfoaaaGreatDoorB04
import Derived.Test.YtfbgdjcnlnfoaaaGreatDoorB05
import Derived.Test.YtfbgdjcnlnfoaaaGreatDoorB06
import Derived.Test.YtfbgdjcnlnfoaaaGreatDoorB07
import Derived.Test.YtfbgdjcnlnfoaaaGreatDoorB08
import Derived.Test.YtfbgdjcnlnfoaaaGreatDoorB09
import Derived.Test.YtfbgdjcnlnfoaaaGreatDoorB10
import Derived.Test.YtfbgdjcnlnfoaaaGreatDoorB11
import Derived.Test.YtfbgdjcnlnfoaaaGreatDoorB12a
import Derived.Test.YtfbgdjcnlnfoaaaGreatDoorB12b
import Derived.Test.YtfbgdjcnlnfoaaaGreatDoorB12c
import Derived.Test.YtfbgdjcnlnfoaaaGreatDoorB12d
import Derived.Test.YtfbgdjcnlnfoaaaGreatDoorB12e
import Derived.Test.YtfbgdjcnlnfoaaaGreatDoorB12f
import Derived.Test.YtfbgdjcnlnfoaaaGreatDoorB12g
import Derived.Test.YtfbgdjcnlnfoaaaGreatDoorB12h
import Derived.Test.YtfbgdjcnlnfoaaaGreatDoorB12i
import Derived.Test.YtfbgdjcnlnfoaaaGreatDoorB12j
import Derived.Test.YtfbgdjcnlnfoaaaGreatDoorB13a
import Derived.Test.YtfbgdjcnlnfoaaaGreatDoorB13b
import Derived.Test.YtfbgdjcnlnfoaaaGreatDoorB13c
import Derived.Test.YtfbgdjcnlnfoaaaGreatDoorB13d
import Derived.Test.YtfbgdjcnlnfoaaaGreatDoorB13e
import Derived.Test.YtfbgdjcnlnfoaaaGreatDoorCWRa
import Derived.Test.YtfbgdjcnlnfoaaaGreatDoorCWRb
import Derived.Test.YtfbgdjcnlnfoaaaGreatDoorCWRc
import Derived.Test.YtfbgdjcnlnfoaaaGreatDoorCWRd
import Derived.Test.YtfbgdjcnlnfoaaaGreatDoorCWRe
import Derived.Test.YtfbgdjcnlnfoaaaGreatDoorRows
namespace Go.Proofs.YtfbgdjcnlnfoaaaGreatDoor
namespace Cle

theorem wrong_of {l : List ByteArray} {n : Nat} (hn : l.length = n) (ha : allOK l = true) (h : ∀ k, k < n → atOK l k = true) : wrongOK l = true := by
  unfold wrongOK
  rw [ha, Bool.true_and, List.all_eq_true]
  intro k hk
  exact h k (by have := List.mem_range.1 hk; omega)
theorem wrong_0 : wrongOK (words8.getD 0 []) = true := wrong_of (n := 21) rfl wra_0 fun k hk => by
  have h : k = 0 ∨ k = 1 ∨ k = 2 ∨ k = 3 ∨ k = 4 ∨ k = 5 ∨ k = 6 ∨ k = 7 ∨ k = 8 ∨ k = 9 ∨ k = 10 ∨ k = 11 ∨ k = 12 ∨ k = 13 ∨ k = 14 ∨ k = 15 ∨ k = 16 ∨ k = 17 ∨ k = 18 ∨ k = 19 ∨ k = 20 := by omega
  rcases h with rfl | rfl | rfl | rfl | rfl | rfl | rfl | rfl | rfl | rfl | rfl | rfl | rfl | rfl | rfl | rfl | rfl | rfl | rfl | rfl | rfl
  · exact wr_0_0
  · exact wr_0_1
  · exact wr_0_2
  · exact wr_0_3
  · exact wr_0_4
  · exact wr_0_5
  · exact wr_0_6
  · exact wr_0_7
  · exact wr_0_8
  · exact wr_0_9
  · exact wr_0_10
  · exact wr_0_11
  · exact wr_0_12
  · exact wr_0_13
  · exact wr_0_14
  · exact wr_0_15
  · exact wr_0_16
  · exact wr_0_17
  · exact wr_0_18
  · exact wr_0_19
  · exact wr_0_20
theorem wrong_1 : wrongOK (words8.getD 1 []) = true := wrong_of (n := 25) rfl wra_1 fun k hk => by
  have h : k = 0 ∨ k = 1 ∨ k = 2 ∨ k = 3 ∨ k = 4 ∨ k = 5 ∨ k = 6 ∨ k = 7 ∨ k = 8 ∨ k = 9 ∨ k = 10 ∨ k = 11 ∨ k = 12 ∨ k = 13 ∨ k = 14 ∨ k = 15 ∨ k = 16 ∨ k = 17 ∨ k = 18 ∨ k = 19 ∨ k = 20 ∨ k = 21 ∨ k = 22 ∨ k = 23 ∨ k = 24 := by omega
  rcases h with rfl | rfl | rfl | rfl | rfl | rfl | rfl | rfl | rfl | rfl | rfl | rfl | rfl | rfl | rfl | rfl | rfl | rfl | rfl | rfl | rfl | rfl | rfl | rfl | rfl
  · exact wr_1_0
  · exact wr_1_1
  · exact wr_1_2
  · exact wr_1_3
  · exact wr_1_4
  · exact wr_1_5
  · exact wr_1_6
  · exact wr_1_7
  · exact wr_1_8
  · exact wr_1_9
  · exact wr_1_10
  · exact wr_1_11
  · exact wr_1_12
  · exact wr_1_13
  · exact wr_1_14
  · exact wr_1_15
  · exact wr_1_16
  · exact wr_1_17
  · exact wr_1_18
  · exact wr_1_19
  · exact wr_1_20
  · exact wr_1_21
  · exact wr_1_22
  · exact wr_1_23
  · exact wr_1_24
theorem wrong_2 : wrongOK (words8.getD 2 []) = true := wrong_of (n := 8) rfl wra_2 fun k hk => by
  have h : k = 0 ∨ k = 1 ∨ k = 2 ∨ k = 3 ∨ k = 4 ∨ k = 5 ∨ k = 6 ∨ k = 7 := by omega
  rcases h with rfl | rfl | rfl | rfl | rfl | rfl | rfl | rfl
  · exact wr_2_0
  · exact wr_2_1
  · exact wr_2_2
  · exact wr_2_3
  · exact wr_2_4
  · exact wr_2_5
  · exact wr_2_6
  · exact wr_2_7
theorem wrong_3 : wrongOK (words8.getD 3 []) = true := wrong_of (n := 20) rfl wra_3 fun k hk => by
  have h : k = 0 ∨ k = 1 ∨ k = 2 ∨ k = 3 ∨ k = 4 ∨ k = 5 ∨ k = 6 ∨ k = 7 ∨ k = 8 ∨ k = 9 ∨ k = 10 ∨ k = 11 ∨ k = 12 ∨ k = 13 ∨ k = 14 ∨ k = 15 ∨ k = 16 ∨ k = 17 ∨ k = 18 ∨ k = 19 := by omega
  rcases h with rfl | rfl | rfl | rfl | rfl | rfl | rfl | rfl | rfl | rfl | rfl | rfl | rfl | rfl | rfl | rfl | rfl | rfl | rfl | rfl
  · exact wr_3_0
  · exact wr_3_1
  · exact wr_3_2
  · exact wr_3_3
  · exact wr_3_4
  · exact wr_3_5
  · exact wr_3_6
  · exact wr_3_7
  · exact wr_3_8
  · exact wr_3_9
  · exact wr_3_10
  · exact wr_3_11
  · exact wr_3_12
  · exact wr_3_13
  · exact wr_3_14
  · exact wr_3_15
  · exact wr_3_16
  · exact wr_3_17
  · exact wr_3_18
  · exact wr_3_19
theorem wrong_4 : wrongOK (words8.getD 4 []) = true := wrong_of (n := 21) rfl wra_4 fun k hk => by
  have h : k = 0 ∨ k = 1 ∨ k = 2 ∨ k = 3 ∨ k = 4 ∨ k = 5 ∨ k = 6 ∨ k = 7 ∨ k = 8 ∨ k = 9 ∨ k = 10 ∨ k = 11 ∨ k = 12 ∨ k = 13 ∨ k = 14 ∨ k = 15 ∨ k = 16 ∨ k = 17 ∨ k = 18 ∨ k = 19 ∨ k = 20 := by omega
  rcases h with rfl | rfl | rfl | rfl | rfl | rfl | rfl | rfl | rfl | rfl | rfl | rfl | rfl | rfl | rfl | rfl | rfl | rfl | rfl | rfl | rfl
  · exact wr_4_0
  · exact wr_4_1
  · exact wr_4_2
  · exact wr_4_3
  · exact wr_4_4
  · exact wr_4_5
  · exact wr_4_6
  · exact wr_4_7
  · exact wr_4_8
  · exact wr_4_9
  · exact wr_4_10
  · exact wr_4_11
  · exact wr_4_12
  · exact wr_4_13
  · exact wr_4_14
  · exact wr_4_15
  · exact wr_4_16
  · exact wr_4_17
  · exact wr_4_18
  · exact wr_4_19
  · exact wr_4_20
theorem wrong_5 : wrongOK (words8.getD 5 []) = true := wrong_of (n := 13) rfl wra_5 fun k hk => by
  have h : k = 0 ∨ k = 1 ∨ k = 2 ∨ k = 3 ∨ k = 4 ∨ k = 5 ∨ k = 6 ∨ k = 7 ∨ k = 8 ∨ k = 9 ∨ k = 10 ∨ k = 11 ∨ k = 12 := by omega
  rcases h with rfl | rfl | rfl | rfl | rfl | rfl | rfl | rfl | rfl | rfl | rfl | rfl | rfl
  · exact wr_5_0
  · exact wr_5_1
  · exact wr_5_2
  · exact wr_5_3
  · exact wr_5_4
  · exact wr_5_5
  · exact wr_5_6
  · exact wr_5_7
  · exact wr_5_8
  · exact wr_5_9
  · exact wr_5_10
  · exact wr_5_11
  · exact wr_5_12
theorem wrong_6 : wrongOK (words8.getD 6 []) = true := wrong_of (n := 10) rfl wra_6 fun k hk => by
  have h : k = 0 ∨ k = 1 ∨ k = 2 ∨ k = 3 ∨ k = 4 ∨ k = 5 ∨ k = 6 ∨ k = 7 ∨ k = 8 ∨ k = 9 := by omega
  rcases h with rfl | rfl | rfl | rfl | rfl | rfl | rfl | rfl | rfl | rfl
  · exact wr_6_0
  · exact wr_6_1
  · exact wr_6_2
  · exact wr_6_3
  · exact wr_6_4
  · exact wr_6_5
  · exact wr_6_6
  · exact wr_6_7
  · exact wr_6_8
  · exact wr_6_9
theorem wrong_7 : wrongOK (words8.getD 7 []) = true := wrong_of (n := 12) rfl wra_7 fun k hk => by
  have h : k = 0 ∨ k = 1 ∨ k = 2 ∨ k = 3 ∨ k = 4 ∨ k = 5 ∨ k = 6 ∨ k = 7 ∨ k = 8 ∨ k = 9 ∨ k = 10 ∨ k = 11 := by omega
  rcases h with rfl | rfl | rfl | rfl | rfl | rfl | rfl | rfl | rfl | rfl | rfl | rfl
  · exact wr_7_0
  · exact wr_7_1
  · exact wr_7_2
  · exact wr_7_3
  · exact wr_7_4
  · exact wr_7_5
  · exact wr_7_6
  · exact wr_7_7
  · exact wr_7_8
  · exact wr_7_9
  · exact wr_7_10
  · exact wr_7_11
theorem words8_low : ∀ w ∈ words8.flatten, w.size ≤ 12 ∧ (pts w).length = w.size := by decide +kernel
theorem words8_len : ∀ l ∈ words8, 0 < l.length ∧ l.length ≤ 25 := by decide
structure Wo (l : List ByteArray) : Prop where
  len : 0 < l.length ∧ l.length ≤ 25
  low : ∀ w ∈ l, w.size ≤ 12 ∧ (pts w).length = w.size
  all : (parseL (catW ⟨#[]⟩ l)).2.2 = 0
  cut : ∀ k, k < l.length → (parseL (catW ⟨#[]⟩ (l.take k))).2.2 = 0 ∨ (parseL (catW ⟨#[]⟩ (l.take k))).2.2 = 3 ∧ (parseL (catW ⟨#[]⟩ (l.take k))).2.1 = lenW (l.take k)
  chg : ∀ k, k < l.length → ∀ o ∈ other5, (parseL (othW (catW ⟨#[]⟩ (l.take k) ++ o) (l.drop (k + 1)))).2.2 = 0 ∨ (parseL (othW (catW ⟨#[]⟩ (l.take k) ++ o) (l.drop (k + 1)))).2.2 = 3 ∧ (lenW (l.take k) : Int) ≤ (parseL (othW (catW ⟨#[]⟩ (l.take k) ++ o) (l.drop (k + 1)))).2.1
theorem wo_any (j : Nat) (h : j < 8) : Wo (words8.getD j []) := by
  have hm : words8.getD j [] ∈ words8 := by
    rw [List.getD_eq_getElem?_getD, List.getElem?_eq_getElem (show j < words8.length from h)]
    exact List.getElem_mem _
  have hw : wrongOK (words8.getD j []) = true := by
    have : j = 0 ∨ j = 1 ∨ j = 2 ∨ j = 3 ∨ j = 4 ∨ j = 5 ∨ j = 6 ∨ j = 7 := by omega
    rcases this with rfl | rfl | rfl | rfl | rfl | rfl | rfl | rfl
    · exact wrong_0
    · exact wrong_1
    · exact wrong_2
    · exact wrong_3
    · exact wrong_4
    · exact wrong_5
    · exact wrong_6
    · exact wrong_7
  have hl := words8_len _ hm
  have hlow : ∀ w ∈ words8.getD j [], w.size ≤ 12 ∧ (pts w).length = w.size := fun w h => words8_low w (List.mem_flatten.2 ⟨_, hm, h⟩)
  generalize words8.getD j [] = l at hw hl hlow
  unfold wrongOK at hw
  simp only [Bool.and_eq_true, List.all_eq_true, List.mem_range] at hw
  refine ⟨hl, hlow, of_decide_eq_true hw.1, fun k hk => ?_, fun k hk o ho => ?_⟩
  · exact of_decide_eq_true (hw.2 k hk).1
  · exact of_decide_eq_true ((hw.2 k hk).2 o ho)
theorem catW_step (s : ByteArray) (l : List ByteArray) {j : Nat} {w : ByteArray} (h : l[j]? = some w) : catW s (l.take (j + 1)) = catW s (l.take j) ++ w ++ (⟨#[32]⟩ : ByteArray) := by
  unfold catW
  rw [List.take_add_one, h, List.foldl_append]; rfl
theorem lenW_step (l : List ByteArray) {j : Nat} {w : ByteArray} (h : l[j]? = some w) : lenW (l.take (j + 1)) = lenW (l.take j) + w.size + 1 := by
  unfold lenW
  rw [List.take_add_one, h, List.foldl_append]; rfl
theorem catW_size : ∀ (l : List ByteArray) (s : ByteArray), (∀ w ∈ l, w.size ≤ 12) → (catW s l).size ≤ s.size + 13 * l.length
  | [], s, _ => by simp [catW]
  | w :: l, s, h => by
    have h1 := catW_size l (s ++ w ++ (⟨#[32]⟩ : ByteArray)) (fun x hx => h x (List.mem_cons_of_mem _ hx))
    have h2 := h w (List.mem_cons_self ..)
    have h3 : (s ++ w ++ (⟨#[32]⟩ : ByteArray)).size = s.size + w.size + 1 := by rw [ByteArray.size_append, ByteArray.size_append]; rfl
    show (catW (s ++ w ++ (⟨#[32]⟩ : ByteArray)) l).size ≤ _
    rw [List.length_cons]
    omega
theorem lenW_le : ∀ (l : List ByteArray) (n : Nat), (∀ w ∈ l, w.size ≤ 12) → l.foldl (fun n w => n + w.size + 1) n ≤ n + 13 * l.length
  | [], n, _ => by simp
  | w :: l, n, h => by
    have h1 := lenW_le l (n + w.size + 1) (fun x hx => h x (List.mem_cons_of_mem _ hx))
    have h2 := h w (List.mem_cons_self ..)
    rw [List.foldl_cons, List.length_cons]
    omega
theorem othW_step (t : ByteArray) (l : List ByteArray) {j : Nat} {w : ByteArray} (h : l[j]? = some w) : othW t (l.take (j + 1)) = othW t (l.take j) ++ (⟨#[32]⟩ : ByteArray) ++ w := by
  unfold othW
  rw [List.take_add_one, h, List.foldl_append]; rfl
theorem othW_size : ∀ (l : List ByteArray) (s : ByteArray), (∀ w ∈ l, w.size ≤ 12) → (othW s l).size ≤ s.size + 13 * l.length
  | [], s, _ => by simp [othW]
  | w :: l, s, h => by
    have h1 := othW_size l (s ++ (⟨#[32]⟩ : ByteArray) ++ w) (fun x hx => h x (List.mem_cons_of_mem _ hx))
    have h2 := h w (List.mem_cons_self ..)
    have h3 : (s ++ (⟨#[32]⟩ : ByteArray) ++ w).size = s.size + 1 + w.size := by rw [ByteArray.size_append, ByteArray.size_append]; rfl
    show (othW (s ++ (⟨#[32]⟩ : ByteArray) ++ w) l).size ≤ _
    rw [List.length_cons]
    omega
end Cle
end Go.Proofs.YtfbgdjcnlnfoaaaGreatDoor

namespace Go.Proofs.YtfbgdjcnlnfoaaaGreatDoor
open Go.RowKit
open Cle

theorem idx5_0 (w : World) : (Instr.index 43 (.agg #[.string (⟨#[104, 111, 112, 32, 104, 111, 112]⟩ : ByteArray), .string (⟨#[115, 101, 108, 101, 99, 116]⟩ : ByteArray), .string (⟨#[59]⟩ : ByteArray), .string (⟨#[41]⟩ : ByteArray), .string (⟨#[39, 120, 39]⟩ : ByteArray)]) (.int .i64 0)).run Tryz.prog w = .ok (.string (⟨#[104, 111, 112, 32, 104, 111, 112]⟩ : ByteArray)) w := by kernel_rfl
theorem idx5_1 (w : World) : (Instr.index 43 (.agg #[.string (⟨#[104, 111, 112, 32, 104, 111, 112]⟩ : ByteArray), .string (⟨#[115, 101, 108, 101, 99, 116]⟩ : ByteArray), .string (⟨#[59]⟩ : ByteArray), .string (⟨#[41]⟩ : ByteArray), .string (⟨#[39, 120, 39]⟩ : ByteArray)]) (.int .i64 1)).run Tryz.prog w = .ok (.string (⟨#[115, 101, 108, 101, 99, 116]⟩ : ByteArray)) w := by kernel_rfl
theorem idx5_2 (w : World) : (Instr.index 43 (.agg #[.string (⟨#[104, 111, 112, 32, 104, 111, 112]⟩ : ByteArray), .string (⟨#[115, 101, 108, 101, 99, 116]⟩ : ByteArray), .string (⟨#[59]⟩ : ByteArray), .string (⟨#[41]⟩ : ByteArray), .string (⟨#[39, 120, 39]⟩ : ByteArray)]) (.int .i64 2)).run Tryz.prog w = .ok (.string (⟨#[59]⟩ : ByteArray)) w := by kernel_rfl
theorem idx5_3 (w : World) : (Instr.index 43 (.agg #[.string (⟨#[104, 111, 112, 32, 104, 111, 112]⟩ : ByteArray), .string (⟨#[115, 101, 108, 101, 99, 116]⟩ : ByteArray), .string (⟨#[59]⟩ : ByteArray), .string (⟨#[41]⟩ : ByteArray), .string (⟨#[39, 120, 39]⟩ : ByteArray)]) (.int .i64 3)).run Tryz.prog w = .ok (.string (⟨#[41]⟩ : ByteArray)) w := by kernel_rfl
theorem idx5_4 (w : World) : (Instr.index 43 (.agg #[.string (⟨#[104, 111, 112, 32, 104, 111, 112]⟩ : ByteArray), .string (⟨#[115, 101, 108, 101, 99, 116]⟩ : ByteArray), .string (⟨#[59]⟩ : ByteArray), .string (⟨#[41]⟩ : ByteArray), .string (⟨#[39, 120, 39]⟩ : ByteArray)]) (.int .i64 4)).run Tryz.prog w = .ok (.string (⟨#[39, 120, 39]⟩ : ByteArray)) w := by kernel_rfl
theorem idx5 (j : Nat) (hj : j < 5) (w : World) : (Instr.index 43 (.agg #[.string (⟨#[104, 111, 112, 32, 104, 111, 112]⟩ : ByteArray), .string (⟨#[115, 101, 108, 101, 99, 116]⟩ : ByteArray), .string (⟨#[59]⟩ : ByteArray), .string (⟨#[41]⟩ : ByteArray), .string (⟨#[39, 120, 39]⟩ : ByteArray)]) (.int .i64 (j : Int))).run Tryz.prog w = .ok (.string (other5.getD j ⟨#[]⟩)) w := by
  have h : j = 0 ∨ j = 1 ∨ j = 2 ∨ j = 3 ∨ j = 4 := by omega
  rcases h with rfl | rfl | rfl | rfl | rfl
  · exact idx5_0 w
  · exact idx5_1 w
  · exact idx5_2 w
  · exact idx5_3 w
  · exact idx5_4 w
theorem other5_of (j : Nat) (hj : j < 5) : other5.getD j ⟨#[]⟩ ∈ other5 ∧ (other5.getD j ⟨#[]⟩).size ≤ 7 := by
  have h : j = 0 ∨ j = 1 ∨ j = 2 ∨ j = 3 ∨ j = 4 := by omega
  rcases h with rfl | rfl | rfl | rfl | rfl <;> exact ⟨by unfold other5; simp, by decide⟩
set_option maxRecDepth 100000 in
set_option maxHeartbeats 8000000 in
theorem parseWrong_law (n c v : Int) (w : World) (hG : Gp w) (hn0 : -9223372036854775808 ≤ n) (hn1 : n ≤ 9223372036854775807) (hc0 : -9223372036854775808 ≤ c) (hc1 : c ≤ 9223372036854775807) (hv0 : -9223372036854775808 ≤ v) (hv1 : v ≤ 9223372036854775807) :
    Calls Tryz.prog 5 #[.int .i64 n, .int .i64 c, .int .i64 v] w fun e w' => e = .returned (.bool true) ∧ Sp w w' := by
  have hwd := words_any n w hn0 hn1
  have hpv := fun w => place_any v 5 w (by omega) (by omega) hv0 hv1
  obtain ⟨y, hy⟩ : ∃ y : Nat, v % 5 = y := ⟨(v % 5).toNat, by omega⟩
  have hyl : y < 5 := by omega
  rw [hy] at hpv
  have hix := idx5 y hyl
  obtain ⟨ho1, ho2⟩ := other5_of y hyl
  obtain ⟨O, hO⟩ : ∃ O, other5.getD y ⟨#[]⟩ = O := ⟨_, rfl⟩
  rw [hO] at hix ho1 ho2
  have HO := Lib.hid ho1
  have HG := Lib.hid hG
  have HC := Lib.hid (show -9223372036854775808 ≤ c ∧ c ≤ 9223372036854775807 from ⟨hc0, hc1⟩)
  clear hy hO hG hn0 hn1 hc0 hc1 hv0 hv1 ho1 hyl
  go_enter Tryz.func5, Tryz.ntmps5
  go_wp2_with fail
  refine hwd.mono ?_; rintro e w1 ⟨j, u, hj, rfl, hb1, hrd⟩
  have HS1 : Hid (Sp w w1) := (Sp.refl HG.out).step hb1
  have hwo := wo_any j hj
  obtain ⟨l, hl⟩ : ∃ l, words8.getD j [] = l := ⟨_, rfl⟩
  rw [hl] at hrd hwo
  have HWO := Lib.hid hwo
  have hl0 := hwo.len.1
  have hl25 := hwo.len.2
  obtain ⟨a, kap, rfl, hrd⟩ := hrd
  obtain ⟨g, o, rfl, hx⟩ := hrd (by rw [← List.length_map (f := Value.string)] at hl0; simpa using hl0)
  have HX : Hid (∀ i x, l[i]? = some x → w1.cell? ⟨g, o + i, none⟩ = some (.string x)) := Lib.hid (fun i x h => hx i _ (by rw [List.getElem?_map, h]; rfl))
  have hpc := fun w => place_any c (l.length : Int) w (by omega) (by omega) HC.out.1 HC.out.2
  obtain ⟨k, hk⟩ : ∃ k : Nat, c % (l.length : Int) = k := ⟨(c % (l.length : Int)).toNat, by have := Int.emod_nonneg c (show (l.length : Int) ≠ 0 by omega); omega⟩
  have hkl : k < l.length := by have := Int.emod_lt_of_pos c (show (0 : Int) < (l.length : Int) by omega); omega
  rw [hk] at hpc
  clear hwd hb1 hwo hl hj hx hrd hk HC
  go_wp2_with fail
  refine (hpc _).mono ?_; rintro e w2 ⟨rfl, rfl⟩
  clear hpc
  go_wp2_with fail
  go_loopw [9, 10, 11] (fun s m i wr => ∃ i0 : Nat, i = .int .i64 i0 ∧ s = .string (catW ⟨#[]⟩ (l.take i0)) ∧ m = .int .i64 (lenW (l.take i0) : Nat) ∧ i0 ≤ k ∧ Hid (Sp w1 wr)) (fun _ _ i _ => 26 - (intOf i).toNat)
  case atStart => exact ⟨0, rfl, rfl, rfl, Nat.zero_le _, Sp.refl HS1.out.2⟩
  case round =>
    obtain ⟨i0, rfl, rfl, rfl, hi, HW⟩ := hrel
    by_cases hlt : i0 < k
    · have q1 : (i0 : Int) < (k : Int) := by omega
      have q2 : (0 : Int) ≤ (i0 : Int) ∧ (i0 : Int) < (l.length : Int) := by omega
      have q3 : (0 : Int) ≤ (i0 : Int) := by omega
      have q4 : (i0 : Int) < (l.length : Int) := by omega
      obtain ⟨x, hxx⟩ : ∃ x, l[i0]? = some x := ⟨_, List.getElem?_eq_getElem (by omega)⟩
      have hxm := List.mem_of_getElem? hxx
      obtain ⟨hx1, hx2⟩ := HWO.out.low x hxm
      have e0 : wr.cell? ⟨g, o + i0, none⟩ = some (.string x) := blk_cellB HW.out.1 (HX.out i0 x hxx)
      have s1 := catW_step ⟨#[]⟩ l hxx
      have s2 := lenW_step l hxx
      have hsz := catW_size (l.take i0) ⟨#[]⟩ (fun y hy => (HWO.out.low y (List.mem_of_mem_take hy)).1)
      have hln := lenW_le (l.take i0) 0 (fun y hy => (HWO.out.low y (List.mem_of_mem_take hy)).1)
      rw [show (l.take i0).foldl (fun n w => n + w.size + 1) 0 = lenW (l.take i0) from rfl] at hln
      have ht : (l.take i0).length ≤ 25 := by rw [List.length_take]; omega
      have hz0 : (⟨#[]⟩ : ByteArray).size = 0 := rfl
      obtain ⟨S, hS⟩ : ∃ S, catW ⟨#[]⟩ (l.take i0) = S := ⟨_, rfl⟩
      obtain ⟨m, hm⟩ : ∃ m, lenW (l.take i0) = m := ⟨_, rfl⟩
      rw [hS] at s1 hsz ⊢
      rw [hm] at s2 hln ⊢
      have hS1 := Lib.hid s1
      have hS2 := Lib.hid s2
      have a1 := add_str S x (by omega)
      obtain ⟨T, hT⟩ : ∃ T, S ++ x = T := ⟨_, rfl⟩
      rw [hT] at a1
      have HT := Lib.hid hT
      have hTz : T.size ≤ 400 := by rw [← hT, ByteArray.size_append]; omega
      have a2 := add_str T (⟨#[32]⟩ : ByteArray) (by show _ + 1 ≤ _; omega)
      have hcn := rcount_any x wr (by omega)
      rw [hx2] at hcn
      have HI := Lib.hid hlt
      clear s1 s2 hS hm hT hxx hxm hx2 hlt hz0
      go_wp2_with fail
      refine hcn.mono ?_; rintro e w3 ⟨rfl, hb3⟩
      have HW3 : Hid (Sp w1 w3) := HW.out.step hb3
      go_wp2_with fail
      go_roundw
      case rel => exact ⟨i0 + 1, by go_num, by rw [hS1.out, HT.out], by rw [hS2.out]; go_num, HI.out, HW3.out⟩
      case measure => have := HI.out; simp [intOf]; omega
    · have hje : i0 = k := by omega
      subst hje
      have hc1 := HWO.out.cut i0 hkl
      have HCH := Lib.hid (HWO.out.chg i0 hkl O HO.out)
      have HAL := Lib.hid HWO.out.all
      have hsz := catW_size (l.take i0) ⟨#[]⟩ (fun y hy => (HWO.out.low y (List.mem_of_mem_take hy)).1)
      have ht : (l.take i0).length ≤ 25 := by rw [List.length_take]; omega
      have hz0 : (⟨#[]⟩ : ByteArray).size = 0 := rfl
      obtain ⟨S, hS⟩ : ∃ S, catW ⟨#[]⟩ (l.take i0) = S := ⟨_, rfl⟩
      obtain ⟨m, hm⟩ : ∃ m, lenW (l.take i0) = m := ⟨_, rfl⟩
      rw [hS] at hc1 hsz HCH ⊢
      rw [hm] at hc1 HCH ⊢
      have HSZ := Lib.hid hsz
      have hp1 := parse_at HW.out.2 (s := S) rfl rfl rfl
      obtain ⟨⟨pz, pa, pe⟩, hp⟩ : ∃ r, parseL S = r := ⟨_, rfl⟩
      rw [hp] at hp1 hc1
      have HC1 := Lib.hid hc1
      have a1 := add_str S O (by omega)
      obtain ⟨T0, hT0⟩ : ∃ T, S ++ O = T := ⟨_, rfl⟩
      rw [hT0] at a1 HCH
      have hT0z : T0.size ≤ 400 := by rw [← hT0, ByteArray.size_append]; omega
      have HT0Z := Lib.hid hT0z
      have q1 : ¬ ((i0 : Int) < (i0 : Int)) := by omega
      clear hc1 hp hS hm hz0 ht hsz hT0 hT0z
      go_wp2_with fail
      refine hp1.mono ?_; rintro en w3 ⟨x, tc, c, s, wv, pv, L, rfl, hb3, hS3⟩
      have HW3 : Hid (Sp w1 w3) := HW.out.step hb3
      have hq1 := hS3.wd.one
      have HW4 : Hid (Sp w1 (w3.alloc (.cells (stC x tc c s wv pv) 31))) := HW3.out.alloc _
      clear hS3 hb3 hp1
      obtain ⟨w4, hw4⟩ : ∃ w4, w3.alloc (.cells (stC x tc c s wv pv) 31) = w4 := ⟨_, rfl⟩
      rw [hw4] at HW4
      go_wp2_with (refine wpl_sto2 rfl _ _ rfl rfl rfl rfl rfl hq1 ?_)
      refine (hpv _).mono ?_; rintro e w5 ⟨rfl, rfl⟩
      go_wp2_with fail
      clear hw4
      go_loopw [15, 16] (fun t i wr => ∃ i1 : Nat, i = .int .i64 i1 ∧ t = .string (othW T0 ((l.drop (i0 + 1)).take (i1 - (i0 + 1)))) ∧ i0 + 1 ≤ i1 ∧ i1 ≤ l.length ∧ Hid (Sp w1 wr)) (fun _ i _ => 27 - (intOf i).toNat)
      case atStart => exact ⟨i0 + 1, by go_num, by rw [Nat.sub_self]; rfl, by omega, hkl, HW4.out⟩
      case round =>
        obtain ⟨i1, rfl, rfl, hi1, hi2, HWR⟩ := hrel
        by_cases hlt : i1 < l.length
        · have r1 : (i1 : Int) < (l.length : Int) := by omega
          have r2 : (0 : Int) ≤ (i1 : Int) := by omega
          obtain ⟨x, hxx⟩ : ∃ x, l[i1]? = some x := ⟨_, List.getElem?_eq_getElem (by omega)⟩
          have hxm := List.mem_of_getElem? hxx
          obtain ⟨hx1, hx2⟩ := HWO.out.low x hxm
          have e0 : wr.cell? ⟨g, o + i1, none⟩ = some (.string x) := blk_cellB HWR.out.1 (HX.out i1 x hxx)
          have hxd : (l.drop (i0 + 1))[i1 - (i0 + 1)]? = some x := by rw [List.getElem?_drop, show i0 + 1 + (i1 - (i0 + 1)) = i1 by omega]; exact hxx
          have s1 := othW_step T0 (l.drop (i0 + 1)) hxd
          rw [show i1 - (i0 + 1) + 1 = i1 + 1 - (i0 + 1) by omega] at s1
          have hsz := othW_size ((l.drop (i0 + 1)).take (i1 - (i0 + 1))) T0 (fun y hy => (HWO.out.low y (List.mem_of_mem_drop (List.mem_of_mem_take hy))).1)
          have ht : ((l.drop (i0 + 1)).take (i1 - (i0 + 1))).length ≤ 25 := by rw [List.length_take, List.length_drop]; omega
          have h0z := HT0Z.out
          obtain ⟨S2, hS2⟩ : ∃ S, othW T0 ((l.drop (i0 + 1)).take (i1 - (i0 + 1))) = S := ⟨_, rfl⟩
          rw [hS2] at s1 hsz ⊢
          have hS1 := Lib.hid s1
          have a3 := add_str S2 (⟨#[32]⟩ : ByteArray) (by show _ + 1 ≤ _; omega)
          obtain ⟨T, hT⟩ : ∃ T, S2 ++ (⟨#[32]⟩ : ByteArray) = T := ⟨_, rfl⟩
          rw [hT] at a3
          have HT := Lib.hid hT
          have hTz : T.size ≤ 1000 := by rw [← hT, ByteArray.size_append]; show _ + 1 ≤ _; omega
          have a4 := add_str T x (by omega)
          have HI := Lib.hid (show i0 + 1 ≤ i1 + 1 ∧ i1 + 1 ≤ l.length from ⟨by omega, hlt⟩)
          clear s1 hS2 hT hxx hxm hx2 hlt hxd h0z ht hi1 hi2
          go_wp2_with fail
          go_roundw
          case rel => exact ⟨i1 + 1, by go_num, by rw [hS1.out, HT.out], HI.out.1, HI.out.2, HWR.out⟩
          case measure => have := HI.out; simp [intOf]; omega
        · have hje : i1 = l.length := by omega
          subst hje
          have hwh : (l.drop (i0 + 1)).take (l.length - (i0 + 1)) = l.drop (i0 + 1) := by rw [← List.length_drop, List.take_length]
          rw [hwh]
          obtain ⟨S2, hS2⟩ : ∃ S, othW T0 (l.drop (i0 + 1)) = S := ⟨_, rfl⟩
          rw [hS2] at HCH ⊢
          have hp2 := parse_at HWR.out.2 (s := S2) rfl rfl rfl
          obtain ⟨⟨qz, qa, qe⟩, hq⟩ : ∃ r, parseL S2 = r := ⟨_, rfl⟩
          rw [hq] at hp2 HCH
          have r1 : ¬ ((l.length : Int) < (l.length : Int)) := by omega
          clear hS2 hq hwh hi1 hi2
          go_wp2_with fail
          refine hp2.mono ?_; rintro en w6 ⟨x2, tc2, c2, s2, wv2, pv2, L2, rfl, hb6, hS6⟩
          have HW6 : Hid (Sp w1 w6) := HWR.out.step hb6
          have hq2 := hS6.wd.one
          have HW7 : Hid (Sp w1 (w6.alloc (.cells (stC x2 tc2 c2 s2 wv2 pv2) 31))) := HW6.out.alloc _
          clear hS6 hb6 hp2
          obtain ⟨w7, hw7⟩ : ∃ w7, w6.alloc (.cells (stC x2 tc2 c2 s2 wv2 pv2) 31) = w7 := ⟨_, rfl⟩
          rw [hw7] at HW7
          go_wp2_with (refine wpl_sto2 rfl _ _ rfl rfl rfl rfl rfl hq2 ?_)
          clear hw7
          go_loopw [20, 21] (fun s i wr => ∃ i2 : Nat, i = .int .i64 i2 ∧ s = .string (catW ⟨#[]⟩ (l.take i2)) ∧ i2 ≤ l.length ∧ Hid (Sp w1 wr)) (fun _ i _ => 27 - (intOf i).toNat)
          case atStart => exact ⟨0, rfl, rfl, Nat.zero_le _, HW7.out⟩
          case round =>
            obtain ⟨i2, rfl, rfl, hi3, HWS⟩ := hrel
            by_cases hlt : i2 < l.length
            · have r3 : (i2 : Int) < (l.length : Int) := by omega
              have r2 : (0 : Int) ≤ (i2 : Int) := by omega
              obtain ⟨x, hxx⟩ : ∃ x, l[i2]? = some x := ⟨_, List.getElem?_eq_getElem (by omega)⟩
              have hxm := List.mem_of_getElem? hxx
              obtain ⟨hx1, hx2⟩ := HWO.out.low x hxm
              have e0 := blk_cellB HWS.out.1 (HX.out i2 x hxx)
              have s1 := catW_step ⟨#[]⟩ l hxx
              have hsz := catW_size (l.take i2) ⟨#[]⟩ (fun y hy => (HWO.out.low y (List.mem_of_mem_take hy)).1)
              have ht : (l.take i2).length ≤ 25 := by rw [List.length_take]; omega
              have hz0 : (⟨#[]⟩ : ByteArray).size = 0 := rfl
              obtain ⟨S3, hS3⟩ : ∃ S, catW ⟨#[]⟩ (l.take i2) = S := ⟨_, rfl⟩
              rw [hS3] at s1 hsz ⊢
              have hS1 := Lib.hid s1
              have a3 := add_str S3 x (by omega)
              obtain ⟨T, hT⟩ : ∃ T, S3 ++ x = T := ⟨_, rfl⟩
              rw [hT] at a3
              have HT := Lib.hid hT
              have hTz : T.size ≤ 400 := by rw [← hT, ByteArray.size_append]; omega
              have a4 := add_str T (⟨#[32]⟩ : ByteArray) (by show _ + 1 ≤ _; omega)
              have HI := Lib.hid hlt
              clear s1 hS3 hT hxx hxm hx2 hlt hz0 ht hi3
              go_wp2_with fail
              go_roundw
              case rel => exact ⟨i2 + 1, by go_num, by rw [hS1.out, HT.out], HI.out, HWS.out⟩
              case measure => have := HI.out; simp [intOf]; omega
            · have hje : i2 = l.length := by omega
              subst hje
              rw [List.take_length]
              obtain ⟨S3, hS3⟩ : ∃ S, catW ⟨#[]⟩ l = S := ⟨_, rfl⟩
              rw [hS3] at HAL ⊢
              have hp3 := parse_at HWS.out.2 (s := S3) rfl rfl HAL.out
              obtain ⟨ra, hr⟩ : ∃ r, (parseL S3).2.1 = r := ⟨_, rfl⟩
              rw [hr] at hp3
              clear hS3 hr hi3
              go_wp2_with fail
              refine hp3.mono ?_; rintro en w8 ⟨x3, tc3, c3, s3, wv3, pv3, L3, rfl, hb8, hS8⟩
              have HW8 : Hid (Sp w1 w8) := HWS.out.step hb8
              have hq3 := hS8.wd.one
              have HW9 : Hid (Sp w1 (w8.alloc (.cells (stC x3 tc3 c3 s3 wv3 pv3) 31))) := HW8.out.alloc _
              have haw := awake14_any HW9.out.2
              clear hS8 hb8 hp3
              have h1 : pe = 0 ∨ (pe = 3 ∧ pa = (m : Int)) := HC1.out
              have h2 : qe = 0 ∨ (qe = 3 ∧ (m : Int) ≤ qa) := HCH.out
              rcases h1 with g1 | ⟨g1, g2⟩ <;> rcases h2 with g3 | ⟨g3, g4⟩
              all_goals
                (try subst g1)
                (try subst g2)
                (try subst g3)
                go_wp2_with (refine wpl_sto2 rfl _ _ rfl rfl rfl rfl rfl hq3 ?_)
                refine haw.mono ?_; rintro e w10 ⟨rfl, h10⟩
                go_wp2_with fail
                go_ret
                exact ⟨rfl, HS1.out.trans (HW9.out.trans h10)⟩
end Go.Proofs.YtfbgdjcnlnfoaaaGreatDoor

