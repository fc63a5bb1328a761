/- Walks: runes.letter, runes.Count, runes.At. -/
import Derived.Test.YtfbgdjcnlnfoaaaDoorChecked
import Derived.Test.YtfbgdjcnlnfoaaaDoorPlainA
import Derived.Test.YtfbgdjcnlnfoaaaDoorKit
namespace Go.Proofs.YtfbgdjcnlnfoaaaDoor
open Go.RowKit
open Cle

def atV : Option Pt → Value
  | some p => .tuple #[.int .i32 p.r, .int .i64 p.at_, .bool true]
  | none => .tuple #[.int .i32 0, .int .i64 0, .bool false]

set_option maxRecDepth 100000 in
set_option maxHeartbeats 400000 in
theorem fold_any (s : ByteArray) (w : World) (hs : s.size ≤ 1000000) :
    Calls Tryd.prog 20 #[.string s] w fun e w' => e = .returned (.string (fold s)) ∧ Below w.heap.size w w' := by
  have hconv := run_bytes_of_string (P := Tryd.prog) w 9 54 5 s Tryd.underlying9 Tryd.underlying54 Tryd.underlying5
  obtain ⟨cap, hcap⟩ : ∃ cap, grownCap w s.size 0 5 = cap := ⟨_, rfl⟩
  rw [hcap] at hconv
  have hce : s.size ≤ cap := by rw [← hcap]; exact grownCap_ge w s.size 0 5
  clear hcap
  obtain ⟨C, hC⟩ : ∃ C, bytesRow s cap = C := ⟨_, rfl⟩
  rw [hC] at hconv
  have hCs : s.size ≤ C.size := by rw [← hC]; simp [bytesRow]
  have HC : Hid (∀ j (hj : j < s.data.size), C[j]? = some (.int .u8 (s.data[j].toNat : Int))) := fun j hj => by rw [← hC]; exact bytesRow_at s cap j hj
  clear hC
  go_enter Tryd.func20, Tryd.ntmps20
  go_wp2
  go_loopw [10] (fun v wr => ∃ (k : Nat) (D : Array Value), k ≤ s.size ∧ v = .int .i64 k ∧ Below w.heap.size w wr ∧ wr.heap[w.heap.size]? = some (.cells D 5 (C.size, C.size + 1)) ∧ D.size = C.size ∧ Hid (∀ j (hj : j < s.data.size), D[j]? = some (.int .u8 (if j < k then ((lowB s.data[j]).toNat : Int) else (s.data[j].toNat : Int))))) (fun v _ => s.size - (intOf v).toNat)
  case atStart => exact ⟨0, C, by omega, rfl, ((Below.refl _ _).alloc (Nat.le_refl _) _).drew, blk_new w _, rfl, fun j hj => by rw [HC.out j hj]; simp⟩
  case round =>
    obtain ⟨k, D, hk, rfl, hbw, hblk, hDs, HD⟩ := hrel
    by_cases hlt : k < s.size
    · have hc0 : wr.cell? ⟨w.heap.size, k, none⟩ = some (.int .u8 (s.data[k].toNat : Int)) := by rw [blk_cell hblk, HD.out k hlt]; simp
      have hf0 : wr.frozen? ⟨w.heap.size, k, none⟩ = false := blk_frozen hblk k (by omega)
      have hlow := lowB_or s.data[k]
      obtain ⟨c, hc⟩ : ∃ c, s.data[k] = c := ⟨_, rfl⟩
      rw [hc] at hc0 hlow
      have hb := c.toNat_lt
      have hor : bits .or .u8 (c.toNat : Int) 32 = ((c.toNat ||| 32 : Nat) : Int) := u8_or_nat c.toNat 32 (by omega) (by omega)
      have HL : Hid ((lowB c).toNat = if 65 ≤ c.toNat ∧ c.toNat ≤ 90 then c.toNat ||| 32 else c.toNat) := hlow
      have HCe : Hid (s.data[k] = c) := hc
      clear hlow hc
      go_wp2
      all_goals (
        go_roundw
        case measure => simp [intOf]; omega)
      case rel =>
        refine ⟨k + 1, _, by omega, by go_num, hbw.setCell (by simp) _, blk_set hblk _ _, by simp [hDs], fun j hj => ?_⟩
        have h1 := HD.out j hj
        by_cases hjk : j = k
        · subst hjk
          rw [Array.getElem?_setIfInBounds_self_of_lt (by omega), if_pos (by omega), HCe.out, HL.out, if_pos ⟨by omega, by omega⟩]
        · rw [Array.getElem?_setIfInBounds_ne (Ne.symm hjk), h1]
          by_cases h2 : j < k
          · rw [if_pos h2, if_pos (by omega)]
          · rw [if_neg h2, if_neg (by omega)]
      all_goals
        refine ⟨k + 1, D, by omega, by go_num, hbw, hblk, hDs, fun j hj => ?_⟩
        have h1 := HD.out j hj
        by_cases hjk : j = k
        · subst hjk
          rw [h1, if_neg (by omega), if_pos (by omega), HCe.out, HL.out, if_neg (by omega)]
        · rw [h1]
          by_cases h2 : j < k
          · rw [if_pos h2, if_pos (by omega)]
          · rw [if_neg h2, if_neg (by omega)]
    · have hc0 : ∀ j (hj : j < (s.data.map lowB).toList.length), wr.cell? ((⟨w.heap.size, 0, none⟩ : Addr).add j) = some (.int .u8 ((s.data.map lowB).toList[j].toNat : Int)) := fun j hj => by
        simp at hj
        rw [add_at, Nat.zero_add]
        rw [blk_cell hblk, HD.out j hj, if_pos (by have : s.data.size = s.size := rfl; omega)]
        simp
      have hback := run_convert_bytes_back (P := Tryd.prog) wr 54 9 5 ⟨w.heap.size, 0, none⟩ cap (s.data.map lowB).toList Tryd.underlying54 Tryd.underlying5 Tryd.underlying9 hc0
      have hl : (s.data.map lowB).toList.length = s.size := by simp
      rw [hl] at hback
      clear hc0 hl
      go_wp2
      go_ret
      exact ⟨ret_str (by unfold fold; congr 1; apply Array.ext'; simp), hbw⟩

end Go.Proofs.YtfbgdjcnlnfoaaaDoor
