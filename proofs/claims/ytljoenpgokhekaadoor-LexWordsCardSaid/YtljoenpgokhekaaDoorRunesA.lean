/- Walks: runes.letter, runes.Count, runes.At. -/
import Derived.Test.YtljoenpgokhekaaDoorChecked
import Derived.Test.YtljoenpgokhekaaDoorPlainA
import Derived.Test.YtljoenpgokhekaaDoorKit
namespace Go.Proofs.YtljoenpgokhekaaDoor
open Go.RowKit
open Cle

set_option maxHeartbeats 400000 in
theorem count_any (s : ByteArray) (w : World) (hs : s.size ≤ 1000000) :
    Calls Tryd.prog 31 #[.string s] w fun e w' => e = .returned (.int .i64 (pts s).length) ∧ Below w.heap.size w w' := by
  go_enter Tryd.func31, Tryd.ntmps31
  go_wp2
  go_loopw [3] (fun v wr => ∃ (pos k : Nat), wr.heap[w.heap.size]? = some (.stringIter s pos) ∧ Below w.heap.size w wr ∧ v = .int .i64 k ∧ Hid ((pts s).length = k + (ptsAt s pos).length) ∧ k ≤ pos ∧ pos ≤ s.size) (fun _ wr => s.size - wr.iterPos w.heap.size)
  case atStart => exact ⟨0, 0, World.iter_heap w s 0, (Below.refl _ _).alloc (Nat.le_refl _) _, rfl, (by show _ = _; rw [pts_eq]; simp), by omega, by omega⟩
  case round =>
    obtain ⟨pos, k, hit, hbw, rfl, HS, hk, hpos⟩ := hrel
    have hpos0 := iterPos_of hit
    by_cases hp : pos < s.size
    · have hnx : ∀ ty, (Instr.next (.pointer (some ⟨w.heap.size, 0, none⟩)) true ty).run Tryd.prog wr = _ := fun ty => Lib.run_next_any_at wr w.heap.size s pos ty hit hp
      have hwd := width_pos s pos hp
      have hwl := width_le s pos hp
      go_wp2
      go_roundw
      case rel => exact ⟨_, k + 1, Lib.iterAt_heap wr w.heap.size s pos _ hit, Lib.below_iterAt hbw (Nat.le_refl _) s _, by go_num, (by show _ = _; rw [HS.out, ptsAt_step s pos hp]; simp; omega), by omega, by omega⟩
      case measure => rw [iterPos_of (Lib.iterAt_heap wr w.heap.size s pos _ hit), hpos0]; omega
    · have hnx : ∀ ty, (Instr.next (.pointer (some ⟨w.heap.size, 0, none⟩)) true ty).run Tryd.prog wr = _ := fun ty => Lib.run_next_end_at wr w.heap.size s pos ty hit hp
      go_wp2
      go_ret
      exact ⟨ret_int (by rw [HS.out, ptsAt_end s pos hp]; simp), hbw⟩

def atV : Option Pt → Value
  | some p => .tuple #[.int .i32 p.r, .int .i64 p.at_, .bool true]
  | none => .tuple #[.int .i32 0, .int .i64 0, .bool false]

set_option maxHeartbeats 400000 in
theorem at_any (s : ByteArray) (n : Int) (w : World) (hs : s.size ≤ 1000000) (hn0 : -9223372036854775808 ≤ n) (hn1 : n ≤ 9223372036854775807) :
    Calls Tryd.prog 30 #[.string s, .int .i64 n] w fun e w' => e = .returned (atV (atO s n)) ∧ Below w.heap.size w w' := by
  have H0 : Hid (wrap64 (n - ((0 : Nat) : Int)) = n) := by show _ = _; unfold wrap64; omega
  have HN : Hid (-9223372036854775808 ≤ n ∧ n ≤ 9223372036854775807) := ⟨hn0, hn1⟩
  clear hn0 hn1
  go_enter Tryd.func30, Tryd.ntmps30
  go_wp2
  go_loopw [1] (fun v wr => ∃ (pos k : Nat), wr.heap[w.heap.size]? = some (.stringIter s pos) ∧ Below w.heap.size w wr ∧ v = .int .i64 (wrap64 (n - k)) ∧ Hid (∃ done, pts s = done ++ ptsAt s pos ∧ done.length = k) ∧ Hid (n < 0 ∨ (k : Int) ≤ n) ∧ k ≤ pos ∧ pos ≤ s.size) (fun _ wr => s.size - wr.iterPos w.heap.size)
  case atStart => exact ⟨0, 0, World.iter_heap w s 0, (Below.refl _ _).alloc (Nat.le_refl _) _, by rw [H0.out], ⟨[], rfl, rfl⟩, (by show _ ∨ _; omega), by omega, by omega⟩
  case round =>
    obtain ⟨pos, k, hit, hbw, rfl, HS, HK, hk, hpos⟩ := hrel
    have hpos0 := iterPos_of hit
    by_cases hp : pos < s.size
    · have hnx : ∀ ty, (Instr.next (.pointer (some ⟨w.heap.size, 0, none⟩)) true ty).run Tryd.prog wr = _ := fun ty => Lib.run_next_any_at wr w.heap.size s pos ty hit hp
      have hwd := width_pos s pos hp
      have hwl := width_le s pos hp
      by_cases hz : n = k
      · have hz' : (wrap64 (n - k) == 0) = true := by have := HN.out; simp [wrap64]; omega
        have HE : Hid (atO s n = some ⟨(Utf8.decode s pos).1, pos, (Utf8.decode s pos).2⟩) := by
          obtain ⟨done, h1, h2⟩ := HS.out
          show _ = _
          unfold atO
          rw [if_pos (by omega), h1, ptsAt_step s pos hp, List.getElem?_append_right (by omega)]
          have : n.toNat - done.length = 0 := by omega
          rw [this]; rfl
        clear hz HN
        go_wp2
        go_ret3
        exact ⟨by rw [HE.out]; rfl, Lib.below_iterAt hbw (Nat.le_refl _) s _⟩
      · have hz' : (wrap64 (n - k) == 0) = false := by have := HN.out; simp [wrap64]; omega
        have HK2 : Hid (n < 0 ∨ ((k + 1 : Nat) : Int) ≤ n) := by have := HK.out; show _ ∨ _; omega
        have HW : Hid (wrap64 (wrap64 (n - k) - 1) = wrap64 (n - ((k + 1 : Nat) : Int))) := by show _ = _; unfold wrap64; omega
        clear hz
        go_wp2
        go_roundw
        case rel => exact ⟨_, k + 1, Lib.iterAt_heap wr w.heap.size s pos _ hit, Lib.below_iterAt hbw (Nat.le_refl _) s _, by rw [HW.out], (by obtain ⟨done, h1, h2⟩ := HS.out; exact ⟨done ++ [⟨(Utf8.decode s pos).1, pos, (Utf8.decode s pos).2⟩], by rw [h1, ptsAt_step s pos hp]; simp, by simp [h2]⟩), HK2, by omega, by omega⟩
        case measure => rw [iterPos_of (Lib.iterAt_heap wr w.heap.size s pos _ hit), hpos0]; omega
    · have hnx : ∀ ty, (Instr.next (.pointer (some ⟨w.heap.size, 0, none⟩)) true ty).run Tryd.prog wr = _ := fun ty => Lib.run_next_end_at wr w.heap.size s pos ty hit hp
      have HE : Hid (atO s n = none) := by
        obtain ⟨done, h1, h2⟩ := HS.out
        have := HK.out
        show _ = _
        unfold atO
        split
        · rw [h1, ptsAt_end s pos hp]; simp; omega
        · rfl
      go_wp2
      go_ret3
      exact ⟨by rw [HE.out]; rfl, hbw⟩

set_option maxRecDepth 100000 in
set_option maxHeartbeats 400000 in
theorem fold_any (s : ByteArray) (w : World) (hs : s.size ≤ 1000000) :
    Calls Tryd.prog 29 #[.string s] w fun e w' => e = .returned (.string (fold s)) ∧ Below w.heap.size w w' := by
  have hconv := run_bytes_of_string (P := Tryd.prog) w 9 84 5 s Tryd.underlying9 Tryd.underlying84 Tryd.underlying5
  obtain ⟨cap, hcap⟩ : ∃ cap, grownCap w s.size 0 5 = cap := ⟨_, rfl⟩
  rw [hcap] at hconv
  have hce : s.size ≤ cap := by rw [← hcap]; exact grownCap_ge w s.size 0 5
  clear hcap
  obtain ⟨C, hC⟩ : ∃ C, bytesRow s cap = C := ⟨_, rfl⟩
  rw [hC] at hconv
  have hCs : s.size ≤ C.size := by rw [← hC]; simp [bytesRow]
  have HC : Hid (∀ j (hj : j < s.data.size), C[j]? = some (.int .u8 (s.data[j].toNat : Int))) := fun j hj => by rw [← hC]; exact bytesRow_at s cap j hj
  clear hC
  go_enter Tryd.func29, Tryd.ntmps29
  go_wp2
  go_loopw [10] (fun v wr => ∃ (k : Nat) (D : Array Value), k ≤ s.size ∧ v = .int .i64 k ∧ Below w.heap.size w wr ∧ wr.heap[w.heap.size]? = some (.cells D 5 (C.size, C.size + 1)) ∧ D.size = C.size ∧ Hid (∀ j (hj : j < s.data.size), D[j]? = some (.int .u8 (if j < k then ((lowB s.data[j]).toNat : Int) else (s.data[j].toNat : Int))))) (fun v _ => s.size - (intOf v).toNat)
  case atStart => exact ⟨0, C, by omega, rfl, ((Below.refl _ _).alloc (Nat.le_refl _) _).drew, blk_new w _, rfl, fun j hj => by rw [HC.out j hj]; simp⟩
  case round =>
    obtain ⟨k, D, hk, rfl, hbw, hblk, hDs, HD⟩ := hrel
    by_cases hlt : k < s.size
    · have hc0 : wr.cell? ⟨w.heap.size, k, none⟩ = some (.int .u8 (s.data[k].toNat : Int)) := by rw [blk_cell hblk, HD.out k hlt]; simp
      have hf0 : wr.frozen? ⟨w.heap.size, k, none⟩ = false := blk_frozen hblk k (by omega)
      have hlow := lowB_or s.data[k]
      obtain ⟨c, hc⟩ : ∃ c, s.data[k] = c := ⟨_, rfl⟩
      rw [hc] at hc0 hlow
      have hb := c.toNat_lt
      have hor : bits .or .u8 (c.toNat : Int) 32 = ((c.toNat ||| 32 : Nat) : Int) := u8_or_nat c.toNat 32 (by omega) (by omega)
      have HL : Hid ((lowB c).toNat = if 65 ≤ c.toNat ∧ c.toNat ≤ 90 then c.toNat ||| 32 else c.toNat) := hlow
      have HCe : Hid (s.data[k] = c) := hc
      clear hlow hc
      go_wp2
      all_goals (
        go_roundw
        case measure => simp [intOf]; omega)
      case rel =>
        refine ⟨k + 1, _, by omega, by go_num, hbw.setCell (by simp) _, blk_set hblk _ _, by simp [hDs], fun j hj => ?_⟩
        have h1 := HD.out j hj
        by_cases hjk : j = k
        · subst hjk
          rw [Array.getElem?_setIfInBounds_self_of_lt (by omega), if_pos (by omega), HCe.out, HL.out, if_pos ⟨by omega, by omega⟩]
        · rw [Array.getElem?_setIfInBounds_ne (Ne.symm hjk), h1]
          by_cases h2 : j < k
          · rw [if_pos h2, if_pos (by omega)]
          · rw [if_neg h2, if_neg (by omega)]
      all_goals
        refine ⟨k + 1, D, by omega, by go_num, hbw, hblk, hDs, fun j hj => ?_⟩
        have h1 := HD.out j hj
        by_cases hjk : j = k
        · subst hjk
          rw [h1, if_neg (by omega), if_pos (by omega), HCe.out, HL.out, if_neg (by omega)]
        · rw [h1]
          by_cases h2 : j < k
          · rw [if_pos h2, if_pos (by omega)]
          · rw [if_neg h2, if_neg (by omega)]
    · have hc0 : ∀ j (hj : j < (s.data.map lowB).toList.length), wr.cell? ((⟨w.heap.size, 0, none⟩ : Addr).add j) = some (.int .u8 ((s.data.map lowB).toList[j].toNat : Int)) := fun j hj => by
        simp at hj
        rw [add_at, Nat.zero_add]
        rw [blk_cell hblk, HD.out j hj, if_pos (by have : s.data.size = s.size := rfl; omega)]
        simp
      have hback := run_convert_bytes_back (P := Tryd.prog) wr 84 9 5 ⟨w.heap.size, 0, none⟩ cap (s.data.map lowB).toList Tryd.underlying84 Tryd.underlying5 Tryd.underlying9 hc0
      have hl : (s.data.map lowB).toList.length = s.size := by simp
      rw [hl] at hback
      clear hc0 hl
      go_wp2
      go_ret
      exact ⟨ret_str (by unfold fold; congr 1; apply Array.ext'; simp), hbw⟩

end Go.Proofs.YtljoenpgokhekaaDoor
