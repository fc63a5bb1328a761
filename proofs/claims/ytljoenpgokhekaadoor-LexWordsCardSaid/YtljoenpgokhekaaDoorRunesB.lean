/- Walks: runes.right, runes.Valid, runes.Name. -/
import Derived.Test.YtljoenpgokhekaaDoorRunesA
import Derived.Test.YtljoenpgokhekaaDoorPlainB
import Derived.Test.YtljoenpgokhekaaDoorShelf
namespace Go.Proofs.YtljoenpgokhekaaDoor
open Go.RowKit
open Cle

/-- What the library's own tables hold; the variable of the search. -/
def Glob (w : World) : Prop := Lib.Utf8Tabs 0 1 w ∧ ∃ m, w.cell? ⟨2, 0, none⟩ = some (.int .i64 m)

theorem cell_lt {w : World} {a : Addr} {v : Value} (h : w.cell? a = some v) : a.block < w.heap.size := by
  unfold World.cell? at h
  split at h
  · rename_i h1; exact blk_lt h1
  · cases h

theorem Glob.below {w w' : World} (h : Glob w) (hb : Below w.heap.size w w') : Glob w' := by
  obtain ⟨h1, m, h2⟩ := h
  exact ⟨Utf8Tabs_below h1 hb, m, by rw [hb.cell (cell_lt h2)]; exact h2⟩

theorem letter_any (r : Int) (w : World) :
    Calls Tryd.prog 55 #[.int .i32 r] w fun e w' => e = .returned (.bool (letterB r)) ∧ w = w' := by
  go_enter Tryd.func55, Tryd.ntmps55
  go_wp2
  all_goals go_ret
  all_goals refine ⟨ret_bool ?_, rfl⟩
  all_goals (unfold letterB; rw [Bool.eq_iff_iff]; simp; try omega)

theorem dec_any (s : ByteArray) (a : Nat) (w : World) (hG : Glob w) (h : a < s.size) :
    Calls Tryd.prog 59 #[.string (s.extract a s.size)] w fun e w' => e = .returned (.tuple #[.int .i32 (Utf8.decode s a).1, .int .i64 (Utf8.decode s a).2]) ∧ Below w.heap.size w w' := by
  have := Tryd.utf8_DecodeRuneInString (s.extract a s.size) w hG.1
  rw [dec_ext s a h] at this
  exact this

set_option maxHeartbeats 400000 in
theorem right_any (s : ByteArray) (a : Nat) (r : Int) (w : World) (hG : Glob w) (h : a < s.size) (_hs : s.size ≤ 1000000) :
    Calls Tryd.prog 56 #[.string s, .int .i64 a, .int .i32 r] w fun e w' => e = .returned (.bool (r != 65533 || decide (1 < (Utf8.decode s a).2))) ∧ Below w.heap.size w w' := by
  have hd := dec_any s a w hG h
  clear hG
  by_cases hr : r = 65533
  · have hr1 : (r != 65533) = false := by simp [hr]
    clear hr
    go_enter Tryd.func56, Tryd.ntmps56
    go_wp2_with (go_at_call 59; refine hd.mono ?_; rintro e w' ⟨rfl, hb⟩)
    go_ret
    exact ⟨ret_bool (by simp [hr1]; omega), hb⟩
  · have hr1 : (r != 65533) = true := by simp [hr]
    clear hr
    go_enter Tryd.func56, Tryd.ntmps56
    go_wp2_with fail
    go_ret
    exact ⟨ret_bool (by simp [hr1]), Below.refl _ _⟩

/-- An iterator's block stays as it is while a call makes memory of its own. -/
theorem valid_any (s : ByteArray) (w : World) (hG : Glob w) (hs : s.size ≤ 1000000) :
    Calls Tryd.prog 32 #[.string s] w fun e w' => e = .returned (.bool (valid s)) ∧ Below w.heap.size w w' := by
  have HG : Hid (Glob w) := hG
  clear hG
  go_enter Tryd.func32, Tryd.ntmps32
  go_wp2
  go_loopw [] (fun wr => ∃ (pos : Nat), wr.heap[w.heap.size]? = some (.stringIter s pos) ∧ Below w.heap.size w wr ∧ Hid (valid s = (ptsAt s pos).all Pt.ok) ∧ pos ≤ s.size) (fun wr => s.size - wr.iterPos w.heap.size)
  case atStart => exact ⟨0, World.iter_heap w s 0, (Below.refl _ _).alloc (Nat.le_refl _) _, rfl, by omega⟩
  case round =>
    obtain ⟨pos, hit, hbw, HS, hpos⟩ := hrel
    have hpos0 := iterPos_of hit
    by_cases hp : pos < s.size
    · have hnx : ∀ ty, (Instr.next (.pointer (some ⟨w.heap.size, 0, none⟩)) true ty).run Tryd.prog wr = _ := fun ty => Lib.run_next_any_at wr w.heap.size s pos ty hit hp
      have hwd := width_pos s pos hp
      have hwl := width_le s pos hp
      have hit2 := Lib.iterAt_heap wr w.heap.size s pos (pos + (Utf8.decode s pos).2) hit
      have hbw2 := Lib.below_iterAt hbw (k := w.heap.size) (Nat.le_refl _) s (pos + (Utf8.decode s pos).2)
      obtain ⟨W1, hW1⟩ : ∃ W1, W1 = wr.iterAt w.heap.size s (pos + (Utf8.decode s pos).2) := ⟨_, rfl⟩
      rw [← hW1] at hnx hit2 hbw2
      have hlt := blk_lt hit2
      have hr := right_any s pos (Utf8.decode s pos).1 W1 (HG.out.below (hbw2.mono (by omega))) hp hs
      have HC : Hid (valid s = ((((Utf8.decode s pos).1 : Int) != 65533 || decide (1 < (Utf8.decode s pos).2)) && (ptsAt s (pos + (Utf8.decode s pos).2)).all Pt.ok)) := by
        show _ = _
        rw [HS.out, ptsAt_step s pos hp, List.all_cons]
        rfl
      clear hW1 hit hbw HS
      cases hk : (((Utf8.decode s pos).1 : Int) != 65533 || decide (1 < (Utf8.decode s pos).2))
      all_goals
        rw [hk] at hr HC
        clear hk
        go_wp2_with (go_at_call 56; refine hr.mono ?_; rintro e w' ⟨rfl, hb⟩)
      · go_ret
        exact ⟨ret_bool (by rw [HC.out]; rfl), hbw2.trans (hb.mono (by omega))⟩
      · go_roundw
        case rel => exact ⟨_, blk_below hit2 hb hlt, hbw2.trans (hb.mono (by omega)), (by show _ = _; rw [HC.out]; simp), by omega⟩
        case measure => rw [iterPos_of (blk_below hit2 hb hlt), hpos0]; omega
    · have hnx : ∀ ty, (Instr.next (.pointer (some ⟨w.heap.size, 0, none⟩)) true ty).run Tryd.prog wr = _ := fun ty => Lib.run_next_end_at wr w.heap.size s pos ty hit hp
      go_wp2
      go_ret
      exact ⟨ret_bool (by rw [HS.out, ptsAt_end s pos hp]; rfl), hbw⟩

set_option maxHeartbeats 800000 in
theorem name_any (s : ByteArray) (w : World) (hG : Glob w) (hs : s.size ≤ 1000000) :
    Calls Tryd.prog 28 #[.string s] w fun e w' => e = .returned (.bool (name s)) ∧ Below w.heap.size w w' := by
  have HG : Hid (Glob w) := hG
  clear hG
  go_enter Tryd.func28, Tryd.ntmps28
  go_wp2
  go_loopw [] (fun wr => ∃ (pos : Nat), wr.heap[w.heap.size]? = some (.stringIter s pos) ∧ Below w.heap.size w wr ∧ Hid (name s = ((ptsAt s pos).all Pt.named && (decide (s.size ≠ 0) && decide (s.size ≤ 100)))) ∧ pos ≤ s.size) (fun wr => s.size - wr.iterPos w.heap.size)
  case atStart => exact ⟨0, World.iter_heap w s 0, (Below.refl _ _).alloc (Nat.le_refl _) _, rfl, by omega⟩
  case round =>
    obtain ⟨pos, hit, hbw, HS, hpos⟩ := hrel
    have hpos0 := iterPos_of hit
    by_cases hp : pos < s.size
    · have hnx : ∀ ty, (Instr.next (.pointer (some ⟨w.heap.size, 0, none⟩)) true ty).run Tryd.prog wr = _ := fun ty => Lib.run_next_any_at wr w.heap.size s pos ty hit hp
      have hwd := width_pos s pos hp
      have hwl := width_le s pos hp
      have hit2 := Lib.iterAt_heap wr w.heap.size s pos (pos + (Utf8.decode s pos).2) hit
      have hbw2 := Lib.below_iterAt hbw (k := w.heap.size) (Nat.le_refl _) s (pos + (Utf8.decode s pos).2)
      obtain ⟨W1, hW1⟩ : ∃ W1, W1 = wr.iterAt w.heap.size s (pos + (Utf8.decode s pos).2) := ⟨_, rfl⟩
      rw [← hW1] at hnx hit2 hbw2
      have hlt := blk_lt hit2
      have hr := right_any s pos (Utf8.decode s pos).1 W1 (HG.out.below (hbw2.mono (by omega))) hp hs
      have hl := fun r w => letter_any r w
      have HC : Hid (name s = ((((letterB (Utf8.decode s pos).1 || (digitB (Utf8.decode s pos).1 && decide (0 < pos))) && (((Utf8.decode s pos).1 : Int) != 65533 || decide (1 < (Utf8.decode s pos).2))) && (ptsAt s (pos + (Utf8.decode s pos).2)).all Pt.named) && (decide (s.size ≠ 0) && decide (s.size ≤ 100)))) := by
        show _ = _
        rw [HS.out, ptsAt_step s pos hp, List.all_cons]
        rfl
      clear hW1 hit hbw HS
      obtain ⟨r, hr0⟩ : ∃ r : Nat, (Utf8.decode s pos).1 = r := ⟨_, rfl⟩
      rw [hr0] at hnx hr HC
      clear hr0
      cases hL : letterB r <;> cases hR : ((r : Int) != 65533 || decide (1 < (Utf8.decode s pos).2))
      all_goals
        rw [hL] at HC
        rw [hR] at hr HC
        have hl := letter_any r W1
        rw [hL] at hl
        clear hL hR
        go_wp2_with (first
          | (go_at_call 55; refine hl.mono ?_; rintro e w' ⟨rfl, rfl⟩)
          | (go_at_call 56; refine hr.mono ?_; rintro e w' ⟨rfl, hb⟩))
      all_goals first
        | (go_ret
           refine ⟨ret_bool ?_, ?_⟩
           · rw [HC.out]; simp; done
           · exact hbw2.trans (hb.mono (by omega)))
        | (go_ret
           refine ⟨ret_bool ?_, ?_⟩
           · have hd : (digitB r && decide (0 < pos)) = false := by
               rw [Bool.eq_false_iff]; simp [digitB]; omega
             rw [HC.out, hd]; rfl
           · exact hbw2)
        | (go_roundw
           case rel =>
             refine ⟨_, blk_below hit2 hb hlt, hbw2.trans (hb.mono (by omega)), ?_, by omega⟩
             show _ = _
             rw [HC.out]
             first
               | (simp; done)
               | (have hd : (digitB r && decide (0 < pos)) = true := by
                    simp [digitB]; omega
                  rw [hd]; simp)
           case measure => rw [iterPos_of (blk_below hit2 hb hlt), hpos0]; omega)
    · have hnx : ∀ ty, (Instr.next (.pointer (some ⟨w.heap.size, 0, none⟩)) true ty).run Tryd.prog wr = _ := fun ty => Lib.run_next_end_at wr w.heap.size s pos ty hit hp
      have he := isEmpty_size s
      have HE : Hid (name s = (decide (s.size ≠ 0) && decide (s.size ≤ 100))) := by
        show _ = _
        rw [HS.out, ptsAt_end s pos hp]; rfl
      clear HS
      by_cases h0 : s.size = 0
      · have he2 : s.toList.isEmpty = true := by rw [he]; simp [h0]
        clear he
        have HZ : Hid (s.size = 0) := h0
        clear h0
        go_wp2
        go_ret
        exact ⟨ret_bool (by rw [HE.out, HZ.out]; rfl), hbw⟩
      · have he2 : s.toList.isEmpty = false := by rw [he]; simp [h0]
        clear he
        go_wp2
        go_ret
        exact ⟨ret_bool (by rw [HE.out]; simp [h0]; omega), hbw⟩

end Go.Proofs.YtljoenpgokhekaaDoor
