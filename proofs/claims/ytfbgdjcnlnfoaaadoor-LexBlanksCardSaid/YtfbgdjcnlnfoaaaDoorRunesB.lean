/- Walks: runes.right, runes.Valid, runes.Name. -/
import Derived.Test.YtfbgdjcnlnfoaaaDoorRunesA
import Derived.Test.YtfbgdjcnlnfoaaaDoorPlainB
import Derived.Test.YtfbgdjcnlnfoaaaDoorShelf
namespace Go.Proofs.YtfbgdjcnlnfoaaaDoor
open Go.RowKit
open Cle

/-- What the library's own tables hold. -/
def Glob (w : World) : Prop := Lib.Utf8Tabs 0 1 w ∧ True

theorem cell_lt {w : World} {a : Addr} {v : Value} (h : w.cell? a = some v) : a.block < w.heap.size := by
  unfold World.cell? at h
  split at h
  · rename_i h1; exact blk_lt h1
  · cases h

theorem Glob.below {w w' : World} (h : Glob w) (hb : Below w.heap.size w w') : Glob w' := by
  first
    | exact ⟨Utf8Tabs_below h.1 hb, trivial⟩
    | (obtain ⟨h1, m, h2⟩ := h
       exact ⟨Utf8Tabs_below h1 hb, m, by rw [hb.cell (cell_lt h2)]; exact h2⟩)

theorem dec_any (s : ByteArray) (a : Nat) (w : World) (hG : Glob w) (h : a < s.size) :
    Calls Tryd.prog 11 #[.string (s.extract a s.size)] w fun e w' => e = .returned (.tuple #[.int .i32 (Utf8.decode s a).1, .int .i64 (Utf8.decode s a).2]) ∧ Below w.heap.size w w' := by
  have := Tryd.utf8_DecodeRuneInString (s.extract a s.size) w hG.1
  rw [dec_ext s a h] at this
  exact this

set_option maxHeartbeats 400000 in
theorem right_any (s : ByteArray) (a : Nat) (r : Int) (w : World) (hG : Glob w) (h : a < s.size) (_hs : s.size ≤ 1000000) :
    Calls Tryd.prog 25 #[.string s, .int .i64 a, .int .i32 r] w fun e w' => e = .returned (.bool (r != 65533 || decide (1 < (Utf8.decode s a).2))) ∧ Below w.heap.size w w' := by
  have hd := dec_any s a w hG h
  clear hG
  by_cases hr : r = 65533
  · have hr1 : (r != 65533) = false := by simp [hr]
    clear hr
    go_enter Tryd.func25, Tryd.ntmps25
    go_wp2_with (go_at_call 11; refine hd.mono ?_; rintro e w' ⟨rfl, hb⟩)
    go_ret
    exact ⟨ret_bool (by simp [hr1]; omega), hb⟩
  · have hr1 : (r != 65533) = true := by simp [hr]
    clear hr
    go_enter Tryd.func25, Tryd.ntmps25
    go_wp2_with fail
    go_ret
    exact ⟨ret_bool (by simp [hr1]), Below.refl _ _⟩

/-- An iterator's block stays as it is while a call makes memory of its own. -/
theorem valid_any (s : ByteArray) (w : World) (hG : Glob w) (hs : s.size ≤ 1000000) :
    Calls Tryd.prog 22 #[.string s] w fun e w' => e = .returned (.bool (valid s)) ∧ Below w.heap.size w w' := by
  have HG : Hid (Glob w) := hG
  clear hG
  go_enter Tryd.func22, Tryd.ntmps22
  go_wp2
  go_loopw [] (fun wr => ∃ (pos : Nat), wr.heap[w.heap.size]? = some (.stringIter s pos) ∧ Below w.heap.size w wr ∧ Hid (valid s = (ptsAt s pos).all Pt.ok) ∧ pos ≤ s.size) (fun wr => s.size - wr.iterPos w.heap.size)
  case atStart => exact ⟨0, World.iter_heap w s 0, (Below.refl _ _).alloc (Nat.le_refl _) _, rfl, by omega⟩
  case round =>
    obtain ⟨pos, hit, hbw, HS, hpos⟩ := hrel
    have hpos0 := iterPos_of hit
    by_cases hp : pos < s.size
    · have hnx : ∀ ty, (Instr.next (.pointer (some ⟨w.heap.size, 0, none⟩)) true ty).run Tryd.prog wr = _ := fun ty => Lib.run_next_any_at wr w.heap.size s pos ty hit hp
      have hwd := width_pos s pos hp
      have hwl := width_le s pos hp
      have hit2 := Lib.iterAt_heap wr w.heap.size s pos (pos + (Utf8.decode s pos).2) hit
      have hbw2 := Lib.below_iterAt hbw (k := w.heap.size) (Nat.le_refl _) s (pos + (Utf8.decode s pos).2)
      obtain ⟨W1, hW1⟩ : ∃ W1, W1 = wr.iterAt w.heap.size s (pos + (Utf8.decode s pos).2) := ⟨_, rfl⟩
      rw [← hW1] at hnx hit2 hbw2
      have hlt := blk_lt hit2
      have hr := right_any s pos (Utf8.decode s pos).1 W1 (HG.out.below (hbw2.mono (by omega))) hp hs
      have HC : Hid (valid s = ((((Utf8.decode s pos).1 : Int) != 65533 || decide (1 < (Utf8.decode s pos).2)) && (ptsAt s (pos + (Utf8.decode s pos).2)).all Pt.ok)) := by
        show _ = _
        rw [HS.out, ptsAt_step s pos hp, List.all_cons]
        rfl
      clear hW1 hit hbw HS
      cases hk : (((Utf8.decode s pos).1 : Int) != 65533 || decide (1 < (Utf8.decode s pos).2))
      all_goals
        rw [hk] at hr HC
        clear hk
        go_wp2_with (go_at_call 25; refine hr.mono ?_; rintro e w' ⟨rfl, hb⟩)
      · go_ret
        exact ⟨ret_bool (by rw [HC.out]; rfl), hbw2.trans (hb.mono (by omega))⟩
      · go_roundw
        case rel => exact ⟨_, blk_below hit2 hb hlt, hbw2.trans (hb.mono (by omega)), (by show _ = _; rw [HC.out]; simp), by omega⟩
        case measure => rw [iterPos_of (blk_below hit2 hb hlt), hpos0]; omega
    · have hnx : ∀ ty, (Instr.next (.pointer (some ⟨w.heap.size, 0, none⟩)) true ty).run Tryd.prog wr = _ := fun ty => Lib.run_next_end_at wr w.heap.size s pos ty hit hp
      go_wp2
      go_ret
      exact ⟨ret_bool (by rw [HS.out, ptsAt_end s pos hp]; rfl), hbw⟩

end Go.Proofs.YtfbgdjcnlnfoaaaDoor
