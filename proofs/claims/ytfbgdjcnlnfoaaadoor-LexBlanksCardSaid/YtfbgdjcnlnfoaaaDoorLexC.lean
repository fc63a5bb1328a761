/- Walks: lex: open. -/
import Derived.Test.YtfbgdjcnlnfoaaaDoorLexB
namespace Go.Proofs.YtfbgdjcnlnfoaaaDoor
open Go.RowKit
open Cle

theorem ownsRow_iterAt {w : World} {base : Nat} {e : TypeId} {size : Nat} {v : Value} {n : Nat} {xs : List Value} (h : w.ownsRow base e size v n xs) {k : Nat} (hk : k < base) (s : ByteArray) (p : Nat) : (w.iterAt k s p).ownsRow base e size v n xs := by
  obtain ⟨h1, h2⟩ := h
  refine ⟨h1, ?_⟩
  rcases h2 with h2 | ⟨g, cap, cur, a, b, c, d⟩
  · exact .inl h2
  · exact .inr ⟨g, cap, cur, a, b, by rw [Lib.iterAt_other _ _ _ _ _ (by omega)]; exact c, d⟩
theorem ownsRow_setLow {w : World} {base : Nat} {e : TypeId} {size : Nat} {v : Value} {n : Nat} {xs : List Value} (h : w.ownsRow base e size v n xs) {a : Addr} (ha : a.block < base) (u : Value) : (w.setCell a u).ownsRow base e size v n xs := ownsRow_setCell_below h ha u

theorem pnt_one (r a : Int) (x : Bool) : ∀ u ∈ [Value.int .i32 r, Value.int .i64 a, Value.bool x], u.oneCell' = true := by
  intro u hu; simp at hu; rcases hu with rfl | rfl | rfl <;> rfl

set_option maxRecDepth 100000 in
set_option maxHeartbeats 2000000 in
theorem open_any (s : ByteArray) (w : World) (hG : Glob w) (hs : s.size ≤ 100000) :
    Calls Tryd.prog 7 #[.string s] w fun e w' => e = .returned (.pointer (some ⟨w.heap.size, 0, none⟩)) ∧ SQ w'.heap.size w' w.heap.size s (pts s) 0 ∧ Below w.heap.size w w' := by
  obtain ⟨i0, hi, hz0, hz1, hz2⟩ := info_parts Tryd.infoPt
  have HG := Lib.hid hG
  clear hG
  go_enter Tryd.func7, Tryd.ntmps7
  go_wp2_with fail
  go_loopw [] (fun wr => ∃ (pos : Nat) (done : List Pt) (v : Value), wr.heap[w.heap.size + 1]? = some (.stringIter s pos) ∧ wr.heap[w.heap.size]? = some (.cells #[.string s, v, .int .i64 0] 36 (0, 0)) ∧ wr.ownsRow (w.heap.size + 2) 42 3 v done.length (flatQ done) ∧ Below w.heap.size w wr ∧ Hid (pts s = done ++ ptsAt s pos) ∧ done.length ≤ pos ∧ pos ≤ s.size) (fun wr => s.size - wr.iterPos (w.heap.size + 1))
  case atStart =>
    refine ⟨0, [], .slice none 0 0, ?_, ?_, World.ownsRow_nil _ _ _ _, ((Below.refl _ _).alloc (Nat.le_refl _) _).alloc (by simp) _, rfl, by simp, by omega⟩
    · have := World.iter_heap (w.alloc (.cells #[.string s, .slice none 0 0, .int .i64 0] 36)) s 0
      simpa using this
    · exact blk_alloc (blk_new w _) _
  case round =>
    obtain ⟨pos, done, v, hit, hblk, hown, hbw, HS, hk, hpos⟩ := hrel
    have hpos0 := iterPos_of hit
    by_cases hp : pos < s.size
    · have hnx : ∀ ty, (Instr.next (.pointer (some ⟨w.heap.size + 1, 0, none⟩)) true ty).run Tryd.prog wr = _ := fun ty => Lib.run_next_any_at wr (w.heap.size + 1) s pos ty hit hp
      have hwd := width_pos s pos hp
      have hwl := width_le s pos hp
      have hit2 := Lib.iterAt_heap wr (w.heap.size + 1) s pos (pos + (Utf8.decode s pos).2) hit
      have hbw2 := Lib.below_iterAt hbw (k := w.heap.size + 1) (by omega) s (pos + (Utf8.decode s pos).2)
      have hblk2 : (wr.iterAt (w.heap.size + 1) s (pos + (Utf8.decode s pos).2)).heap[w.heap.size]? = some (.cells #[.string s, v, .int .i64 0] 36 (0, 0)) := by rw [Lib.iterAt_other _ _ _ _ _ (by omega)]; exact hblk
      have hown2 := ownsRow_iterAt hown (k := w.heap.size + 1) (by omega) s (pos + (Utf8.decode s pos).2)
      obtain ⟨W1, hW1⟩ : ∃ W1, W1 = wr.iterAt (w.heap.size + 1) s (pos + (Utf8.decode s pos).2) := ⟨_, rfl⟩
      rw [← hW1] at hnx hit2 hbw2 hblk2 hown2
      have hlt := blk_lt hit2
      clear hW1 hit hbw hblk hown
      have hd := dec_any s pos W1 (HG.out.below (hbw2.mono (by omega))) hp
      have HS2 : Hid (pts s = (done ++ [⟨(Utf8.decode s pos).1, pos, (Utf8.decode s pos).2⟩]) ++ ptsAt s (pos + (Utf8.decode s pos).2)) := by
        show _ = _; rw [HS.out, ptsAt_step s pos hp]; simp
      obtain ⟨q, hq⟩ : ∃ q : Pt, q = ⟨(Utf8.decode s pos).1, pos, (Utf8.decode s pos).2⟩ := ⟨_, rfl⟩
      have hq1 : (Utf8.decode s pos).1 = q.r := by rw [hq]
      have hq2 : (Utf8.decode s pos).2 = q.n := by rw [hq]
      have HQ : Hid (pos = q.at_) := by rw [hq]; rfl
      rw [← hq] at HS2
      rw [hq1, hq2] at hd
      rw [hq1] at hnx
      rw [hq2] at hwd hwl HS2 hit2
      have HOK : Hid (q.ok = ((q.r : Int) != 65533 || decide (1 < q.n))) := rfl
      have Hd := Lib.hid hd
      clear hq hq1 hq2 HS hd
      cases hr : ((q.r : Int) != 65533)
      · rw [hr] at HOK
        have HX : Hid (q.ok = decide (1 < (q.n : Int))) := by show _ = _; rw [HOK.out, Bool.false_or]; exact decide_eq_decide.2 (by omega)
        go_wp2_with fail
        refine Hd.out.mono ?_; rintro e w1 ⟨rfl, hb1⟩
        have hblk3 := blk_below hblk2 hb1 (by omega)
        have hit3 := blk_below hit2 hb1 hlt
        have hown3 := ownsRow_below hown2 hb1
        have hbw3 := hbw2.trans (hb1.mono (by omega))
        have hz1' := hb1.size
        have c1 : w1.cell? ⟨w.heap.size, 1, none⟩ = some v := by rw [blk_cell hblk3]; rfl
        clear hblk2 hit2 hown2 hbw2 hb1 hnx
        go_wp2_with (at_builtin; refine wpList_append_own _ rfl _ _ 34 rfl (w.heap.size + 2) 42 i0 (.agg #[.int .i32 0, .int .i64 0, .bool false]) 3 24 Tryd.underlying34 hi hz0 hz1 hz2 rfl (by decide) _ _ _ rfl (hown3.alloc _) ⟨w1.heap.size, 0, none⟩ 1 1 [.int .i32 q.r, .int .i64 pos, .bool (decide (1 < (q.n : Int)))] rfl rfl (cells_new _ _ _) (pnt_one _ _ _) (by unfold maxLen; omega) (by omega) (by simp; omega) ?_; intro v' w2 hown4 hg2 _; obtain ⟨a', cap', hv', _⟩ := row_read hown4; rw [hv'] at hown4 ⊢; clear hv'
                     have hne : some w.heap.size ≠ v.ownBlock := fun h => by have := (hown3.lt _ h.symm).1; omega
                     have hne2 : some (w.heap.size + 1) ≠ v.ownBlock := fun h => by have := (hown3.lt _ h.symm).1; omega
                     have hblk4 : w2.heap[w.heap.size]? = some (.cells #[.string s, v, .int .i64 0] 36 (0, 0)) := by rw [hg2.block _ (by simp; omega) hne]; exact blk_alloc hblk3 _
                     have hit4 : w2.heap[w.heap.size + 1]? = some (.stringIter s (pos + q.n)) := by rw [hg2.block _ (by simp; omega) hne2]; exact blk_alloc hit3 _
                     have hbw4 : Below w.heap.size w w2 := (hbw3.alloc (by omega) _).grown hg2 (by simp; omega) (fun k hk => by have := (hown3.lt _ hk).1; omega)
                     have c4 : w2.cell? ⟨w.heap.size, 1, none⟩ = some v := by rw [blk_cell hblk4]; rfl
                     have f4 : w2.frozen? ⟨w.heap.size, 1, none⟩ = false := blk_frozen0 hblk4 1
                     clear hown3 hblk3 hit3 hbw3 hg2 hne hne2)
        have h5 : (w2.setCell ⟨w.heap.size, 1, none⟩ (.slice a' (done.length + 1) cap')).heap[w.heap.size + 1]? = some (.stringIter s (pos + q.n)) := blk_setOther hit4 _ _ (by simp)
        go_roundw
        case rel =>
          refine ⟨pos + q.n, done ++ [q], _, h5, blk_set hblk4 1 _, ?_, hbw4.setCell (Nat.le_refl _) _, HS2, by simp; omega, hwl⟩
          have e : [Value.int .i32 q.r, Value.int .i64 pos, Value.bool (decide (1 < (q.n : Int)))] = pntCells q := by unfold pntCells; rw [HX.out, ← HQ.out]
          rw [e, flatQ_snoc] at hown4
          have e2 : (done ++ [q]).length = done.length + 1 := by simp
          rw [e2]
          exact ownsRow_setLow hown4 (by show _ < _; simp) _
        case measure => rw [iterPos_of h5, hpos0]; omega
      · rw [hr] at HOK
        have HX : Hid (q.ok = true) := by show _ = _; rw [HOK.out]; rfl
        go_wp2_with fail
        refine Hd.out.mono ?_; rintro e w1 ⟨rfl, hb1⟩
        have hblk3 := blk_below hblk2 hb1 (by omega)
        have hit3 := blk_below hit2 hb1 hlt
        have hown3 := ownsRow_below hown2 hb1
        have hbw3 := hbw2.trans (hb1.mono (by omega))
        have hz1' := hb1.size
        have c1 : w1.cell? ⟨w.heap.size, 1, none⟩ = some v := by rw [blk_cell hblk3]; rfl
        clear hblk2 hit2 hown2 hbw2 hb1 hnx
        go_wp2_with (at_builtin; refine wpList_append_own _ rfl _ _ 34 rfl (w.heap.size + 2) 42 i0 (.agg #[.int .i32 0, .int .i64 0, .bool false]) 3 24 Tryd.underlying34 hi hz0 hz1 hz2 rfl (by decide) _ _ _ rfl (hown3.alloc _) ⟨w1.heap.size, 0, none⟩ 1 1 [.int .i32 q.r, .int .i64 pos, .bool (true)] rfl rfl (cells_new _ _ _) (pnt_one _ _ _) (by unfold maxLen; omega) (by omega) (by simp; omega) ?_; intro v' w2 hown4 hg2 _; obtain ⟨a', cap', hv', _⟩ := row_read hown4; rw [hv'] at hown4 ⊢; clear hv'
                     have hne : some w.heap.size ≠ v.ownBlock := fun h => by have := (hown3.lt _ h.symm).1; omega
                     have hne2 : some (w.heap.size + 1) ≠ v.ownBlock := fun h => by have := (hown3.lt _ h.symm).1; omega
                     have hblk4 : w2.heap[w.heap.size]? = some (.cells #[.string s, v, .int .i64 0] 36 (0, 0)) := by rw [hg2.block _ (by simp; omega) hne]; exact blk_alloc hblk3 _
                     have hit4 : w2.heap[w.heap.size + 1]? = some (.stringIter s (pos + q.n)) := by rw [hg2.block _ (by simp; omega) hne2]; exact blk_alloc hit3 _
                     have hbw4 : Below w.heap.size w w2 := (hbw3.alloc (by omega) _).grown hg2 (by simp; omega) (fun k hk => by have := (hown3.lt _ hk).1; omega)
                     have c4 : w2.cell? ⟨w.heap.size, 1, none⟩ = some v := by rw [blk_cell hblk4]; rfl
                     have f4 : w2.frozen? ⟨w.heap.size, 1, none⟩ = false := blk_frozen0 hblk4 1
                     clear hown3 hblk3 hit3 hbw3 hg2 hne hne2)
        have h5 : (w2.setCell ⟨w.heap.size, 1, none⟩ (.slice a' (done.length + 1) cap')).heap[w.heap.size + 1]? = some (.stringIter s (pos + q.n)) := blk_setOther hit4 _ _ (by simp)
        go_roundw
        case rel =>
          refine ⟨pos + q.n, done ++ [q], _, h5, blk_set hblk4 1 _, ?_, hbw4.setCell (Nat.le_refl _) _, HS2, by simp; omega, hwl⟩
          have e : [Value.int .i32 q.r, Value.int .i64 pos, Value.bool (true)] = pntCells q := by unfold pntCells; rw [HX.out, ← HQ.out]
          rw [e, flatQ_snoc] at hown4
          have e2 : (done ++ [q]).length = done.length + 1 := by simp
          rw [e2]
          exact ownsRow_setLow hown4 (by show _ < _; simp) _
        case measure => rw [iterPos_of h5, hpos0]; omega
    · have hnx : ∀ ty, (Instr.next (.pointer (some ⟨w.heap.size + 1, 0, none⟩)) true ty).run Tryd.prog wr = _ := fun ty => Lib.run_next_end_at wr (w.heap.size + 1) s pos ty hit hp
      have hE : Hid (pts s = done) := by show _ = _; rw [HS.out, ptsAt_end s pos hp, List.append_nil]
      clear HS
      go_wp2_with fail
      go_ret
      refine ⟨rfl, ?_, hbw⟩
      obtain ⟨a, cap, rfl, hr⟩ := row_read hown
      rw [hE.out]
      refine ⟨Nat.le_refl _, blk_lt hblk, a, cap, hblk, fun h0 => ?_⟩
      obtain ⟨g, e1, e2, e3, e4⟩ := hr h0
      exact ⟨g, e1, by omega, e3, e4⟩

end Go.Proofs.YtfbgdjcnlnfoaaaDoor
