/- Walks: the reference of layer 1: All and what goes over it. -/
import Derived.Test.YtljoenpgokhekaaDoorRefA
namespace Go.Proofs.YtljoenpgokhekaaDoor
open Go.RowKit
open Cle

def ptCells (p : Pt) : List Value := [.int .i32 p.r, .int .i64 p.at_, .int .i64 p.n, .bool p.ok]
def flatP (l : List Pt) : List Value := l.flatMap ptCells
theorem flatP_len (l : List Pt) : (flatP l).length = l.length * 4 := by
  induction l with
  | nil => rfl
  | cons p l ih => unfold flatP at *; simp [List.flatMap_cons, ptCells, ih]; omega
theorem flatP_snoc (l : List Pt) (p : Pt) : flatP l ++ ptCells p = flatP (l ++ [p]) := by simp [flatP]
theorem flatP_at : ∀ (l : List Pt) (k j : Nat) (h : k < l.length) (_ : j < 4), (flatP l)[k * 4 + j]? = (ptCells l[k])[j]?
  | p :: l, 0, j, _, hj => by
    simp only [flatP, List.flatMap_cons, Nat.zero_mul, Nat.zero_add, List.getElem_cons_zero]
    rw [List.getElem?_append_left (by simp [ptCells]; omega)]
  | p :: l, k + 1, j, h, hj => by
    have := flatP_at l k j (by simp at h; omega) hj
    simp only [flatP, List.flatMap_cons, List.getElem_cons_succ] at this ⊢
    rw [List.getElem?_append_right (by simp [ptCells]; omega)]
    have e : (k + 1) * 4 + j - (ptCells p).length = k * 4 + j := by simp [ptCells]; omega
    rw [e]; exact this

theorem Tryd.infoR : (Tryd.prog.info? 94).map (fun i => (i.zero, i.size, i.bytes)) = some (some (.agg #[.int .i32 0, .int .i64 0, .int .i64 0, .bool false]), 4, 32) := by kernel_rfl

theorem news_pt (w1 : World) (X : Obj) (q : Pt) (t : TypeId) : ∀ j u, (ptCells q)[j]? = some u → ((w1.alloc X).alloc (.cells #[.int .i32 q.r, .int .i64 q.at_, .int .i64 q.n, .bool q.ok] t)).cell? ((⟨w1.heap.size + 1, 0, none⟩ : Addr).add j) = some u := by
  have := cells_new (w1.alloc X) (ptCells q) t
  have e : (w1.alloc X).heap.size = w1.heap.size + 1 := by simp
  rw [e] at this
  exact this
theorem ptCells_one (q : Pt) : ∀ u ∈ ptCells q, u.oneCell' = true := by
  intro u hu; simp [ptCells] at hu; rcases hu with rfl | rfl | rfl | rfl <;> rfl

theorem ptsAt_len (s : ByteArray) : ∀ n pos, s.size - pos ≤ n → (ptsAt s pos).length ≤ s.size - pos := by
  intro n
  induction n with
  | zero => intro pos h; rw [ptsAt_end s pos (by omega)]; simp
  | succ n ih =>
    intro pos h
    by_cases hp : pos < s.size
    · have := width_pos s pos hp
      have := ih (pos + (Utf8.decode s pos).2) (by omega)
      rw [ptsAt_step s pos hp]; simp; omega
    · rw [ptsAt_end s pos hp]; simp
theorem pts_len (s : ByteArray) : (pts s).length ≤ s.size := by have := ptsAt_len s s.size 0 (by omega); rw [pts_eq]; omega

set_option maxRecDepth 100000 in
set_option maxHeartbeats 1000000 in
theorem all_any (s : ByteArray) (w : World) (hs : s.size ≤ 1000000) :
    Calls Tryd.prog 49 #[.string s] w fun e w' => (∃ v, e = .returned v ∧ w'.ownsRow w.heap.size 94 4 v (pts s).length (flatP (pts s))) ∧ Below w.heap.size w w' := by
  obtain ⟨i0, hi, hz0, hz1, hz2⟩ := info_parts Tryd.infoR
  go_enter Tryd.func49, Tryd.ntmps49
  go_wp2_with fail
  go_loopw [3, 4] (fun v a wr => ∃ (pos : Nat) (done : List Pt), a = .int .i64 pos ∧ wr.ownsRow w.heap.size 94 4 v done.length (flatP done) ∧ Below w.heap.size w wr ∧ Hid (pts s = done ++ ptsAt s pos) ∧ done.length ≤ pos ∧ pos ≤ s.size) (fun _ a _ => s.size - (intOf a).toNat)
  case atStart => exact ⟨0, [], rfl, World.ownsRow_nil _ _ _ _, Below.refl _ _, rfl, by simp, by omega⟩
  case round =>
    obtain ⟨pos, done, rfl, hown, hbw, HS, hd, hpos⟩ := hrel
    by_cases hp : pos < s.size
    · have hone := one_any s pos wr hs hp
      have hwd := width_pos s pos hp
      have hwl := width_le s pos hp
      have hsz := hbw.size
      have HPt : Hid (ptAt s pos = ⟨(Utf8.decode s pos).1, pos, (Utf8.decode s pos).2⟩) := rfl
      have HS2 : Hid (pts s = (done ++ [ptAt s pos]) ++ ptsAt s (pos + (Utf8.decode s pos).2)) := by
        show _ = _; rw [HS.out, ptsAt_step s pos hp]; simp [ptAt]
      obtain ⟨q, hq⟩ : ∃ q, ptAt s pos = q := ⟨_, rfl⟩
      have hq3 : (Utf8.decode s pos).2 = q.n := by rw [← hq]; rfl
      rw [hq] at hone HS2
      rw [hq3] at hwd hwl HS2
      clear hq hq3 HPt HS
      unfold ptV at hone
      go_wp2_with (first
        | (go_at_call 66; refine hone.mono ?_; rintro e w1 ⟨rfl, hb1⟩; have hown1 := ownsRow_below hown hb1; have hbw1 := hbw.trans (hb1.mono hsz); have hsz1 := hb1.size; clear hb1 hown hbw hone)
        | (at_builtin; refine wpList_append_own _ rfl _ _ 76 rfl w.heap.size 94 i0 (.agg #[.int .i32 0, .int .i64 0, .int .i64 0, .bool false]) 4 32 Tryd.underlying76 hi hz0 hz1 hz2 rfl (by decide) _ _ _ rfl ((hown1.alloc _).alloc _) ⟨w1.heap.size + 1, 0, none⟩ 1 1 (ptCells q) rfl rfl (news_pt _ _ _ _) (ptCells_one q) (by unfold maxLen; omega) (by omega) (by simp; omega) ?_; intro v' w2 hown2 hg2 _;
           rw [flatP_snoc] at hown2
           have hx2 : w2.cell? ⟨w1.heap.size, 2, none⟩ = some (.int .i64 q.n) := by
             refine hg2.cell ?_ ?_
             · rw [blk_cell (blk_alloc (blk_new w1 _) _)]; rfl
             · intro h
               have := hown1.lt _ h.symm
               simp at this
           have hbw2 : Below w.heap.size w w2 := ((hbw1.alloc (by omega) _).alloc (by simp; omega) _).grown hg2 (by simp; omega) (fun k hk => (hown1.lt _ hk).1)
           clear hown1 hg2 hbw1 hi hz0 hz1 hz2))
      have hl2 : (done ++ [q]).length = done.length + 1 := by simp
      go_roundw
      case rel =>
        refine ⟨pos + q.n, done ++ [q], ?_, ?_, hbw2, HS2, ?_, hwl⟩
        · go_num
        · rw [hl2]; exact hown2
        · rw [hl2]; omega
      case measure => simp [intOf]; omega
    · have HF : Hid (pts s = done) := by show _ = _; rw [HS.out, ptsAt_end s pos hp]; simp
      clear HS
      go_wp2_with fail
      go_ret
      exact ⟨⟨_, rfl, by rw [HF.out]; exact hown⟩, hbw⟩

end Go.Proofs.YtljoenpgokhekaaDoor
