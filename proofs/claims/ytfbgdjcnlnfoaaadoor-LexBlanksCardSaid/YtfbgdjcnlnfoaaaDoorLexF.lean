/- Walks: lex: text. -/
import Derived.Test.YtfbgdjcnlnfoaaaDoorLexE
import Derived.Test.YtfbgdjcnlnfoaaaDoorPlainN
namespace Go.Proofs.YtfbgdjcnlnfoaaaDoor
open Go.RowKit
open Cle

/-- A cell of the elder world, and that all that was there stands. -/
theorem tw_step {w0 w1 w2 : World} {a : Addr} {u : Value} (h : w1.cell? a = some u ∧ Below w0.heap.size w0 w1) (hb : Below w1.heap.size w1 w2) : w2.cell? a = some u ∧ Below w0.heap.size w0 w2 :=
  ⟨(Below.cell hb (World.block_lt_of_cell? _ _ h.1)).trans h.1, h.2.trans (hb.mono h.2.size)⟩

/-- The result's block written. -/
theorem res_fin {L : Nat} {w0 wr : World} {b : Nat} {s : ByteArray} {P : List Pt} {k : Nat} {x0 x1 x2 x3 : Value} {T : TypeId} (h1 : SQ L wr b s P k) (h3 : wr.heap[w0.heap.size]? = some (.cells #[x0, x1, x2, x3] T (0, 0))) (h5 : w0.grownBy wr (some b)) (hL : L ≤ w0.heap.size) (v0 v1 v2 v3 : Value) (W : World)
    (hW : W = (((wr.setCell ⟨w0.heap.size, 0, none⟩ v0).setCell ⟨w0.heap.size, 1, none⟩ v1).setCell ⟨w0.heap.size, 2, none⟩ v2).setCell ⟨w0.heap.size, 3, none⟩ v3) :
    W.cell? ⟨w0.heap.size, 0, none⟩ = some v0 ∧ W.cell? ⟨w0.heap.size, 1, none⟩ = some v1 ∧ W.cell? ⟨w0.heap.size, 2, none⟩ = some v2 ∧ W.cell? ⟨w0.heap.size, 3, none⟩ = some v3 ∧
    SQ L W b s P k ∧ w0.grownBy W (some b) := by
  subst hW
  have hp := put4 h3 v0 v1 v2 v3
  refine ⟨by rw [blk_cell hp]; rfl, by rw [blk_cell hp]; rfl, by rw [blk_cell hp]; rfl, by rw [blk_cell hp]; rfl, (((h1.setOther hL _ _).setOther hL _ _).setOther hL _ _).setOther hL _ _, ?_⟩
  have h6 := put4_gb wr w0.heap.size v0 v1 v2 v3
  exact ⟨h6.os.trans h5.os, h6.tape.trans h5.tape, h6.output.trans h5.output, Nat.le_trans h5.size h6.size, fun q hq hr => by
    have := h5.size
    rw [h6.block q (by omega) (fun e => by cases e; omega)]; exact h5.block q hq hr⟩

theorem unq3_any (s : ByteArray) (f : Int) (w : World) (hs : s.size ≤ 1000000) :
    Calls Tryd.prog 21 #[.string s, .int .i64 f] w fun e w' => e = .returned (.tuple #[.string (unqS s f), .int .i64 (unqN s f), .bool (unqO s f)]) ∧ Below w.heap.size w w' := by
  rw [← unqV_eq]; exact unquote_any s f w hs

set_option maxRecDepth 100000 in
set_option maxHeartbeats 2000000 in
theorem text_any {L : Nat} (ws w : World) (b : Nat) (s : ByteArray) (P : List Pt) (i : Nat) (h : SQ L w b s P i) (hG : Glob ws) (hB : Below ws.heap.size ws w) (hwb : ws.heap.size ≤ b) (hs : s.size ≤ 100000) (hOK : PtsOK s P) (hi : i < P.length) :
    Calls Tryd.prog 17 #[.pointer (some ⟨b, 0, none⟩)] w (TokPost L w b s P (textO s P i)) := by
  obtain ⟨hPl, hmono, hble⟩ := hOK
  have HL := h.le
  have hblt := h.lt
  have hbA := Lib.hid (hble i)
  have HS : Hid (SQ L (w.alloc (.cells #[.int .i64 0, .string ⟨#[]⟩, .int .i64 0, .int .i64 0] 30)) b s P i) := h.below ((Below.refl _ _).alloc (Nat.le_refl _) _)
  have HGW : Hid (∀ wr, w.grownBy wr (some b) → Glob wr) := fun wr hg => hG.below (hB.trans (gb_to_below hg hwb hB.size))
  obtain ⟨a, cap, c0, c1, c2, f2, _⟩ := h.cells
  clear h hG hmono hble hB
  go_enter Tryd.func17, Tryd.ntmps17
  go_wp2_with fail
  obtain ⟨w0, hw0⟩ : ∃ w0, w0 = w.alloc (.cells #[.int .i64 0, .string ⟨#[]⟩, .int .i64 0, .int .i64 0] 30) := ⟨_, rfl⟩
  have H0 : Hid (w0.heap.size = w.heap.size + 1 ∧ w0.heap[w.heap.size]? = some (.cells #[.int .i64 0, .string ⟨#[]⟩, .int .i64 0, .int .i64 0] 30 (0, 0)) ∧ w.grownBy w0 (some b)) := by
    refine ⟨by rw [hw0]; simp, by rw [hw0]; exact blk_new w _, by rw [hw0]; exact gb_below ((Below.refl _ _).alloc (Nat.le_refl _) _) _⟩
  rw [← hw0] at HS ⊢
  clear hw0
  have c0' : w0.cell? ⟨b, 0, none⟩ = some (.string s) := by obtain ⟨_, _, k0, _⟩ := HS.out.cells; exact k0
  have hS : w0.cell? ⟨b, 0, none⟩ = some (.string s) ∧ Below w0.heap.size w0 w0 := ⟨c0', Below.refl _ _⟩
  have hbt := Lib.hid (byteAt_any (L := L) · b s P i i)
  have hUn := Lib.hid (fun f wx => unq3_any s f wx (by omega))
  go_region_held3 (fun w' => w'.cell? ⟨b, 0, none⟩ = some (.string s) ∧ Below w0.heap.size w0 w') (first | exact tw_step (by assumption) hb2 | exact ⟨c0', (Below.refl _ _).drew⟩)
    (first
      | (go_at_call 19; refine (hbt.out _ (HS.out.below (And.right (by assumption)))).mono ?_; rintro e w1 ⟨rfl, rfl⟩)
      | (go_at_call 21; refine (hUn.out _ _).mono ?_; rintro e w2 ⟨rfl, hb2⟩))
  have hT : w2.cell? ⟨b, 0, none⟩ = some (.string s) ∧ Below w0.heap.size w0 w2 := by assumption
  replace hS := HS.out.below hT.2
  have hblk := blk_below H0.out.2.1 hT.2 (blk_lt H0.out.2.1)
  have hg := gb_trans H0.out.2.2 (gb_below hT.2 (some b))
  have HT := Lib.hid (textO_eq s P i)
  have hU := unqS_size s (byteAt s P i)
  have hN := unqN_bd s (byteAt s P i)
  clear hT c0 c1 c2 f2 hbt hUn c0' hbA HS
  generalize unqS s (byteAt s P i) = U at *
  generalize unqN s (byteAt s P i) = N at *
  generalize unqO s (byteAt s P i) = O at *
  have HW : Hid (w.heap.size < w2.heap.size) := blk_lt hblk
  go_wp2_with fail
  go_loopw [] (fun wr => ∃ k, SQ L wr b s P k ∧ wr.heap[w.heap.size]? = some (.cells #[.int .i64 0, .string ⟨#[]⟩, .int .i64 0, .int .i64 0] 30 (0, 0)) ∧ w.grownBy wr (some b) ∧ Hid (textEnd P N i = textEnd P N k) ∧ k ≤ P.length) (fun wr => P.length - scanI wr b)
  case atStart => exact ⟨i, hS, hblk, hg, rfl, by omega⟩
  case round =>
    clear hS hblk hg
    obtain ⟨k, hS, hblk, hg, HE, hk⟩ := hrel
    have HK := Lib.hid (scanI_eq hS)
    by_cases hlk : k < P.length
    · have he := Lib.hid (fun n => end_b (wr.drewN n) b s P k (hS.heap rfl) false (decide_eq_false (by omega)))
      obtain ⟨a, cap, _, c1, c2, f2, hc⟩ := hS.cells
      obtain ⟨g, rfl, hcc⟩ := hc (by omega)
      have c4 : wr.cell? ⟨g, k * 3 + 1, none⟩ = some (.int .i64 P[k].at_) := hcc _ _ (by have := flatQ_at P k 1 hlk (by omega); rw [this]; rfl)
      have HP := Lib.hid (List.getElem?_eq_getElem hlk)
      clear hc hcc
      generalize P[k] = p at *
      have q5 : (k : Int) < (P.length : Int) := by omega
      have q6 : (0 : Int) ≤ (k : Int) := by omega
      cases hq : decide ((p.at_ : Int) < N)
      · have HF : Hid (textEnd P N i = k) := by show _ = _; rw [HE.out]; unfold textEnd; exact runTo_stop (by rw [HP.out]; exact hq)
        go_wp2_with fail
        go_quiet ((go_at_call 9; exact Calls.quiet_of (he.out _)))
        obtain ⟨w3, hw3⟩ : ∃ w3, w3 = wr.drewN nq := ⟨_, rfl⟩
        replace hS := hS.heap (w' := w3) (by rw [hw3]; rfl)
        replace hblk : w3.heap[w.heap.size]? = some (.cells #[.int .i64 0, .string ⟨#[]⟩, .int .i64 0, .int .i64 0] 30 (0, 0)) := by rw [hw3]; exact hblk
        replace hg := gb_trans hg (show _ from hw3 ▸ gb_drewN _ nq (some b))
        rw [← hw3]
        have t0 : w3.cell? ⟨w.heap.size, 0, none⟩ = some (.int .i64 0) := by rw [blk_cell hblk]; rfl
        have t1 : w3.cell? ⟨w.heap.size, 1, none⟩ = some (.string ⟨#[]⟩) := by rw [blk_cell hblk]; rfl
        have t2 : w3.cell? ⟨w.heap.size, 2, none⟩ = some (.int .i64 0) := by rw [blk_cell hblk]; rfl
        have t3 : w3.cell? ⟨w.heap.size, 3, none⟩ = some (.int .i64 0) := by rw [blk_cell hblk]; rfl
        have u0 := blk_frozen0 hblk 0
        have u1 := blk_frozen0 hblk 1
        have u2 := blk_frozen0 hblk 2
        have u3 := blk_frozen0 hblk 3
        clear hw3 c1 c2 f2 c4 q5 q6 hq HP he
        have hVal := Lib.hid (fun hz => valid_any U w3 (HGW.out _ hg) hz)
        cases O
        · go_wp2_with fail
          obtain ⟨r0, r1, r2, r3, hS4, hg4⟩ := res_fin hS hblk hg HL (.int .i64 3) (.string U) (.int .i64 0) (.int .i64 i) _ rfl
          refine bodyPost_ret (v := .tuple #[.agg #[.int .i64 3, .string U, .int .i64 0, .int .i64 i], .bool false]) (by simp [results, Tryd.results17, go_sem, r0, r1, r2, r3]) rfl ?_
          refine ⟨?_, ?_, hg4⟩
          · rw [HT.out]; rfl
          · rw [HT.out]
            show SQ L _ b s P (textEnd P N i)
            rw [HF.out]; exact hS4
        · have HZ : Hid (decide (U.size ≤ 100) = decide ((U.size : Int) ≤ 100)) := by show _ = _; rw [decide_eq_decide]; omega
          cases hz : decide ((U.size : Int) ≤ 100)
          · have HZ2 := Lib.hid hz
            clear hVal
            go_wp2_with fail
            obtain ⟨r0, r1, r2, r3, hS4, hg4⟩ := res_fin hS hblk hg HL (.int .i64 3) (.string U) (.int .i64 0) (.int .i64 i) _ rfl
            refine bodyPost_ret (v := .tuple #[.agg #[.int .i64 3, .string U, .int .i64 0, .int .i64 i], .bool false]) (by simp [results, Tryd.results17, go_sem, r0, r1, r2, r3]) rfl ?_
            refine ⟨?_, ?_, hg4⟩
            · rw [HT.out, HZ.out, HZ2.out]; rfl
            · rw [HT.out]
              show SQ L _ b s P (textEnd P N i)
              rw [HF.out]; exact hS4
          · have hz2 : U.size ≤ 100 := by have := of_decide_eq_true hz; omega
            go_wp2_with fail
            refine (hVal.out (by omega)).mono ?_; rintro e w4 ⟨rfl, hb4⟩
            replace hS := hS.below hb4
            replace hg := gb_trans hg (gb_below hb4 (some b))
            replace hblk := blk_below hblk hb4 (blk_lt hblk)
            clear t0 t1 t2 t3 u0 u1 u2 u3 hVal hb4
            have t0 : w4.cell? ⟨w.heap.size, 0, none⟩ = some (.int .i64 0) := by rw [blk_cell hblk]; rfl
            have t1 : w4.cell? ⟨w.heap.size, 1, none⟩ = some (.string ⟨#[]⟩) := by rw [blk_cell hblk]; rfl
            have t2 : w4.cell? ⟨w.heap.size, 2, none⟩ = some (.int .i64 0) := by rw [blk_cell hblk]; rfl
            have t3 : w4.cell? ⟨w.heap.size, 3, none⟩ = some (.int .i64 0) := by rw [blk_cell hblk]; rfl
            have u0 := blk_frozen0 hblk 0
            have u1 := blk_frozen0 hblk 1
            have u2 := blk_frozen0 hblk 2
            have u3 := blk_frozen0 hblk 3
            have HZ2 := Lib.hid hz
            clear hz
            go_wp2_with fail
            obtain ⟨r0, r1, r2, r3, hS4, hg4⟩ := res_fin hS hblk hg HL (.int .i64 3) (.string U) (.int .i64 0) (.int .i64 i) _ rfl
            refine bodyPost_ret (v := .tuple #[.agg #[.int .i64 3, .string U, .int .i64 0, .int .i64 i], .bool (valid U)]) (by simp [results, Tryd.results17, go_sem, r0, r1, r2, r3]) rfl ?_
            refine ⟨?_, ?_, hg4⟩
            · rw [HT.out, HZ.out, HZ2.out]; rfl
            · rw [HT.out]
              show SQ L _ b s P (textEnd P N i)
              rw [HF.out]; exact hS4
      · have HF : Hid (textEnd P N i = textEnd P N (k + 1)) := by show _ = _; rw [HE.out]; unfold textEnd; exact runTo_go hlk (by rw [HP.out]; exact hq)
        go_wp2_with fail
        go_quiet ((go_at_call 9; exact Calls.quiet_of (he.out _)))
        go_wp2_with fail
        go_roundw
        case rel =>
          refine ⟨k + 1, by have := (hS.heap (w' := wr.drewN nq) rfl).set (k + 1); push_cast at this; exact this, blk_setOther (by exact hblk) _ _ (by show _ ≠ b; omega), gb_trans (gb_trans hg (gb_drewN _ nq (some b))) (gb_set _ _ _ _), HF, by omega⟩
        case measure =>
          have h1 := scanI_eq ((hS.heap (w' := wr.drewN nq) rfl).set (k + 1)); push_cast at h1
          rw [h1, HK.out]; omega
    · have he := Lib.hid (fun n => end_b (wr.drewN n) b s P k (hS.heap rfl) true (decide_eq_true (by omega)))
      have HF : Hid (textEnd P N i = k) := by show _ = _; rw [HE.out]; unfold textEnd; exact runTo_end (by omega)
      go_wp2_with fail
      go_quiet ((go_at_call 9; exact Calls.quiet_of (he.out _)))
      obtain ⟨w3, hw3⟩ : ∃ w3, w3 = wr.drewN nq := ⟨_, rfl⟩
      replace hS := hS.heap (w' := w3) (by rw [hw3]; rfl)
      replace hblk : w3.heap[w.heap.size]? = some (.cells #[.int .i64 0, .string ⟨#[]⟩, .int .i64 0, .int .i64 0] 30 (0, 0)) := by rw [hw3]; exact hblk
      replace hg := gb_trans hg (show _ from hw3 ▸ gb_drewN _ nq (some b))
      rw [← hw3]
      have t0 : w3.cell? ⟨w.heap.size, 0, none⟩ = some (.int .i64 0) := by rw [blk_cell hblk]; rfl
      have t1 : w3.cell? ⟨w.heap.size, 1, none⟩ = some (.string ⟨#[]⟩) := by rw [blk_cell hblk]; rfl
      have t2 : w3.cell? ⟨w.heap.size, 2, none⟩ = some (.int .i64 0) := by rw [blk_cell hblk]; rfl
      have t3 : w3.cell? ⟨w.heap.size, 3, none⟩ = some (.int .i64 0) := by rw [blk_cell hblk]; rfl
      have u0 := blk_frozen0 hblk 0
      have u1 := blk_frozen0 hblk 1
      have u2 := blk_frozen0 hblk 2
      have u3 := blk_frozen0 hblk 3
      clear hw3 he
      have hVal := Lib.hid (fun hz => valid_any U w3 (HGW.out _ hg) hz)
      cases O
      · go_wp2_with fail
        obtain ⟨r0, r1, r2, r3, hS4, hg4⟩ := res_fin hS hblk hg HL (.int .i64 3) (.string U) (.int .i64 0) (.int .i64 i) _ rfl
        refine bodyPost_ret (v := .tuple #[.agg #[.int .i64 3, .string U, .int .i64 0, .int .i64 i], .bool false]) (by simp [results, Tryd.results17, go_sem, r0, r1, r2, r3]) rfl ?_
        refine ⟨?_, ?_, hg4⟩
        · rw [HT.out]; rfl
        · rw [HT.out]
          show SQ L _ b s P (textEnd P N i)
          rw [HF.out]; exact hS4
      · have HZ : Hid (decide (U.size ≤ 100) = decide ((U.size : Int) ≤ 100)) := by show _ = _; rw [decide_eq_decide]; omega
        cases hz : decide ((U.size : Int) ≤ 100)
        · go_wp2_with fail
          obtain ⟨r0, r1, r2, r3, hS4, hg4⟩ := res_fin hS hblk hg HL (.int .i64 3) (.string U) (.int .i64 0) (.int .i64 i) _ rfl
          refine bodyPost_ret (v := .tuple #[.agg #[.int .i64 3, .string U, .int .i64 0, .int .i64 i], .bool false]) (by simp [results, Tryd.results17, go_sem, r0, r1, r2, r3]) rfl ?_
          refine ⟨?_, ?_, hg4⟩
          · rw [HT.out, HZ.out, hz]; rfl
          · rw [HT.out]
            show SQ L _ b s P (textEnd P N i)
            rw [HF.out]; exact hS4
        · have hz2 : U.size ≤ 100 := by have := of_decide_eq_true hz; omega
          go_wp2_with fail
          refine (hVal.out (by omega)).mono ?_; rintro e w4 ⟨rfl, hb4⟩
          replace hS := hS.below hb4
          replace hg := gb_trans hg (gb_below hb4 (some b))
          replace hblk := blk_below hblk hb4 (blk_lt hblk)
          clear t0 t1 t2 t3 u0 u1 u2 u3 hVal hb4
          have t0 : w4.cell? ⟨w.heap.size, 0, none⟩ = some (.int .i64 0) := by rw [blk_cell hblk]; rfl
          have t1 : w4.cell? ⟨w.heap.size, 1, none⟩ = some (.string ⟨#[]⟩) := by rw [blk_cell hblk]; rfl
          have t2 : w4.cell? ⟨w.heap.size, 2, none⟩ = some (.int .i64 0) := by rw [blk_cell hblk]; rfl
          have t3 : w4.cell? ⟨w.heap.size, 3, none⟩ = some (.int .i64 0) := by rw [blk_cell hblk]; rfl
          have u0 := blk_frozen0 hblk 0
          have u1 := blk_frozen0 hblk 1
          have u2 := blk_frozen0 hblk 2
          have u3 := blk_frozen0 hblk 3
          have HZ2 := Lib.hid hz
          clear hz
          go_wp2_with fail
          obtain ⟨r0, r1, r2, r3, hS4, hg4⟩ := res_fin hS hblk hg HL (.int .i64 3) (.string U) (.int .i64 0) (.int .i64 i) _ rfl
          refine bodyPost_ret (v := .tuple #[.agg #[.int .i64 3, .string U, .int .i64 0, .int .i64 i], .bool (valid U)]) (by simp [results, Tryd.results17, go_sem, r0, r1, r2, r3]) rfl ?_
          refine ⟨?_, ?_, hg4⟩
          · rw [HT.out, HZ.out, HZ2.out]; rfl
          · rw [HT.out]
            show SQ L _ b s P (textEnd P N i)
            rw [HF.out]; exact hS4
end Go.Proofs.YtfbgdjcnlnfoaaaDoor
