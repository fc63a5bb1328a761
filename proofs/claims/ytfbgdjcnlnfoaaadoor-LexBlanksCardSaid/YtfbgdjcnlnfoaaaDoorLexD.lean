/- Walks: lex: word. -/
import Derived.Test.YtfbgdjcnlnfoaaaDoorLexC
import Derived.Test.YtfbgdjcnlnfoaaaDoorPlainM
namespace Go.Proofs.YtfbgdjcnlnfoaaaDoor
open Go.RowKit
open Cle

def tkV (t : Tk) : Value := .agg #[.int .i64 t.kind, .string t.s, .int .i64 t.n, .int .i64 t.at_]
/-- What a method of the scanner hands back, and where it stands then. -/
def TokPost (L : Nat) (w : World) (b : Nat) (s : ByteArray) (P : List Pt) (x : Tk × Bool × Nat) (e : Ending) (w' : World) : Prop :=
  e = .returned (.tuple #[tkV x.1, .bool x.2.1]) ∧ SQ L w' b s P x.2.2 ∧ w.grownBy w' (some b)

theorem let_b {L : Nat} (w : World) (b : Nat) (s : ByteArray) (P : List Pt) (i : Nat) (h : SQ L w b s P i) (v : Bool) (hv : letB P i = v) :
    Calls Tryd.prog 13 #[.pointer (some ⟨b, 0, none⟩)] w fun e w' => e = .returned (.bool v) ∧ ∃ m, w' = w.drewN m := by
  rw [← hv]; exact let_any w b s P i h
theorem dig_b {L : Nat} (w : World) (b : Nat) (s : ByteArray) (P : List Pt) (i : Nat) (h : SQ L w b s P i) (v : Bool) (hv : digB P i = v) :
    Calls Tryd.prog 15 #[.pointer (some ⟨b, 0, none⟩)] w fun e w' => e = .returned (.bool v) ∧ ∃ m, w' = w.drewN m := by
  rw [← hv]; exact dig_any w b s P i h

theorem Scn.gb {T : TypeId} {flat : List Pt → List Value} {L : Nat} {w w' : World} {b : Nat} {s : ByteArray} {P : List Pt} {i : Nat} (h : Scn T flat L w b s P i) (hb : w.grownBy w' none) : Scn T flat L w' b s P i :=
  h.below ⟨hb.os, hb.tape, hb.output, hb.size, fun k hk => hb.block k hk (by simp)⟩

theorem put4 {w : World} {g : Nat} {x0 x1 x2 x3 : Value} {T : TypeId} (h : w.heap[g]? = some (.cells #[x0, x1, x2, x3] T (0, 0))) (v0 v1 v2 v3 : Value) :
    ((((w.setCell ⟨g, 0, none⟩ v0).setCell ⟨g, 1, none⟩ v1).setCell ⟨g, 2, none⟩ v2).setCell ⟨g, 3, none⟩ v3).heap[g]? = some (.cells #[v0, v1, v2, v3] T (0, 0)) := by
  have := blk_set (blk_set (blk_set (blk_set h 0 v0) 1 v1) 2 v2) 3 v3
  rw [this]
  simp
theorem put4_gb (w : World) (g : Nat) (v0 v1 v2 v3 : Value) : w.grownBy ((((w.setCell ⟨g, 0, none⟩ v0).setCell ⟨g, 1, none⟩ v1).setCell ⟨g, 2, none⟩ v2).setCell ⟨g, 3, none⟩ v3) (some g) :=
  gb_trans (gb_trans (gb_trans (gb_set _ _ _ _) (gb_set _ _ _ _)) (gb_set _ _ _ _)) (gb_set _ _ _ _)
/-- A block of the call's own written: of what was there that one block alone may have turned. -/
theorem gb_new {w w1 w2 : World} {b : Nat} {o : Obj} (h : (w.alloc o).grownBy w1 (some b)) (k : w1.grownBy w2 (some w.heap.size)) : w.grownBy w2 (some b) :=
  ⟨k.os.trans h.os, k.tape.trans h.tape, k.output.trans h.output, by have h1 := h.size; have h2 := k.size; simp at h1; omega, fun i hi hr => by
    have h1 := h.size
    simp at h1
    rw [k.block i (by omega) (fun e => by cases e; omega), h.block i (by simp; omega) hr]
    exact Below.heap_alloc _ _ _ hi⟩

set_option maxRecDepth 100000 in
set_option maxHeartbeats 2000000 in
theorem word_any {L : Nat} (w : World) (b : Nat) (s : ByteArray) (P : List Pt) (i : Nat) (h : SQ L w b s P i) (hs : s.size ≤ 100000) (hOK : PtsOK s P) (hi : i < P.length) :
    Calls Tryd.prog 14 #[.pointer (some ⟨b, 0, none⟩)] w (TokPost L w b s P (wordO s P i)) := by
  obtain ⟨hPl, hmono, hble⟩ := hOK
  have H := Lib.hid h
  have Hmono := Lib.hid hmono
  have Hble := Lib.hid hble
  have hblt := h.lt
  obtain ⟨_, _, _, _, c2, f2, _⟩ := h.cells
  have HW : Hid (SQ L (w.alloc (.cells #[.int .i64 0, .string ⟨#[]⟩, .int .i64 0, .int .i64 0] 30)) b s P i) := h.below ((Below.refl _ _).alloc (Nat.le_refl _) _)
  clear h hmono hble
  go_enter Tryd.func14, Tryd.ntmps14
  go_wp2_with fail
  go_loopw [] (fun wr => ∃ k, SQ L wr b s P k ∧ (w.alloc (.cells #[.int .i64 0, .string ⟨#[]⟩, .int .i64 0, .int .i64 0] 30)).grownBy wr (some b) ∧ Hid (wordEnd P i = runTo (fun k => letB P k || digB P k) P.length k) ∧ i ≤ k ∧ k ≤ P.length) (fun wr => P.length - scanI wr b)
  case atStart => exact ⟨i, HW.out, gb_refl _ _, rfl, Nat.le_refl _, by omega⟩
  case round =>
    obtain ⟨k, hS, hg, HE, hik, hk⟩ := hrel
    have hk0 := scanI_eq hS
    have HK := Lib.hid hk0
    clear hk0 c2 f2
    cases hL : letB P k
    case true =>
      have HL := Lib.hid hL
      have hlt := letB_lt hL
      go_wp2_with fail
      refine (let_b _ b s P k hS _ hL).mono ?_; rintro e w1 ⟨rfl, m, hm⟩
      replace hS := hS.heap (w' := w1) (by rw [hm]; rfl)
      replace hg := gb_trans hg (show _ from hm ▸ gb_drewN _ m (some b))
      clear hm hL
      obtain ⟨_, _, _, _, c2, f2, _⟩ := hS.cells
      go_wp2_with fail
      go_roundw
      case rel =>
        refine ⟨k + 1, by have := hS.set (k + 1); push_cast at this; exact this, gb_trans hg (gb_set _ _ _ _), ?_, by omega, by omega⟩
        show _ = _
        rw [HE.out]; exact runTo_go hlt (by simp only [HL.out]; rfl)
      case measure =>
        have h1 := scanI_eq (hS.set (k + 1)); push_cast at h1
        rw [h1, HK.out]; omega
    case false =>
      cases hD : digB P k
      case true =>
        have HL := Lib.hid hL
        have HD := Lib.hid hD
        have hlt := digB_lt hD
        go_wp2_with fail
        refine (let_b _ b s P k hS _ hL).mono ?_; rintro e w1 ⟨rfl, m, hm⟩
        replace hS := hS.heap (w' := w1) (by rw [hm]; rfl)
        replace hg := gb_trans hg (show _ from hm ▸ gb_drewN _ m (some b))
        clear hm hL
        go_wp2_with fail
        refine (dig_b _ b s P k hS _ hD).mono ?_; rintro e w1 ⟨rfl, m, hm⟩
        replace hS := hS.heap (w' := w1) (by rw [hm]; rfl)
        replace hg := gb_trans hg (show _ from hm ▸ gb_drewN _ m (some b))
        clear hm hD
        obtain ⟨_, _, _, _, c2, f2, _⟩ := hS.cells
        go_wp2_with fail
        go_roundw
        case rel =>
          refine ⟨k + 1, by have := hS.set (k + 1); push_cast at this; exact this, gb_trans hg (gb_set _ _ _ _), ?_, by omega, by omega⟩
          show _ = _
          rw [HE.out]; exact runTo_go hlt (by simp only [HL.out, HD.out]; rfl)
        case measure =>
          have h1 := scanI_eq (hS.set (k + 1)); push_cast at h1
          rw [h1, HK.out]; omega
      case false =>
        have HL := Lib.hid hL
        have HD := Lib.hid hD
        have HF : Hid (wordEnd P i = k) := by show _ = _; rw [HE.out]; exact runTo_stop (by simp only [HL.out, HD.out]; rfl)
        go_wp2_with fail
        refine (let_b _ b s P k hS _ hL).mono ?_; rintro e w1 ⟨rfl, m, hm⟩
        replace hS := hS.heap (w' := w1) (by rw [hm]; rfl)
        replace hg := gb_trans hg (show _ from hm ▸ gb_drewN _ m (some b))
        clear hm hL
        go_wp2_with fail
        refine (dig_b _ b s P k hS _ hD).mono ?_; rintro e w1 ⟨rfl, m, hm⟩
        replace hS := hS.heap (w' := w1) (by rw [hm]; rfl)
        replace hg := gb_trans hg (show _ from hm ▸ gb_drewN _ m (some b))
        clear hm hD
        obtain ⟨_, _, c0, _, c2, f2, _⟩ := hS.cells
        have hbA := Lib.hid (fun n => byteAt_any (w1.drewN n) b s P k i (hS.heap rfl))
        have hbB := Lib.hid (fun n => byteAt_any (w1.drewN n) b s P k k (hS.heap rfl))
        have hx1 : ((byteAt s P i : Nat) : Int) ≤ ((byteAt s P k : Nat) : Int) := by have := Hmono.out i k hik; omega
        have hx2 : ((byteAt s P k : Nat) : Int) ≤ (s.size : Int) := by have := Hble.out k; omega
        have hx0 : (0 : Int) ≤ ((byteAt s P i : Nat) : Int) := by omega
        have HT : Hid (wordT s P i = s.extract (byteAt s P i) (byteAt s P k)) := by show _ = _; unfold wordT; rw [HF.out]
        generalize byteAt s P i = A at *
        generalize byteAt s P k = B at *
        go_wp2_with fail
        go_quiet ((go_at_call 19; first | (with_reducible exact Calls.quiet_of_same (hbA.out _)) | (with_reducible exact Calls.quiet_of_same (hbB.out _))))
        have hblkT : w1.heap[w.heap.size]? = some (.cells #[.int .i64 0, .string ⟨#[]⟩, .int .i64 0, .int .i64 0] 30 (0, 0)) := by
          rw [hg.block w.heap.size (by simp) (by intro e; cases e; omega)]; exact blk_new w _
        have hfold := Lib.hid (fun W hsz => fold_any (s.extract A B) W hsz)
        go_wp2_with fail
        refine (hfold.out _ (by rw [ByteArray.size_extract]; omega)).mono ?_; rintro e w3 ⟨rfl, hb3⟩
        have hb4 : Below w1.heap.size w1 w3 := (below_drewN (Below.refl _ _) nq).trans hb3
        have hblk3 := blk_below hblkT hb4 (blk_lt hblkT)
        have hS3 := hS.below hb4
        have hg3 := gb_trans hg (gb_below hb4 (some b))
        have t0 : w3.cell? ⟨w.heap.size, 0, none⟩ = some (.int .i64 0) := by rw [blk_cell hblk3]; rfl
        have t1 : w3.cell? ⟨w.heap.size, 1, none⟩ = some (.string ⟨#[]⟩) := by rw [blk_cell hblk3]; rfl
        have t2 : w3.cell? ⟨w.heap.size, 2, none⟩ = some (.int .i64 0) := by rw [blk_cell hblk3]; rfl
        have t3 : w3.cell? ⟨w.heap.size, 3, none⟩ = some (.int .i64 0) := by rw [blk_cell hblk3]; rfl
        have u0 := blk_frozen0 hblk3 0
        have u1 := blk_frozen0 hblk3 1
        have u2 := blk_frozen0 hblk3 2
        have u3 := blk_frozen0 hblk3 3
        clear hb3 hblkT hS hg c0 c2 f2
        go_wp2_with fail
        have hp4 := put4 hblk3 (.int .i64 1) (.string (fold (s.extract A B))) (.int .i64 0) (.int .i64 i)
        have hS4 := (((hS3.setOther (g := w.heap.size) H.out.le 0 (.int .i64 1)).setOther (g := w.heap.size) H.out.le 1 (.string (fold (s.extract A B)))).setOther (g := w.heap.size) H.out.le 2 (.int .i64 0)).setOther (g := w.heap.size) H.out.le 3 (.int .i64 i)
        have hg4 := gb_new (gb_trans hg3 (gb_refl _ _)) (put4_gb w3 w.heap.size (.int .i64 1) (.string (fold (s.extract A B))) (.int .i64 0) (.int .i64 i))
        generalize (((w3.setCell ⟨w.heap.size, 0, none⟩ (.int .i64 1)).setCell ⟨w.heap.size, 1, none⟩ (.string (fold (s.extract A B)))).setCell ⟨w.heap.size, 2, none⟩ (.int .i64 0)).setCell ⟨w.heap.size, 3, none⟩ (.int .i64 i) = W4 at *
        have r0 : W4.cell? ⟨w.heap.size, 0, none⟩ = some (.int .i64 1) := by rw [blk_cell hp4]; rfl
        have r1 : W4.cell? ⟨w.heap.size, 1, none⟩ = some (.string (fold (s.extract A B))) := by rw [blk_cell hp4]; rfl
        have r2 : W4.cell? ⟨w.heap.size, 2, none⟩ = some (.int .i64 0) := by rw [blk_cell hp4]; rfl
        have r3 : W4.cell? ⟨w.heap.size, 3, none⟩ = some (.int .i64 i) := by rw [blk_cell hp4]; rfl
        refine bodyPost_ret (v := .tuple #[.agg #[.int .i64 1, .string (fold (s.extract A B)), .int .i64 0, .int .i64 i], .bool (decide ((s.extract A B).size ≤ 100))]) (by simp [results, Tryd.results14, go_sem, r0, r1, r2, r3]; omega) rfl ?_
        refine ⟨?_, ?_, hg4⟩
        · unfold wordO tkV; rw [HT.out]
        · show SQ L W4 b s P (wordEnd P i)
          rw [HF.out]; exact hS4

end Go.Proofs.YtfbgdjcnlnfoaaaDoor
