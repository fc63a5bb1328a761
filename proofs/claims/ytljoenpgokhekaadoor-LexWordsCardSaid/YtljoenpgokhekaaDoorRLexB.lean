/- Walks: the reference of layer 13: blank, word. -/
import Derived.Test.YtljoenpgokhekaaDoorRLexA
namespace Go.Proofs.YtljoenpgokhekaaDoor
open Go.RowKit
open Cle

/-- A text under way, and the result's cell. -/
def RB (L : Nat) (w wr : World) (b : Nat) (s : ByteArray) (P : List Pt) (k : Nat) : Prop := RG L w wr b s P k ∧ L ≤ w.heap.size ∧ wr.heap[w.heap.size]? = some (.cells #[.int .i64 0, .string ⟨#[]⟩, .int .i64 0, .int .i64 0] 41 (0, 0))
def RTP (L : Nat) (w : World) (b : Nat) (s : ByteArray) (P : List Pt) (x : Tk × Bool × Nat) (e : Ending) (w' : World) : Prop :=
  e = .returned (.tuple #[tkV x.1, .bool x.2.1]) ∧ RG L w w' b s P x.2.2
section
variable {L : Nat} {w wr wi : World} {b : Nat} {s : ByteArray} {P : List Pt} {k : Nat}
theorem RG.start (h : SR L w b s P k) : RG L w w b s P k := ⟨h, gb_refl _ _⟩
theorem RB.start (h : SR L w b s P k) : RB L w (w.alloc (.cells #[.int .i64 0, .string ⟨#[]⟩, .int .i64 0, .int .i64 0] 41)) b s P k := ⟨(RG.start h).alloc _, h.le, blk_new _ _⟩
theorem RB.drew (h : RB L w wr b s P k) (m : Nat) : RB L w (wr.drewN m) b s P k := ⟨h.1.drew m, h.2.1, h.2.2⟩
theorem RB.set (h : RB L w wr b s P k) (j : Nat) (v : Int) (hv : v = j) : RB L w (wr.setCell ⟨b, 2, none⟩ (.int .i64 v)) b s P j := ⟨h.1.set j v hv, h.2.1, blk_setOther h.2.2 _ _ (by have := h.1.1.2.1; have := h.2.1; show _ ≠ b; omega)⟩
theorem RB.below (h : RB L w wr b s P k) (hb : Below wr.heap.size wr wi) : RB L w wi b s P k := ⟨h.1.below hb, h.2.1, blk_below h.2.2 hb (blk_lt h.2.2)⟩
theorem RB.scan (h : RB L w wr b s P k) : scanI wr b = k := h.1.scan
/-- The result set. -/
theorem RB.fin (h : RB L w wr b s P k) (v0 v1 v2 v3 : Value) (W : World)
    (hW : W = (((wr.setCell ⟨w.heap.size, 0, none⟩ v0).setCell ⟨w.heap.size, 1, none⟩ v1).setCell ⟨w.heap.size, 2, none⟩ v2).setCell ⟨w.heap.size, 3, none⟩ v3) :
    W.cell? ⟨w.heap.size, 0, none⟩ = some v0 ∧ W.cell? ⟨w.heap.size, 1, none⟩ = some v1 ∧ W.cell? ⟨w.heap.size, 2, none⟩ = some v2 ∧ W.cell? ⟨w.heap.size, 3, none⟩ = some v3 ∧ RG L w W b s P k := by
  subst hW
  obtain ⟨⟨h1, h5⟩, hL, h3⟩ := h
  have hp := put4 h3 v0 v1 v2 v3
  refine ⟨by rw [blk_cell hp]; rfl, by rw [blk_cell hp]; rfl, by rw [blk_cell hp]; rfl, by rw [blk_cell hp]; rfl, (((h1.setOther hL _ _).setOther hL _ _).setOther hL _ _).setOther hL _ _, ?_⟩
  have h6 := put4_gb wr w.heap.size v0 v1 v2 v3
  exact ⟨h6.os.trans h5.os, h6.tape.trans h5.tape, h6.output.trans h5.output, Nat.le_trans h5.size h6.size, fun q hq hr => by
    have := h5.size
    rw [h6.block q (by omega) (fun e => by cases e; omega)]; exact h5.block q hq hr⟩
end
theorem blankB_r (P : List Pt) (k : Nat) : blankB P k = (rAt P k == 32 || rAt P k == 9 || rAt P k == 10 || rAt P k == 13) := by
  unfold blankB
  rw [isB_z P k 32 (by decide), isB_z P k 9 (by decide), isB_z P k 10 (by decide), isB_z P k 13 (by decide)]

set_option maxRecDepth 100000 in
set_option maxHeartbeats 2000000 in
theorem rblank_any {L : Nat} {w : World} (w0 : World) (b : Nat) (s : ByteArray) (P : List Pt) (i : Nat) (h : RG L w w0 b s P i) (hi : i ≤ P.length) (hP : P.length ≤ 100000) :
    Calls Tryd.prog 50 #[.pointer (some ⟨b, 0, none⟩)] w0 fun e w' => e = .returned (.tuple #[]) ∧ RG L w w' b s P (skip P i) := by
  have H := Lib.hid h
  clear h
  go_enter Tryd.func50, Tryd.ntmps50
  go_wp2_with fail
  go_loopw [] (fun wr => ∃ k, RG L w wr b s P k ∧ Hid (skip P i = skip P k) ∧ k ≤ P.length) (fun wr => P.length - scanI wr b)
  case atStart => exact ⟨i, H.out, rfl, hi⟩
  case round =>
    obtain ⟨k, hS, HE, hk⟩ := hrel
    have HK := Lib.hid hS.scan
    obtain ⟨a, cap, c0, c1, c2, f2, _⟩ := hS.1.cells
    by_cases hlt : k < P.length
    · have HL := Lib.hid hlt
      have hd : decide ((k : Int) < (P.length : Int)) = true := decide_eq_true (by omega)
      go_wp2_with fail
      go_quiet (fail)
      replace hS := hS.drew nq
      obtain ⟨a, cap, c0, c1, c2, f2, _⟩ := hS.1.cells
      generalize wr.drewN nq = w1 at *
      clear hd
      go_wp2_with fail
      refine (rr_g _ b s P k 0 hS (by omega) (by omega) (by omega) _ rfl).mono ?_; rintro e w2 ⟨rfl, hS⟩
      obtain ⟨a, cap, c0, c1, c2, f2, _⟩ := hS.1.cells
      rw [Nat.add_zero]
      have HB := Lib.hid (blankB_r P k)
      have HD := Lib.hid (show dashB P k = (isB P k 45 && isB P (k + 1) 45) from rfl)
      have H45 := Lib.hid (isB_z P k 45 (by decide))
      obtain ⟨r, hr⟩ : ∃ r, rAt P k = r := ⟨_, rfl⟩
      rw [hr] at HB H45 ⊢
      clear hr
      cases q : (r == 32 || r == 9 || r == 10 || r == 13)
      case true =>
        have HX : Hid (skip P i = skip P (k + 1)) := by show _ = _; rw [HE.out]; exact skip_blank HL.out (by rw [HB.out, q])
        go_wp2_with fail
        all_goals
          go_roundw
          case rel => exact ⟨k + 1, hS.set (k + 1) _ (by omega), HX, by omega⟩
          case measure => rw [HK.out, (hS.set (k + 1) _ (by omega)).scan]; omega
      case false =>
        simp only [Bool.or_eq_false_iff] at q
        obtain ⟨⟨⟨q1, q2⟩, q3⟩, q4⟩ := q
        have HB2 : Hid (blankB P k = false) := by show _ = _; rw [HB.out, q1, q2, q3, q4]; rfl
        cases q5 : (r == 45)
        case false =>
          have HX : Hid (skip P i = k) := by show _ = _; rw [HE.out]; exact skip_stop HB2.out (by rw [HD.out, H45.out, show (r == 45) = false from q5]; rfl)
          clear HB HB2 HD H45
          go_wp2_with fail
          ((try simp only [Exit.inBlock, Exit.then]); refine bodyPost_ret (results_none rfl _ _ _) rfl ?_)
          exact ⟨rfl, by rw [HX.out]; exact hS⟩
        case true =>
          have H1 := Lib.hid (isB_z P (k + 1) 45 (by decide))
          have hc := fun wx hx => rr_g (L := L) (w := w) wx b s P k 1 hx (by omega) (by omega) (by omega) _ rfl
          obtain ⟨r1, hr1⟩ : ∃ r1, rAt P (k + 1) = r1 := ⟨_, rfl⟩
          rw [hr1] at H1 hc
          clear hr1
          cases q6 : (r1 == 45)
          case false =>
            have HX : Hid (skip P i = k) := by show _ = _; rw [HE.out]; exact skip_stop HB2.out (by rw [HD.out, H1.out, show (r1 == 45) = false from q6, Bool.and_false])
            clear HB HB2 HD H45 H1
            go_wp2_with (go_at_call 67; refine (hc _ hS).mono ?_; rintro e w3 ⟨rfl, hS⟩)
            ((try simp only [Exit.inBlock, Exit.then]); refine bodyPost_ret (results_none rfl _ _ _) rfl ?_)
            exact ⟨rfl, by rw [HX.out]; exact hS⟩
          case true =>
            have HDD : Hid (dashB P k = true) := by show _ = _; rw [HD.out, H45.out, H1.out, show (r1 == 45) = true from q6, show (r == 45) = true from q5]; rfl
            have HX : Hid (skip P i = skip P (lineEnd P k)) := by show _ = _; rw [HE.out]; exact skip_dash HL.out HB2.out HDD.out
            have HLE : Hid (k < lineEnd P k ∧ lineEnd P k ≤ P.length) := lineEnd_gt HDD.out
            clear HB HB2 HD H45 H1 HDD
            go_wp2_with (go_at_call 67; refine (hc _ hS).mono ?_; rintro e w3 ⟨rfl, hS⟩)
            go_loopw [] (fun wr => ∃ j, RG L w wr b s P j ∧ Hid (lineEnd P k = runTo (fun j => !isB P j 10) P.length j) ∧ j ≤ P.length) (fun wr => P.length - scanI wr b)
            case atStart => exact ⟨k, hS, rfl, by omega⟩
            case round =>
              clear c0 c1 c2 f2 hS
              obtain ⟨j, hS, HJ, hj⟩ := hrel
              have HKJ := Lib.hid hS.scan
              obtain ⟨a, cap, c0, c1, c2, f2, _⟩ := hS.1.cells
              by_cases hjl : j < P.length
              · have HJL := Lib.hid hjl
                have hd : decide ((j : Int) < (P.length : Int)) = true := decide_eq_true (by omega)
                have H10 := Lib.hid (isB_z P j 10 (by decide))
                have hq := Lib.hid (fun n => rr_any (L := L) (w := w) (wr.drewN n) b s P j 0 (hS.drew n) (by omega) (by omega) (by omega))
                rw [Nat.add_zero] at hq
                obtain ⟨r2, hr2⟩ : ∃ r2, rAt P j = r2 := ⟨_, rfl⟩
                rw [hr2] at H10 hq
                clear hr2
                cases q7 : (r2 != 10)
                case true =>
                  have HN : Hid (lineEnd P k = runTo (fun j => !isB P j 10) P.length (j + 1)) := by
                    show _ = _; rw [HJ.out]; refine runTo_go HJL.out ?_
                    show (!isB P j 10) = true
                    rw [show isB P j 10 = (r2 == 10) from H10.out]; exact q7
                  go_wp2_with fail
                  go_quiet ((go_at_call 67; exact Calls.quiet_of (hq.out _)))
                  replace hS := hS.drew nq
                  obtain ⟨a, cap, c0, c1, c2, f2, _⟩ := hS.1.cells
                  generalize wr.drewN nq = w4 at *
                  go_wp2_with fail
                  go_roundw
                  case rel => exact ⟨j + 1, hS.set (j + 1) _ (by omega), HN, by omega⟩
                  case measure => rw [HKJ.out, (hS.set (j + 1) _ (by omega)).scan]; omega
                case false =>
                  have HN : Hid (lineEnd P k = j) := by
                    show _ = _; rw [HJ.out]; refine runTo_stop ?_
                    show (!isB P j 10) = false
                    rw [show isB P j 10 = (r2 == 10) from H10.out]; exact q7
                  go_wp2_with fail
                  go_quiet ((go_at_call 67; exact Calls.quiet_of (hq.out _)))
                  replace hS := hS.drew nq
                  generalize wr.drewN nq = w4 at *
                  go_wp2_with fail
                  go_roundw
                  case rel => exact ⟨j, hS, by rw [← HN.out]; exact HX, by omega⟩
                  case measure => rw [HK.out, hS.scan]; have := HLE.out; have := HN.out; omega
              · have hd : decide ((j : Int) < (P.length : Int)) = false := decide_eq_false (by omega)
                have HN : Hid (lineEnd P k = j) := by show _ = _; rw [HJ.out]; exact runTo_end (by omega)
                go_wp2_with fail
                go_quiet (fail)
                replace hS := hS.drew nq
                generalize wr.drewN nq = w4 at *
                go_wp2_with fail
                go_roundw
                case rel => exact ⟨j, hS, by rw [← HN.out]; exact HX, by omega⟩
                case measure => rw [HK.out, hS.scan]; have := HLE.out; have := HN.out; omega
    · have hd : decide ((k : Int) < (P.length : Int)) = false := decide_eq_false (by omega)
      have HX : Hid (skip P i = k) := by show _ = _; rw [HE.out]; exact skip_end (by omega)
      go_wp2_with fail
      go_quiet (fail)
      replace hS := hS.drew nq
      generalize wr.drewN nq = w4 at *
      go_wp2_with fail
      go_end0
      exact ⟨rfl, by rw [HX.out]; exact hS⟩

end Go.Proofs.YtljoenpgokhekaaDoor
