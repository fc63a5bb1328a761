/- Walks: lex: open, skip. -/
import Derived.Test.YtfbgdjcnlnfoaaaDoorLexA
namespace Go.Proofs.YtfbgdjcnlnfoaaaDoor
open Go.RowKit
open Cle

theorem Tryd.infoPt : (Tryd.prog.info? 42).map (fun i => (i.zero, i.size, i.bytes)) = some (some (.agg #[.int .i32 0, .int .i64 0, .bool false]), 3, 24) := by kernel_rfl
theorem pntCells_one (q : Pt) : ∀ u ∈ pntCells q, u.oneCell' = true := by
  intro u hu; simp [pntCells] at hu; rcases hu with rfl | rfl | rfl <;> rfl
theorem news_pnt (w1 : World) (q : Pt) (t : TypeId) : ∀ j u, (pntCells q)[j]? = some u → (w1.alloc (.cells #[.int .i32 q.r, .int .i64 q.at_, .bool q.ok] t)).cell? ((⟨w1.heap.size, 0, none⟩ : Addr).add j) = some u := cells_new w1 (pntCells q) t

theorem is_b {L : Nat} (w : World) (b : Nat) (s : ByteArray) (P : List Pt) (i more : Nat) (r : Int) (h : SQ L w b s P i) (hi : i ≤ 1000000) (hm : more ≤ 1) (v : Bool) (hv : isB P (i + more) r = v) :
    Calls Tryd.prog 12 #[.pointer (some ⟨b, 0, none⟩), .int .i64 more, .int .i32 r] w fun e w' => e = .returned (.bool v) ∧ ∃ m, w' = w.drewN m := by
  rw [← hv]; exact is_any w b s P i more r h hi hm

/-- The next one, as a world has it. -/
def scanI (w : World) (b : Nat) : Nat := match w.cell? ⟨b, 2, none⟩ with | some (.int _ n) => n.toNat | _ => 0
theorem scanI_eq {T : TypeId} {flat : List Pt → List Value} {L : Nat} {w : World} {b : Nat} {s : ByteArray} {P : List Pt} {i : Nat} (h : Scn T flat L w b s P i) : scanI w b = i := by
  obtain ⟨_, _, _, _, c2, _⟩ := h.cells
  unfold scanI
  rw [c2]
  exact Int.toNat_natCast i

set_option maxRecDepth 100000 in
set_option maxHeartbeats 2000000 in
theorem skip_any {L : Nat} (w : World) (b : Nat) (s : ByteArray) (P : List Pt) (i : Nat) (h : SQ L w b s P i) (hi : i ≤ P.length) (hP : P.length ≤ 100000) :
    Calls Tryd.prog 8 #[.pointer (some ⟨b, 0, none⟩)] w fun e w' => e = .returned (.tuple #[]) ∧ SQ L w' b s P (skip P i) ∧ w.grownBy w' (some b) := by
  have H := Lib.hid h
  clear h
  go_enter Tryd.func8, Tryd.ntmps8
  go_wp2_with fail
  go_loopw [] (fun wr => ∃ k, SQ L wr b s P k ∧ w.grownBy wr (some b) ∧ Hid (skip P i = skip P k) ∧ k ≤ P.length) (fun wr => P.length - scanI wr b)
  case atStart => exact ⟨i, H.out, gb_refl _ _, rfl, hi⟩
  case round =>
    obtain ⟨k, hS, hg, HE, hk⟩ := hrel
    have hk0 := scanI_eq hS
    have HK := Lib.hid hk0
    clear hk0
    by_cases hlt : k < P.length
    · have HL := Lib.hid hlt
      go_wp2_with fail
      refine (end_b _ b s P k hS false (decide_eq_false (by omega))).mono ?_; rintro e w1 ⟨rfl, m, hm⟩
      replace hS := hS.heap (w' := w1) (by rw [hm]; rfl)
      replace hg := gb_trans hg (show _ from hm ▸ gb_drewN _ m (some b))
      clear hm
      cases h32 : isB P k 32
      case true =>
        go_wp2_with fail
        refine (is_b _ b s P k 0 32 hS (by omega) (by omega) _ h32).mono ?_; rintro e w1 ⟨rfl, m, hm⟩
        replace hS := hS.heap (w' := w1) (by rw [hm]; rfl)
        replace hg := gb_trans hg (show _ from hm ▸ gb_drewN _ m (some b))
        clear hm
        obtain ⟨_, _, _, _, c2, f2, _⟩ := hS.cells
        go_wp2_with fail
        go_roundw
        case rel =>
          refine ⟨k + 1, by have := hS.set (k + 1); push_cast at this; exact this, gb_trans hg (gb_set _ _ _ _), ?_, by omega⟩
          show _ = _
          rw [HE.out, skip_blank HL.out (by unfold blankB; rw [h32]; rfl)]
        case measure =>
          have h1 := scanI_eq (hS.set (k + 1)); push_cast at h1
          rw [h1, HK.out]; omega
      case false =>
        cases h9 : isB P k 9
        case true =>
          go_wp2_with fail
          refine (is_b _ b s P k 0 32 hS (by omega) (by omega) _ h32).mono ?_; rintro e w1 ⟨rfl, m, hm⟩
          replace hS := hS.heap (w' := w1) (by rw [hm]; rfl)
          replace hg := gb_trans hg (show _ from hm ▸ gb_drewN _ m (some b))
          clear hm
          go_wp2_with fail
          refine (is_b _ b s P k 0 9 hS (by omega) (by omega) _ h9).mono ?_; rintro e w1 ⟨rfl, m, hm⟩
          replace hS := hS.heap (w' := w1) (by rw [hm]; rfl)
          replace hg := gb_trans hg (show _ from hm ▸ gb_drewN _ m (some b))
          clear hm
          obtain ⟨_, _, _, _, c2, f2, _⟩ := hS.cells
          go_wp2_with fail
          go_roundw
          case rel =>
            refine ⟨k + 1, by have := hS.set (k + 1); push_cast at this; exact this, gb_trans hg (gb_set _ _ _ _), ?_, by omega⟩
            show _ = _
            rw [HE.out, skip_blank HL.out (by unfold blankB; rw [h32, h9]; rfl)]
          case measure =>
            have h1 := scanI_eq (hS.set (k + 1)); push_cast at h1
            rw [h1, HK.out]; omega
        case false =>
          cases h10 : isB P k 10
          case true =>
            go_wp2_with fail
            refine (is_b _ b s P k 0 32 hS (by omega) (by omega) _ h32).mono ?_; rintro e w1 ⟨rfl, m, hm⟩
            replace hS := hS.heap (w' := w1) (by rw [hm]; rfl)
            replace hg := gb_trans hg (show _ from hm ▸ gb_drewN _ m (some b))
            clear hm
            go_wp2_with fail
            refine (is_b _ b s P k 0 9 hS (by omega) (by omega) _ h9).mono ?_; rintro e w1 ⟨rfl, m, hm⟩
            replace hS := hS.heap (w' := w1) (by rw [hm]; rfl)
            replace hg := gb_trans hg (show _ from hm ▸ gb_drewN _ m (some b))
            clear hm
            go_wp2_with fail
            refine (is_b _ b s P k 0 10 hS (by omega) (by omega) _ h10).mono ?_; rintro e w1 ⟨rfl, m, hm⟩
            replace hS := hS.heap (w' := w1) (by rw [hm]; rfl)
            replace hg := gb_trans hg (show _ from hm ▸ gb_drewN _ m (some b))
            clear hm
            obtain ⟨_, _, _, _, c2, f2, _⟩ := hS.cells
            go_wp2_with fail
            go_roundw
            case rel =>
              refine ⟨k + 1, by have := hS.set (k + 1); push_cast at this; exact this, gb_trans hg (gb_set _ _ _ _), ?_, by omega⟩
              show _ = _
              rw [HE.out, skip_blank HL.out (by unfold blankB; rw [h32, h9, h10]; rfl)]
            case measure =>
              have h1 := scanI_eq (hS.set (k + 1)); push_cast at h1
              rw [h1, HK.out]; omega
          case false =>
            cases h13 : isB P k 13
            case true =>
              go_wp2_with fail
              refine (is_b _ b s P k 0 32 hS (by omega) (by omega) _ h32).mono ?_; rintro e w1 ⟨rfl, m, hm⟩
              replace hS := hS.heap (w' := w1) (by rw [hm]; rfl)
              replace hg := gb_trans hg (show _ from hm ▸ gb_drewN _ m (some b))
              clear hm
              go_wp2_with fail
              refine (is_b _ b s P k 0 9 hS (by omega) (by omega) _ h9).mono ?_; rintro e w1 ⟨rfl, m, hm⟩
              replace hS := hS.heap (w' := w1) (by rw [hm]; rfl)
              replace hg := gb_trans hg (show _ from hm ▸ gb_drewN _ m (some b))
              clear hm
              go_wp2_with fail
              refine (is_b _ b s P k 0 10 hS (by omega) (by omega) _ h10).mono ?_; rintro e w1 ⟨rfl, m, hm⟩
              replace hS := hS.heap (w' := w1) (by rw [hm]; rfl)
              replace hg := gb_trans hg (show _ from hm ▸ gb_drewN _ m (some b))
              clear hm
              go_wp2_with fail
              refine (is_b _ b s P k 0 13 hS (by omega) (by omega) _ h13).mono ?_; rintro e w1 ⟨rfl, m, hm⟩
              replace hS := hS.heap (w' := w1) (by rw [hm]; rfl)
              replace hg := gb_trans hg (show _ from hm ▸ gb_drewN _ m (some b))
              clear hm
              obtain ⟨_, _, _, _, c2, f2, _⟩ := hS.cells
              go_wp2_with fail
              go_roundw
              case rel =>
                refine ⟨k + 1, by have := hS.set (k + 1); push_cast at this; exact this, gb_trans hg (gb_set _ _ _ _), ?_, by omega⟩
                show _ = _
                rw [HE.out, skip_blank HL.out (by unfold blankB; rw [h32, h9, h10, h13]; rfl)]
              case measure =>
                have h1 := scanI_eq (hS.set (k + 1)); push_cast at h1
                rw [h1, HK.out]; omega
            case false =>
              have HB : Hid (blankB P k = false) := by show _ = _; unfold blankB; rw [h32, h9, h10, h13]; rfl
              go_wp2_with fail
              refine (is_b _ b s P k 0 32 hS (by omega) (by omega) _ h32).mono ?_; rintro e w1 ⟨rfl, m, hm⟩
              replace hS := hS.heap (w' := w1) (by rw [hm]; rfl)
              replace hg := gb_trans hg (show _ from hm ▸ gb_drewN _ m (some b))
              clear hm
              go_wp2_with fail
              refine (is_b _ b s P k 0 9 hS (by omega) (by omega) _ h9).mono ?_; rintro e w1 ⟨rfl, m, hm⟩
              replace hS := hS.heap (w' := w1) (by rw [hm]; rfl)
              replace hg := gb_trans hg (show _ from hm ▸ gb_drewN _ m (some b))
              clear hm
              go_wp2_with fail
              refine (is_b _ b s P k 0 10 hS (by omega) (by omega) _ h10).mono ?_; rintro e w1 ⟨rfl, m, hm⟩
              replace hS := hS.heap (w' := w1) (by rw [hm]; rfl)
              replace hg := gb_trans hg (show _ from hm ▸ gb_drewN _ m (some b))
              clear hm
              go_wp2_with fail
              refine (is_b _ b s P k 0 13 hS (by omega) (by omega) _ h13).mono ?_; rintro e w1 ⟨rfl, m, hm⟩
              replace hS := hS.heap (w' := w1) (by rw [hm]; rfl)
              replace hg := gb_trans hg (show _ from hm ▸ gb_drewN _ m (some b))
              clear hm
              cases h45 : isB P k 45
              case false =>
                go_wp2_with fail
                refine (is_b _ b s P k 0 45 hS (by omega) (by omega) _ h45).mono ?_; rintro e w1 ⟨rfl, m, hm⟩
                replace hS := hS.heap (w' := w1) (by rw [hm]; rfl)
                replace hg := gb_trans hg (show _ from hm ▸ gb_drewN _ m (some b))
                clear hm
                have HF : Hid (skip P i = k) := by
                  show _ = _
                  rw [HE.out, skip_stop HB.out (by unfold dashB; rw [h45]; rfl)]
                clear h32 h9 h10 h13 h45
                go_wp2_with fail
                ((try simp only [Exit.inBlock, Exit.then]); refine bodyPost_ret (results_none rfl _ _ _) rfl ?_)
                exact ⟨rfl, by rw [HF.out]; exact hS, hg⟩
              case true =>
                cases h46 : isB P (k + 1) 45
                case false =>
                  go_wp2_with fail
                  refine (is_b _ b s P k 0 45 hS (by omega) (by omega) _ h45).mono ?_; rintro e w1 ⟨rfl, m, hm⟩
                  replace hS := hS.heap (w' := w1) (by rw [hm]; rfl)
                  replace hg := gb_trans hg (show _ from hm ▸ gb_drewN _ m (some b))
                  clear hm
                  go_wp2_with fail
                  refine (is_b _ b s P k 1 45 hS (by omega) (by omega) _ h46).mono ?_; rintro e w1 ⟨rfl, m, hm⟩
                  replace hS := hS.heap (w' := w1) (by rw [hm]; rfl)
                  replace hg := gb_trans hg (show _ from hm ▸ gb_drewN _ m (some b))
                  clear hm
                  have HF : Hid (skip P i = k) := by
                    show _ = _
                    rw [HE.out, skip_stop HB.out (by unfold dashB; rw [h45, h46]; rfl)]
                  clear h32 h9 h10 h13 h45 h46
                  go_wp2_with fail
                  ((try simp only [Exit.inBlock, Exit.then]); refine bodyPost_ret (results_none rfl _ _ _) rfl ?_)
                  exact ⟨rfl, by rw [HF.out]; exact hS, hg⟩
                case true =>
                  go_wp2_with fail
                  refine (is_b _ b s P k 0 45 hS (by omega) (by omega) _ h45).mono ?_; rintro e w1 ⟨rfl, m, hm⟩
                  replace hS := hS.heap (w' := w1) (by rw [hm]; rfl)
                  replace hg := gb_trans hg (show _ from hm ▸ gb_drewN _ m (some b))
                  clear hm
                  go_wp2_with fail
                  refine (is_b _ b s P k 1 45 hS (by omega) (by omega) _ h46).mono ?_; rintro e w1 ⟨rfl, m, hm⟩
                  replace hS := hS.heap (w' := w1) (by rw [hm]; rfl)
                  replace hg := gb_trans hg (show _ from hm ▸ gb_drewN _ m (some b))
                  clear hm
                  have HD : Hid (dashB P k = true) := by show _ = _; unfold dashB; rw [h45, h46]; rfl
                  have HF : Hid (skip P i = skip P (lineEnd P k)) := by
                    show _ = _
                    rw [HE.out, skip_dash HL.out HB.out HD.out]
                  clear h32 h9 h10 h13 h45 h46
                  go_wp2_with fail
                  go_loopw [] (fun wi => ∃ j, SQ L wi b s P j ∧ w.grownBy wi (some b) ∧ Hid (lineEnd P k = runTo (fun j => !isB P j 10) P.length j) ∧ j ≤ P.length) (fun wi => P.length - scanI wi b)
                  case atStart => exact ⟨k, hS, hg, rfl, hk⟩
                  case round =>
                    obtain ⟨j, hS, hg, HJ, hj⟩ := hrel
                    have hj0 := scanI_eq hS
                    have HJ0 := Lib.hid hj0
                    clear hj0
                    by_cases hlj : j < P.length
                    · cases h10 : isB P j 10
                      case false =>
                        go_wp2_with fail
                        refine (end_b _ b s P j hS false (decide_eq_false (by omega))).mono ?_; rintro e w1 ⟨rfl, m, hm⟩
                        replace hS := hS.heap (w' := w1) (by rw [hm]; rfl)
                        replace hg := gb_trans hg (show _ from hm ▸ gb_drewN _ m (some b))
                        clear hm
                        go_wp2_with fail
                        refine (is_b _ b s P j 0 10 hS (by omega) (by omega) _ h10).mono ?_; rintro e w1 ⟨rfl, m, hm⟩
                        replace hS := hS.heap (w' := w1) (by rw [hm]; rfl)
                        replace hg := gb_trans hg (show _ from hm ▸ gb_drewN _ m (some b))
                        clear hm
                        obtain ⟨_, _, _, _, c2, f2, _⟩ := hS.cells
                        have HJ2 : Hid (lineEnd P k = runTo (fun j => !isB P j 10) P.length (j + 1)) := by show _ = _; rw [HJ.out]; exact runTo_go hlj (by simp only [h10]; rfl)
                        clear h10
                        go_wp2_with fail
                        go_roundw
                        case rel => exact ⟨j + 1, by have := hS.set (j + 1); push_cast at this; exact this, gb_trans hg (gb_set _ _ _ _), HJ2, by omega⟩
                        case measure =>
                          have h1 := scanI_eq (hS.set (j + 1)); push_cast at h1
                          rw [h1, HJ0.out]; omega
                      case true =>
                        go_wp2_with fail
                        refine (end_b _ b s P j hS false (decide_eq_false (by omega))).mono ?_; rintro e w1 ⟨rfl, m, hm⟩
                        replace hS := hS.heap (w' := w1) (by rw [hm]; rfl)
                        replace hg := gb_trans hg (show _ from hm ▸ gb_drewN _ m (some b))
                        clear hm
                        go_wp2_with fail
                        refine (is_b _ b s P j 0 10 hS (by omega) (by omega) _ h10).mono ?_; rintro e w1 ⟨rfl, m, hm⟩
                        replace hS := hS.heap (w' := w1) (by rw [hm]; rfl)
                        replace hg := gb_trans hg (show _ from hm ▸ gb_drewN _ m (some b))
                        clear hm
                        have H10 := Lib.hid h10
                        clear h10
                        have HLE : Hid (lineEnd P k = j) := by show _ = _; rw [HJ.out]; exact runTo_stop (by simp only [H10.out]; rfl)
                        have hgt := lineEnd_gt HD.out
                        have HGT : Hid (k < j) := by rw [← HLE.out]; exact hgt.1
                        clear hgt
                        go_wp2_with fail
                        go_roundw
                        case rel => exact ⟨j, hS, hg, (by show _ = _; rw [HF.out, HLE.out]), hj⟩
                        case measure => rw [scanI_eq hS, HK.out]; have := HGT.out; have := HL.out; omega
                    · skip
                      go_wp2_with fail
                      refine (end_b _ b s P j hS true (decide_eq_true (by omega))).mono ?_; rintro e w1 ⟨rfl, m, hm⟩
                      replace hS := hS.heap (w' := w1) (by rw [hm]; rfl)
                      replace hg := gb_trans hg (show _ from hm ▸ gb_drewN _ m (some b))
                      clear hm
                      have HLE : Hid (lineEnd P k = j) := by show _ = _; rw [HJ.out]; exact runTo_end (by omega)
                      have hgt := lineEnd_gt HD.out
                      have HGT : Hid (k < j) := by rw [← HLE.out]; exact hgt.1
                      clear hgt
                      go_wp2_with fail
                      go_roundw
                      case rel => exact ⟨j, hS, hg, (by show _ = _; rw [HF.out, HLE.out]), hj⟩
                      case measure => rw [scanI_eq hS, HK.out]; have := HGT.out; have := HL.out; omega
    · have HF : Hid (skip P i = k) := by show _ = _; rw [HE.out, skip_end (by omega)]
      go_wp2_with fail
      refine (end_b _ b s P k hS true (decide_eq_true (by omega))).mono ?_; rintro e w1 ⟨rfl, m, hm⟩
      replace hS := hS.heap (w' := w1) (by rw [hm]; rfl)
      replace hg := gb_trans hg (show _ from hm ▸ gb_drewN _ m (some b))
      clear hm
      go_wp2_with fail
      go_end0
      exact ⟨rfl, by rw [HF.out]; exact hS, hg⟩

end Go.Proofs.YtfbgdjcnlnfoaaaDoor
