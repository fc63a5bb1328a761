/- Parts of the proof, joined: LexB LexC PlainM LexD LexE PlainN LexF LexG PlainO. -/
import Derived.StillTailTactics
import Derived.Deep.RegionWith
import Derived.Test.YtfbgdjcnlnfoaaaGreatDoorB01
namespace Go.Proofs.YtfbgdjcnlnfoaaaGreatDoor
open Go.RowKit
open Cle

theorem Tryz.infoPt : (Tryz.prog.info? 149).map (fun i => (i.zero, i.size, i.bytes)) = some (some (.agg #[.int .i32 0, .int .i64 0, .bool false]), 3, 24) := by kernel_rfl
theorem is_b {L : Nat} (w : World) (b : Nat) (s : ByteArray) (P : List Pt) (i more : Nat) (r : Int) (h : SQ L w b s P i) (hi : i ≤ 1000000) (hm : more ≤ 1) (v : Bool) (hv : isB P (i + more) r = v) :
    Calls Tryz.prog 119 #[.pointer (some ⟨b, 0, none⟩), .int .i64 more, .int .i32 r] w fun e w' => e = .returned (.bool v) ∧ ∃ m, w' = w.drewN m := by
  rw [← hv]; exact is_any w b s P i more r h hi hm

def scanI (w : World) (b : Nat) : Nat := match w.cell? ⟨b, 2, none⟩ with | some (.int _ n) => n.toNat | _ => 0
theorem scanI_eq {T : TypeId} {flat : List Pt → List Value} {L : Nat} {w : World} {b : Nat} {s : ByteArray} {P : List Pt} {i : Nat} (h : Scn T flat L w b s P i) : scanI w b = i := by
  obtain ⟨_, _, _, _, c2, _⟩ := h.cells
  unfold scanI
  rw [c2]
  exact Int.toNat_natCast i

set_option maxRecDepth 100000 in
set_option maxHeartbeats 2000000 in
theorem skip_any {L : Nat} (w : World) (b : Nat) (s : ByteArray) (P : List Pt) (i : Nat) (h : SQ L w b s P i) (hi : i ≤ P.length) (hP : P.length ≤ 100000) :
    Calls Tryz.prog 78 #[.pointer (some ⟨b, 0, none⟩)] w fun e w' => e = .returned (.tuple #[]) ∧ SQ L w' b s P (skip P i) ∧ w.grownBy w' (some b) := by
  have H := Lib.hid h
  clear h
  go_enter Tryz.func78, Tryz.ntmps78
  go_wp2_with fail
  go_loopw [] (fun wr => ∃ k, SQ L wr b s P k ∧ w.grownBy wr (some b) ∧ Hid (skip P i = skip P k) ∧ k ≤ P.length) (fun wr => P.length - scanI wr b)
  case atStart => exact ⟨i, H.out, gb_refl _ _, rfl, hi⟩
  case round =>
    obtain ⟨k, hS, hg, HE, hk⟩ := hrel
    have hk0 := scanI_eq hS
    have HK := Lib.hid hk0
    clear hk0
    by_cases hlt : k < P.length
    · have HL := Lib.hid hlt
      go_wp2_with fail
      refine (end_b _ b s P k hS false (decide_eq_false (by omega))).mono ?_; rintro e w1 ⟨rfl, m, hm⟩
      replace hS := hS.heap (w' := w1) (by rw [hm]; rfl)
      replace hg := gb_trans hg (show _ from hm ▸ gb_drewN _ m (some b))
      clear hm
      cases h32 : isB P k 32
      case true =>
        go_wp2_with fail
        refine (is_b _ b s P k 0 32 hS (by omega) (by omega) _ h32).mono ?_; rintro e w1 ⟨rfl, m, hm⟩
        replace hS := hS.heap (w' := w1) (by rw [hm]; rfl)
        replace hg := gb_trans hg (show _ from hm ▸ gb_drewN _ m (some b))
        clear hm
        obtain ⟨_, _, _, _, c2, f2, _⟩ := hS.cells
        go_wp2_with fail
        go_roundw
        case rel =>
          refine ⟨k + 1, by have := hS.set (k + 1); push_cast at this; exact this, gb_trans hg (gb_set _ _ _ _), ?_, by omega⟩
          show _ = _
          rw [HE.out, skip_blank HL.out (by unfold blankB; rw [h32]; rfl)]
        case measure =>
          have h1 := scanI_eq (hS.set (k + 1)); push_cast at h1
          rw [h1, HK.out]; omega
      case false =>
        cases h9 : isB P k 9
        case true =>
          go_wp2_with fail
          refine (is_b _ b s P k 0 32 hS (by omega) (by omega) _ h32).mono ?_; rintro e w1 ⟨rfl, m, hm⟩
          replace hS := hS.heap (w' := w1) (by rw [hm]; rfl)
          replace hg := gb_trans hg (show _ from hm ▸ gb_drewN _ m (some b))
          clear hm
          go_wp2_with fail
          refine (is_b _ b s P k 0 9 hS (by omega) (by omega) _ h9).mono ?_; rintro e w1 ⟨rfl, m, hm⟩
          replace hS := hS.heap (w' := w1) (by rw [hm]; rfl)
          replace hg := gb_trans hg (show _ from hm ▸ gb_drewN _ m (some b))
          clear hm
          obtain ⟨_, _, _, _, c2, f2, _⟩ := hS.cells
          go_wp2_with fail
          go_roundw
          case rel =>
            refine ⟨k + 1, by have := hS.set (k + 1); push_cast at this; exact this, gb_trans hg (gb_set _ _ _ _), ?_, by omega⟩
            show _ = _
            rw [HE.out, skip_blank HL.out (by unfold blankB; rw [h32, h9]; rfl)]
          case measure =>
            have h1 := scanI_eq (hS.set (k + 1)); push_cast at h1
            rw [h1, HK.out]; omega
        case false =>
          cases h10 : isB P k 10
          case true =>
            go_wp2_with fail
            refine (is_b _ b s P k 0 32 hS (by omega) (by omega) _ h32).mono ?_; rintro e w1 ⟨rfl, m, hm⟩
            replace hS := hS.heap (w' := w1) (by rw [hm]; rfl)
            replace hg := gb_trans hg (show _ from hm ▸ gb_drewN _ m (some b))
            clear hm
            go_wp2_with fail
            refine (is_b _ b s P k 0 9 hS (by omega) (by omega) _ h9).mono ?_; rintro e w1 ⟨rfl, m, hm⟩
            replace hS := hS.heap (w' := w1) (by rw [hm]; rfl)
            replace hg := gb_trans hg (show _ from hm ▸ gb_drewN _ m (some b))
            clear hm
            go_wp2_with fail
            refine (is_b _ b s P k 0 10 hS (by omega) (by omega) _ h10).mono ?_; rintro e w1 ⟨rfl, m, hm⟩
            replace hS := hS.heap (w' := w1) (by rw [hm]; rfl)
            replace hg := gb_trans hg (show _ from hm ▸ gb_drewN _ m (some b))
            clear hm
            obtain ⟨_, _, _, _, c2, f2, _⟩ := hS.cells
            go_wp2_with fail
            go_roundw
            case rel =>
              refine ⟨k + 1, by have := hS.set (k + 1); push_cast at this; exact this, gb_trans hg (gb_set _ _ _ _), ?_, by omega⟩
              show _ = _
              rw [HE.out, skip_blank HL.out (by unfold blankB; rw [h32, h9, h10]; rfl)]
            case measure =>
              have h1 := scanI_eq (hS.set (k + 1)); push_cast at h1
              rw [h1, HK.out]; omega
          case false =>
            cases h13 : isB P k 13
            case true =>
              go_wp2_with fail
              refine (is_b _ b s P k 0 32 hS (by omega) (by omega) _ h32).mono ?_; rintro e w1 ⟨rfl, m, hm⟩
              replace hS := hS.heap (w' := w1) (by rw [hm]; rfl)
              replace hg := gb_trans hg (show _ from hm ▸ gb_drewN _ m (some b))
              clear hm
              go_wp2_with fail
              refine (is_b _ b s P k 0 9 hS (by omega) (by omega) _ h9).mono ?_; rintro e w1 ⟨rfl, m, hm⟩
              replace hS := hS.heap (w' := w1) (by rw [hm]; rfl)
              replace hg := gb_trans hg (show _ from hm ▸ gb_drewN _ m (some b))
              clear hm
              go_wp2_with fail
              refine (is_b _ b s P k 0 10 hS (by omega) (by omega) _ h10).mono ?_; rintro e w1 ⟨rfl, m, hm⟩
              replace hS := hS.heap (w' := w1) (by rw [hm]; rfl)
              replace hg := gb_trans hg (show _ from hm ▸ gb_drewN _ m (some b))
              clear hm
              go_wp2_with fail
              refine (is_b _ b s P k 0 13 hS (by omega) (by omega) _ h13).mono ?_; rintro e w1 ⟨rfl, m, hm⟩
              replace hS := hS.heap (w' := w1) (by rw [hm]; rfl)
              replace hg := gb_trans hg (show _ from hm ▸ gb_drewN _ m (some b))
              clear hm
              obtain ⟨_, _, _, _, c2, f2, _⟩ := hS.cells
              go_wp2_with fail
              go_roundw
              case rel =>
                refine ⟨k + 1, by have := hS.set (k + 1); push_cast at this; exact this, gb_trans hg (gb_set _ _ _ _), ?_, by omega⟩
                show _ = _
                rw [HE.out, skip_blank HL.out (by unfold blankB; rw [h32, h9, h10, h13]; rfl)]
              case measure =>
                have h1 := scanI_eq (hS.set (k + 1)); push_cast at h1
                rw [h1, HK.out]; omega
            case false =>
              have HB : Hid (blankB P k = false) := by show _ = _; unfold blankB; rw [h32, h9, h10, h13]; rfl
              go_wp2_with fail
              refine (is_b _ b s P k 0 32 hS (by omega) (by omega) _ h32).mono ?_; rintro e w1 ⟨rfl, m, hm⟩
              replace hS := hS.heap (w' := w1) (by rw [hm]; rfl)
              replace hg := gb_trans hg (show _ from hm ▸ gb_drewN _ m (some b))
              clear hm
              go_wp2_with fail
              refine (is_b _ b s P k 0 9 hS (by omega) (by omega) _ h9).mono ?_; rintro e w1 ⟨rfl, m, hm⟩
              replace hS := hS.heap (w' := w1) (by rw [hm]; rfl)
              replace hg := gb_trans hg (show _ from hm ▸ gb_drewN _ m (some b))
              clear hm
              go_wp2_with fail
              refine (is_b _ b s P k 0 10 hS (by omega) (by omega) _ h10).mono ?_; rintro e w1 ⟨rfl, m, hm⟩
              replace hS := hS.heap (w' := w1) (by rw [hm]; rfl)
              replace hg := gb_trans hg (show _ from hm ▸ gb_drewN _ m (some b))
              clear hm
              go_wp2_with fail
              refine (is_b _ b s P k 0 13 hS (by omega) (by omega) _ h13).mono ?_; rintro e w1 ⟨rfl, m, hm⟩
              replace hS := hS.heap (w' := w1) (by rw [hm]; rfl)
              replace hg := gb_trans hg (show _ from hm ▸ gb_drewN _ m (some b))
              clear hm
              cases h45 : isB P k 45
              case false =>
                go_wp2_with fail
                refine (is_b _ b s P k 0 45 hS (by omega) (by omega) _ h45).mono ?_; rintro e w1 ⟨rfl, m, hm⟩
                replace hS := hS.heap (w' := w1) (by rw [hm]; rfl)
                replace hg := gb_trans hg (show _ from hm ▸ gb_drewN _ m (some b))
                clear hm
                have HF : Hid (skip P i = k) := by
                  show _ = _
                  rw [HE.out, skip_stop HB.out (by unfold dashB; rw [h45]; rfl)]
                clear h32 h9 h10 h13 h45
                go_wp2_with fail
                ((try simp only [Exit.inBlock, Exit.then]); refine bodyPost_ret (results_none rfl _ _ _) rfl ?_)
                exact ⟨rfl, by rw [HF.out]; exact hS, hg⟩
              case true =>
                cases h46 : isB P (k + 1) 45
                case false =>
                  go_wp2_with fail
                  refine (is_b _ b s P k 0 45 hS (by omega) (by omega) _ h45).mono ?_; rintro e w1 ⟨rfl, m, hm⟩
                  replace hS := hS.heap (w' := w1) (by rw [hm]; rfl)
                  replace hg := gb_trans hg (show _ from hm ▸ gb_drewN _ m (some b))
                  clear hm
                  go_wp2_with fail
                  refine (is_b _ b s P k 1 45 hS (by omega) (by omega) _ h46).mono ?_; rintro e w1 ⟨rfl, m, hm⟩
                  replace hS := hS.heap (w' := w1) (by rw [hm]; rfl)
                  replace hg := gb_trans hg (show _ from hm ▸ gb_drewN _ m (some b))
                  clear hm
                  have HF : Hid (skip P i = k) := by
                    show _ = _
                    rw [HE.out, skip_stop HB.out (by unfold dashB; rw [h45, h46]; rfl)]
                  clear h32 h9 h10 h13 h45 h46
                  go_wp2_with fail
                  ((try simp only [Exit.inBlock, Exit.then]); refine bodyPost_ret (results_none rfl _ _ _) rfl ?_)
                  exact ⟨rfl, by rw [HF.out]; exact hS, hg⟩
                case true =>
                  go_wp2_with fail
                  refine (is_b _ b s P k 0 45 hS (by omega) (by omega) _ h45).mono ?_; rintro e w1 ⟨rfl, m, hm⟩
                  replace hS := hS.heap (w' := w1) (by rw [hm]; rfl)
                  replace hg := gb_trans hg (show _ from hm ▸ gb_drewN _ m (some b))
                  clear hm
                  go_wp2_with fail
                  refine (is_b _ b s P k 1 45 hS (by omega) (by omega) _ h46).mono ?_; rintro e w1 ⟨rfl, m, hm⟩
                  replace hS := hS.heap (w' := w1) (by rw [hm]; rfl)
                  replace hg := gb_trans hg (show _ from hm ▸ gb_drewN _ m (some b))
                  clear hm
                  have HD : Hid (dashB P k = true) := by show _ = _; unfold dashB; rw [h45, h46]; rfl
                  have HF : Hid (skip P i = skip P (lineEnd P k)) := by
                    show _ = _
                    rw [HE.out, skip_dash HL.out HB.out HD.out]
                  clear h32 h9 h10 h13 h45 h46
                  go_wp2_with fail
                  go_loopw [] (fun wi => ∃ j, SQ L wi b s P j ∧ w.grownBy wi (some b) ∧ Hid (lineEnd P k = runTo (fun j => !isB P j 10) P.length j) ∧ j ≤ P.length) (fun wi => P.length - scanI wi b)
                  case atStart => exact ⟨k, hS, hg, rfl, hk⟩
                  case round =>
                    obtain ⟨j, hS, hg, HJ, hj⟩ := hrel
                    have hj0 := scanI_eq hS
                    have HJ0 := Lib.hid hj0
                    clear hj0
                    by_cases hlj : j < P.length
                    · cases h10 : isB P j 10
                      case false =>
                        go_wp2_with fail
                        refine (end_b _ b s P j hS false (decide_eq_false (by omega))).mono ?_; rintro e w1 ⟨rfl, m, hm⟩
                        replace hS := hS.heap (w' := w1) (by rw [hm]; rfl)
                        replace hg := gb_trans hg (show _ from hm ▸ gb_drewN _ m (some b))
                        clear hm
                        go_wp2_with fail
                        refine (is_b _ b s P j 0 10 hS (by omega) (by omega) _ h10).mono ?_; rintro e w1 ⟨rfl, m, hm⟩
                        replace hS := hS.heap (w' := w1) (by rw [hm]; rfl)
                        replace hg := gb_trans hg (show _ from hm ▸ gb_drewN _ m (some b))
                        clear hm
                        obtain ⟨_, _, _, _, c2, f2, _⟩ := hS.cells
                        have HJ2 : Hid (lineEnd P k = runTo (fun j => !isB P j 10) P.length (j + 1)) := by show _ = _; rw [HJ.out]; exact runTo_go hlj (by simp only [h10]; rfl)
                        clear h10
                        go_wp2_with fail
                        go_roundw
                        case rel => exact ⟨j + 1, by have := hS.set (j + 1); push_cast at this; exact this, gb_trans hg (gb_set _ _ _ _), HJ2, by omega⟩
                        case measure =>
                          have h1 := scanI_eq (hS.set (j + 1)); push_cast at h1
                          rw [h1, HJ0.out]; omega
                      case true =>
                        go_wp2_with fail
                        refine (end_b _ b s P j hS false (decide_eq_false (by omega))).mono ?_; rintro e w1 ⟨rfl, m, hm⟩
                        replace hS := hS.heap (w' := w1) (by rw [hm]; rfl)
                        replace hg := gb_trans hg (show _ from hm ▸ gb_drewN _ m (some b))
                        clear hm
                        go_wp2_with fail
                        refine (is_b _ b s P j 0 10 hS (by omega) (by omega) _ h10).mono ?_; rintro e w1 ⟨rfl, m, hm⟩
                        replace hS := hS.heap (w' := w1) (by rw [hm]; rfl)
                        replace hg := gb_trans hg (show _ from hm ▸ gb_drewN _ m (some b))
                        clear hm
                        have H10 := Lib.hid h10
                        clear h10
                        have HLE : Hid (lineEnd P k = j) := by show _ = _; rw [HJ.out]; exact runTo_stop (by simp only [H10.out]; rfl)
                        have hgt := lineEnd_gt HD.out
                        have HGT : Hid (k < j) := by rw [← HLE.out]; exact hgt.1
                        clear hgt
                        go_wp2_with fail
                        go_roundw
                        case rel => exact ⟨j, hS, hg, (by show _ = _; rw [HF.out, HLE.out]), hj⟩
                        case measure => rw [scanI_eq hS, HK.out]; have := HGT.out; have := HL.out; omega
                    · skip
                      go_wp2_with fail
                      refine (end_b _ b s P j hS true (decide_eq_true (by omega))).mono ?_; rintro e w1 ⟨rfl, m, hm⟩
                      replace hS := hS.heap (w' := w1) (by rw [hm]; rfl)
                      replace hg := gb_trans hg (show _ from hm ▸ gb_drewN _ m (some b))
                      clear hm
                      have HLE : Hid (lineEnd P k = j) := by show _ = _; rw [HJ.out]; exact runTo_end (by omega)
                      have hgt := lineEnd_gt HD.out
                      have HGT : Hid (k < j) := by rw [← HLE.out]; exact hgt.1
                      clear hgt
                      go_wp2_with fail
                      go_roundw
                      case rel => exact ⟨j, hS, hg, (by show _ = _; rw [HF.out, HLE.out]), hj⟩
                      case measure => rw [scanI_eq hS, HK.out]; have := HGT.out; have := HL.out; omega
    · have HF : Hid (skip P i = k) := by show _ = _; rw [HE.out, skip_end (by omega)]
      go_wp2_with fail
      refine (end_b _ b s P k hS true (decide_eq_true (by omega))).mono ?_; rintro e w1 ⟨rfl, m, hm⟩
      replace hS := hS.heap (w' := w1) (by rw [hm]; rfl)
      replace hg := gb_trans hg (show _ from hm ▸ gb_drewN _ m (some b))
      clear hm
      go_wp2_with fail
      go_end0
      exact ⟨rfl, by rw [HF.out]; exact hS, hg⟩

end Go.Proofs.YtfbgdjcnlnfoaaaGreatDoor

namespace Go.Proofs.YtfbgdjcnlnfoaaaGreatDoor
open Go.RowKit
open Cle

theorem ownsRow_iterAt {w : World} {base : Nat} {e : TypeId} {size : Nat} {v : Value} {n : Nat} {xs : List Value} (h : w.ownsRow base e size v n xs) {k : Nat} (hk : k < base) (s : ByteArray) (p : Nat) : (w.iterAt k s p).ownsRow base e size v n xs := by
  obtain ⟨h1, h2⟩ := h
  refine ⟨h1, ?_⟩
  rcases h2 with h2 | ⟨g, cap, cur, a, b, c, d⟩
  · exact .inl h2
  · exact .inr ⟨g, cap, cur, a, b, by rw [Lib.iterAt_other _ _ _ _ _ (by omega)]; exact c, d⟩
theorem ownsRow_setLow {w : World} {base : Nat} {e : TypeId} {size : Nat} {v : Value} {n : Nat} {xs : List Value} (h : w.ownsRow base e size v n xs) {a : Addr} (ha : a.block < base) (u : Value) : (w.setCell a u).ownsRow base e size v n xs := ownsRow_setCell_below h ha u

theorem pnt_one (r a : Int) (x : Bool) : ∀ u ∈ [Value.int .i32 r, Value.int .i64 a, Value.bool x], u.oneCell' = true := by
  intro u hu; simp at hu; rcases hu with rfl | rfl | rfl <;> rfl

set_option maxRecDepth 100000 in
set_option maxHeartbeats 2000000 in
theorem open_any (s : ByteArray) (w : World) (hG : Glob w) (hs : s.size ≤ 100000) :
    Calls Tryz.prog 77 #[.string s] w fun e w' => e = .returned (.pointer (some ⟨w.heap.size, 0, none⟩)) ∧ SQ w'.heap.size w' w.heap.size s (pts s) 0 ∧ Below w.heap.size w w' := by
  obtain ⟨i0, hi, hz0, hz1, hz2⟩ := info_parts Tryz.infoPt
  have HG := Lib.hid hG
  clear hG
  go_enter Tryz.func77, Tryz.ntmps77
  go_wp2_with fail
  go_loopw [] (fun wr => ∃ (pos : Nat) (done : List Pt) (v : Value), wr.heap[w.heap.size + 1]? = some (.stringIter s pos) ∧ wr.heap[w.heap.size]? = some (.cells #[.string s, v, .int .i64 0] 117 (0, 0)) ∧ wr.ownsRow (w.heap.size + 2) 149 3 v done.length (flatQ done) ∧ Below w.heap.size w wr ∧ Hid (pts s = done ++ ptsAt s pos) ∧ done.length ≤ pos ∧ pos ≤ s.size) (fun wr => s.size - wr.iterPos (w.heap.size + 1))
  case atStart =>
    refine ⟨0, [], .slice none 0 0, ?_, ?_, World.ownsRow_nil _ _ _ _, ((Below.refl _ _).alloc (Nat.le_refl _) _).alloc (by simp) _, rfl, by simp, by omega⟩
    · have := World.iter_heap (w.alloc (.cells #[.string s, .slice none 0 0, .int .i64 0] 117)) s 0
      simpa using this
    · exact blk_alloc (blk_new w _) _
  case round =>
    obtain ⟨pos, done, v, hit, hblk, hown, hbw, HS, hk, hpos⟩ := hrel
    have hpos0 := iterPos_of hit
    by_cases hp : pos < s.size
    · have hnx : ∀ ty, (Instr.next (.pointer (some ⟨w.heap.size + 1, 0, none⟩)) true ty).run Tryz.prog wr = _ := fun ty => Lib.run_next_any_at wr (w.heap.size + 1) s pos ty hit hp
      have hwd := width_pos s pos hp
      have hwl := width_le s pos hp
      have hit2 := Lib.iterAt_heap wr (w.heap.size + 1) s pos (pos + (Utf8.decode s pos).2) hit
      have hbw2 := Lib.below_iterAt hbw (k := w.heap.size + 1) (by omega) s (pos + (Utf8.decode s pos).2)
      have hblk2 : (wr.iterAt (w.heap.size + 1) s (pos + (Utf8.decode s pos).2)).heap[w.heap.size]? = some (.cells #[.string s, v, .int .i64 0] 117 (0, 0)) := by rw [Lib.iterAt_other _ _ _ _ _ (by omega)]; exact hblk
      have hown2 := ownsRow_iterAt hown (k := w.heap.size + 1) (by omega) s (pos + (Utf8.decode s pos).2)
      obtain ⟨W1, hW1⟩ : ∃ W1, W1 = wr.iterAt (w.heap.size + 1) s (pos + (Utf8.decode s pos).2) := ⟨_, rfl⟩
      rw [← hW1] at hnx hit2 hbw2 hblk2 hown2
      have hlt := blk_lt hit2
      clear hW1 hit hbw hblk hown
      have hd := dec_any s pos W1 (HG.out.below (hbw2.mono (by omega))) hp
      have HS2 : Hid (pts s = (done ++ [⟨(Utf8.decode s pos).1, pos, (Utf8.decode s pos).2⟩]) ++ ptsAt s (pos + (Utf8.decode s pos).2)) := by
        show _ = _; rw [HS.out, ptsAt_step s pos hp]; simp
      obtain ⟨q, hq⟩ : ∃ q : Pt, q = ⟨(Utf8.decode s pos).1, pos, (Utf8.decode s pos).2⟩ := ⟨_, rfl⟩
      have hq1 : (Utf8.decode s pos).1 = q.r := by rw [hq]
      have hq2 : (Utf8.decode s pos).2 = q.n := by rw [hq]
      have HQ : Hid (pos = q.at_) := by rw [hq]; rfl
      rw [← hq] at HS2
      rw [hq1, hq2] at hd
      rw [hq1] at hnx
      rw [hq2] at hwd hwl HS2 hit2
      have HOK : Hid (q.ok = ((q.r : Int) != 65533 || decide (1 < q.n))) := rfl
      have Hd := Lib.hid hd
      clear hq hq1 hq2 HS hd
      cases hr : ((q.r : Int) != 65533)
      · rw [hr] at HOK
        have HX : Hid (q.ok = decide (1 < (q.n : Int))) := by show _ = _; rw [HOK.out, Bool.false_or]; exact decide_eq_decide.2 (by omega)
        go_wp2_with fail
        refine Hd.out.mono ?_; rintro e w1 ⟨rfl, hb1⟩
        have hblk3 := blk_below hblk2 hb1 (by omega)
        have hit3 := blk_below hit2 hb1 hlt
        have hown3 := ownsRow_below hown2 hb1
        have hbw3 := hbw2.trans (hb1.mono (by omega))
        have hz1' := hb1.size
        have c1 : w1.cell? ⟨w.heap.size, 1, none⟩ = some v := by rw [blk_cell hblk3]; rfl
        clear hblk2 hit2 hown2 hbw2 hb1 hnx
        go_wp2_with (at_builtin; refine wpList_append_own _ rfl _ _ 115 rfl (w.heap.size + 2) 149 i0 (.agg #[.int .i32 0, .int .i64 0, .bool false]) 3 24 Tryz.underlying115 hi hz0 hz1 hz2 rfl (by decide) _ _ _ rfl (hown3.alloc _) ⟨w1.heap.size, 0, none⟩ 1 1 [.int .i32 q.r, .int .i64 pos, .bool (decide (1 < (q.n : Int)))] rfl rfl (cells_new _ _ _) (pnt_one _ _ _) (by unfold maxLen; omega) (by omega) (by simp; omega) ?_; intro v' w2 hown4 hg2 _; obtain ⟨a', cap', hv', _⟩ := row_read hown4; rw [hv'] at hown4 ⊢; clear hv'
                     have hne : some w.heap.size ≠ v.ownBlock := fun h => by have := (hown3.lt _ h.symm).1; omega
                     have hne2 : some (w.heap.size + 1) ≠ v.ownBlock := fun h => by have := (hown3.lt _ h.symm).1; omega
                     have hblk4 : w2.heap[w.heap.size]? = some (.cells #[.string s, v, .int .i64 0] 117 (0, 0)) := by rw [hg2.block _ (by simp; omega) hne]; exact blk_alloc hblk3 _
                     have hit4 : w2.heap[w.heap.size + 1]? = some (.stringIter s (pos + q.n)) := by rw [hg2.block _ (by simp; omega) hne2]; exact blk_alloc hit3 _
                     have hbw4 : Below w.heap.size w w2 := (hbw3.alloc (by omega) _).grown hg2 (by simp; omega) (fun k hk => by have := (hown3.lt _ hk).1; omega)
                     have c4 : w2.cell? ⟨w.heap.size, 1, none⟩ = some v := by rw [blk_cell hblk4]; rfl
                     have f4 : w2.frozen? ⟨w.heap.size, 1, none⟩ = false := blk_frozen0 hblk4 1
                     clear hown3 hblk3 hit3 hbw3 hg2 hne hne2)
        have h5 : (w2.setCell ⟨w.heap.size, 1, none⟩ (.slice a' (done.length + 1) cap')).heap[w.heap.size + 1]? = some (.stringIter s (pos + q.n)) := blk_setOther hit4 _ _ (by simp)
        go_roundw
        case rel =>
          refine ⟨pos + q.n, done ++ [q], _, h5, blk_set hblk4 1 _, ?_, hbw4.setCell (Nat.le_refl _) _, HS2, by simp; omega, hwl⟩
          have e : [Value.int .i32 q.r, Value.int .i64 pos, Value.bool (decide (1 < (q.n : Int)))] = pntCells q := by unfold pntCells; rw [HX.out, ← HQ.out]
          rw [e, flatQ_snoc] at hown4
          have e2 : (done ++ [q]).length = done.length + 1 := by simp
          rw [e2]
          exact ownsRow_setLow hown4 (by show _ < _; simp) _
        case measure => rw [iterPos_of h5, hpos0]; omega
      · rw [hr] at HOK
        have HX : Hid (q.ok = true) := by show _ = _; rw [HOK.out]; rfl
        go_wp2_with fail
        refine Hd.out.mono ?_; rintro e w1 ⟨rfl, hb1⟩
        have hblk3 := blk_below hblk2 hb1 (by omega)
        have hit3 := blk_below hit2 hb1 hlt
        have hown3 := ownsRow_below hown2 hb1
        have hbw3 := hbw2.trans (hb1.mono (by omega))
        have hz1' := hb1.size
        have c1 : w1.cell? ⟨w.heap.size, 1, none⟩ = some v := by rw [blk_cell hblk3]; rfl
        clear hblk2 hit2 hown2 hbw2 hb1 hnx
        go_wp2_with (at_builtin; refine wpList_append_own _ rfl _ _ 115 rfl (w.heap.size + 2) 149 i0 (.agg #[.int .i32 0, .int .i64 0, .bool false]) 3 24 Tryz.underlying115 hi hz0 hz1 hz2 rfl (by decide) _ _ _ rfl (hown3.alloc _) ⟨w1.heap.size, 0, none⟩ 1 1 [.int .i32 q.r, .int .i64 pos, .bool (true)] rfl rfl (cells_new _ _ _) (pnt_one _ _ _) (by unfold maxLen; omega) (by omega) (by simp; omega) ?_; intro v' w2 hown4 hg2 _; obtain ⟨a', cap', hv', _⟩ := row_read hown4; rw [hv'] at hown4 ⊢; clear hv'
                     have hne : some w.heap.size ≠ v.ownBlock := fun h => by have := (hown3.lt _ h.symm).1; omega
                     have hne2 : some (w.heap.size + 1) ≠ v.ownBlock := fun h => by have := (hown3.lt _ h.symm).1; omega
                     have hblk4 : w2.heap[w.heap.size]? = some (.cells #[.string s, v, .int .i64 0] 117 (0, 0)) := by rw [hg2.block _ (by simp; omega) hne]; exact blk_alloc hblk3 _
                     have hit4 : w2.heap[w.heap.size + 1]? = some (.stringIter s (pos + q.n)) := by rw [hg2.block _ (by simp; omega) hne2]; exact blk_alloc hit3 _
                     have hbw4 : Below w.heap.size w w2 := (hbw3.alloc (by omega) _).grown hg2 (by simp; omega) (fun k hk => by have := (hown3.lt _ hk).1; omega)
                     have c4 : w2.cell? ⟨w.heap.size, 1, none⟩ = some v := by rw [blk_cell hblk4]; rfl
                     have f4 : w2.frozen? ⟨w.heap.size, 1, none⟩ = false := blk_frozen0 hblk4 1
                     clear hown3 hblk3 hit3 hbw3 hg2 hne hne2)
        have h5 : (w2.setCell ⟨w.heap.size, 1, none⟩ (.slice a' (done.length + 1) cap')).heap[w.heap.size + 1]? = some (.stringIter s (pos + q.n)) := blk_setOther hit4 _ _ (by simp)
        go_roundw
        case rel =>
          refine ⟨pos + q.n, done ++ [q], _, h5, blk_set hblk4 1 _, ?_, hbw4.setCell (Nat.le_refl _) _, HS2, by simp; omega, hwl⟩
          have e : [Value.int .i32 q.r, Value.int .i64 pos, Value.bool (true)] = pntCells q := by unfold pntCells; rw [HX.out, ← HQ.out]
          rw [e, flatQ_snoc] at hown4
          have e2 : (done ++ [q]).length = done.length + 1 := by simp
          rw [e2]
          exact ownsRow_setLow hown4 (by show _ < _; simp) _
        case measure => rw [iterPos_of h5, hpos0]; omega
    · have hnx : ∀ ty, (Instr.next (.pointer (some ⟨w.heap.size + 1, 0, none⟩)) true ty).run Tryz.prog wr = _ := fun ty => Lib.run_next_end_at wr (w.heap.size + 1) s pos ty hit hp
      have hE : Hid (pts s = done) := by show _ = _; rw [HS.out, ptsAt_end s pos hp, List.append_nil]
      clear HS
      go_wp2_with fail
      go_ret
      refine ⟨rfl, ?_, hbw⟩
      obtain ⟨a, cap, rfl, hr⟩ := row_read hown
      rw [hE.out]
      refine ⟨Nat.le_refl _, blk_lt hblk, a, cap, hblk, fun h0 => ?_⟩
      obtain ⟨g, e1, e2, e3, e4⟩ := hr h0
      exact ⟨g, e1, by omega, e3, e4⟩

end Go.Proofs.YtfbgdjcnlnfoaaaGreatDoor

namespace Go.Proofs.YtfbgdjcnlnfoaaaGreatDoor
namespace Cle

theorem byteAt_head (s : ByteArray) (pos : Nat) (h : pos ≤ s.size) : byteAt s (ptsAt s pos) 0 = pos := by
  by_cases hp : pos < s.size
  · rw [ptsAt_step s pos hp]; rfl
  · rw [ptsAt_end s pos hp]; show s.size = pos; omega
theorem byteAt_ge (s : ByteArray) : ∀ k pos, pos ≤ s.size → pos ≤ byteAt s (ptsAt s pos) k ∧ byteAt s (ptsAt s pos) k ≤ s.size := by
  intro k
  induction k with
  | zero => intro pos h; rw [byteAt_head s pos h]; omega
  | succ k ih =>
    intro pos h
    by_cases hp : pos < s.size
    · have hw := width_le s pos hp
      have := ih (pos + (Utf8.decode s pos).2) hw
      rw [ptsAt_step s pos hp]
      show pos ≤ byteAt s (ptsAt s (pos + (Utf8.decode s pos).2)) k ∧ byteAt s (ptsAt s (pos + (Utf8.decode s pos).2)) k ≤ s.size
      omega
    · rw [ptsAt_end s pos hp]; show pos ≤ s.size ∧ s.size ≤ s.size; omega
theorem byteAt_mono' (s : ByteArray) : ∀ k j pos, pos ≤ s.size → k ≤ j → byteAt s (ptsAt s pos) k ≤ byteAt s (ptsAt s pos) j := by
  intro k
  induction k with
  | zero => intro j pos h _; rw [byteAt_head s pos h]; exact (byteAt_ge s j pos h).1
  | succ k ih =>
    intro j pos h hj
    obtain ⟨j, rfl⟩ : ∃ m, j = m + 1 := ⟨j - 1, by omega⟩
    by_cases hp : pos < s.size
    · have hw := width_le s pos hp
      rw [ptsAt_step s pos hp]
      exact ih j (pos + (Utf8.decode s pos).2) hw (by omega)
    · rw [ptsAt_end s pos hp]; exact Nat.le_refl _
theorem byteAt_mono (s : ByteArray) (k j : Nat) (h : k ≤ j) : byteAt s (pts s) k ≤ byteAt s (pts s) j := byteAt_mono' s k j 0 (by omega) h
theorem byteAt_le (s : ByteArray) (k : Nat) : byteAt s (pts s) k ≤ s.size := (byteAt_ge s k 0 (by omega)).2

def PtsOK (s : ByteArray) (P : List Pt) : Prop := P.length ≤ s.size ∧ (∀ k j, k ≤ j → byteAt s P k ≤ byteAt s P j) ∧ (∀ k, byteAt s P k ≤ s.size)
theorem ptsAt_count (s : ByteArray) : ∀ n pos, s.size - pos ≤ n → (ptsAt s pos).length ≤ s.size - pos := by
  intro n
  induction n with
  | zero => intro pos h; rw [ptsAt_end s pos (by omega)]; simp
  | succ n ih =>
    intro pos h
    by_cases hp : pos < s.size
    · have := width_pos s pos hp
      have := ih (pos + (Utf8.decode s pos).2) (by omega)
      rw [ptsAt_step s pos hp]; simp; omega
    · rw [ptsAt_end s pos hp]; simp
theorem ptsOK_pts (s : ByteArray) : PtsOK s (pts s) := ⟨by have := ptsAt_count s s.size 0 (by omega); rw [pts_eq]; omega, byteAt_mono s, byteAt_le s⟩

end Cle
end Go.Proofs.YtfbgdjcnlnfoaaaGreatDoor

namespace Go.Proofs.YtfbgdjcnlnfoaaaGreatDoor
open Go.RowKit
open Cle

def tkV (t : Tk) : Value := .agg #[.int .i64 t.kind, .string t.s, .int .i64 t.n, .int .i64 t.at_]
def TokPost (L : Nat) (w : World) (b : Nat) (s : ByteArray) (P : List Pt) (x : Tk × Bool × Nat) (e : Ending) (w' : World) : Prop :=
  e = .returned (.tuple #[tkV x.1, .bool x.2.1]) ∧ SQ L w' b s P x.2.2 ∧ w.grownBy w' (some b)

theorem let_b {L : Nat} (w : World) (b : Nat) (s : ByteArray) (P : List Pt) (i : Nat) (h : SQ L w b s P i) (v : Bool) (hv : letB P i = v) :
    Calls Tryz.prog 120 #[.pointer (some ⟨b, 0, none⟩)] w fun e w' => e = .returned (.bool v) ∧ ∃ m, w' = w.drewN m := by
  rw [← hv]; exact let_any w b s P i h
theorem dig_b {L : Nat} (w : World) (b : Nat) (s : ByteArray) (P : List Pt) (i : Nat) (h : SQ L w b s P i) (v : Bool) (hv : digB P i = v) :
    Calls Tryz.prog 122 #[.pointer (some ⟨b, 0, none⟩)] w fun e w' => e = .returned (.bool v) ∧ ∃ m, w' = w.drewN m := by
  rw [← hv]; exact dig_any w b s P i h

theorem put4 {w : World} {g : Nat} {x0 x1 x2 x3 : Value} {T : TypeId} (h : w.heap[g]? = some (.cells #[x0, x1, x2, x3] T (0, 0))) (v0 v1 v2 v3 : Value) :
    ((((w.setCell ⟨g, 0, none⟩ v0).setCell ⟨g, 1, none⟩ v1).setCell ⟨g, 2, none⟩ v2).setCell ⟨g, 3, none⟩ v3).heap[g]? = some (.cells #[v0, v1, v2, v3] T (0, 0)) := by
  have := blk_set (blk_set (blk_set (blk_set h 0 v0) 1 v1) 2 v2) 3 v3
  rw [this]
  simp
theorem put4_gb (w : World) (g : Nat) (v0 v1 v2 v3 : Value) : w.grownBy ((((w.setCell ⟨g, 0, none⟩ v0).setCell ⟨g, 1, none⟩ v1).setCell ⟨g, 2, none⟩ v2).setCell ⟨g, 3, none⟩ v3) (some g) :=
  gb_trans (gb_trans (gb_trans (gb_set _ _ _ _) (gb_set _ _ _ _)) (gb_set _ _ _ _)) (gb_set _ _ _ _)
theorem gb_new {w w1 w2 : World} {b : Nat} {o : Obj} (h : (w.alloc o).grownBy w1 (some b)) (k : w1.grownBy w2 (some w.heap.size)) : w.grownBy w2 (some b) :=
  ⟨k.os.trans h.os, k.tape.trans h.tape, k.output.trans h.output, by have h1 := h.size; have h2 := k.size; simp at h1; omega, fun i hi hr => by
    have h1 := h.size
    simp at h1
    rw [k.block i (by omega) (fun e => by cases e; omega), h.block i (by simp; omega) hr]
    exact Below.heap_alloc _ _ _ hi⟩

set_option maxRecDepth 100000 in
set_option maxHeartbeats 2000000 in
theorem word_any {L : Nat} (w : World) (b : Nat) (s : ByteArray) (P : List Pt) (i : Nat) (h : SQ L w b s P i) (hs : s.size ≤ 100000) (hOK : PtsOK s P) (hi : i < P.length) :
    Calls Tryz.prog 121 #[.pointer (some ⟨b, 0, none⟩)] w (TokPost L w b s P (wordO s P i)) := by
  obtain ⟨hPl, hmono, hble⟩ := hOK
  have H := Lib.hid h
  have Hmono := Lib.hid hmono
  have Hble := Lib.hid hble
  have hblt := h.lt
  obtain ⟨_, _, _, _, c2, f2, _⟩ := h.cells
  have HW : Hid (SQ L (w.alloc (.cells #[.int .i64 0, .string ⟨#[]⟩, .int .i64 0, .int .i64 0] 119)) b s P i) := h.below ((Below.refl _ _).alloc (Nat.le_refl _) _)
  clear h hmono hble
  go_enter Tryz.func121, Tryz.ntmps121
  go_wp2_with fail
  go_loopw [] (fun wr => ∃ k, SQ L wr b s P k ∧ (w.alloc (.cells #[.int .i64 0, .string ⟨#[]⟩, .int .i64 0, .int .i64 0] 119)).grownBy wr (some b) ∧ Hid (wordEnd P i = runTo (fun k => letB P k || digB P k) P.length k) ∧ i ≤ k ∧ k ≤ P.length) (fun wr => P.length - scanI wr b)
  case atStart => exact ⟨i, HW.out, gb_refl _ _, rfl, Nat.le_refl _, by omega⟩
  case round =>
    obtain ⟨k, hS, hg, HE, hik, hk⟩ := hrel
    have hk0 := scanI_eq hS
    have HK := Lib.hid hk0
    clear hk0 c2 f2
    cases hL : letB P k
    case true =>
      have HL := Lib.hid hL
      have hlt := letB_lt hL
      go_wp2_with fail
      refine (let_b _ b s P k hS _ hL).mono ?_; rintro e w1 ⟨rfl, m, hm⟩
      replace hS := hS.heap (w' := w1) (by rw [hm]; rfl)
      replace hg := gb_trans hg (show _ from hm ▸ gb_drewN _ m (some b))
      clear hm hL
      obtain ⟨_, _, _, _, c2, f2, _⟩ := hS.cells
      go_wp2_with fail
      go_roundw
      case rel =>
        refine ⟨k + 1, by have := hS.set (k + 1); push_cast at this; exact this, gb_trans hg (gb_set _ _ _ _), ?_, by omega, by omega⟩
        show _ = _
        rw [HE.out]; exact runTo_go hlt (by simp only [HL.out]; rfl)
      case measure =>
        have h1 := scanI_eq (hS.set (k + 1)); push_cast at h1
        rw [h1, HK.out]; omega
    case false =>
      cases hD : digB P k
      case true =>
        have HL := Lib.hid hL
        have HD := Lib.hid hD
        have hlt := digB_lt hD
        go_wp2_with fail
        refine (let_b _ b s P k hS _ hL).mono ?_; rintro e w1 ⟨rfl, m, hm⟩
        replace hS := hS.heap (w' := w1) (by rw [hm]; rfl)
        replace hg := gb_trans hg (show _ from hm ▸ gb_drewN _ m (some b))
        clear hm hL
        go_wp2_with fail
        refine (dig_b _ b s P k hS _ hD).mono ?_; rintro e w1 ⟨rfl, m, hm⟩
        replace hS := hS.heap (w' := w1) (by rw [hm]; rfl)
        replace hg := gb_trans hg (show _ from hm ▸ gb_drewN _ m (some b))
        clear hm hD
        obtain ⟨_, _, _, _, c2, f2, _⟩ := hS.cells
        go_wp2_with fail
        go_roundw
        case rel =>
          refine ⟨k + 1, by have := hS.set (k + 1); push_cast at this; exact this, gb_trans hg (gb_set _ _ _ _), ?_, by omega, by omega⟩
          show _ = _
          rw [HE.out]; exact runTo_go hlt (by simp only [HL.out, HD.out]; rfl)
        case measure =>
          have h1 := scanI_eq (hS.set (k + 1)); push_cast at h1
          rw [h1, HK.out]; omega
      case false =>
        have HL := Lib.hid hL
        have HD := Lib.hid hD
        have HF : Hid (wordEnd P i = k) := by show _ = _; rw [HE.out]; exact runTo_stop (by simp only [HL.out, HD.out]; rfl)
        go_wp2_with fail
        refine (let_b _ b s P k hS _ hL).mono ?_; rintro e w1 ⟨rfl, m, hm⟩
        replace hS := hS.heap (w' := w1) (by rw [hm]; rfl)
        replace hg := gb_trans hg (show _ from hm ▸ gb_drewN _ m (some b))
        clear hm hL
        go_wp2_with fail
        refine (dig_b _ b s P k hS _ hD).mono ?_; rintro e w1 ⟨rfl, m, hm⟩
        replace hS := hS.heap (w' := w1) (by rw [hm]; rfl)
        replace hg := gb_trans hg (show _ from hm ▸ gb_drewN _ m (some b))
        clear hm hD
        obtain ⟨_, _, c0, _, c2, f2, _⟩ := hS.cells
        have hbA := Lib.hid (fun n => byteAt_any (w1.drewN n) b s P k i (hS.heap rfl))
        have hbB := Lib.hid (fun n => byteAt_any (w1.drewN n) b s P k k (hS.heap rfl))
        have hx1 : ((byteAt s P i : Nat) : Int) ≤ ((byteAt s P k : Nat) : Int) := by have := Hmono.out i k hik; omega
        have hx2 : ((byteAt s P k : Nat) : Int) ≤ (s.size : Int) := by have := Hble.out k; omega
        have hx0 : (0 : Int) ≤ ((byteAt s P i : Nat) : Int) := by omega
        have HT : Hid (wordT s P i = s.extract (byteAt s P i) (byteAt s P k)) := by show _ = _; unfold wordT; rw [HF.out]
        generalize byteAt s P i = A at *
        generalize byteAt s P k = B at *
        go_wp2_with fail
        go_quiet ((go_at_call 160; first | (with_reducible exact Calls.quiet_of_same (hbA.out _)) | (with_reducible exact Calls.quiet_of_same (hbB.out _))))
        have hblkT : w1.heap[w.heap.size]? = some (.cells #[.int .i64 0, .string ⟨#[]⟩, .int .i64 0, .int .i64 0] 119 (0, 0)) := by
          rw [hg.block w.heap.size (by simp) (by intro e; cases e; omega)]; exact blk_new w _
        have hfold := Lib.hid (fun W hsz => fold_any (s.extract A B) W hsz)
        go_wp2_with fail
        refine (hfold.out _ (by rw [ByteArray.size_extract]; omega)).mono ?_; rintro e w3 ⟨rfl, hb3⟩
        have hb4 : Below w1.heap.size w1 w3 := (Cle.below_drewN (Below.refl _ _) nq).trans hb3
        have hblk3 := blk_below hblkT hb4 (blk_lt hblkT)
        have hS3 := hS.below hb4
        have hg3 := gb_trans hg (gb_below hb4 (some b))
        have t0 : w3.cell? ⟨w.heap.size, 0, none⟩ = some (.int .i64 0) := by rw [blk_cell hblk3]; rfl
        have t1 : w3.cell? ⟨w.heap.size, 1, none⟩ = some (.string ⟨#[]⟩) := by rw [blk_cell hblk3]; rfl
        have t2 : w3.cell? ⟨w.heap.size, 2, none⟩ = some (.int .i64 0) := by rw [blk_cell hblk3]; rfl
        have t3 : w3.cell? ⟨w.heap.size, 3, none⟩ = some (.int .i64 0) := by rw [blk_cell hblk3]; rfl
        have u0 := blk_frozen0 hblk3 0
        have u1 := blk_frozen0 hblk3 1
        have u2 := blk_frozen0 hblk3 2
        have u3 := blk_frozen0 hblk3 3
        clear hb3 hblkT hS hg c0 c2 f2
        go_wp2_with fail
        have hp4 := put4 hblk3 (.int .i64 1) (.string (fold (s.extract A B))) (.int .i64 0) (.int .i64 i)
        have hS4 := (((hS3.setOther (g := w.heap.size) H.out.le 0 (.int .i64 1)).setOther (g := w.heap.size) H.out.le 1 (.string (fold (s.extract A B)))).setOther (g := w.heap.size) H.out.le 2 (.int .i64 0)).setOther (g := w.heap.size) H.out.le 3 (.int .i64 i)
        have hg4 := gb_new (gb_trans hg3 (gb_refl _ _)) (put4_gb w3 w.heap.size (.int .i64 1) (.string (fold (s.extract A B))) (.int .i64 0) (.int .i64 i))
        generalize (((w3.setCell ⟨w.heap.size, 0, none⟩ (.int .i64 1)).setCell ⟨w.heap.size, 1, none⟩ (.string (fold (s.extract A B)))).setCell ⟨w.heap.size, 2, none⟩ (.int .i64 0)).setCell ⟨w.heap.size, 3, none⟩ (.int .i64 i) = W4 at *
        have r0 : W4.cell? ⟨w.heap.size, 0, none⟩ = some (.int .i64 1) := by rw [blk_cell hp4]; rfl
        have r1 : W4.cell? ⟨w.heap.size, 1, none⟩ = some (.string (fold (s.extract A B))) := by rw [blk_cell hp4]; rfl
        have r2 : W4.cell? ⟨w.heap.size, 2, none⟩ = some (.int .i64 0) := by rw [blk_cell hp4]; rfl
        have r3 : W4.cell? ⟨w.heap.size, 3, none⟩ = some (.int .i64 i) := by rw [blk_cell hp4]; rfl
        refine bodyPost_ret (v := .tuple #[.agg #[.int .i64 1, .string (fold (s.extract A B)), .int .i64 0, .int .i64 i], .bool (decide ((s.extract A B).size ≤ 100))]) (by simp [results, Tryz.results121, go_sem, r0, r1, r2, r3]; omega) rfl ?_
        refine ⟨?_, ?_, hg4⟩
        · unfold wordO tkV; rw [HT.out]
        · show SQ L W4 b s P (wordEnd P i)
          rw [HF.out]; exact hS4

end Go.Proofs.YtfbgdjcnlnfoaaaGreatDoor

namespace Go.Proofs.YtfbgdjcnlnfoaaaGreatDoor
open Go.RowKit
open Cle

def NumW (L : Nat) (w0 wr : World) (b : Nat) (s : ByteArray) (P : List Pt) (i k : Nat) (v : Int) : Prop :=
  SQ L wr b s P k ∧ ((w0.alloc (.cells #[.int .i64 0, .string ⟨#[]⟩, .int .i64 0, .int .i64 0] 119)).alloc (.cells #[.int .i64 2, .string ⟨#[]⟩, .int .i64 0, .int .i64 i] 119)).heap.size ≤ wr.heap.size ∧
  wr.heap[w0.heap.size]? = some (.cells #[.int .i64 0, .string ⟨#[]⟩, .int .i64 0, .int .i64 0] 119 (0, 0)) ∧
  wr.heap[w0.heap.size + 1]? = some (.cells #[.int .i64 2, .string ⟨#[]⟩, .int .i64 v, .int .i64 i] 119 (0, 0)) ∧
  w0.grownBy wr (some b)

theorem NumW.drewN {L : Nat} {w0 wr w1 : World} {b : Nat} {s : ByteArray} {P : List Pt} {i k m : Nat} {v : Int} (h : NumW L w0 wr b s P i k v) (hm : w1 = wr.drewN m) : NumW L w0 w1 b s P i k v := by
  subst hm
  obtain ⟨h1, h2, h3, h4, h5⟩ := h
  exact ⟨h1.heap rfl, h2, h3, h4, gb_trans h5 (gb_drewN _ _ _)⟩
theorem NumW.setI {L : Nat} {w0 wr : World} {b : Nat} {s : ByteArray} {P : List Pt} {i k : Nat} {v : Int} (h : NumW L w0 wr b s P i k v) (hL : L ≤ w0.heap.size) (j : Nat) : NumW L w0 (wr.setCell ⟨b, 2, none⟩ (.int .i64 j)) b s P i j v := by
  obtain ⟨h1, h2, h3, h4, h5⟩ := h
  have hb := h1.2.1
  exact ⟨h1.set j, by simpa [World.setCell] using h2, blk_setOther h3 _ _ (by show _ ≠ b; omega), blk_setOther h4 _ _ (by show _ ≠ b; omega), gb_trans h5 (gb_set _ _ _ _)⟩
theorem NumW.setV {L : Nat} {w0 wr : World} {b : Nat} {s : ByteArray} {P : List Pt} {i k : Nat} {v : Int} (h : NumW L w0 wr b s P i k v) (hL : L ≤ w0.heap.size) (u : Int) : NumW L w0 (wr.setCell ⟨w0.heap.size + 1, 2, none⟩ (.int .i64 u)) b s P i k u := by
  obtain ⟨h1, h2, h3, h4, h5⟩ := h
  refine ⟨h1.setOther (by omega) _ _, by simpa [World.setCell] using h2, blk_setOther h3 _ _ (by simp), ?_, ?_⟩
  · have := blk_set h4 2 (.int .i64 u)
    rw [this]; simp
  · have h6 := gb_set wr (w0.heap.size + 1) 2 (.int .i64 u)
    exact ⟨h6.os.trans h5.os, h6.tape.trans h5.tape, h6.output.trans h5.output, Nat.le_trans h5.size h6.size, fun q hq hr => by
      have := h5.size
      rw [h6.block q (by omega) (fun e => by cases e; omega)]; exact h5.block q hq hr⟩

theorem digB_r {P : List Pt} {k : Nat} (h : digB P k = true) : ∃ hk : k < P.length, 48 ≤ P[k].r ∧ P[k].r ≤ 57 ∧ rAt P k = P[k].r := by
  have hk := digB_lt h
  refine ⟨hk, ?_⟩
  unfold digB at h
  rw [List.getElem?_eq_getElem hk] at h
  simp only [digitB, Bool.and_eq_true, decide_eq_true_eq] at h
  refine ⟨by omega, by omega, ?_⟩
  unfold rAt
  rw [List.getElem?_eq_getElem hk]

theorem NumW.fin {L : Nat} {w0 wr : World} {b : Nat} {s : ByteArray} {P : List Pt} {i k : Nat} {v : Int} (h : NumW L w0 wr b s P i k v) (hL : L ≤ w0.heap.size) (n : Nat) (W : World)
    (hW : W = ((((((wr.drewN n).setCell ⟨w0.heap.size, 0, none⟩ (.int .i64 2)).setCell ⟨w0.heap.size, 1, none⟩ (.string ⟨#[]⟩)).setCell ⟨w0.heap.size, 2, none⟩ (.int .i64 v)).setCell ⟨w0.heap.size, 3, none⟩ (.int .i64 i)))) :
    W.cell? ⟨w0.heap.size, 0, none⟩ = some (.int .i64 2) ∧ W.cell? ⟨w0.heap.size, 1, none⟩ = some (.string ⟨#[]⟩) ∧ W.cell? ⟨w0.heap.size, 2, none⟩ = some (.int .i64 v) ∧ W.cell? ⟨w0.heap.size, 3, none⟩ = some (.int .i64 i) ∧
    SQ L W b s P k ∧ w0.grownBy W (some b) := by
  subst hW
  obtain ⟨h1, h2, h3, h4, h5⟩ := h.drewN (m := n) rfl
  have hp := put4 h3 (.int .i64 2) (.string ⟨#[]⟩) (.int .i64 v) (.int .i64 i)
  refine ⟨by rw [blk_cell hp]; rfl, by rw [blk_cell hp]; rfl, by rw [blk_cell hp]; rfl, by rw [blk_cell hp]; rfl, (((h1.setOther hL _ _).setOther hL _ _).setOther hL _ _).setOther hL _ _, ?_⟩
  have h6 := put4_gb (wr.drewN n) w0.heap.size (.int .i64 2) (.string ⟨#[]⟩) (.int .i64 v) (.int .i64 i)
  exact ⟨h6.os.trans h5.os, h6.tape.trans h5.tape, h6.output.trans h5.output, Nat.le_trans h5.size h6.size, fun q hq hr => by
    have := h5.size
    rw [h6.block q (by omega) (fun e => by cases e; omega)]; exact h5.block q hq hr⟩

set_option maxRecDepth 100000 in
set_option maxHeartbeats 2000000 in
theorem number_any {L : Nat} (w : World) (b : Nat) (s : ByteArray) (P : List Pt) (i : Nat) (h : SQ L w b s P i) (hs : s.size ≤ 100000) (hOK : PtsOK s P) (hi : i < P.length) :
    Calls Tryz.prog 123 #[.pointer (some ⟨b, 0, none⟩)] w (TokPost L w b s P (numberO P i)) := by
  obtain ⟨hPl, _, _⟩ := hOK
  have HL := h.le
  have HS := Lib.hid h
  obtain ⟨_, _, _, _, c2, f2, _⟩ := h.cells
  have hblt := h.lt
  have HN0 : Hid (NumW L w ((w.alloc (.cells #[.int .i64 0, .string ⟨#[]⟩, .int .i64 0, .int .i64 0] 119)).alloc (.cells #[.int .i64 2, .string ⟨#[]⟩, .int .i64 0, .int .i64 i] 119)) b s P i i 0) := by
    have hb2 : Below w.heap.size w ((w.alloc (.cells #[.int .i64 0, .string ⟨#[]⟩, .int .i64 0, .int .i64 0] 119)).alloc (.cells #[.int .i64 2, .string ⟨#[]⟩, .int .i64 0, .int .i64 i] 119)) := ((Below.refl _ _).alloc (Nat.le_refl _) _).alloc (by simp) _
    refine ⟨h.below hb2, Nat.le_refl _, blk_alloc (blk_new w _) _, ?_, gb_below hb2 _⟩
    have := blk_new (w.alloc (.cells #[.int .i64 0, .string ⟨#[]⟩, .int .i64 0, .int .i64 0] 119)) (.cells #[.int .i64 2, .string ⟨#[]⟩, .int .i64 0, .int .i64 i] 119)
    simpa using this
  clear h
  go_enter Tryz.func123, Tryz.ntmps123
  go_wp2_with fail
  obtain ⟨wa, hwa⟩ : ∃ wa, wa = ((w.alloc (.cells #[.int .i64 0, .string ⟨#[]⟩, .int .i64 0, .int .i64 0] 119)).alloc (.cells #[.int .i64 2, .string ⟨#[]⟩, .int .i64 0, .int .i64 i] 119)) := ⟨_, rfl⟩
  rw [← hwa] at HN0 ⊢
  have hN := HN0.out
  clear hwa HN0 c2 f2
  cases h45 : isB P i 45
  · have HNS : Hid (numStart P i = i) := by show _ = _; unfold numStart; rw [h45]; rfl
    refine (is_b _ b s P i 0 45 hN.1 (by omega) (by omega) _ h45).mono ?_; rintro e w1 ⟨rfl, m, hm⟩
    replace hN := hN.drewN hm
    clear hm
    have H45 := Lib.hid h45
    clear h45 HS
    go_wp2_with fail
    refine (dig_any _ b s P i hN.1).mono ?_; rintro e w2 ⟨rfl, m, hm⟩
    replace hN := hN.drewN hm
    clear hm
    obtain ⟨d0, hd0⟩ : ∃ d0, digB P i = d0 := ⟨_, rfl⟩
    have HR : Hid (numR P i = num P i 0 d0) := by show _ = _; unfold numR; rw [HNS.out, hd0]
    rw [hd0]
    clear hd0
    go_wp2_with fail
    go_loopw [6] (fun okv wr => ∃ (k : Nat) (v : Int) (ok : Bool), okv = .bool ok ∧ NumW L w wr b s P i k v ∧ Hid (num P i 0 d0 = num P k v ok) ∧ 0 ≤ v ∧ v ≤ 1099511627776 ∧ k ≤ P.length) (fun _ wr => P.length - scanI wr b)
    case atStart => exact ⟨i, 0, d0, rfl, hN, rfl, by omega, by omega, by omega⟩
    case round =>
      obtain ⟨k, v, ok, rfl, hN, HE, hv0, hv1, hk⟩ := hrel
      have HK := Lib.hid (scanI_eq hN.1)
      cases hD : digB P k
      · have HF : Hid (numR P i = (v, ok, k)) := by show _ = _; rw [HR.out, HE.out, num_stop hD]
        go_wp2_with fail
        refine (dig_b _ b s P k hN.1 _ hD).mono ?_; rintro e w3 ⟨rfl, m, hm⟩
        replace hN := hN.drewN hm
        clear hm hD
        go_wp2_with fail
        obtain ⟨t0, t1, t2, t3⟩ : w3.cell? ⟨w.heap.size + 1, 0, none⟩ = some (.int .i64 2) ∧ w3.cell? ⟨w.heap.size + 1, 1, none⟩ = some (.string ⟨#[]⟩) ∧ w3.cell? ⟨w.heap.size + 1, 2, none⟩ = some (.int .i64 v) ∧ w3.cell? ⟨w.heap.size + 1, 3, none⟩ = some (.int .i64 i) := ⟨by rw [blk_cell hN.2.2.2.1]; rfl, by rw [blk_cell hN.2.2.2.1]; rfl, by rw [blk_cell hN.2.2.2.1]; rfl, by rw [blk_cell hN.2.2.2.1]; rfl⟩
        have hLet := Lib.hid (fun n => let_any (w3.drewN n) b s P k (hN.1.heap rfl))
        obtain ⟨y0, y1, y2, y3⟩ : w3.cell? ⟨w.heap.size, 0, none⟩ = some (.int .i64 0) ∧ w3.cell? ⟨w.heap.size, 1, none⟩ = some (.string ⟨#[]⟩) ∧ w3.cell? ⟨w.heap.size, 2, none⟩ = some (.int .i64 0) ∧ w3.cell? ⟨w.heap.size, 3, none⟩ = some (.int .i64 0) := ⟨by rw [blk_cell hN.2.2.1]; rfl, by rw [blk_cell hN.2.2.1]; rfl, by rw [blk_cell hN.2.2.1]; rfl, by rw [blk_cell hN.2.2.1]; rfl⟩
        have u0 := blk_frozen0 hN.2.2.1 0
        have u1 := blk_frozen0 hN.2.2.1 1
        have u2 := blk_frozen0 hN.2.2.1 2
        have u3 := blk_frozen0 hN.2.2.1 3
        have hfin := Lib.hid (hN.fin HL)
        clear hN
        cases ok
        · clear hLet
          go_region
          obtain ⟨r0, r1, r2, r3, hS4, hg4⟩ := hfin.out 1 (((((w3.setCell ⟨w.heap.size, 0, none⟩ (.int .i64 2)).setCell ⟨w.heap.size, 1, none⟩ (.string ⟨#[]⟩)).setCell ⟨w.heap.size, 2, none⟩ (.int .i64 v)).setCell ⟨w.heap.size, 3, none⟩ (.int .i64 i))).drew rfl
          go_wp2_with fail
          refine bodyPost_ret (v := .tuple #[.agg #[.int .i64 2, .string ⟨#[]⟩, .int .i64 v, .int .i64 i], .bool false]) (by simp [results, Tryz.results123, go_sem, r0, r1, r2, r3]) rfl ?_
          refine ⟨?_, ?_, hg4⟩
          · unfold numberO tkV; rw [H45.out, HF.out]; rfl
          · show SQ L _ b s P _
            unfold numberO; rw [HF.out]; exact hS4
        · go_region_with ((go_at_call 120; refine (hLet.out 1).mono ?_; rintro e w4 ⟨rfl, m, hm⟩))
          all_goals
            obtain ⟨r0, r1, r2, r3, hS4, hg4⟩ := hfin.out (1 + m) (((((w3.drewN (1 + m)).setCell ⟨w.heap.size, 0, none⟩ (.int .i64 2)).setCell ⟨w.heap.size, 1, none⟩ (.string ⟨#[]⟩)).setCell ⟨w.heap.size, 2, none⟩ (.int .i64 v)).setCell ⟨w.heap.size, 3, none⟩ (.int .i64 i)) rfl
            clear hm hLet t0 t1 t2 t3 y0 y1 y2 y3 u0 u1 u2 u3
            go_wp2_with fail
            refine bodyPost_ret (v := .tuple #[.agg #[.int .i64 2, .string ⟨#[]⟩, .int .i64 v, .int .i64 i], .bool (!letB P k)]) (by simp [results, Tryz.results123, go_sem, r0, r1, r2, r3]) rfl ?_
            refine ⟨?_, ?_, hg4⟩
            · unfold numberO tkV; rw [H45.out, HF.out]; rfl
            · show SQ L _ b s P _
              unfold numberO; rw [HF.out]; exact hS4
      · obtain ⟨hkl, hr0, hr1, hrA⟩ := digB_r hD
        have HG := Lib.hid (num_go (v := v) (ok := ok) hD)
        go_wp2_with fail
        refine (dig_b _ b s P k hN.1 _ hD).mono ?_; rintro e w3 ⟨rfl, m, hm⟩
        replace hN := hN.drewN hm
        clear hm hD
        obtain ⟨a, cap, _, c1, c2, f2, hc⟩ := hN.1.cells
        obtain ⟨g, rfl, hcc⟩ := hc (by omega)
        have c4 : w3.cell? ⟨g, k * 3, none⟩ = some (.int .i32 P[k].r) := hcc _ _ (by have := flatQ_at P k 0 hkl (by omega); rw [Nat.add_zero] at this; rw [this]; rfl)
        have c5 : w3.cell? ⟨w.heap.size + 1, 2, none⟩ = some (.int .i64 v) := by rw [blk_cell hN.2.2.2.1]; rfl
        have f5 : w3.frozen? ⟨w.heap.size + 1, 2, none⟩ = false := blk_frozen0 hN.2.2.2.1 2
        rw [hrA] at HG
        clear hc hcc hrA
        generalize P[k].r = r at *
        have q1 : IntKind.i64.wrap (v * 10) = v * 10 := IntWalk.i64_in _ (by omega)
        have q2 : IntKind.i32.wrap ((r : Int) - 48) = (r : Int) - 48 := wraps_i32 _ (by omega) (by omega)
        have q3 : IntKind.i64.wrap ((r : Int) - 48) = (r : Int) - 48 := IntWalk.i64_in _ (by omega)
        have q4 : IntKind.i64.wrap (v * 10 + ((r : Int) - 48)) = v * 10 + ((r : Int) - 48) := IntWalk.i64_in _ (by omega)
        have q5 : (k : Int) < (P.length : Int) := by omega
        have q6 : (0 : Int) ≤ (k : Int) := by omega
        go_wp2_with fail
        go_still_tail 18, (by kernel_rfl)
        cases ok
        all_goals
          go_wp2_with fail
          go_roundw
          case rel =>
            refine ⟨k + 1, min (v * 10 + ((r : Int) - 48)) 1099511627776, _, rfl, NumW.drewN (m := 1) ((((hN.setV HL _).setV HL _).setI HL (k + 1))) (by push_cast; rfl), ?_, by omega, by omega, by omega⟩
            show _ = _
            rw [HE.out, HG.out]; rfl
          case measure =>
            have h1 := scanI_eq (((hN.setV HL (v * 10 + ((r : Int) - 48))).setV HL (min (v * 10 + ((r : Int) - 48)) 1099511627776)).setI HL (k + 1)).1
            push_cast at h1
            have h2 := HK.out
            rw [h2]
            refine Nat.lt_of_le_of_lt (Nat.le_of_eq (congrArg (P.length - ·) h1)) ?_
            show P.length - (k + 1) < P.length - k
            omega
  · have HNS : Hid (numStart P i = (i + 1)) := by show _ = _; unfold numStart; rw [h45]; rfl
    refine (is_b _ b s P i 0 45 hN.1 (by omega) (by omega) _ h45).mono ?_; rintro e w1 ⟨rfl, m, hm⟩
    replace hN := hN.drewN hm
    clear hm
    have H45 := Lib.hid h45
    obtain ⟨_, _, _, _, c2, f2, _⟩ := hN.1.cells
    have HB := Lib.hid hN
    clear h45 HS hN
    go_wp2_with fail
    have hN := HB.out.setI HL (i + 1)
    rw [show (((i + 1 : Nat) : Int)) = (i : Int) + 1 by push_cast; rfl] at hN
    clear HB c2 f2
    refine (dig_any _ b s P (i + 1) hN.1).mono ?_; rintro e w2 ⟨rfl, m, hm⟩
    replace hN := hN.drewN hm
    clear hm
    obtain ⟨d0, hd0⟩ : ∃ d0, digB P (i + 1) = d0 := ⟨_, rfl⟩
    have HR : Hid (numR P i = num P (i + 1) 0 d0) := by show _ = _; unfold numR; rw [HNS.out, hd0]
    rw [hd0]
    clear hd0
    go_wp2_with fail
    go_loopw [6] (fun okv wr => ∃ (k : Nat) (v : Int) (ok : Bool), okv = .bool ok ∧ NumW L w wr b s P i k v ∧ Hid (num P (i + 1) 0 d0 = num P k v ok) ∧ 0 ≤ v ∧ v ≤ 1099511627776 ∧ k ≤ P.length) (fun _ wr => P.length - scanI wr b)
    case atStart => exact ⟨(i + 1), 0, d0, rfl, hN, rfl, by omega, by omega, by omega⟩
    case round =>
      obtain ⟨k, v, ok, rfl, hN, HE, hv0, hv1, hk⟩ := hrel
      have HK := Lib.hid (scanI_eq hN.1)
      cases hD : digB P k
      · have HF : Hid (numR P i = (v, ok, k)) := by show _ = _; rw [HR.out, HE.out, num_stop hD]
        go_wp2_with fail
        refine (dig_b _ b s P k hN.1 _ hD).mono ?_; rintro e w3 ⟨rfl, m, hm⟩
        replace hN := hN.drewN hm
        clear hm hD
        have c5 : w3.cell? ⟨w.heap.size + 1, 2, none⟩ = some (.int .i64 v) := by rw [blk_cell hN.2.2.2.1]; rfl
        have f5 : w3.frozen? ⟨w.heap.size + 1, 2, none⟩ = false := blk_frozen0 hN.2.2.2.1 2
        have q1 : IntKind.i64.wrap (-v) = -v := IntWalk.i64_in _ (by omega)
        have HB := Lib.hid hN
        clear hN
        go_wp2_with fail
        have hN := HB.out.setV HL (-v)
        generalize w3.setCell ⟨w.heap.size + 1, 2, none⟩ (.int .i64 (-v)) = w5 at hN ⊢
        clear HB c5 f5 q1
        obtain ⟨t0, t1, t2, t3⟩ : w5.cell? ⟨w.heap.size + 1, 0, none⟩ = some (.int .i64 2) ∧ w5.cell? ⟨w.heap.size + 1, 1, none⟩ = some (.string ⟨#[]⟩) ∧ w5.cell? ⟨w.heap.size + 1, 2, none⟩ = some (.int .i64 (-v)) ∧ w5.cell? ⟨w.heap.size + 1, 3, none⟩ = some (.int .i64 i) := ⟨by rw [blk_cell hN.2.2.2.1]; rfl, by rw [blk_cell hN.2.2.2.1]; rfl, by rw [blk_cell hN.2.2.2.1]; rfl, by rw [blk_cell hN.2.2.2.1]; rfl⟩
        have hLet := Lib.hid (fun n => let_any (w5.drewN n) b s P k (hN.1.heap rfl))
        obtain ⟨y0, y1, y2, y3⟩ : w5.cell? ⟨w.heap.size, 0, none⟩ = some (.int .i64 0) ∧ w5.cell? ⟨w.heap.size, 1, none⟩ = some (.string ⟨#[]⟩) ∧ w5.cell? ⟨w.heap.size, 2, none⟩ = some (.int .i64 0) ∧ w5.cell? ⟨w.heap.size, 3, none⟩ = some (.int .i64 0) := ⟨by rw [blk_cell hN.2.2.1]; rfl, by rw [blk_cell hN.2.2.1]; rfl, by rw [blk_cell hN.2.2.1]; rfl, by rw [blk_cell hN.2.2.1]; rfl⟩
        have u0 := blk_frozen0 hN.2.2.1 0
        have u1 := blk_frozen0 hN.2.2.1 1
        have u2 := blk_frozen0 hN.2.2.1 2
        have u3 := blk_frozen0 hN.2.2.1 3
        have hfin := Lib.hid (hN.fin HL)
        clear hN
        cases ok
        · clear hLet
          go_region
          obtain ⟨r0, r1, r2, r3, hS4, hg4⟩ := hfin.out 1 (((((w5.setCell ⟨w.heap.size, 0, none⟩ (.int .i64 2)).setCell ⟨w.heap.size, 1, none⟩ (.string ⟨#[]⟩)).setCell ⟨w.heap.size, 2, none⟩ (.int .i64 (-v))).setCell ⟨w.heap.size, 3, none⟩ (.int .i64 i))).drew rfl
          go_wp2_with fail
          refine bodyPost_ret (v := .tuple #[.agg #[.int .i64 2, .string ⟨#[]⟩, .int .i64 (-v), .int .i64 i], .bool false]) (by simp [results, Tryz.results123, go_sem, r0, r1, r2, r3]) rfl ?_
          refine ⟨?_, ?_, hg4⟩
          · unfold numberO tkV; rw [H45.out, HF.out]; rfl
          · show SQ L _ b s P _
            unfold numberO; rw [HF.out]; exact hS4
        · go_region_with ((go_at_call 120; refine (hLet.out 1).mono ?_; rintro e w4 ⟨rfl, m, hm⟩))
          all_goals
            obtain ⟨r0, r1, r2, r3, hS4, hg4⟩ := hfin.out (1 + m) (((((w5.drewN (1 + m)).setCell ⟨w.heap.size, 0, none⟩ (.int .i64 2)).setCell ⟨w.heap.size, 1, none⟩ (.string ⟨#[]⟩)).setCell ⟨w.heap.size, 2, none⟩ (.int .i64 (-v))).setCell ⟨w.heap.size, 3, none⟩ (.int .i64 i)) rfl
            clear hm hLet t0 t1 t2 t3 y0 y1 y2 y3 u0 u1 u2 u3
            go_wp2_with fail
            refine bodyPost_ret (v := .tuple #[.agg #[.int .i64 2, .string ⟨#[]⟩, .int .i64 (-v), .int .i64 i], .bool (!letB P k)]) (by simp [results, Tryz.results123, go_sem, r0, r1, r2, r3]) rfl ?_
            refine ⟨?_, ?_, hg4⟩
            · unfold numberO tkV; rw [H45.out, HF.out]; rfl
            · show SQ L _ b s P _
              unfold numberO; rw [HF.out]; exact hS4
      · obtain ⟨hkl, hr0, hr1, hrA⟩ := digB_r hD
        have HG := Lib.hid (num_go (v := v) (ok := ok) hD)
        go_wp2_with fail
        refine (dig_b _ b s P k hN.1 _ hD).mono ?_; rintro e w3 ⟨rfl, m, hm⟩
        replace hN := hN.drewN hm
        clear hm hD
        obtain ⟨a, cap, _, c1, c2, f2, hc⟩ := hN.1.cells
        obtain ⟨g, rfl, hcc⟩ := hc (by omega)
        have c4 : w3.cell? ⟨g, k * 3, none⟩ = some (.int .i32 P[k].r) := hcc _ _ (by have := flatQ_at P k 0 hkl (by omega); rw [Nat.add_zero] at this; rw [this]; rfl)
        have c5 : w3.cell? ⟨w.heap.size + 1, 2, none⟩ = some (.int .i64 v) := by rw [blk_cell hN.2.2.2.1]; rfl
        have f5 : w3.frozen? ⟨w.heap.size + 1, 2, none⟩ = false := blk_frozen0 hN.2.2.2.1 2
        rw [hrA] at HG
        clear hc hcc hrA
        generalize P[k].r = r at *
        have q1 : IntKind.i64.wrap (v * 10) = v * 10 := IntWalk.i64_in _ (by omega)
        have q2 : IntKind.i32.wrap ((r : Int) - 48) = (r : Int) - 48 := wraps_i32 _ (by omega) (by omega)
        have q3 : IntKind.i64.wrap ((r : Int) - 48) = (r : Int) - 48 := IntWalk.i64_in _ (by omega)
        have q4 : IntKind.i64.wrap (v * 10 + ((r : Int) - 48)) = v * 10 + ((r : Int) - 48) := IntWalk.i64_in _ (by omega)
        have q5 : (k : Int) < (P.length : Int) := by omega
        have q6 : (0 : Int) ≤ (k : Int) := by omega
        go_wp2_with fail
        go_still_tail 18, (by kernel_rfl)
        cases ok
        all_goals
          go_wp2_with fail
          go_roundw
          case rel =>
            refine ⟨k + 1, min (v * 10 + ((r : Int) - 48)) 1099511627776, _, rfl, NumW.drewN (m := 1) ((((hN.setV HL _).setV HL _).setI HL (k + 1))) (by push_cast; rfl), ?_, by omega, by omega, by omega⟩
            show _ = _
            rw [HE.out, HG.out]; rfl
          case measure =>
            have h1 := scanI_eq (((hN.setV HL (v * 10 + ((r : Int) - 48))).setV HL (min (v * 10 + ((r : Int) - 48)) 1099511627776)).setI HL (k + 1)).1
            push_cast at h1
            have h2 := HK.out
            rw [h2]
            refine Nat.lt_of_le_of_lt (Nat.le_of_eq (congrArg (P.length - ·) h1)) ?_
            show P.length - (k + 1) < P.length - k
            omega

end Go.Proofs.YtfbgdjcnlnfoaaaGreatDoor

namespace Go.Proofs.YtfbgdjcnlnfoaaaGreatDoor
namespace Cle
def unqS (s : ByteArray) (f : Int) : ByteArray := match unquote s f with | some x => x.1 | none => ⟨#[]⟩
def unqN (s : ByteArray) (f : Int) : Int := match unquote s f with | some x => x.2 | none => 0
def unqO (s : ByteArray) (f : Int) : Bool := (unquote s f).isSome
theorem unqV_eq (s : ByteArray) (f : Int) : unqV (unquote s f) = .tuple #[.string (unqS s f), .int .i64 (unqN s f), .bool (unqO s f)] := by
  unfold unqS unqN unqO
  cases unquote s f <;> rfl
theorem textEnd_zero (P : List Pt) (i : Nat) : textEnd P 0 i = i := by
  unfold textEnd
  refine runTo_stop ?_
  cases P[i]? with
  | none => rfl
  | some p => exact decide_eq_false (by omega)
theorem textO_eq (s : ByteArray) (P : List Pt) (i : Nat) :
    textO s P i = (⟨3, unqS s (byteAt s P i), 0, i⟩, unqO s (byteAt s P i) && (decide ((unqS s (byteAt s P i)).size ≤ 100) && valid (unqS s (byteAt s P i))), textEnd P (unqN s (byteAt s P i)) i) := by
  unfold textO unqS unqN unqO
  cases unquote s (byteAt s P i) with
  | none => simp [textEnd_zero]
  | some x => simp
theorem unqL_le : ∀ (n : Nat) (l : List UInt8), l.length ≤ n → ∀ x, unq l = some x → x.1.length ≤ l.length ∧ x.2 ≤ l.length := by
  intro n
  induction n with
  | zero => intro l hl x hx; cases l with | nil => simp [unq] at hx | cons => simp at hl
  | succ n ih =>
    intro l hl x hx
    match l with
    | [] => simp [unq] at hx
    | c :: t =>
      rw [unq.eq_def] at hx
      simp only at hx
      by_cases hc : c = 39
      · rw [if_pos hc] at hx
        match t with
        | [] => simp at hx; subst hx; simp
        | d :: u =>
          simp only at hx
          by_cases hd : d = 39
          · rw [if_pos hd] at hx
            obtain ⟨y, hy, rfl⟩ := Option.map_eq_some_iff.1 hx
            have := ih u (by simp at hl; omega) y hy
            simp only [List.length_cons]; omega
          · rw [if_neg hd] at hx
            cases hx; simp
      · rw [if_neg hc] at hx
        obtain ⟨y, hy, rfl⟩ := Option.map_eq_some_iff.1 hx
        have := ih t (by simp at hl; omega) y hy
        simp only [List.length_cons]; omega
theorem unqS_size (s : ByteArray) (f : Int) : (unqS s f).size ≤ s.size := by
  unfold unqS unquote
  by_cases h : 0 ≤ f ∧ f < s.size ∧ s.data.toList[f.toNat]? = some 39
  · rw [if_pos h]
    cases hu : unq (s.data.toList.drop (f.toNat + 1)) with
    | none => exact Nat.zero_le _
    | some x =>
      have := (unqL_le _ _ (Nat.le_refl _) x hu).1
      simp only [Option.map_some, List.length_drop] at this ⊢
      show x.1.toArray.size ≤ s.data.size
      rw [Array.length_toList] at this
      rw [List.size_toArray]; omega
  · rw [if_neg h]; exact Nat.zero_le _
theorem unqN_bd (s : ByteArray) (f : Int) : 0 ≤ unqN s f ∧ unqN s f ≤ s.size := by
  unfold unqN unquote
  by_cases h : 0 ≤ f ∧ f < s.size ∧ s.data.toList[f.toNat]? = some 39
  · rw [if_pos h]
    cases hu : unq (s.data.toList.drop (f.toNat + 1)) with
    | none => simp
    | some x =>
      have h2 := (unqL_le _ _ (Nat.le_refl _) x hu).2
      obtain ⟨h0, h1, _⟩ := h
      have h3 : s.data.toList.length = s.size := rfl
      simp only [Option.map_some, List.length_drop] at h2 ⊢
      omega
  · rw [if_neg h]; simp
def sig6 : ByteArray := ⟨#[40, 41, 44, 59, 61, 42]⟩
def sigC (q : Nat) : Nat := [40, 41, 44, 59, 61, 42].getD q 0
theorem sig6_dec (q : Nat) (h : q < 6) : Utf8.decode sig6 q = (sigC q, 1) := by
  have : q = 0 ∨ q = 1 ∨ q = 2 ∨ q = 3 ∨ q = 4 ∨ q = 5 := by omega
  rcases this with rfl | rfl | rfl | rfl | rfl | rfl <;> decide +kernel
theorem sigC_lt (q : Nat) (h : q < 6) : 40 ≤ sigC q ∧ sigC q < 62 := by
  have : q = 0 ∨ q = 1 ∨ q = 2 ∨ q = 3 ∨ q = 4 ∨ q = 5 := by omega
  rcases this with rfl | rfl | rfl | rfl | rfl | rfl <;> decide
theorem sig_yes {P : List Pt} {i q : Nat} (h : q < 6) (hb : isB P i (sigC q) = true) : rAt P i = sigC q ∧ signB (rAt P i) = true := by
  unfold isB at hb
  unfold rAt
  cases hp : P[i]? with
  | none => rw [hp] at hb; cases hb
  | some p =>
    rw [hp] at hb
    have e : (p.r : Int) = sigC q := by simpa using hb
    refine ⟨e, ?_⟩
    show signB (p.r : Int) = true
    rw [e]
    have : q = 0 ∨ q = 1 ∨ q = 2 ∨ q = 3 ∨ q = 4 ∨ q = 5 := by omega
    rcases this with rfl | rfl | rfl | rfl | rfl | rfl <;> decide
theorem sig_no {P : List Pt} {i : Nat} (h : ∀ q, q < 6 → isB P i (sigC q) = false) : signB (rAt P i) = false := by
  have h0 := h 0 (by omega); have h1 := h 1 (by omega); have h2 := h 2 (by omega); have h3 := h 3 (by omega); have h4 := h 4 (by omega); have h5 := h 5 (by omega)
  unfold isB at h0 h1 h2 h3 h4 h5
  unfold rAt signB
  cases hp : P[i]? with
  | none => rfl
  | some p =>
    rw [hp] at h0 h1 h2 h3 h4 h5
    simp only [sigC, List.getD_cons_zero, List.getD_cons_succ] at h0 h1 h2 h3 h4 h5
    show (((((((p.r : Int) == 40) || (p.r : Int) == 41) || (p.r : Int) == 44) || (p.r : Int) == 59) || (p.r : Int) == 61) || (p.r : Int) == 42) = false
    rw [show ((p.r : Int) == 40) = false from h0, show ((p.r : Int) == 41) = false from h1, show ((p.r : Int) == 44) = false from h2, show ((p.r : Int) == 59) = false from h3, show ((p.r : Int) == 61) = false from h4, show ((p.r : Int) == 42) = false from h5]
    rfl
end Cle
end Go.Proofs.YtfbgdjcnlnfoaaaGreatDoor

namespace Go.Proofs.YtfbgdjcnlnfoaaaGreatDoor
open Go.RowKit
open Cle

theorem tw_step {w0 w1 w2 : World} {a : Addr} {u : Value} (h : w1.cell? a = some u ∧ Below w0.heap.size w0 w1) (hb : Below w1.heap.size w1 w2) : w2.cell? a = some u ∧ Below w0.heap.size w0 w2 :=
  ⟨(Below.cell hb (World.block_lt_of_cell? _ _ h.1)).trans h.1, h.2.trans (hb.mono h.2.size)⟩

theorem res_fin {L : Nat} {w0 wr : World} {b : Nat} {s : ByteArray} {P : List Pt} {k : Nat} {x0 x1 x2 x3 : Value} {T : TypeId} (h1 : SQ L wr b s P k) (h3 : wr.heap[w0.heap.size]? = some (.cells #[x0, x1, x2, x3] T (0, 0))) (h5 : w0.grownBy wr (some b)) (hL : L ≤ w0.heap.size) (v0 v1 v2 v3 : Value) (W : World)
    (hW : W = (((wr.setCell ⟨w0.heap.size, 0, none⟩ v0).setCell ⟨w0.heap.size, 1, none⟩ v1).setCell ⟨w0.heap.size, 2, none⟩ v2).setCell ⟨w0.heap.size, 3, none⟩ v3) :
    W.cell? ⟨w0.heap.size, 0, none⟩ = some v0 ∧ W.cell? ⟨w0.heap.size, 1, none⟩ = some v1 ∧ W.cell? ⟨w0.heap.size, 2, none⟩ = some v2 ∧ W.cell? ⟨w0.heap.size, 3, none⟩ = some v3 ∧
    SQ L W b s P k ∧ w0.grownBy W (some b) := by
  subst hW
  have hp := put4 h3 v0 v1 v2 v3
  refine ⟨by rw [blk_cell hp]; rfl, by rw [blk_cell hp]; rfl, by rw [blk_cell hp]; rfl, by rw [blk_cell hp]; rfl, (((h1.setOther hL _ _).setOther hL _ _).setOther hL _ _).setOther hL _ _, ?_⟩
  have h6 := put4_gb wr w0.heap.size v0 v1 v2 v3
  exact ⟨h6.os.trans h5.os, h6.tape.trans h5.tape, h6.output.trans h5.output, Nat.le_trans h5.size h6.size, fun q hq hr => by
    have := h5.size
    rw [h6.block q (by omega) (fun e => by cases e; omega)]; exact h5.block q hq hr⟩

theorem unq3_any (s : ByteArray) (f : Int) (w : World) (hs : s.size ≤ 1000000) :
    Calls Tryz.prog 162 #[.string s, .int .i64 f] w fun e w' => e = .returned (.tuple #[.string (unqS s f), .int .i64 (unqN s f), .bool (unqO s f)]) ∧ Below w.heap.size w w' := by
  rw [← unqV_eq]; exact unquote_any s f w hs

set_option maxRecDepth 100000 in
set_option maxHeartbeats 2000000 in
theorem text_any {L : Nat} (ws w : World) (b : Nat) (s : ByteArray) (P : List Pt) (i : Nat) (h : SQ L w b s P i) (hG : Glob ws) (hB : Below ws.heap.size ws w) (hwb : ws.heap.size ≤ b) (hs : s.size ≤ 100000) (hOK : PtsOK s P) (hi : i < P.length) :
    Calls Tryz.prog 124 #[.pointer (some ⟨b, 0, none⟩)] w (TokPost L w b s P (textO s P i)) := by
  obtain ⟨hPl, hmono, hble⟩ := hOK
  have HL := h.le
  have hblt := h.lt
  have hbA := Lib.hid (hble i)
  have HS : Hid (SQ L (w.alloc (.cells #[.int .i64 0, .string ⟨#[]⟩, .int .i64 0, .int .i64 0] 119)) b s P i) := h.below ((Below.refl _ _).alloc (Nat.le_refl _) _)
  have HGW : Hid (∀ wr, w.grownBy wr (some b) → Glob wr) := fun wr hg => hG.below (hB.trans (gb_to_below hg hwb hB.size))
  obtain ⟨a, cap, c0, c1, c2, f2, _⟩ := h.cells
  clear h hG hmono hble hB
  go_enter Tryz.func124, Tryz.ntmps124
  go_wp2_with fail
  obtain ⟨w0, hw0⟩ : ∃ w0, w0 = w.alloc (.cells #[.int .i64 0, .string ⟨#[]⟩, .int .i64 0, .int .i64 0] 119) := ⟨_, rfl⟩
  have H0 : Hid (w0.heap.size = w.heap.size + 1 ∧ w0.heap[w.heap.size]? = some (.cells #[.int .i64 0, .string ⟨#[]⟩, .int .i64 0, .int .i64 0] 119 (0, 0)) ∧ w.grownBy w0 (some b)) := by
    refine ⟨by rw [hw0]; simp, by rw [hw0]; exact blk_new w _, by rw [hw0]; exact gb_below ((Below.refl _ _).alloc (Nat.le_refl _) _) _⟩
  rw [← hw0] at HS ⊢
  clear hw0
  have c0' : w0.cell? ⟨b, 0, none⟩ = some (.string s) := by obtain ⟨_, _, k0, _⟩ := HS.out.cells; exact k0
  have hS : w0.cell? ⟨b, 0, none⟩ = some (.string s) ∧ Below w0.heap.size w0 w0 := ⟨c0', Below.refl _ _⟩
  have hbt := Lib.hid (byteAt_any (L := L) · b s P i i)
  have hUn := Lib.hid (fun f wx => unq3_any s f wx (by omega))
  go_region_held3 (fun w' => w'.cell? ⟨b, 0, none⟩ = some (.string s) ∧ Below w0.heap.size w0 w') (first | exact tw_step (by assumption) hb2 | exact ⟨c0', (Below.refl _ _).drew⟩)
    (first
      | (go_at_call 160; refine (hbt.out _ (HS.out.below (And.right (by assumption)))).mono ?_; rintro e w1 ⟨rfl, rfl⟩)
      | (go_at_call 162; refine (hUn.out _ _).mono ?_; rintro e w2 ⟨rfl, hb2⟩))
  have hT : w2.cell? ⟨b, 0, none⟩ = some (.string s) ∧ Below w0.heap.size w0 w2 := by assumption
  replace hS := HS.out.below hT.2
  have hblk := blk_below H0.out.2.1 hT.2 (blk_lt H0.out.2.1)
  have hg := gb_trans H0.out.2.2 (gb_below hT.2 (some b))
  have HT := Lib.hid (textO_eq s P i)
  have hU := unqS_size s (byteAt s P i)
  have hN := unqN_bd s (byteAt s P i)
  clear hT c0 c1 c2 f2 hbt hUn c0' hbA HS
  generalize unqS s (byteAt s P i) = U at *
  generalize unqN s (byteAt s P i) = N at *
  generalize unqO s (byteAt s P i) = O at *
  have HW : Hid (w.heap.size < w2.heap.size) := blk_lt hblk
  go_wp2_with fail
  go_loopw [] (fun wr => ∃ k, SQ L wr b s P k ∧ wr.heap[w.heap.size]? = some (.cells #[.int .i64 0, .string ⟨#[]⟩, .int .i64 0, .int .i64 0] 119 (0, 0)) ∧ w.grownBy wr (some b) ∧ Hid (textEnd P N i = textEnd P N k) ∧ k ≤ P.length) (fun wr => P.length - scanI wr b)
  case atStart => exact ⟨i, hS, hblk, hg, rfl, by omega⟩
  case round =>
    clear hS hblk hg
    obtain ⟨k, hS, hblk, hg, HE, hk⟩ := hrel
    have HK := Lib.hid (scanI_eq hS)
    by_cases hlk : k < P.length
    · have he := Lib.hid (fun n => end_b (wr.drewN n) b s P k (hS.heap rfl) false (decide_eq_false (by omega)))
      obtain ⟨a, cap, _, c1, c2, f2, hc⟩ := hS.cells
      obtain ⟨g, rfl, hcc⟩ := hc (by omega)
      have c4 : wr.cell? ⟨g, k * 3 + 1, none⟩ = some (.int .i64 P[k].at_) := hcc _ _ (by have := flatQ_at P k 1 hlk (by omega); rw [this]; rfl)
      have HP := Lib.hid (List.getElem?_eq_getElem hlk)
      clear hc hcc
      generalize P[k] = p at *
      have q5 : (k : Int) < (P.length : Int) := by omega
      have q6 : (0 : Int) ≤ (k : Int) := by omega
      cases hq : decide ((p.at_ : Int) < N)
      · have HF : Hid (textEnd P N i = k) := by show _ = _; rw [HE.out]; unfold textEnd; exact runTo_stop (by rw [HP.out]; exact hq)
        go_wp2_with fail
        go_quiet ((go_at_call 79; exact Calls.quiet_of (he.out _)))
        obtain ⟨w3, hw3⟩ : ∃ w3, w3 = wr.drewN nq := ⟨_, rfl⟩
        replace hS := hS.heap (w' := w3) (by rw [hw3]; rfl)
        replace hblk : w3.heap[w.heap.size]? = some (.cells #[.int .i64 0, .string ⟨#[]⟩, .int .i64 0, .int .i64 0] 119 (0, 0)) := by rw [hw3]; exact hblk
        replace hg := gb_trans hg (show _ from hw3 ▸ gb_drewN _ nq (some b))
        rw [← hw3]
        have t0 : w3.cell? ⟨w.heap.size, 0, none⟩ = some (.int .i64 0) := by rw [blk_cell hblk]; rfl
        have t1 : w3.cell? ⟨w.heap.size, 1, none⟩ = some (.string ⟨#[]⟩) := by rw [blk_cell hblk]; rfl
        have t2 : w3.cell? ⟨w.heap.size, 2, none⟩ = some (.int .i64 0) := by rw [blk_cell hblk]; rfl
        have t3 : w3.cell? ⟨w.heap.size, 3, none⟩ = some (.int .i64 0) := by rw [blk_cell hblk]; rfl
        have u0 := blk_frozen0 hblk 0
        have u1 := blk_frozen0 hblk 1
        have u2 := blk_frozen0 hblk 2
        have u3 := blk_frozen0 hblk 3
        clear hw3 c1 c2 f2 c4 q5 q6 hq HP he
        have hVal := Lib.hid (fun hz => valid_any U w3 (HGW.out _ hg) hz)
        cases O
        · go_wp2_with fail
          obtain ⟨r0, r1, r2, r3, hS4, hg4⟩ := res_fin hS hblk hg HL (.int .i64 3) (.string U) (.int .i64 0) (.int .i64 i) _ rfl
          refine bodyPost_ret (v := .tuple #[.agg #[.int .i64 3, .string U, .int .i64 0, .int .i64 i], .bool false]) (by simp [results, Tryz.results124, go_sem, r0, r1, r2, r3]) rfl ?_
          refine ⟨?_, ?_, hg4⟩
          · rw [HT.out]; rfl
          · rw [HT.out]
            show SQ L _ b s P (textEnd P N i)
            rw [HF.out]; exact hS4
        · have HZ : Hid (decide (U.size ≤ 100) = decide ((U.size : Int) ≤ 100)) := by show _ = _; rw [decide_eq_decide]; omega
          cases hz : decide ((U.size : Int) ≤ 100)
          · have HZ2 := Lib.hid hz
            clear hVal
            go_wp2_with fail
            obtain ⟨r0, r1, r2, r3, hS4, hg4⟩ := res_fin hS hblk hg HL (.int .i64 3) (.string U) (.int .i64 0) (.int .i64 i) _ rfl
            refine bodyPost_ret (v := .tuple #[.agg #[.int .i64 3, .string U, .int .i64 0, .int .i64 i], .bool false]) (by simp [results, Tryz.results124, go_sem, r0, r1, r2, r3]) rfl ?_
            refine ⟨?_, ?_, hg4⟩
            · rw [HT.out, HZ.out, HZ2.out]; rfl
            · rw [HT.out]
              show SQ L _ b s P (textEnd P N i)
              rw [HF.out]; exact hS4
          · have hz2 : U.size ≤ 100 := by have := of_decide_eq_true hz; omega
            go_wp2_with fail
            refine (hVal.out (by omega)).mono ?_; rintro e w4 ⟨rfl, hb4⟩
            replace hS := hS.below hb4
            replace hg := gb_trans hg (gb_below hb4 (some b))
            replace hblk := blk_below hblk hb4 (blk_lt hblk)
            clear t0 t1 t2 t3 u0 u1 u2 u3 hVal hb4
            have t0 : w4.cell? ⟨w.heap.size, 0, none⟩ = some (.int .i64 0) := by rw [blk_cell hblk]; rfl
            have t1 : w4.cell? ⟨w.heap.size, 1, none⟩ = some (.string ⟨#[]⟩) := by rw [blk_cell hblk]; rfl
            have t2 : w4.cell? ⟨w.heap.size, 2, none⟩ = some (.int .i64 0) := by rw [blk_cell hblk]; rfl
            have t3 : w4.cell? ⟨w.heap.size, 3, none⟩ = some (.int .i64 0) := by rw [blk_cell hblk]; rfl
            have u0 := blk_frozen0 hblk 0
            have u1 := blk_frozen0 hblk 1
            have u2 := blk_frozen0 hblk 2
            have u3 := blk_frozen0 hblk 3
            have HZ2 := Lib.hid hz
            clear hz
            go_wp2_with fail
            obtain ⟨r0, r1, r2, r3, hS4, hg4⟩ := res_fin hS hblk hg HL (.int .i64 3) (.string U) (.int .i64 0) (.int .i64 i) _ rfl
            refine bodyPost_ret (v := .tuple #[.agg #[.int .i64 3, .string U, .int .i64 0, .int .i64 i], .bool (valid U)]) (by simp [results, Tryz.results124, go_sem, r0, r1, r2, r3]) rfl ?_
            refine ⟨?_, ?_, hg4⟩
            · rw [HT.out, HZ.out, HZ2.out]; rfl
            · rw [HT.out]
              show SQ L _ b s P (textEnd P N i)
              rw [HF.out]; exact hS4
      · have HF : Hid (textEnd P N i = textEnd P N (k + 1)) := by show _ = _; rw [HE.out]; unfold textEnd; exact runTo_go hlk (by rw [HP.out]; exact hq)
        go_wp2_with fail
        go_quiet ((go_at_call 79; exact Calls.quiet_of (he.out _)))
        go_wp2_with fail
        go_roundw
        case rel =>
          refine ⟨k + 1, by have := (hS.heap (w' := wr.drewN nq) rfl).set (k + 1); push_cast at this; exact this, blk_setOther (by exact hblk) _ _ (by show _ ≠ b; omega), gb_trans (gb_trans hg (gb_drewN _ nq (some b))) (gb_set _ _ _ _), HF, by omega⟩
        case measure =>
          have h1 := scanI_eq ((hS.heap (w' := wr.drewN nq) rfl).set (k + 1)); push_cast at h1
          rw [h1, HK.out]; omega
    · have he := Lib.hid (fun n => end_b (wr.drewN n) b s P k (hS.heap rfl) true (decide_eq_true (by omega)))
      have HF : Hid (textEnd P N i = k) := by show _ = _; rw [HE.out]; unfold textEnd; exact runTo_end (by omega)
      go_wp2_with fail
      go_quiet ((go_at_call 79; exact Calls.quiet_of (he.out _)))
      obtain ⟨w3, hw3⟩ : ∃ w3, w3 = wr.drewN nq := ⟨_, rfl⟩
      replace hS := hS.heap (w' := w3) (by rw [hw3]; rfl)
      replace hblk : w3.heap[w.heap.size]? = some (.cells #[.int .i64 0, .string ⟨#[]⟩, .int .i64 0, .int .i64 0] 119 (0, 0)) := by rw [hw3]; exact hblk
      replace hg := gb_trans hg (show _ from hw3 ▸ gb_drewN _ nq (some b))
      rw [← hw3]
      have t0 : w3.cell? ⟨w.heap.size, 0, none⟩ = some (.int .i64 0) := by rw [blk_cell hblk]; rfl
      have t1 : w3.cell? ⟨w.heap.size, 1, none⟩ = some (.string ⟨#[]⟩) := by rw [blk_cell hblk]; rfl
      have t2 : w3.cell? ⟨w.heap.size, 2, none⟩ = some (.int .i64 0) := by rw [blk_cell hblk]; rfl
      have t3 : w3.cell? ⟨w.heap.size, 3, none⟩ = some (.int .i64 0) := by rw [blk_cell hblk]; rfl
      have u0 := blk_frozen0 hblk 0
      have u1 := blk_frozen0 hblk 1
      have u2 := blk_frozen0 hblk 2
      have u3 := blk_frozen0 hblk 3
      clear hw3 he
      have hVal := Lib.hid (fun hz => valid_any U w3 (HGW.out _ hg) hz)
      cases O
      · go_wp2_with fail
        obtain ⟨r0, r1, r2, r3, hS4, hg4⟩ := res_fin hS hblk hg HL (.int .i64 3) (.string U) (.int .i64 0) (.int .i64 i) _ rfl
        refine bodyPost_ret (v := .tuple #[.agg #[.int .i64 3, .string U, .int .i64 0, .int .i64 i], .bool false]) (by simp [results, Tryz.results124, go_sem, r0, r1, r2, r3]) rfl ?_
        refine ⟨?_, ?_, hg4⟩
        · rw [HT.out]; rfl
        · rw [HT.out]
          show SQ L _ b s P (textEnd P N i)
          rw [HF.out]; exact hS4
      · have HZ : Hid (decide (U.size ≤ 100) = decide ((U.size : Int) ≤ 100)) := by show _ = _; rw [decide_eq_decide]; omega
        cases hz : decide ((U.size : Int) ≤ 100)
        · go_wp2_with fail
          obtain ⟨r0, r1, r2, r3, hS4, hg4⟩ := res_fin hS hblk hg HL (.int .i64 3) (.string U) (.int .i64 0) (.int .i64 i) _ rfl
          refine bodyPost_ret (v := .tuple #[.agg #[.int .i64 3, .string U, .int .i64 0, .int .i64 i], .bool false]) (by simp [results, Tryz.results124, go_sem, r0, r1, r2, r3]) rfl ?_
          refine ⟨?_, ?_, hg4⟩
          · rw [HT.out, HZ.out, hz]; rfl
          · rw [HT.out]
            show SQ L _ b s P (textEnd P N i)
            rw [HF.out]; exact hS4
        · have hz2 : U.size ≤ 100 := by have := of_decide_eq_true hz; omega
          go_wp2_with fail
          refine (hVal.out (by omega)).mono ?_; rintro e w4 ⟨rfl, hb4⟩
          replace hS := hS.below hb4
          replace hg := gb_trans hg (gb_below hb4 (some b))
          replace hblk := blk_below hblk hb4 (blk_lt hblk)
          clear t0 t1 t2 t3 u0 u1 u2 u3 hVal hb4
          have t0 : w4.cell? ⟨w.heap.size, 0, none⟩ = some (.int .i64 0) := by rw [blk_cell hblk]; rfl
          have t1 : w4.cell? ⟨w.heap.size, 1, none⟩ = some (.string ⟨#[]⟩) := by rw [blk_cell hblk]; rfl
          have t2 : w4.cell? ⟨w.heap.size, 2, none⟩ = some (.int .i64 0) := by rw [blk_cell hblk]; rfl
          have t3 : w4.cell? ⟨w.heap.size, 3, none⟩ = some (.int .i64 0) := by rw [blk_cell hblk]; rfl
          have u0 := blk_frozen0 hblk 0
          have u1 := blk_frozen0 hblk 1
          have u2 := blk_frozen0 hblk 2
          have u3 := blk_frozen0 hblk 3
          have HZ2 := Lib.hid hz
          clear hz
          go_wp2_with fail
          obtain ⟨r0, r1, r2, r3, hS4, hg4⟩ := res_fin hS hblk hg HL (.int .i64 3) (.string U) (.int .i64 0) (.int .i64 i) _ rfl
          refine bodyPost_ret (v := .tuple #[.agg #[.int .i64 3, .string U, .int .i64 0, .int .i64 i], .bool (valid U)]) (by simp [results, Tryz.results124, go_sem, r0, r1, r2, r3]) rfl ?_
          refine ⟨?_, ?_, hg4⟩
          · rw [HT.out, HZ.out, HZ2.out]; rfl
          · rw [HT.out]
            show SQ L _ b s P (textEnd P N i)
            rw [HF.out]; exact hS4
end Go.Proofs.YtfbgdjcnlnfoaaaGreatDoor

namespace Go.Proofs.YtfbgdjcnlnfoaaaGreatDoor
open Go.RowKit
open Cle

theorem gb_iterAt {a w : World} {b k : Nat} (h : a.grownBy w (some b)) (hk : a.heap.size ≤ k) (s : ByteArray) (p : Nat) : a.grownBy (w.iterAt k s p) (some b) :=
  ⟨h.os, h.tape, h.output, by rw [Lib.iterAt_size]; exact h.size, fun i hi hr => by rw [Lib.iterAt_other _ _ _ _ _ (by omega)]; exact h.block i hi hr⟩
theorem sq_c2 {L : Nat} {w : World} {b : Nat} {s : ByteArray} {P : List Pt} {i : Nat} (h : SQ L w b s P i) : w.cell? ⟨b, 2, none⟩ = some (.int .i64 i) ∧ w.frozen? ⟨b, 2, none⟩ = false := by
  obtain ⟨_, _, _, _, c2, f2, _⟩ := h.cells
  exact ⟨c2, f2⟩
theorem isx {L : Nat} {w wi w' : World} {b k g : Nat} {s : ByteArray} {P : List Pt} {i : Nat} {e v : Ending} {o x : Obj} (h : e = v ∧ ∃ m, w' = wi.drewN m) (hS : SQ L wi b s P i) (h1 : wi.heap[k]? = some o) (h2 : wi.heap[g]? = some x) (h3 : w.grownBy wi (some b)) :
    e = v ∧ SQ L w' b s P i ∧ w'.heap[k]? = some o ∧ w'.heap[g]? = some x ∧ w.grownBy w' (some b) := by
  obtain ⟨rfl, m, rfl⟩ := h
  exact ⟨rfl, hS.heap rfl, h1, h2, gb_trans h3 (gb_drewN _ m _)⟩

theorem sig_enc (q : Nat) (h : q < 6) : Utf8.encode (sigC q) = ⟨#[UInt8.ofNat (sigC q)]⟩ := by
  have : q = 0 ∨ q = 1 ∨ q = 2 ∨ q = 3 ∨ q = 4 ∨ q = 5 := by omega
  rcases this with rfl | rfl | rfl | rfl | rfl | rfl <;> rfl
theorem tok_cells {w : World} {g : Nat} {a b c d : Value} {T : TypeId} (h : w.heap[g]? = some (.cells #[a, b, c, d] T (0, 0))) :
    w.cell? ⟨g, 0, none⟩ = some a ∧ w.cell? ⟨g, 1, none⟩ = some b ∧ w.cell? ⟨g, 2, none⟩ = some c ∧ w.cell? ⟨g, 3, none⟩ = some d ∧ w.frozen? ⟨g, 0, none⟩ = false ∧ w.frozen? ⟨g, 1, none⟩ = false ∧ w.frozen? ⟨g, 2, none⟩ = false ∧ w.frozen? ⟨g, 3, none⟩ = false :=
  ⟨by rw [blk_cell h]; rfl, by rw [blk_cell h]; rfl, by rw [blk_cell h]; rfl, by rw [blk_cell h]; rfl, blk_frozen0 h 0, blk_frozen0 h 1, blk_frozen0 h 2, blk_frozen0 h 3⟩

set_option maxRecDepth 100000 in
set_option maxHeartbeats 2000000 in
theorem token_any {L : Nat} (ws w : World) (b : Nat) (s : ByteArray) (P : List Pt) (i : Nat) (h : SQ L w b s P i) (hG : Glob ws) (hB : Below ws.heap.size ws w) (hwb : ws.heap.size ≤ b) (hs : s.size ≤ 100000) (hOK : PtsOK s P) (hi : i < P.length) :
    Calls Tryz.prog 80 #[.pointer (some ⟨b, 0, none⟩)] w (TokPost L w b s P (tokO s P i)) := by
  have hOK' := Lib.hid hOK
  have hPl := hOK.1
  have HL := h.le
  have hblt := h.lt
  have HB : Hid (∀ wr, w.grownBy wr (some b) → Below ws.heap.size ws wr) := fun wr hg => hB.trans (gb_to_below hg hwb hB.size)
  have hS : SQ L (w.alloc (.cells #[.int .i64 0, .string ⟨#[]⟩, .int .i64 0, .int .i64 0] 119)) b s P i := h.below ((Below.refl _ _).alloc (Nat.le_refl _) _)
  have hg := gb_below ((Below.refl w.heap.size w).alloc (Nat.le_refl _) (.cells #[.int .i64 0, .string ⟨#[]⟩, .int .i64 0, .int .i64 0] 119)) (some b)
  have hblk := blk_new w (.cells #[.int .i64 0, .string ⟨#[]⟩, .int .i64 0, .int .i64 0] 119)
  clear h hB hOK
  go_enter Tryz.func80, Tryz.ntmps80
  go_wp2_with fail
  generalize w.alloc (.cells #[.int .i64 0, .string ⟨#[]⟩, .int .i64 0, .int .i64 0] 119) = w0 at *
  cases hL : letB P i
  · refine (let_b _ b s P i hS _ hL).mono ?_; rintro e w1 ⟨rfl, m, hm⟩
    replace hS := hS.heap (w' := w1) (by rw [hm]; rfl)
    replace hg := gb_trans hg (show _ from hm ▸ gb_drewN _ m (some b))
    replace hblk : w1.heap[w.heap.size]? = some (.cells #[.int .i64 0, .string ⟨#[]⟩, .int .i64 0, .int .i64 0] 119 (0, 0)) := by rw [hm]; exact hblk
    clear hm
    have HLq := Lib.hid hL
    clear hL
    go_wp2_with fail
    cases hD : digB P i
    · refine (dig_b _ b s P i hS _ hD).mono ?_; rintro e w1 ⟨rfl, m, hm⟩
      replace hS := hS.heap (w' := w1) (by rw [hm]; rfl)
      replace hg := gb_trans hg (show _ from hm ▸ gb_drewN _ m (some b))
      replace hblk : w1.heap[w.heap.size]? = some (.cells #[.int .i64 0, .string ⟨#[]⟩, .int .i64 0, .int .i64 0] 119 (0, 0)) := by rw [hm]; exact hblk
      clear hm
      have HD := Lib.hid hD
      clear hD
      go_wp2_with fail
      cases h45 : isB P i 45
      · refine (is_b _ b s P i 0 45 hS (by omega) (by omega) _ h45).mono ?_; rintro e w1 ⟨rfl, m, hm⟩
        replace hS := hS.heap (w' := w1) (by rw [hm]; rfl)
        replace hg := gb_trans hg (show _ from hm ▸ gb_drewN _ m (some b))
        replace hblk : w1.heap[w.heap.size]? = some (.cells #[.int .i64 0, .string ⟨#[]⟩, .int .i64 0, .int .i64 0] 119 (0, 0)) := by rw [hm]; exact hblk
        clear hm
        have H45 := Lib.hid h45
        clear h45
        go_wp2_with fail
        cases h39 : isB P i 39
        · refine (is_b _ b s P i 0 39 hS (by omega) (by omega) _ h39).mono ?_; rintro e w1 ⟨rfl, m, hm⟩
          replace hS := hS.heap (w' := w1) (by rw [hm]; rfl)
          replace hg := gb_trans hg (show _ from hm ▸ gb_drewN _ m (some b))
          replace hblk : w1.heap[w.heap.size]? = some (.cells #[.int .i64 0, .string ⟨#[]⟩, .int .i64 0, .int .i64 0] 119 (0, 0)) := by rw [hm]; exact hblk
          clear hm
          have H39 := Lib.hid h39
          clear h39
          have HN : Hid (tokO s P i = if signB (rAt P i) then (⟨4, ⟨#[UInt8.ofNat (rAt P i).toNat]⟩, 0, i⟩, true, i + 1) else (⟨0, ⟨#[]⟩, 0, 0⟩, false, i)) := by show _ = _; unfold tokO; rw [HLq.out, HD.out, H45.out, H39.out]; rfl
          clear HLq HD H45 H39
          have hlt0 := blk_lt hblk
          go_wp2_with fail
          go_loopw [] (fun wr => ∃ (q : Nat), q ≤ 6 ∧ wr.heap[w1.heap.size]? = some (.stringIter sig6 q) ∧ SQ L wr b s P i ∧ wr.heap[w.heap.size]? = some (.cells #[.int .i64 0, .string ⟨#[]⟩, .int .i64 0, .int .i64 0] 119 (0, 0)) ∧ w.grownBy wr (some b) ∧ Hid (∀ k, k < q → isB P i (sigC k) = false)) (fun wr => 6 - wr.iterPos w1.heap.size)
          case atStart => exact ⟨0, by omega, World.iter_heap w1 sig6 0, hS.below ((Below.refl _ _).alloc (Nat.le_refl _) _), blk_alloc hblk _, gb_trans hg (gb_below ((Below.refl _ _).alloc (Nat.le_refl _) _) _), fun k hk => absurd hk (by omega)⟩
          case round =>
            obtain ⟨q, hq6, hit, hSr, hblkr, hgr, HQ⟩ := hrel
            have hpos0 := iterPos_of hit
            have hLb : L ≤ w1.heap.size := hS.le
            have hb1 : b < w1.heap.size := hS.lt
            by_cases hq : q < 6
            · have hnx : ∀ ty, (Instr.next (.pointer (some ⟨w1.heap.size, 0, none⟩)) true ty).run Tryz.prog wr = _ := fun ty => Lib.run_next_any_at wr w1.heap.size sig6 q ty hit (show q < sig6.size from hq)
              rw [sig6_dec q hq] at hnx
              have hit2 := Lib.iterAt_heap wr w1.heap.size sig6 q (q + 1) hit
              have hS2 : SQ L (wr.iterAt w1.heap.size sig6 (q + 1)) b s P i := hSr.keep (by rw [Lib.iterAt_size]; exact Nat.le_refl _) (fun k hk => Lib.iterAt_other _ _ _ _ _ (by omega))
              have hblk2 : (wr.iterAt w1.heap.size sig6 (q + 1)).heap[w.heap.size]? = some (.cells #[.int .i64 0, .string ⟨#[]⟩, .int .i64 0, .int .i64 0] 119 (0, 0)) := by rw [Lib.iterAt_other _ _ _ _ _ (by omega)]; exact hblkr
              have hg2 : w.grownBy (wr.iterAt w1.heap.size sig6 (q + 1)) (some b) := gb_iterAt hgr (by omega) _ _
              generalize wr.iterAt w1.heap.size sig6 (q + 1) = wi at *
              cases hB : isB P i (sigC q)
              · have HQ2 : Hid (∀ k, k < q + 1 → isB P i (sigC k) = false) := fun k hk => by
                  by_cases e : k = q
                  · rw [e]; exact hB
                  · exact HQ.out k (by omega)
                have hc := (is_b wi b s P i 0 (sigC q) hS2 (by omega) (by omega) _ hB).mono (fun e w' h => isx h hS2 hit2 hblk2 hg2)
                clear hB
                generalize sigC q = r at *
                go_wp2_with (go_at_call 119; refine hc.mono ?_; rintro e w2 ⟨rfl, hS3, hit3, hblk3, hg3⟩)
                go_roundw
                case rel => exact ⟨q + 1, by omega, hit3, hS3, hblk3, hg3, HQ2⟩
                case measure => rw [hpos0, iterPos_of hit3]; omega
              · have hc := (is_b wi b s P i 0 (sigC q) hS2 (by omega) (by omega) _ hB).mono (fun e w' h => isx h hS2 hit2 hblk2 hg2)
                obtain ⟨e1, e2⟩ := sig_yes hq hB
                rw [e2, e1] at HN
                clear hB
                have hr0 := sigC_lt q hq
                go_wp2_with (go_at_call 119; refine hc.mono ?_; rintro e w2 ⟨rfl, hS3, hit3, hblk3, hg3⟩; obtain ⟨c2, f2⟩ := sq_c2 hS3; obtain ⟨t0, t1, t2, t3, u0, u1, u2, u3⟩ := tok_cells hblk3)
                obtain ⟨r0, r1, r2, r3, hS4, hg4⟩ := res_fin (hS3.set (i + 1)) (blk_setOther hblk3 _ _ (by show w.heap.size ≠ b; omega)) (gb_trans hg3 (gb_set _ _ _ _)) HL (.int .i64 4) (.string (Utf8.encode (sigC q))) (.int .i64 0) (.int .i64 i) _ rfl
                rw [show ((i + 1 : Nat) : Int) = (i : Int) + 1 from by omega] at r0 r1 r2 r3 hS4 hg4
                refine bodyPost_ret (v := .tuple #[.agg #[.int .i64 4, .string (Utf8.encode (sigC q)), .int .i64 0, .int .i64 i], .bool true]) (by simp [results, Tryz.results80, go_sem, r0, r1, r2, r3]) rfl ?_
                rw [HN.out]; exact ⟨by rw [sig_enc q hq]; rfl, hS4, hg4⟩
            · have hnx : ∀ ty, (Instr.next (.pointer (some ⟨w1.heap.size, 0, none⟩)) true ty).run Tryz.prog wr = _ := fun ty => Lib.run_next_end_at wr w1.heap.size sig6 q ty hit hq
              have HF : Hid (signB (rAt P i) = false) := sig_no fun k hk => HQ.out k (by omega)
              obtain ⟨t0, t1, t2, t3, u0, u1, u2, u3⟩ := tok_cells hblkr
              go_wp2_with fail
              obtain ⟨r0, r1, r2, r3, hS4, hg4⟩ := res_fin hSr hblkr hgr HL (.int .i64 0) (.string ⟨#[]⟩) (.int .i64 0) (.int .i64 0) _ rfl
              refine bodyPost_ret (v := .tuple #[.agg #[.int .i64 0, .string ⟨#[]⟩, .int .i64 0, .int .i64 0], .bool false]) (by simp [results, Tryz.results80, go_sem, r0, r1, r2, r3]) rfl ?_
              rw [HN.out, HF.out]; exact ⟨rfl, hS4, hg4⟩
        · have HT : Hid (tokO s P i = textO s P i) := by show _ = _; unfold tokO; rw [HLq.out, HD.out, H45.out, h39]; rfl
          refine (is_b _ b s P i 0 39 hS (by omega) (by omega) _ h39).mono ?_; rintro e w1 ⟨rfl, m, hm⟩
          replace hS := hS.heap (w' := w1) (by rw [hm]; rfl)
          replace hg := gb_trans hg (show _ from hm ▸ gb_drewN _ m (some b))
          replace hblk : w1.heap[w.heap.size]? = some (.cells #[.int .i64 0, .string ⟨#[]⟩, .int .i64 0, .int .i64 0] 119 (0, 0)) := by rw [hm]; exact hblk
          clear hm
          clear h39
          go_wp2_with fail
          obtain ⟨X, hX⟩ : ∃ X, X = textO s P i := ⟨_, rfl⟩
          have hc := text_any ws _ b s P i hS hG (HB.out _ hg) hwb hs hOK'.out hi
          rw [← hX] at hc
          obtain ⟨⟨K, S, N, A⟩, ok, nx⟩ := X
          change Calls _ _ _ _ (fun e w' => e = .returned (.tuple #[.agg #[.int .i64 K, .string S, .int .i64 N, .int .i64 A], .bool ok]) ∧ SQ L w' b s P nx ∧ _) at hc
          refine hc.mono ?_; rintro e w2 ⟨rfl, hS2, hg2⟩
          replace hblk : w2.heap[w.heap.size]? = some (.cells #[.int .i64 0, .string ⟨#[]⟩, .int .i64 0, .int .i64 0] 119 (0, 0)) := by rw [hg2.block _ (blk_lt hblk) (by intro e; cases e; omega)]; exact hblk
          replace hg := gb_trans hg hg2
          clear hc hg2 hS
          have t0 : w2.cell? ⟨w.heap.size, 0, none⟩ = some (.int .i64 0) := by rw [blk_cell hblk]; rfl
          have t1 : w2.cell? ⟨w.heap.size, 1, none⟩ = some (.string ⟨#[]⟩) := by rw [blk_cell hblk]; rfl
          have t2 : w2.cell? ⟨w.heap.size, 2, none⟩ = some (.int .i64 0) := by rw [blk_cell hblk]; rfl
          have t3 : w2.cell? ⟨w.heap.size, 3, none⟩ = some (.int .i64 0) := by rw [blk_cell hblk]; rfl
          have u0 := blk_frozen0 hblk 0
          have u1 := blk_frozen0 hblk 1
          have u2 := blk_frozen0 hblk 2
          have u3 := blk_frozen0 hblk 3
          go_wp2_with fail
          obtain ⟨r0, r1, r2, r3, hS4, hg4⟩ := res_fin hS2 hblk hg HL (.int .i64 K) (.string S) (.int .i64 N) (.int .i64 A) _ rfl
          refine bodyPost_ret (v := .tuple #[.agg #[.int .i64 K, .string S, .int .i64 N, .int .i64 A], .bool ok]) (by simp [results, Tryz.results80, go_sem, r0, r1, r2, r3]) rfl ?_
          rw [HT.out, ← hX]; exact ⟨rfl, hS4, hg4⟩
      · have HT : Hid (tokO s P i = numberO P i) := by show _ = _; unfold tokO; rw [HLq.out, HD.out, h45]; rfl
        refine (is_b _ b s P i 0 45 hS (by omega) (by omega) _ h45).mono ?_; rintro e w1 ⟨rfl, m, hm⟩
        replace hS := hS.heap (w' := w1) (by rw [hm]; rfl)
        replace hg := gb_trans hg (show _ from hm ▸ gb_drewN _ m (some b))
        replace hblk : w1.heap[w.heap.size]? = some (.cells #[.int .i64 0, .string ⟨#[]⟩, .int .i64 0, .int .i64 0] 119 (0, 0)) := by rw [hm]; exact hblk
        clear hm
        clear h45
        go_wp2_with fail
        obtain ⟨X, hX⟩ : ∃ X, X = numberO P i := ⟨_, rfl⟩
        have hc := number_any _ b s P i hS hs hOK'.out hi
        rw [← hX] at hc
        obtain ⟨⟨K, S, N, A⟩, ok, nx⟩ := X
        change Calls _ _ _ _ (fun e w' => e = .returned (.tuple #[.agg #[.int .i64 K, .string S, .int .i64 N, .int .i64 A], .bool ok]) ∧ SQ L w' b s P nx ∧ _) at hc
        refine hc.mono ?_; rintro e w2 ⟨rfl, hS2, hg2⟩
        replace hblk : w2.heap[w.heap.size]? = some (.cells #[.int .i64 0, .string ⟨#[]⟩, .int .i64 0, .int .i64 0] 119 (0, 0)) := by rw [hg2.block _ (blk_lt hblk) (by intro e; cases e; omega)]; exact hblk
        replace hg := gb_trans hg hg2
        clear hc hg2 hS
        have t0 : w2.cell? ⟨w.heap.size, 0, none⟩ = some (.int .i64 0) := by rw [blk_cell hblk]; rfl
        have t1 : w2.cell? ⟨w.heap.size, 1, none⟩ = some (.string ⟨#[]⟩) := by rw [blk_cell hblk]; rfl
        have t2 : w2.cell? ⟨w.heap.size, 2, none⟩ = some (.int .i64 0) := by rw [blk_cell hblk]; rfl
        have t3 : w2.cell? ⟨w.heap.size, 3, none⟩ = some (.int .i64 0) := by rw [blk_cell hblk]; rfl
        have u0 := blk_frozen0 hblk 0
        have u1 := blk_frozen0 hblk 1
        have u2 := blk_frozen0 hblk 2
        have u3 := blk_frozen0 hblk 3
        go_wp2_with fail
        obtain ⟨r0, r1, r2, r3, hS4, hg4⟩ := res_fin hS2 hblk hg HL (.int .i64 K) (.string S) (.int .i64 N) (.int .i64 A) _ rfl
        refine bodyPost_ret (v := .tuple #[.agg #[.int .i64 K, .string S, .int .i64 N, .int .i64 A], .bool ok]) (by simp [results, Tryz.results80, go_sem, r0, r1, r2, r3]) rfl ?_
        rw [HT.out, ← hX]; exact ⟨rfl, hS4, hg4⟩
    · have HT : Hid (tokO s P i = numberO P i) := by show _ = _; unfold tokO; rw [HLq.out, hD]; rfl
      refine (dig_b _ b s P i hS _ hD).mono ?_; rintro e w1 ⟨rfl, m, hm⟩
      replace hS := hS.heap (w' := w1) (by rw [hm]; rfl)
      replace hg := gb_trans hg (show _ from hm ▸ gb_drewN _ m (some b))
      replace hblk : w1.heap[w.heap.size]? = some (.cells #[.int .i64 0, .string ⟨#[]⟩, .int .i64 0, .int .i64 0] 119 (0, 0)) := by rw [hm]; exact hblk
      clear hm
      clear hD
      go_wp2_with fail
      obtain ⟨X, hX⟩ : ∃ X, X = numberO P i := ⟨_, rfl⟩
      have hc := number_any _ b s P i hS hs hOK'.out hi
      rw [← hX] at hc
      obtain ⟨⟨K, S, N, A⟩, ok, nx⟩ := X
      change Calls _ _ _ _ (fun e w' => e = .returned (.tuple #[.agg #[.int .i64 K, .string S, .int .i64 N, .int .i64 A], .bool ok]) ∧ SQ L w' b s P nx ∧ _) at hc
      refine hc.mono ?_; rintro e w2 ⟨rfl, hS2, hg2⟩
      replace hblk : w2.heap[w.heap.size]? = some (.cells #[.int .i64 0, .string ⟨#[]⟩, .int .i64 0, .int .i64 0] 119 (0, 0)) := by rw [hg2.block _ (blk_lt hblk) (by intro e; cases e; omega)]; exact hblk
      replace hg := gb_trans hg hg2
      clear hc hg2 hS
      have t0 : w2.cell? ⟨w.heap.size, 0, none⟩ = some (.int .i64 0) := by rw [blk_cell hblk]; rfl
      have t1 : w2.cell? ⟨w.heap.size, 1, none⟩ = some (.string ⟨#[]⟩) := by rw [blk_cell hblk]; rfl
      have t2 : w2.cell? ⟨w.heap.size, 2, none⟩ = some (.int .i64 0) := by rw [blk_cell hblk]; rfl
      have t3 : w2.cell? ⟨w.heap.size, 3, none⟩ = some (.int .i64 0) := by rw [blk_cell hblk]; rfl
      have u0 := blk_frozen0 hblk 0
      have u1 := blk_frozen0 hblk 1
      have u2 := blk_frozen0 hblk 2
      have u3 := blk_frozen0 hblk 3
      go_wp2_with fail
      obtain ⟨r0, r1, r2, r3, hS4, hg4⟩ := res_fin hS2 hblk hg HL (.int .i64 K) (.string S) (.int .i64 N) (.int .i64 A) _ rfl
      refine bodyPost_ret (v := .tuple #[.agg #[.int .i64 K, .string S, .int .i64 N, .int .i64 A], .bool ok]) (by simp [results, Tryz.results80, go_sem, r0, r1, r2, r3]) rfl ?_
      rw [HT.out, ← hX]; exact ⟨rfl, hS4, hg4⟩
  · have HT : Hid (tokO s P i = wordO s P i) := by show _ = _; unfold tokO; rw [hL]; rfl
    refine (let_b _ b s P i hS _ hL).mono ?_; rintro e w1 ⟨rfl, m, hm⟩
    replace hS := hS.heap (w' := w1) (by rw [hm]; rfl)
    replace hg := gb_trans hg (show _ from hm ▸ gb_drewN _ m (some b))
    replace hblk : w1.heap[w.heap.size]? = some (.cells #[.int .i64 0, .string ⟨#[]⟩, .int .i64 0, .int .i64 0] 119 (0, 0)) := by rw [hm]; exact hblk
    clear hm
    clear hL
    go_wp2_with fail
    obtain ⟨X, hX⟩ : ∃ X, X = wordO s P i := ⟨_, rfl⟩
    have hc := word_any _ b s P i hS hs hOK'.out hi
    rw [← hX] at hc
    obtain ⟨⟨K, S, N, A⟩, ok, nx⟩ := X
    change Calls _ _ _ _ (fun e w' => e = .returned (.tuple #[.agg #[.int .i64 K, .string S, .int .i64 N, .int .i64 A], .bool ok]) ∧ SQ L w' b s P nx ∧ _) at hc
    refine hc.mono ?_; rintro e w2 ⟨rfl, hS2, hg2⟩
    replace hblk : w2.heap[w.heap.size]? = some (.cells #[.int .i64 0, .string ⟨#[]⟩, .int .i64 0, .int .i64 0] 119 (0, 0)) := by rw [hg2.block _ (blk_lt hblk) (by intro e; cases e; omega)]; exact hblk
    replace hg := gb_trans hg hg2
    clear hc hg2 hS
    have t0 : w2.cell? ⟨w.heap.size, 0, none⟩ = some (.int .i64 0) := by rw [blk_cell hblk]; rfl
    have t1 : w2.cell? ⟨w.heap.size, 1, none⟩ = some (.string ⟨#[]⟩) := by rw [blk_cell hblk]; rfl
    have t2 : w2.cell? ⟨w.heap.size, 2, none⟩ = some (.int .i64 0) := by rw [blk_cell hblk]; rfl
    have t3 : w2.cell? ⟨w.heap.size, 3, none⟩ = some (.int .i64 0) := by rw [blk_cell hblk]; rfl
    have u0 := blk_frozen0 hblk 0
    have u1 := blk_frozen0 hblk 1
    have u2 := blk_frozen0 hblk 2
    have u3 := blk_frozen0 hblk 3
    go_wp2_with fail
    obtain ⟨r0, r1, r2, r3, hS4, hg4⟩ := res_fin hS2 hblk hg HL (.int .i64 K) (.string S) (.int .i64 N) (.int .i64 A) _ rfl
    refine bodyPost_ret (v := .tuple #[.agg #[.int .i64 K, .string S, .int .i64 N, .int .i64 A], .bool ok]) (by simp [results, Tryz.results80, go_sem, r0, r1, r2, r3]) rfl ?_
    rw [HT.out, ← hX]; exact ⟨rfl, hS4, hg4⟩
end Go.Proofs.YtfbgdjcnlnfoaaaGreatDoor

namespace Go.Proofs.YtfbgdjcnlnfoaaaGreatDoor
namespace Cle

theorem runTo_gt {f : Nat → Bool} {len i : Nat} (h : i < len) (hf : f i = true) : i < runTo f len i := by
  rw [runTo_go h hf]; exact runTo_ge f len (i + 1)
theorem letB_digB_lt {P : List Pt} {i : Nat} (h : letB P i = true) : i < wordEnd P i ∧ wordEnd P i ≤ P.length := by
  have hl := letB_lt h
  exact ⟨runTo_gt hl (by simp [h]), (runTo_le _ P.length i (by omega)).2⟩
theorem numF_ok (P : List Pt) : ∀ n i v, (numF P n i v false).2.1 = false := by
  intro n
  induction n with
  | zero => intro i v; rfl
  | succ n ih => intro i v; rw [numF]; split <;> simp [ih]
theorem numR_gt {P : List Pt} {i : Nat} (_hi : i < P.length) (h : (numR P i).2.1 = true) : i < (numR P i).2.2 ∧ (numR P i).2.2 ≤ P.length := by
  unfold numR at h ⊢
  cases hd : digB P (numStart P i) with
  | false => rw [hd] at h; unfold num at h; rw [numF_ok] at h; cases h
  | true =>
    have hl := digB_lt hd
    have h1 : i ≤ numStart P i := by unfold numStart; split <;> omega
    rw [num_go hd]
    have := numF_ge P (P.length - (numStart P i + 1)) (numStart P i + 1) (min (0 * 10 + (rAt P (numStart P i) - 48)) 1099511627776) (true && decide (0 * 10 + (rAt P (numStart P i) - 48) ≤ 1099511627776))
    unfold num
    omega
theorem unqN_gt (s : ByteArray) (n : Nat) (h : unqO s n = true) : (n : Int) < unqN s n := by
  unfold unqO at h
  unfold unqN
  unfold unquote at h ⊢
  split at h
  · rename_i hc
    rw [if_pos hc]
    cases hu : unq (s.data.toList.drop ((n : Int).toNat + 1)) with
    | none => rw [hu] at h; cases h
    | some x => simp only [Option.map_some]; omega
  · cases h
theorem tokO_gt {s : ByteArray} {P : List Pt} {i : Nat} (hi : i < P.length) (h : (tokO s P i).2.1 = true) : i < (tokO s P i).2.2 ∧ (tokO s P i).2.2 ≤ P.length := by
  unfold tokO at h ⊢
  split
  · rename_i hl; exact letB_digB_lt hl
  · rename_i hl
    rw [if_neg hl] at h
    split
    · rename_i hd
      rw [if_pos hd] at h
      have : (numR P i).2.1 = true := by
        have h' : ((numR P i).2.1 && !letB P (numR P i).2.2) = true := h
        rw [Bool.and_eq_true] at h'; exact h'.1
      exact numR_gt hi this
    · rename_i hd
      rw [if_neg hd] at h
      split
      · rename_i hq
        rw [if_pos hq] at h
        rw [textO_eq] at h ⊢
        simp only [Bool.and_eq_true] at h
        have hg := unqN_gt s (byteAt s P i) h.1
        unfold textEnd
        refine ⟨runTo_gt hi ?_, (runTo_le _ P.length i (by omega)).2⟩
        have hb : byteAt s P i = P[i].at_ := by unfold byteAt; rw [List.getElem?_eq_getElem hi]
        simp only [List.getElem?_eq_getElem hi]
        exact decide_eq_true (by rw [← hb]; exact hg)
      · rename_i hq
        rw [if_neg hq] at h
        split
        · show i < i + 1 ∧ i + 1 ≤ P.length; omega
        · rename_i hs
          rw [if_neg hs] at h; cases h
theorem lexF_end {s : ByteArray} {P : List Pt} {n j : Nat} (h : P.length ≤ skip P j) : lexF s P (n + 1) j = .ok [] := by rw [lexF, if_pos h]
theorem lexF_bad {s : ByteArray} {P : List Pt} {n j : Nat} (h : skip P j < P.length) (hb : (tokO s P (skip P j)).2.1 = false) : lexF s P (n + 1) j = .error (skip P j) := by
  rw [lexF, if_neg (by omega), if_neg (by rw [hb]; decide)]
theorem lexF_go {s : ByteArray} {P : List Pt} {n j : Nat} (h : skip P j < P.length) (hb : (tokO s P (skip P j)).2.1 = true) : lexF s P (n + 1) j = (lexF s P n (tokO s P (skip P j)).2.2).map ((tokO s P (skip P j)).1 :: ·) := by
  rw [lexF, if_neg (by omega), if_pos hb]
theorem skip_le_len (P : List Pt) : ∀ n i, i ≤ P.length → skipF P n i ≤ P.length := by
  intro n
  induction n with
  | zero => intro i h; exact h
  | succ n ih =>
    intro i h
    rw [skipF]
    split
    · exact h
    · split
      · exact ih (i + 1) (by omega)
      · split
        · rename_i hd; exact ih _ (lineEnd_gt hd).2
        · exact h
theorem exmap_step {s : ByteArray} {P : List Pt} {n m j : Nat} {done : List Tk} {R : Except Nat (List Tk)} (h : R = (lexF s P (n + 1) j).map (done ++ ·)) (h1 : skip P j < P.length) (hb : (tokO s P (skip P j)).2.1 = true) (hm : m = (tokO s P (skip P j)).2.2) :
    R = (lexF s P n m).map ((done ++ [(tokO s P (skip P j)).1]) ++ ·) := by
  rw [h, lexF_go h1 hb, hm]
  cases lexF s P n (tokO s P (skip P j)).2.2 with
  | error a => rfl
  | ok l => simp [Except.map]

theorem lexF_len (s : ByteArray) (P : List Pt) : ∀ n i l, lexF s P n i = .ok l → l.length ≤ n := by
  intro n
  induction n with
  | zero => intro i l h; rw [lexF] at h; cases h; exact Nat.le_refl _
  | succ n ih =>
    intro i l h
    rw [lexF] at h
    split at h
    · cases h; exact Nat.zero_le _
    · split at h
      · cases hx : lexF s P n (tokO s P (skip P i)).2.2 with
        | error a => rw [hx] at h; cases h
        | ok m =>
          rw [hx] at h
          have := ih _ _ hx
          have e : l = (tokO s P (skip P i)).1 :: m := by cases h; rfl
          rw [e, List.length_cons]; omega
      · cases h
theorem lexL_len (s : ByteArray) : (lexL s).1.length ≤ s.size + 1 := by
  unfold lexL
  split
  · exact Nat.zero_le _
  · have hp := (ptsOK_pts s).1
    split
    · rename_i l h
      have := lexF_len s (pts s) _ _ _ h
      show l.length ≤ _; omega
    · exact Nat.zero_le _

end Cle
end Go.Proofs.YtfbgdjcnlnfoaaaGreatDoor

