/- Walks: lex: number. -/
import Derived.Test.YtfbgdjcnlnfoaaaDoorLexD
import Derived.StillTailTactics
import Derived.Deep.RegionWith
namespace Go.Proofs.YtfbgdjcnlnfoaaaDoor
open Go.RowKit
open Cle

/-- The world in which a number is under way. -/
def NumW (L : Nat) (w0 wr : World) (b : Nat) (s : ByteArray) (P : List Pt) (i k : Nat) (v : Int) : Prop :=
  SQ L wr b s P k ∧ ((w0.alloc (.cells #[.int .i64 0, .string ⟨#[]⟩, .int .i64 0, .int .i64 0] 30)).alloc (.cells #[.int .i64 2, .string ⟨#[]⟩, .int .i64 0, .int .i64 i] 30)).heap.size ≤ wr.heap.size ∧
  wr.heap[w0.heap.size]? = some (.cells #[.int .i64 0, .string ⟨#[]⟩, .int .i64 0, .int .i64 0] 30 (0, 0)) ∧
  wr.heap[w0.heap.size + 1]? = some (.cells #[.int .i64 2, .string ⟨#[]⟩, .int .i64 v, .int .i64 i] 30 (0, 0)) ∧
  w0.grownBy wr (some b)

theorem NumW.drewN {L : Nat} {w0 wr w1 : World} {b : Nat} {s : ByteArray} {P : List Pt} {i k m : Nat} {v : Int} (h : NumW L w0 wr b s P i k v) (hm : w1 = wr.drewN m) : NumW L w0 w1 b s P i k v := by
  subst hm
  obtain ⟨h1, h2, h3, h4, h5⟩ := h
  exact ⟨h1.heap rfl, h2, h3, h4, gb_trans h5 (gb_drewN _ _ _)⟩
theorem NumW.setI {L : Nat} {w0 wr : World} {b : Nat} {s : ByteArray} {P : List Pt} {i k : Nat} {v : Int} (h : NumW L w0 wr b s P i k v) (hL : L ≤ w0.heap.size) (j : Nat) : NumW L w0 (wr.setCell ⟨b, 2, none⟩ (.int .i64 j)) b s P i j v := by
  obtain ⟨h1, h2, h3, h4, h5⟩ := h
  have hb := h1.2.1
  exact ⟨h1.set j, by simpa [World.setCell] using h2, blk_setOther h3 _ _ (by show _ ≠ b; omega), blk_setOther h4 _ _ (by show _ ≠ b; omega), gb_trans h5 (gb_set _ _ _ _)⟩
theorem NumW.setV {L : Nat} {w0 wr : World} {b : Nat} {s : ByteArray} {P : List Pt} {i k : Nat} {v : Int} (h : NumW L w0 wr b s P i k v) (hL : L ≤ w0.heap.size) (u : Int) : NumW L w0 (wr.setCell ⟨w0.heap.size + 1, 2, none⟩ (.int .i64 u)) b s P i k u := by
  obtain ⟨h1, h2, h3, h4, h5⟩ := h
  refine ⟨h1.setOther (by omega) _ _, by simpa [World.setCell] using h2, blk_setOther h3 _ _ (by simp), ?_, ?_⟩
  · have := blk_set h4 2 (.int .i64 u)
    rw [this]; simp
  · have h6 := gb_set wr (w0.heap.size + 1) 2 (.int .i64 u)
    exact ⟨h6.os.trans h5.os, h6.tape.trans h5.tape, h6.output.trans h5.output, Nat.le_trans h5.size h6.size, fun q hq hr => by
      have := h5.size
      rw [h6.block q (by omega) (fun e => by cases e; omega)]; exact h5.block q hq hr⟩

theorem digB_r {P : List Pt} {k : Nat} (h : digB P k = true) : ∃ hk : k < P.length, 48 ≤ P[k].r ∧ P[k].r ≤ 57 ∧ rAt P k = P[k].r := by
  have hk := digB_lt h
  refine ⟨hk, ?_⟩
  unfold digB at h
  rw [List.getElem?_eq_getElem hk] at h
  simp only [digitB, Bool.and_eq_true, decide_eq_true_eq] at h
  refine ⟨by omega, by omega, ?_⟩
  unfold rAt
  rw [List.getElem?_eq_getElem hk]

theorem NumW.fin {L : Nat} {w0 wr : World} {b : Nat} {s : ByteArray} {P : List Pt} {i k : Nat} {v : Int} (h : NumW L w0 wr b s P i k v) (hL : L ≤ w0.heap.size) (n : Nat) (W : World)
    (hW : W = ((((((wr.drewN n).setCell ⟨w0.heap.size, 0, none⟩ (.int .i64 2)).setCell ⟨w0.heap.size, 1, none⟩ (.string ⟨#[]⟩)).setCell ⟨w0.heap.size, 2, none⟩ (.int .i64 v)).setCell ⟨w0.heap.size, 3, none⟩ (.int .i64 i)))) :
    W.cell? ⟨w0.heap.size, 0, none⟩ = some (.int .i64 2) ∧ W.cell? ⟨w0.heap.size, 1, none⟩ = some (.string ⟨#[]⟩) ∧ W.cell? ⟨w0.heap.size, 2, none⟩ = some (.int .i64 v) ∧ W.cell? ⟨w0.heap.size, 3, none⟩ = some (.int .i64 i) ∧
    SQ L W b s P k ∧ w0.grownBy W (some b) := by
  subst hW
  obtain ⟨h1, h2, h3, h4, h5⟩ := h.drewN (m := n) rfl
  have hp := put4 h3 (.int .i64 2) (.string ⟨#[]⟩) (.int .i64 v) (.int .i64 i)
  refine ⟨by rw [blk_cell hp]; rfl, by rw [blk_cell hp]; rfl, by rw [blk_cell hp]; rfl, by rw [blk_cell hp]; rfl, (((h1.setOther hL _ _).setOther hL _ _).setOther hL _ _).setOther hL _ _, ?_⟩
  have h6 := put4_gb (wr.drewN n) w0.heap.size (.int .i64 2) (.string ⟨#[]⟩) (.int .i64 v) (.int .i64 i)
  exact ⟨h6.os.trans h5.os, h6.tape.trans h5.tape, h6.output.trans h5.output, Nat.le_trans h5.size h6.size, fun q hq hr => by
    have := h5.size
    rw [h6.block q (by omega) (fun e => by cases e; omega)]; exact h5.block q hq hr⟩

set_option maxRecDepth 100000 in
set_option maxHeartbeats 2000000 in
theorem number_any {L : Nat} (w : World) (b : Nat) (s : ByteArray) (P : List Pt) (i : Nat) (h : SQ L w b s P i) (hs : s.size ≤ 100000) (hOK : PtsOK s P) (hi : i < P.length) :
    Calls Tryd.prog 16 #[.pointer (some ⟨b, 0, none⟩)] w (TokPost L w b s P (numberO P i)) := by
  obtain ⟨hPl, _, _⟩ := hOK
  have HL := h.le
  have HS := Lib.hid h
  obtain ⟨_, _, _, _, c2, f2, _⟩ := h.cells
  have hblt := h.lt
  have HN0 : Hid (NumW L w ((w.alloc (.cells #[.int .i64 0, .string ⟨#[]⟩, .int .i64 0, .int .i64 0] 30)).alloc (.cells #[.int .i64 2, .string ⟨#[]⟩, .int .i64 0, .int .i64 i] 30)) b s P i i 0) := by
    have hb2 : Below w.heap.size w ((w.alloc (.cells #[.int .i64 0, .string ⟨#[]⟩, .int .i64 0, .int .i64 0] 30)).alloc (.cells #[.int .i64 2, .string ⟨#[]⟩, .int .i64 0, .int .i64 i] 30)) := ((Below.refl _ _).alloc (Nat.le_refl _) _).alloc (by simp) _
    refine ⟨h.below hb2, Nat.le_refl _, blk_alloc (blk_new w _) _, ?_, gb_below hb2 _⟩
    have := blk_new (w.alloc (.cells #[.int .i64 0, .string ⟨#[]⟩, .int .i64 0, .int .i64 0] 30)) (.cells #[.int .i64 2, .string ⟨#[]⟩, .int .i64 0, .int .i64 i] 30)
    simpa using this
  clear h
  go_enter Tryd.func16, Tryd.ntmps16
  go_wp2_with fail
  obtain ⟨wa, hwa⟩ : ∃ wa, wa = ((w.alloc (.cells #[.int .i64 0, .string ⟨#[]⟩, .int .i64 0, .int .i64 0] 30)).alloc (.cells #[.int .i64 2, .string ⟨#[]⟩, .int .i64 0, .int .i64 i] 30)) := ⟨_, rfl⟩
  rw [← hwa] at HN0 ⊢
  have hN := HN0.out
  clear hwa HN0 c2 f2
  cases h45 : isB P i 45
  · have HNS : Hid (numStart P i = i) := by show _ = _; unfold numStart; rw [h45]; rfl
    refine (is_b _ b s P i 0 45 hN.1 (by omega) (by omega) _ h45).mono ?_; rintro e w1 ⟨rfl, m, hm⟩
    replace hN := hN.drewN hm
    clear hm
    have H45 := Lib.hid h45
    clear h45 HS
    go_wp2_with fail
    refine (dig_any _ b s P i hN.1).mono ?_; rintro e w2 ⟨rfl, m, hm⟩
    replace hN := hN.drewN hm
    clear hm
    obtain ⟨d0, hd0⟩ : ∃ d0, digB P i = d0 := ⟨_, rfl⟩
    have HR : Hid (numR P i = num P i 0 d0) := by show _ = _; unfold numR; rw [HNS.out, hd0]
    rw [hd0]
    clear hd0
    go_wp2_with fail
    go_loopw [6] (fun okv wr => ∃ (k : Nat) (v : Int) (ok : Bool), okv = .bool ok ∧ NumW L w wr b s P i k v ∧ Hid (num P i 0 d0 = num P k v ok) ∧ 0 ≤ v ∧ v ≤ 1099511627776 ∧ k ≤ P.length) (fun _ wr => P.length - scanI wr b)
    case atStart => exact ⟨i, 0, d0, rfl, hN, rfl, by omega, by omega, by omega⟩
    case round =>
      obtain ⟨k, v, ok, rfl, hN, HE, hv0, hv1, hk⟩ := hrel
      have HK := Lib.hid (scanI_eq hN.1)
      cases hD : digB P k
      · have HF : Hid (numR P i = (v, ok, k)) := by show _ = _; rw [HR.out, HE.out, num_stop hD]
        go_wp2_with fail
        refine (dig_b _ b s P k hN.1 _ hD).mono ?_; rintro e w3 ⟨rfl, m, hm⟩
        replace hN := hN.drewN hm
        clear hm hD
        go_wp2_with fail
        obtain ⟨t0, t1, t2, t3⟩ : w3.cell? ⟨w.heap.size + 1, 0, none⟩ = some (.int .i64 2) ∧ w3.cell? ⟨w.heap.size + 1, 1, none⟩ = some (.string ⟨#[]⟩) ∧ w3.cell? ⟨w.heap.size + 1, 2, none⟩ = some (.int .i64 v) ∧ w3.cell? ⟨w.heap.size + 1, 3, none⟩ = some (.int .i64 i) := ⟨by rw [blk_cell hN.2.2.2.1]; rfl, by rw [blk_cell hN.2.2.2.1]; rfl, by rw [blk_cell hN.2.2.2.1]; rfl, by rw [blk_cell hN.2.2.2.1]; rfl⟩
        have hLet := Lib.hid (fun n => let_any (w3.drewN n) b s P k (hN.1.heap rfl))
        obtain ⟨y0, y1, y2, y3⟩ : w3.cell? ⟨w.heap.size, 0, none⟩ = some (.int .i64 0) ∧ w3.cell? ⟨w.heap.size, 1, none⟩ = some (.string ⟨#[]⟩) ∧ w3.cell? ⟨w.heap.size, 2, none⟩ = some (.int .i64 0) ∧ w3.cell? ⟨w.heap.size, 3, none⟩ = some (.int .i64 0) := ⟨by rw [blk_cell hN.2.2.1]; rfl, by rw [blk_cell hN.2.2.1]; rfl, by rw [blk_cell hN.2.2.1]; rfl, by rw [blk_cell hN.2.2.1]; rfl⟩
        have u0 := blk_frozen0 hN.2.2.1 0
        have u1 := blk_frozen0 hN.2.2.1 1
        have u2 := blk_frozen0 hN.2.2.1 2
        have u3 := blk_frozen0 hN.2.2.1 3
        have hfin := Lib.hid (hN.fin HL)
        clear hN
        cases ok
        · clear hLet
          go_region
          obtain ⟨r0, r1, r2, r3, hS4, hg4⟩ := hfin.out 1 (((((w3.setCell ⟨w.heap.size, 0, none⟩ (.int .i64 2)).setCell ⟨w.heap.size, 1, none⟩ (.string ⟨#[]⟩)).setCell ⟨w.heap.size, 2, none⟩ (.int .i64 v)).setCell ⟨w.heap.size, 3, none⟩ (.int .i64 i))).drew rfl
          go_wp2_with fail
          refine bodyPost_ret (v := .tuple #[.agg #[.int .i64 2, .string ⟨#[]⟩, .int .i64 v, .int .i64 i], .bool false]) (by simp [results, Tryd.results16, go_sem, r0, r1, r2, r3]) rfl ?_
          refine ⟨?_, ?_, hg4⟩
          · unfold numberO tkV; rw [H45.out, HF.out]; rfl
          · show SQ L _ b s P _
            unfold numberO; rw [HF.out]; exact hS4
        · go_region_with ((go_at_call 13; refine (hLet.out 1).mono ?_; rintro e w4 ⟨rfl, m, hm⟩))
          all_goals
            obtain ⟨r0, r1, r2, r3, hS4, hg4⟩ := hfin.out (1 + m) (((((w3.drewN (1 + m)).setCell ⟨w.heap.size, 0, none⟩ (.int .i64 2)).setCell ⟨w.heap.size, 1, none⟩ (.string ⟨#[]⟩)).setCell ⟨w.heap.size, 2, none⟩ (.int .i64 v)).setCell ⟨w.heap.size, 3, none⟩ (.int .i64 i)) rfl
            clear hm hLet t0 t1 t2 t3 y0 y1 y2 y3 u0 u1 u2 u3
            go_wp2_with fail
            refine bodyPost_ret (v := .tuple #[.agg #[.int .i64 2, .string ⟨#[]⟩, .int .i64 v, .int .i64 i], .bool (!letB P k)]) (by simp [results, Tryd.results16, go_sem, r0, r1, r2, r3]) rfl ?_
            refine ⟨?_, ?_, hg4⟩
            · unfold numberO tkV; rw [H45.out, HF.out]; rfl
            · show SQ L _ b s P _
              unfold numberO; rw [HF.out]; exact hS4
      · obtain ⟨hkl, hr0, hr1, hrA⟩ := digB_r hD
        have HG := Lib.hid (num_go (v := v) (ok := ok) hD)
        go_wp2_with fail
        refine (dig_b _ b s P k hN.1 _ hD).mono ?_; rintro e w3 ⟨rfl, m, hm⟩
        replace hN := hN.drewN hm
        clear hm hD
        obtain ⟨a, cap, _, c1, c2, f2, hc⟩ := hN.1.cells
        obtain ⟨g, rfl, hcc⟩ := hc (by omega)
        have c4 : w3.cell? ⟨g, k * 3, none⟩ = some (.int .i32 P[k].r) := hcc _ _ (by have := flatQ_at P k 0 hkl (by omega); rw [Nat.add_zero] at this; rw [this]; rfl)
        have c5 : w3.cell? ⟨w.heap.size + 1, 2, none⟩ = some (.int .i64 v) := by rw [blk_cell hN.2.2.2.1]; rfl
        have f5 : w3.frozen? ⟨w.heap.size + 1, 2, none⟩ = false := blk_frozen0 hN.2.2.2.1 2
        rw [hrA] at HG
        clear hc hcc hrA
        generalize P[k].r = r at *
        have q1 : IntKind.i64.wrap (v * 10) = v * 10 := IntWalk.i64_in _ (by omega)
        have q2 : IntKind.i32.wrap ((r : Int) - 48) = (r : Int) - 48 := wraps_i32 _ (by omega) (by omega)
        have q3 : IntKind.i64.wrap ((r : Int) - 48) = (r : Int) - 48 := IntWalk.i64_in _ (by omega)
        have q4 : IntKind.i64.wrap (v * 10 + ((r : Int) - 48)) = v * 10 + ((r : Int) - 48) := IntWalk.i64_in _ (by omega)
        have q5 : (k : Int) < (P.length : Int) := by omega
        have q6 : (0 : Int) ≤ (k : Int) := by omega
        go_wp2_with fail
        go_still_tail 18, (by kernel_rfl)
        cases ok
        all_goals
          go_wp2_with fail
          go_roundw
          case rel =>
            refine ⟨k + 1, min (v * 10 + ((r : Int) - 48)) 1099511627776, _, rfl, NumW.drewN (m := 1) ((((hN.setV HL _).setV HL _).setI HL (k + 1))) (by push_cast; rfl), ?_, by omega, by omega, by omega⟩
            show _ = _
            rw [HE.out, HG.out]; rfl
          case measure =>
            have h1 := scanI_eq (((hN.setV HL (v * 10 + ((r : Int) - 48))).setV HL (min (v * 10 + ((r : Int) - 48)) 1099511627776)).setI HL (k + 1)).1
            push_cast at h1
            have h2 := HK.out
            rw [h2]
            refine Nat.lt_of_le_of_lt (Nat.le_of_eq (congrArg (P.length - ·) h1)) ?_
            show P.length - (k + 1) < P.length - k
            omega
  · have HNS : Hid (numStart P i = (i + 1)) := by show _ = _; unfold numStart; rw [h45]; rfl
    refine (is_b _ b s P i 0 45 hN.1 (by omega) (by omega) _ h45).mono ?_; rintro e w1 ⟨rfl, m, hm⟩
    replace hN := hN.drewN hm
    clear hm
    have H45 := Lib.hid h45
    obtain ⟨_, _, _, _, c2, f2, _⟩ := hN.1.cells
    have HB := Lib.hid hN
    clear h45 HS hN
    go_wp2_with fail
    have hN := HB.out.setI HL (i + 1)
    rw [show (((i + 1 : Nat) : Int)) = (i : Int) + 1 by push_cast; rfl] at hN
    clear HB c2 f2
    refine (dig_any _ b s P (i + 1) hN.1).mono ?_; rintro e w2 ⟨rfl, m, hm⟩
    replace hN := hN.drewN hm
    clear hm
    obtain ⟨d0, hd0⟩ : ∃ d0, digB P (i + 1) = d0 := ⟨_, rfl⟩
    have HR : Hid (numR P i = num P (i + 1) 0 d0) := by show _ = _; unfold numR; rw [HNS.out, hd0]
    rw [hd0]
    clear hd0
    go_wp2_with fail
    go_loopw [6] (fun okv wr => ∃ (k : Nat) (v : Int) (ok : Bool), okv = .bool ok ∧ NumW L w wr b s P i k v ∧ Hid (num P (i + 1) 0 d0 = num P k v ok) ∧ 0 ≤ v ∧ v ≤ 1099511627776 ∧ k ≤ P.length) (fun _ wr => P.length - scanI wr b)
    case atStart => exact ⟨(i + 1), 0, d0, rfl, hN, rfl, by omega, by omega, by omega⟩
    case round =>
      obtain ⟨k, v, ok, rfl, hN, HE, hv0, hv1, hk⟩ := hrel
      have HK := Lib.hid (scanI_eq hN.1)
      cases hD : digB P k
      · have HF : Hid (numR P i = (v, ok, k)) := by show _ = _; rw [HR.out, HE.out, num_stop hD]
        go_wp2_with fail
        refine (dig_b _ b s P k hN.1 _ hD).mono ?_; rintro e w3 ⟨rfl, m, hm⟩
        replace hN := hN.drewN hm
        clear hm hD
        have c5 : w3.cell? ⟨w.heap.size + 1, 2, none⟩ = some (.int .i64 v) := by rw [blk_cell hN.2.2.2.1]; rfl
        have f5 : w3.frozen? ⟨w.heap.size + 1, 2, none⟩ = false := blk_frozen0 hN.2.2.2.1 2
        have q1 : IntKind.i64.wrap (-v) = -v := IntWalk.i64_in _ (by omega)
        have HB := Lib.hid hN
        clear hN
        go_wp2_with fail
        have hN := HB.out.setV HL (-v)
        generalize w3.setCell ⟨w.heap.size + 1, 2, none⟩ (.int .i64 (-v)) = w5 at hN ⊢
        clear HB c5 f5 q1
        obtain ⟨t0, t1, t2, t3⟩ : w5.cell? ⟨w.heap.size + 1, 0, none⟩ = some (.int .i64 2) ∧ w5.cell? ⟨w.heap.size + 1, 1, none⟩ = some (.string ⟨#[]⟩) ∧ w5.cell? ⟨w.heap.size + 1, 2, none⟩ = some (.int .i64 (-v)) ∧ w5.cell? ⟨w.heap.size + 1, 3, none⟩ = some (.int .i64 i) := ⟨by rw [blk_cell hN.2.2.2.1]; rfl, by rw [blk_cell hN.2.2.2.1]; rfl, by rw [blk_cell hN.2.2.2.1]; rfl, by rw [blk_cell hN.2.2.2.1]; rfl⟩
        have hLet := Lib.hid (fun n => let_any (w5.drewN n) b s P k (hN.1.heap rfl))
        obtain ⟨y0, y1, y2, y3⟩ : w5.cell? ⟨w.heap.size, 0, none⟩ = some (.int .i64 0) ∧ w5.cell? ⟨w.heap.size, 1, none⟩ = some (.string ⟨#[]⟩) ∧ w5.cell? ⟨w.heap.size, 2, none⟩ = some (.int .i64 0) ∧ w5.cell? ⟨w.heap.size, 3, none⟩ = some (.int .i64 0) := ⟨by rw [blk_cell hN.2.2.1]; rfl, by rw [blk_cell hN.2.2.1]; rfl, by rw [blk_cell hN.2.2.1]; rfl, by rw [blk_cell hN.2.2.1]; rfl⟩
        have u0 := blk_frozen0 hN.2.2.1 0
        have u1 := blk_frozen0 hN.2.2.1 1
        have u2 := blk_frozen0 hN.2.2.1 2
        have u3 := blk_frozen0 hN.2.2.1 3
        have hfin := Lib.hid (hN.fin HL)
        clear hN
        cases ok
        · clear hLet
          go_region
          obtain ⟨r0, r1, r2, r3, hS4, hg4⟩ := hfin.out 1 (((((w5.setCell ⟨w.heap.size, 0, none⟩ (.int .i64 2)).setCell ⟨w.heap.size, 1, none⟩ (.string ⟨#[]⟩)).setCell ⟨w.heap.size, 2, none⟩ (.int .i64 (-v))).setCell ⟨w.heap.size, 3, none⟩ (.int .i64 i))).drew rfl
          go_wp2_with fail
          refine bodyPost_ret (v := .tuple #[.agg #[.int .i64 2, .string ⟨#[]⟩, .int .i64 (-v), .int .i64 i], .bool false]) (by simp [results, Tryd.results16, go_sem, r0, r1, r2, r3]) rfl ?_
          refine ⟨?_, ?_, hg4⟩
          · unfold numberO tkV; rw [H45.out, HF.out]; rfl
          · show SQ L _ b s P _
            unfold numberO; rw [HF.out]; exact hS4
        · go_region_with ((go_at_call 13; refine (hLet.out 1).mono ?_; rintro e w4 ⟨rfl, m, hm⟩))
          all_goals
            obtain ⟨r0, r1, r2, r3, hS4, hg4⟩ := hfin.out (1 + m) (((((w5.drewN (1 + m)).setCell ⟨w.heap.size, 0, none⟩ (.int .i64 2)).setCell ⟨w.heap.size, 1, none⟩ (.string ⟨#[]⟩)).setCell ⟨w.heap.size, 2, none⟩ (.int .i64 (-v))).setCell ⟨w.heap.size, 3, none⟩ (.int .i64 i)) rfl
            clear hm hLet t0 t1 t2 t3 y0 y1 y2 y3 u0 u1 u2 u3
            go_wp2_with fail
            refine bodyPost_ret (v := .tuple #[.agg #[.int .i64 2, .string ⟨#[]⟩, .int .i64 (-v), .int .i64 i], .bool (!letB P k)]) (by simp [results, Tryd.results16, go_sem, r0, r1, r2, r3]) rfl ?_
            refine ⟨?_, ?_, hg4⟩
            · unfold numberO tkV; rw [H45.out, HF.out]; rfl
            · show SQ L _ b s P _
              unfold numberO; rw [HF.out]; exact hS4
      · obtain ⟨hkl, hr0, hr1, hrA⟩ := digB_r hD
        have HG := Lib.hid (num_go (v := v) (ok := ok) hD)
        go_wp2_with fail
        refine (dig_b _ b s P k hN.1 _ hD).mono ?_; rintro e w3 ⟨rfl, m, hm⟩
        replace hN := hN.drewN hm
        clear hm hD
        obtain ⟨a, cap, _, c1, c2, f2, hc⟩ := hN.1.cells
        obtain ⟨g, rfl, hcc⟩ := hc (by omega)
        have c4 : w3.cell? ⟨g, k * 3, none⟩ = some (.int .i32 P[k].r) := hcc _ _ (by have := flatQ_at P k 0 hkl (by omega); rw [Nat.add_zero] at this; rw [this]; rfl)
        have c5 : w3.cell? ⟨w.heap.size + 1, 2, none⟩ = some (.int .i64 v) := by rw [blk_cell hN.2.2.2.1]; rfl
        have f5 : w3.frozen? ⟨w.heap.size + 1, 2, none⟩ = false := blk_frozen0 hN.2.2.2.1 2
        rw [hrA] at HG
        clear hc hcc hrA
        generalize P[k].r = r at *
        have q1 : IntKind.i64.wrap (v * 10) = v * 10 := IntWalk.i64_in _ (by omega)
        have q2 : IntKind.i32.wrap ((r : Int) - 48) = (r : Int) - 48 := wraps_i32 _ (by omega) (by omega)
        have q3 : IntKind.i64.wrap ((r : Int) - 48) = (r : Int) - 48 := IntWalk.i64_in _ (by omega)
        have q4 : IntKind.i64.wrap (v * 10 + ((r : Int) - 48)) = v * 10 + ((r : Int) - 48) := IntWalk.i64_in _ (by omega)
        have q5 : (k : Int) < (P.length : Int) := by omega
        have q6 : (0 : Int) ≤ (k : Int) := by omega
        go_wp2_with fail
        go_still_tail 18, (by kernel_rfl)
        cases ok
        all_goals
          go_wp2_with fail
          go_roundw
          case rel =>
            refine ⟨k + 1, min (v * 10 + ((r : Int) - 48)) 1099511627776, _, rfl, NumW.drewN (m := 1) ((((hN.setV HL _).setV HL _).setI HL (k + 1))) (by push_cast; rfl), ?_, by omega, by omega, by omega⟩
            show _ = _
            rw [HE.out, HG.out]; rfl
          case measure =>
            have h1 := scanI_eq (((hN.setV HL (v * 10 + ((r : Int) - 48))).setV HL (min (v * 10 + ((r : Int) - 48)) 1099511627776)).setI HL (k + 1)).1
            push_cast at h1
            have h2 := HK.out
            rw [h2]
            refine Nat.lt_of_le_of_lt (Nat.le_of_eq (congrArg (P.length - ·) h1)) ?_
            show P.length - (k + 1) < P.length - k
            omega

end Go.Proofs.YtfbgdjcnlnfoaaaDoor
