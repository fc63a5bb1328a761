/- Walks: lex: token. -/
import Derived.Test.YtfbgdjcnlnfoaaaDoorLexF
namespace Go.Proofs.YtfbgdjcnlnfoaaaDoor
open Go.RowKit
open Cle

theorem gb_iterAt {a w : World} {b k : Nat} (h : a.grownBy w (some b)) (hk : a.heap.size ≤ k) (s : ByteArray) (p : Nat) : a.grownBy (w.iterAt k s p) (some b) :=
  ⟨h.os, h.tape, h.output, by rw [Lib.iterAt_size]; exact h.size, fun i hi hr => by rw [Lib.iterAt_other _ _ _ _ _ (by omega)]; exact h.block i hi hr⟩
theorem sq_c2 {L : Nat} {w : World} {b : Nat} {s : ByteArray} {P : List Pt} {i : Nat} (h : SQ L w b s P i) : w.cell? ⟨b, 2, none⟩ = some (.int .i64 i) ∧ w.frozen? ⟨b, 2, none⟩ = false := by
  obtain ⟨_, _, _, _, c2, f2, _⟩ := h.cells
  exact ⟨c2, f2⟩
theorem isx {L : Nat} {w wi w' : World} {b k g : Nat} {s : ByteArray} {P : List Pt} {i : Nat} {e v : Ending} {o x : Obj} (h : e = v ∧ ∃ m, w' = wi.drewN m) (hS : SQ L wi b s P i) (h1 : wi.heap[k]? = some o) (h2 : wi.heap[g]? = some x) (h3 : w.grownBy wi (some b)) :
    e = v ∧ SQ L w' b s P i ∧ w'.heap[k]? = some o ∧ w'.heap[g]? = some x ∧ w.grownBy w' (some b) := by
  obtain ⟨rfl, m, rfl⟩ := h
  exact ⟨rfl, hS.heap rfl, h1, h2, gb_trans h3 (gb_drewN _ m _)⟩

theorem sig_enc (q : Nat) (h : q < 6) : Utf8.encode (sigC q) = ⟨#[UInt8.ofNat (sigC q)]⟩ := by
  have : q = 0 ∨ q = 1 ∨ q = 2 ∨ q = 3 ∨ q = 4 ∨ q = 5 := by omega
  rcases this with rfl | rfl | rfl | rfl | rfl | rfl <;> rfl
theorem tok_cells {w : World} {g : Nat} {a b c d : Value} {T : TypeId} (h : w.heap[g]? = some (.cells #[a, b, c, d] T (0, 0))) :
    w.cell? ⟨g, 0, none⟩ = some a ∧ w.cell? ⟨g, 1, none⟩ = some b ∧ w.cell? ⟨g, 2, none⟩ = some c ∧ w.cell? ⟨g, 3, none⟩ = some d ∧ w.frozen? ⟨g, 0, none⟩ = false ∧ w.frozen? ⟨g, 1, none⟩ = false ∧ w.frozen? ⟨g, 2, none⟩ = false ∧ w.frozen? ⟨g, 3, none⟩ = false :=
  ⟨by rw [blk_cell h]; rfl, by rw [blk_cell h]; rfl, by rw [blk_cell h]; rfl, by rw [blk_cell h]; rfl, blk_frozen0 h 0, blk_frozen0 h 1, blk_frozen0 h 2, blk_frozen0 h 3⟩

set_option maxRecDepth 100000 in
set_option maxHeartbeats 2000000 in
theorem token_any {L : Nat} (ws w : World) (b : Nat) (s : ByteArray) (P : List Pt) (i : Nat) (h : SQ L w b s P i) (hG : Glob ws) (hB : Below ws.heap.size ws w) (hwb : ws.heap.size ≤ b) (hs : s.size ≤ 100000) (hOK : PtsOK s P) (hi : i < P.length) :
    Calls Tryd.prog 10 #[.pointer (some ⟨b, 0, none⟩)] w (TokPost L w b s P (tokO s P i)) := by
  have hOK' := Lib.hid hOK
  have hPl := hOK.1
  have HL := h.le
  have hblt := h.lt
  have HB : Hid (∀ wr, w.grownBy wr (some b) → Below ws.heap.size ws wr) := fun wr hg => hB.trans (gb_to_below hg hwb hB.size)
  have hS : SQ L (w.alloc (.cells #[.int .i64 0, .string ⟨#[]⟩, .int .i64 0, .int .i64 0] 30)) b s P i := h.below ((Below.refl _ _).alloc (Nat.le_refl _) _)
  have hg := gb_below ((Below.refl w.heap.size w).alloc (Nat.le_refl _) (.cells #[.int .i64 0, .string ⟨#[]⟩, .int .i64 0, .int .i64 0] 30)) (some b)
  have hblk := blk_new w (.cells #[.int .i64 0, .string ⟨#[]⟩, .int .i64 0, .int .i64 0] 30)
  clear h hB hOK
  go_enter Tryd.func10, Tryd.ntmps10
  go_wp2_with fail
  generalize w.alloc (.cells #[.int .i64 0, .string ⟨#[]⟩, .int .i64 0, .int .i64 0] 30) = w0 at *
  cases hL : letB P i
  · refine (let_b _ b s P i hS _ hL).mono ?_; rintro e w1 ⟨rfl, m, hm⟩
    replace hS := hS.heap (w' := w1) (by rw [hm]; rfl)
    replace hg := gb_trans hg (show _ from hm ▸ gb_drewN _ m (some b))
    replace hblk : w1.heap[w.heap.size]? = some (.cells #[.int .i64 0, .string ⟨#[]⟩, .int .i64 0, .int .i64 0] 30 (0, 0)) := by rw [hm]; exact hblk
    clear hm
    have HLq := Lib.hid hL
    clear hL
    go_wp2_with fail
    cases hD : digB P i
    · refine (dig_b _ b s P i hS _ hD).mono ?_; rintro e w1 ⟨rfl, m, hm⟩
      replace hS := hS.heap (w' := w1) (by rw [hm]; rfl)
      replace hg := gb_trans hg (show _ from hm ▸ gb_drewN _ m (some b))
      replace hblk : w1.heap[w.heap.size]? = some (.cells #[.int .i64 0, .string ⟨#[]⟩, .int .i64 0, .int .i64 0] 30 (0, 0)) := by rw [hm]; exact hblk
      clear hm
      have HD := Lib.hid hD
      clear hD
      go_wp2_with fail
      cases h45 : isB P i 45
      · refine (is_b _ b s P i 0 45 hS (by omega) (by omega) _ h45).mono ?_; rintro e w1 ⟨rfl, m, hm⟩
        replace hS := hS.heap (w' := w1) (by rw [hm]; rfl)
        replace hg := gb_trans hg (show _ from hm ▸ gb_drewN _ m (some b))
        replace hblk : w1.heap[w.heap.size]? = some (.cells #[.int .i64 0, .string ⟨#[]⟩, .int .i64 0, .int .i64 0] 30 (0, 0)) := by rw [hm]; exact hblk
        clear hm
        have H45 := Lib.hid h45
        clear h45
        go_wp2_with fail
        cases h39 : isB P i 39
        · refine (is_b _ b s P i 0 39 hS (by omega) (by omega) _ h39).mono ?_; rintro e w1 ⟨rfl, m, hm⟩
          replace hS := hS.heap (w' := w1) (by rw [hm]; rfl)
          replace hg := gb_trans hg (show _ from hm ▸ gb_drewN _ m (some b))
          replace hblk : w1.heap[w.heap.size]? = some (.cells #[.int .i64 0, .string ⟨#[]⟩, .int .i64 0, .int .i64 0] 30 (0, 0)) := by rw [hm]; exact hblk
          clear hm
          have H39 := Lib.hid h39
          clear h39
          have HN : Hid (tokO s P i = if signB (rAt P i) then (⟨4, ⟨#[UInt8.ofNat (rAt P i).toNat]⟩, 0, i⟩, true, i + 1) else (⟨0, ⟨#[]⟩, 0, 0⟩, false, i)) := by show _ = _; unfold tokO; rw [HLq.out, HD.out, H45.out, H39.out]; rfl
          clear HLq HD H45 H39
          have hlt0 := blk_lt hblk
          go_wp2_with fail
          go_loopw [] (fun wr => ∃ (q : Nat), q ≤ 6 ∧ wr.heap[w1.heap.size]? = some (.stringIter sig6 q) ∧ SQ L wr b s P i ∧ wr.heap[w.heap.size]? = some (.cells #[.int .i64 0, .string ⟨#[]⟩, .int .i64 0, .int .i64 0] 30 (0, 0)) ∧ w.grownBy wr (some b) ∧ Hid (∀ k, k < q → isB P i (sigC k) = false)) (fun wr => 6 - wr.iterPos w1.heap.size)
          case atStart => exact ⟨0, by omega, World.iter_heap w1 sig6 0, hS.below ((Below.refl _ _).alloc (Nat.le_refl _) _), blk_alloc hblk _, gb_trans hg (gb_below ((Below.refl _ _).alloc (Nat.le_refl _) _) _), fun k hk => absurd hk (by omega)⟩
          case round =>
            obtain ⟨q, hq6, hit, hSr, hblkr, hgr, HQ⟩ := hrel
            have hpos0 := iterPos_of hit
            have hLb : L ≤ w1.heap.size := hS.le
            have hb1 : b < w1.heap.size := hS.lt
            by_cases hq : q < 6
            · have hnx : ∀ ty, (Instr.next (.pointer (some ⟨w1.heap.size, 0, none⟩)) true ty).run Tryd.prog wr = _ := fun ty => Lib.run_next_any_at wr w1.heap.size sig6 q ty hit (show q < sig6.size from hq)
              rw [sig6_dec q hq] at hnx
              have hit2 := Lib.iterAt_heap wr w1.heap.size sig6 q (q + 1) hit
              have hS2 : SQ L (wr.iterAt w1.heap.size sig6 (q + 1)) b s P i := hSr.keep (by rw [Lib.iterAt_size]; exact Nat.le_refl _) (fun k hk => Lib.iterAt_other _ _ _ _ _ (by omega))
              have hblk2 : (wr.iterAt w1.heap.size sig6 (q + 1)).heap[w.heap.size]? = some (.cells #[.int .i64 0, .string ⟨#[]⟩, .int .i64 0, .int .i64 0] 30 (0, 0)) := by rw [Lib.iterAt_other _ _ _ _ _ (by omega)]; exact hblkr
              have hg2 : w.grownBy (wr.iterAt w1.heap.size sig6 (q + 1)) (some b) := gb_iterAt hgr (by omega) _ _
              generalize wr.iterAt w1.heap.size sig6 (q + 1) = wi at *
              cases hB : isB P i (sigC q)
              · have HQ2 : Hid (∀ k, k < q + 1 → isB P i (sigC k) = false) := fun k hk => by
                  by_cases e : k = q
                  · rw [e]; exact hB
                  · exact HQ.out k (by omega)
                have hc := (is_b wi b s P i 0 (sigC q) hS2 (by omega) (by omega) _ hB).mono (fun e w' h => isx h hS2 hit2 hblk2 hg2)
                clear hB
                generalize sigC q = r at *
                go_wp2_with (go_at_call 12; refine hc.mono ?_; rintro e w2 ⟨rfl, hS3, hit3, hblk3, hg3⟩)
                go_roundw
                case rel => exact ⟨q + 1, by omega, hit3, hS3, hblk3, hg3, HQ2⟩
                case measure => rw [hpos0, iterPos_of hit3]; omega
              · have hc := (is_b wi b s P i 0 (sigC q) hS2 (by omega) (by omega) _ hB).mono (fun e w' h => isx h hS2 hit2 hblk2 hg2)
                obtain ⟨e1, e2⟩ := sig_yes hq hB
                rw [e2, e1] at HN
                clear hB
                have hr0 := sigC_lt q hq
                go_wp2_with (go_at_call 12; refine hc.mono ?_; rintro e w2 ⟨rfl, hS3, hit3, hblk3, hg3⟩; obtain ⟨c2, f2⟩ := sq_c2 hS3; obtain ⟨t0, t1, t2, t3, u0, u1, u2, u3⟩ := tok_cells hblk3)
                obtain ⟨r0, r1, r2, r3, hS4, hg4⟩ := res_fin (hS3.set (i + 1)) (blk_setOther hblk3 _ _ (by show w.heap.size ≠ b; omega)) (gb_trans hg3 (gb_set _ _ _ _)) HL (.int .i64 4) (.string (Utf8.encode (sigC q))) (.int .i64 0) (.int .i64 i) _ rfl
                rw [show ((i + 1 : Nat) : Int) = (i : Int) + 1 from by omega] at r0 r1 r2 r3 hS4 hg4
                refine bodyPost_ret (v := .tuple #[.agg #[.int .i64 4, .string (Utf8.encode (sigC q)), .int .i64 0, .int .i64 i], .bool true]) (by simp [results, Tryd.results10, go_sem, r0, r1, r2, r3]) rfl ?_
                rw [HN.out]; exact ⟨by rw [sig_enc q hq]; rfl, hS4, hg4⟩
            · have hnx : ∀ ty, (Instr.next (.pointer (some ⟨w1.heap.size, 0, none⟩)) true ty).run Tryd.prog wr = _ := fun ty => Lib.run_next_end_at wr w1.heap.size sig6 q ty hit hq
              have HF : Hid (signB (rAt P i) = false) := sig_no fun k hk => HQ.out k (by omega)
              obtain ⟨t0, t1, t2, t3, u0, u1, u2, u3⟩ := tok_cells hblkr
              go_wp2_with fail
              obtain ⟨r0, r1, r2, r3, hS4, hg4⟩ := res_fin hSr hblkr hgr HL (.int .i64 0) (.string ⟨#[]⟩) (.int .i64 0) (.int .i64 0) _ rfl
              refine bodyPost_ret (v := .tuple #[.agg #[.int .i64 0, .string ⟨#[]⟩, .int .i64 0, .int .i64 0], .bool false]) (by simp [results, Tryd.results10, go_sem, r0, r1, r2, r3]) rfl ?_
              rw [HN.out, HF.out]; exact ⟨rfl, hS4, hg4⟩
        · have HT : Hid (tokO s P i = textO s P i) := by show _ = _; unfold tokO; rw [HLq.out, HD.out, H45.out, h39]; rfl
          refine (is_b _ b s P i 0 39 hS (by omega) (by omega) _ h39).mono ?_; rintro e w1 ⟨rfl, m, hm⟩
          replace hS := hS.heap (w' := w1) (by rw [hm]; rfl)
          replace hg := gb_trans hg (show _ from hm ▸ gb_drewN _ m (some b))
          replace hblk : w1.heap[w.heap.size]? = some (.cells #[.int .i64 0, .string ⟨#[]⟩, .int .i64 0, .int .i64 0] 30 (0, 0)) := by rw [hm]; exact hblk
          clear hm
          clear h39
          go_wp2_with fail
          obtain ⟨X, hX⟩ : ∃ X, X = textO s P i := ⟨_, rfl⟩
          have hc := text_any ws _ b s P i hS hG (HB.out _ hg) hwb hs hOK'.out hi
          rw [← hX] at hc
          obtain ⟨⟨K, S, N, A⟩, ok, nx⟩ := X
          change Calls _ _ _ _ (fun e w' => e = .returned (.tuple #[.agg #[.int .i64 K, .string S, .int .i64 N, .int .i64 A], .bool ok]) ∧ SQ L w' b s P nx ∧ _) at hc
          refine hc.mono ?_; rintro e w2 ⟨rfl, hS2, hg2⟩
          replace hblk : w2.heap[w.heap.size]? = some (.cells #[.int .i64 0, .string ⟨#[]⟩, .int .i64 0, .int .i64 0] 30 (0, 0)) := by rw [hg2.block _ (blk_lt hblk) (by intro e; cases e; omega)]; exact hblk
          replace hg := gb_trans hg hg2
          clear hc hg2 hS
          have t0 : w2.cell? ⟨w.heap.size, 0, none⟩ = some (.int .i64 0) := by rw [blk_cell hblk]; rfl
          have t1 : w2.cell? ⟨w.heap.size, 1, none⟩ = some (.string ⟨#[]⟩) := by rw [blk_cell hblk]; rfl
          have t2 : w2.cell? ⟨w.heap.size, 2, none⟩ = some (.int .i64 0) := by rw [blk_cell hblk]; rfl
          have t3 : w2.cell? ⟨w.heap.size, 3, none⟩ = some (.int .i64 0) := by rw [blk_cell hblk]; rfl
          have u0 := blk_frozen0 hblk 0
          have u1 := blk_frozen0 hblk 1
          have u2 := blk_frozen0 hblk 2
          have u3 := blk_frozen0 hblk 3
          go_wp2_with fail
          obtain ⟨r0, r1, r2, r3, hS4, hg4⟩ := res_fin hS2 hblk hg HL (.int .i64 K) (.string S) (.int .i64 N) (.int .i64 A) _ rfl
          refine bodyPost_ret (v := .tuple #[.agg #[.int .i64 K, .string S, .int .i64 N, .int .i64 A], .bool ok]) (by simp [results, Tryd.results10, go_sem, r0, r1, r2, r3]) rfl ?_
          rw [HT.out, ← hX]; exact ⟨rfl, hS4, hg4⟩
      · have HT : Hid (tokO s P i = numberO P i) := by show _ = _; unfold tokO; rw [HLq.out, HD.out, h45]; rfl
        refine (is_b _ b s P i 0 45 hS (by omega) (by omega) _ h45).mono ?_; rintro e w1 ⟨rfl, m, hm⟩
        replace hS := hS.heap (w' := w1) (by rw [hm]; rfl)
        replace hg := gb_trans hg (show _ from hm ▸ gb_drewN _ m (some b))
        replace hblk : w1.heap[w.heap.size]? = some (.cells #[.int .i64 0, .string ⟨#[]⟩, .int .i64 0, .int .i64 0] 30 (0, 0)) := by rw [hm]; exact hblk
        clear hm
        clear h45
        go_wp2_with fail
        obtain ⟨X, hX⟩ : ∃ X, X = numberO P i := ⟨_, rfl⟩
        have hc := number_any _ b s P i hS hs hOK'.out hi
        rw [← hX] at hc
        obtain ⟨⟨K, S, N, A⟩, ok, nx⟩ := X
        change Calls _ _ _ _ (fun e w' => e = .returned (.tuple #[.agg #[.int .i64 K, .string S, .int .i64 N, .int .i64 A], .bool ok]) ∧ SQ L w' b s P nx ∧ _) at hc
        refine hc.mono ?_; rintro e w2 ⟨rfl, hS2, hg2⟩
        replace hblk : w2.heap[w.heap.size]? = some (.cells #[.int .i64 0, .string ⟨#[]⟩, .int .i64 0, .int .i64 0] 30 (0, 0)) := by rw [hg2.block _ (blk_lt hblk) (by intro e; cases e; omega)]; exact hblk
        replace hg := gb_trans hg hg2
        clear hc hg2 hS
        have t0 : w2.cell? ⟨w.heap.size, 0, none⟩ = some (.int .i64 0) := by rw [blk_cell hblk]; rfl
        have t1 : w2.cell? ⟨w.heap.size, 1, none⟩ = some (.string ⟨#[]⟩) := by rw [blk_cell hblk]; rfl
        have t2 : w2.cell? ⟨w.heap.size, 2, none⟩ = some (.int .i64 0) := by rw [blk_cell hblk]; rfl
        have t3 : w2.cell? ⟨w.heap.size, 3, none⟩ = some (.int .i64 0) := by rw [blk_cell hblk]; rfl
        have u0 := blk_frozen0 hblk 0
        have u1 := blk_frozen0 hblk 1
        have u2 := blk_frozen0 hblk 2
        have u3 := blk_frozen0 hblk 3
        go_wp2_with fail
        obtain ⟨r0, r1, r2, r3, hS4, hg4⟩ := res_fin hS2 hblk hg HL (.int .i64 K) (.string S) (.int .i64 N) (.int .i64 A) _ rfl
        refine bodyPost_ret (v := .tuple #[.agg #[.int .i64 K, .string S, .int .i64 N, .int .i64 A], .bool ok]) (by simp [results, Tryd.results10, go_sem, r0, r1, r2, r3]) rfl ?_
        rw [HT.out, ← hX]; exact ⟨rfl, hS4, hg4⟩
    · have HT : Hid (tokO s P i = numberO P i) := by show _ = _; unfold tokO; rw [HLq.out, hD]; rfl
      refine (dig_b _ b s P i hS _ hD).mono ?_; rintro e w1 ⟨rfl, m, hm⟩
      replace hS := hS.heap (w' := w1) (by rw [hm]; rfl)
      replace hg := gb_trans hg (show _ from hm ▸ gb_drewN _ m (some b))
      replace hblk : w1.heap[w.heap.size]? = some (.cells #[.int .i64 0, .string ⟨#[]⟩, .int .i64 0, .int .i64 0] 30 (0, 0)) := by rw [hm]; exact hblk
      clear hm
      clear hD
      go_wp2_with fail
      obtain ⟨X, hX⟩ : ∃ X, X = numberO P i := ⟨_, rfl⟩
      have hc := number_any _ b s P i hS hs hOK'.out hi
      rw [← hX] at hc
      obtain ⟨⟨K, S, N, A⟩, ok, nx⟩ := X
      change Calls _ _ _ _ (fun e w' => e = .returned (.tuple #[.agg #[.int .i64 K, .string S, .int .i64 N, .int .i64 A], .bool ok]) ∧ SQ L w' b s P nx ∧ _) at hc
      refine hc.mono ?_; rintro e w2 ⟨rfl, hS2, hg2⟩
      replace hblk : w2.heap[w.heap.size]? = some (.cells #[.int .i64 0, .string ⟨#[]⟩, .int .i64 0, .int .i64 0] 30 (0, 0)) := by rw [hg2.block _ (blk_lt hblk) (by intro e; cases e; omega)]; exact hblk
      replace hg := gb_trans hg hg2
      clear hc hg2 hS
      have t0 : w2.cell? ⟨w.heap.size, 0, none⟩ = some (.int .i64 0) := by rw [blk_cell hblk]; rfl
      have t1 : w2.cell? ⟨w.heap.size, 1, none⟩ = some (.string ⟨#[]⟩) := by rw [blk_cell hblk]; rfl
      have t2 : w2.cell? ⟨w.heap.size, 2, none⟩ = some (.int .i64 0) := by rw [blk_cell hblk]; rfl
      have t3 : w2.cell? ⟨w.heap.size, 3, none⟩ = some (.int .i64 0) := by rw [blk_cell hblk]; rfl
      have u0 := blk_frozen0 hblk 0
      have u1 := blk_frozen0 hblk 1
      have u2 := blk_frozen0 hblk 2
      have u3 := blk_frozen0 hblk 3
      go_wp2_with fail
      obtain ⟨r0, r1, r2, r3, hS4, hg4⟩ := res_fin hS2 hblk hg HL (.int .i64 K) (.string S) (.int .i64 N) (.int .i64 A) _ rfl
      refine bodyPost_ret (v := .tuple #[.agg #[.int .i64 K, .string S, .int .i64 N, .int .i64 A], .bool ok]) (by simp [results, Tryd.results10, go_sem, r0, r1, r2, r3]) rfl ?_
      rw [HT.out, ← hX]; exact ⟨rfl, hS4, hg4⟩
  · have HT : Hid (tokO s P i = wordO s P i) := by show _ = _; unfold tokO; rw [hL]; rfl
    refine (let_b _ b s P i hS _ hL).mono ?_; rintro e w1 ⟨rfl, m, hm⟩
    replace hS := hS.heap (w' := w1) (by rw [hm]; rfl)
    replace hg := gb_trans hg (show _ from hm ▸ gb_drewN _ m (some b))
    replace hblk : w1.heap[w.heap.size]? = some (.cells #[.int .i64 0, .string ⟨#[]⟩, .int .i64 0, .int .i64 0] 30 (0, 0)) := by rw [hm]; exact hblk
    clear hm
    clear hL
    go_wp2_with fail
    obtain ⟨X, hX⟩ : ∃ X, X = wordO s P i := ⟨_, rfl⟩
    have hc := word_any _ b s P i hS hs hOK'.out hi
    rw [← hX] at hc
    obtain ⟨⟨K, S, N, A⟩, ok, nx⟩ := X
    change Calls _ _ _ _ (fun e w' => e = .returned (.tuple #[.agg #[.int .i64 K, .string S, .int .i64 N, .int .i64 A], .bool ok]) ∧ SQ L w' b s P nx ∧ _) at hc
    refine hc.mono ?_; rintro e w2 ⟨rfl, hS2, hg2⟩
    replace hblk : w2.heap[w.heap.size]? = some (.cells #[.int .i64 0, .string ⟨#[]⟩, .int .i64 0, .int .i64 0] 30 (0, 0)) := by rw [hg2.block _ (blk_lt hblk) (by intro e; cases e; omega)]; exact hblk
    replace hg := gb_trans hg hg2
    clear hc hg2 hS
    have t0 : w2.cell? ⟨w.heap.size, 0, none⟩ = some (.int .i64 0) := by rw [blk_cell hblk]; rfl
    have t1 : w2.cell? ⟨w.heap.size, 1, none⟩ = some (.string ⟨#[]⟩) := by rw [blk_cell hblk]; rfl
    have t2 : w2.cell? ⟨w.heap.size, 2, none⟩ = some (.int .i64 0) := by rw [blk_cell hblk]; rfl
    have t3 : w2.cell? ⟨w.heap.size, 3, none⟩ = some (.int .i64 0) := by rw [blk_cell hblk]; rfl
    have u0 := blk_frozen0 hblk 0
    have u1 := blk_frozen0 hblk 1
    have u2 := blk_frozen0 hblk 2
    have u3 := blk_frozen0 hblk 3
    go_wp2_with fail
    obtain ⟨r0, r1, r2, r3, hS4, hg4⟩ := res_fin hS2 hblk hg HL (.int .i64 K) (.string S) (.int .i64 N) (.int .i64 A) _ rfl
    refine bodyPost_ret (v := .tuple #[.agg #[.int .i64 K, .string S, .int .i64 N, .int .i64 A], .bool ok]) (by simp [results, Tryd.results10, go_sem, r0, r1, r2, r3]) rfl ?_
    rw [HT.out, ← hX]; exact ⟨rfl, hS4, hg4⟩
end Go.Proofs.YtfbgdjcnlnfoaaaDoor
