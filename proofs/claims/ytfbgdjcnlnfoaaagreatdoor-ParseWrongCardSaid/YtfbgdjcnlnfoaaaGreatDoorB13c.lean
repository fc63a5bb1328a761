/- Parts of the proof, joined: PrsW5. -/
import Derived.Test.YtfbgdjcnlnfoaaaGreatDoorB12j
namespace Go.Proofs.YtfbgdjcnlnfoaaaGreatDoor
open Go.RowKit
open Cle

set_option maxRecDepth 100000 in
set_option maxHeartbeats 3000000 in
theorem parse_ok5 {s : ByteArray} {w : World} (hG : Gp w) (he : (lexL s).2.2 = 0) (hC : ¬ (Tx.may (⟨(lexL s).1, (pts s).length⟩ : Tx) (Tx.stF (⟨(lexL s).1, (pts s).length⟩ : Tx) ((lexL s).1.length + 2) ⟨0, none⟩).2 (⟨#[59]⟩ : ByteArray)).i < (lexL s).1.length ∧ (Tx.may (⟨(lexL s).1, (pts s).length⟩ : Tx) (Tx.stF (⟨(lexL s).1, (pts s).length⟩ : Tx) ((lexL s).1.length + 2) ⟨0, none⟩).2 (⟨#[59]⟩ : ByteArray)).bad = none ∧ ∃ x, (Tx.stF (⟨(lexL s).1, (pts s).length⟩ : Tx) ((lexL s).1.length + 2) ⟨0, none⟩).1 = .batch x) : Calls Tryz.prog 18 #[.string s] w (GaveP w s) := by
  have hB1 := (Below.refl w.heap.size w).alloc (Nat.le_refl _) (.cells #[.int .i64 0, .string ⟨#[]⟩, .string ⟨#[]⟩, .string ⟨#[]⟩, .string ⟨#[]⟩, .int .i64 0, .string ⟨#[]⟩, .int .i64 0, .string ⟨#[]⟩, .int .i64 0, .slice none 0 0, .slice none 0 0, .slice none 0 0, .slice none 0 0, .int .i64 0, .int .i64 0, .int .i64 0, .slice none 0 0] 31)
  have hb0 : (w.alloc (.cells #[.int .i64 0, .string ⟨#[]⟩, .string ⟨#[]⟩, .string ⟨#[]⟩, .string ⟨#[]⟩, .int .i64 0, .string ⟨#[]⟩, .int .i64 0, .string ⟨#[]⟩, .int .i64 0, .slice none 0 0, .slice none 0 0, .slice none 0 0, .slice none 0 0, .int .i64 0, .int .i64 0, .int .i64 0, .slice none 0 0] 31)).heap[w.heap.size]? = some (.cells #[.int .i64 0, .string ⟨#[]⟩, .string ⟨#[]⟩, .string ⟨#[]⟩, .string ⟨#[]⟩, .int .i64 0, .string ⟨#[]⟩, .int .i64 0, .string ⟨#[]⟩, .int .i64 0, .slice none 0 0, .slice none 0 0, .slice none 0 0, .slice none 0 0, .int .i64 0, .int .i64 0, .int .i64 0, .slice none 0 0] 31 (0, 0)) := blk_new w _
  have hlex := lexall_any s _ (hG.below hB1).1
  obtain ⟨hLx, hsz⟩ := lexL_lx he
  have q1 : ((lexL s).2.2 != 0) = false := by rw [he]; rfl
  have hX := Lx.ok hLx (pts s).length
  obtain ⟨⟨nd, τ⟩, hpt⟩ : ∃ r, parseT ⟨(lexL s).1, (pts s).length⟩ = r := ⟨_, rfl⟩
  have HE : Hid (parseL s = match τ.bad with | some a => (Stt.zero, (a : Int), 3) | none => if 1000 < (textS (ndS nd)).size then (Stt.zero, 0, 2) else (ndS nd, 0, 0)) := by
    show _ = _; unfold parseL; simp only; rw [if_neg (by rw [he]; simp), hpt]; rfl
  have HST : Hid (τ.bad = none → StOK (ndS nd).x ∧ (∀ y ∈ (ndS nd).parts, StOK y) ∧ (ndS nd).parts.length ≤ 8) := fun hb => by
    obtain ⟨L, R, hGN, _, _⟩ := parseT_con hX (by rw [hpt]; exact hb)
    rw [hpt] at hGN
    exact hGN.st
  unfold parseT at hpt
  simp only at hpt
  obtain ⟨⟨nd', σ1⟩, h1⟩ : ∃ r, Tx.stF ⟨(lexL s).1, (pts s).length⟩ ((lexL s).1.length + 2) ⟨0, none⟩ = r := ⟨_, rfl⟩
  rw [h1] at hpt
  obtain ⟨σ2, h2⟩ : ∃ r, Tx.may ⟨(lexL s).1, (pts s).length⟩ σ1 (⟨#[59]⟩ : ByteArray) = r := ⟨_, rfl⟩
  rw [h2] at hpt
  injection hpt with hnd hτ
  rw [h1] at hC
  simp only [h2] at hC
  have HC := Lib.hid hC
  clear hC
  subst hnd
  have hbz := build_z
  have HG := Lib.hid hG
  have Hsz := Lib.hid hsz
  clear he hG hsz hLx hX
  go_enter Tryz.func18, Tryz.ntmps18
  go_wp2_with fail
  refine hlex.mono ?_; rintro e w2 ⟨⟨v, rfl, hrow⟩, hb2⟩
  have hB2 := hB1.trans (hb2.mono hB1.size)
  have hb0' := blk_below hb0 hb2 (blk_lt hb0)
  obtain ⟨ta, tcap, rfl, _⟩ := row_read hrow
  have hct := count_any s w2 (by have := Hsz.out; omega)
  go_wp2_with fail
  refine hct.mono ?_; rintro e w3 ⟨rfl, hb3⟩
  have hB3 := hB2.trans (hb3.mono hB2.size)
  have hb0'' := blk_below hb0' hb3 (blk_lt hb0')
  obtain ⟨K, hKb, hKL, hKX, hKw, hPQ⟩ := pk_new (HG.out.below hB3) Hsz.out hrow hb3
  have hD4 := Did.refl hPQ
  have hb4 := blk_alloc hb0'' (.cells #[.slice ta (lexL s).1.length tcap, .int .i64 0, .int .i64 (pts s).length, .int .i64 (-1)] 69)
  have hst := statement_any (K := K) ((lexL s).1.length + 2) hPQ (by rw [hKX]; show (lexL s).1.length - 0 < _; omega)
  rw [hKX, h1, hKb] at hst
  go_wp2_with fail
  refine hst.mono ?_; intro e w5 hz
  obtain ⟨v9, rfl, hd5, hn5⟩ := GaveNd_ex hz
  have hD5 := hD4.trans hd5
  have hmay := may_any hd5.1 (⟨#[59]⟩ : ByteArray)
  rw [hKX, h2, hKb] at hmay
  go_wp2_with fail
  refine hmay.mono ?_; rintro e w6 ⟨rfl, hd6⟩
  have hD6 := hD5.trans hd6
  have hn6 := hn5.did hd6 (by rw [hKL, sz_alloc]; exact Nat.le_refl _)
  have hLb : K.L ≤ (w3.alloc (.cells #[.slice ta (lexL s).1.length tcap, .int .i64 0, .int .i64 (pts s).length, .int .i64 (-1)] 69)).heap.size := by rw [hKL, sz_alloc]; exact Nat.le_refl _
  obtain ⟨ta2, tcap2, c0, c1, c2, c3, _, f3, _⟩ := hD6.1.cells
  rw [hKb] at c0 c1 c2 c3 f3
  rw [hKX] at c0 c2
  have HX := Lib.hid hKX
  have HKB := Lib.hid hKb
  have HKL := Lib.hid hKL
  have HTau := Lib.hid hτ
  clear hKX hKb hKL hτ h1 h2 hst hmay hct hlex
  have hB4 := hB3.alloc hB3.size (.cells #[.slice ta (lexL s).1.length tcap, .int .i64 0, .int .i64 (pts s).length, .int .i64 (-1)] 69)
  have HNE : Hid (K.b ≠ w.heap.size) := by show _ ≠ _; rw [HKB.out]; have := blk_lt hb0''; omega
  by_cases hlt : σ2.i < (lexL s).1.length
  · exact absurd hlt HC.out.1
  · have p0 : ¬ (σ2.i : Int) < ((lexL s).1.length : Int) := by omega
    have HT3 : Hid (τ = σ2) := by show _ = _; rw [← HTau.out, if_neg hlt]
    cases hbad : σ2.bad with
    | some bd => exact absurd hbad (by rw [HC.out.2.1]; simp)
    | none =>
      go_wp2_with fail
      go_quiet (fail)
      go_wp2_with fail
      have hD9 := hD6.drewN nq
      have hn9 := hn6.below (Cle.below_drewN (Below.refl w6.heap.size w6) nq)
      generalize w6.drewN nq = w9 at *
      have hok := pok_b hD9.1 (v := true) (by rw [hbad]; rfl)
      rw [HKB.out] at hok
      have hst := HST.out (by rw [HT3.out]; exact hbad)
      have HP : Hid (parseL s = if 1000 < (textS (ndS nd')).size then (Stt.zero, 0, 2) else (ndS nd', 0, 0)) := by
        show _ = _
        rw [HE.out, HT3.out, hbad]
      clear hbad
      go_wp2_with fail
      refine hok.mono ?_; rintro e wy ⟨rfl, my, rfl⟩
      have hD10 := hD9.drewN my
      have hn10 := hn9.below (Cle.below_drewN (Below.refl w9.heap.size w9) my)
      generalize w9.drewN my = wx at *
      have hbx := did_blk hD10 hb4 HNE.out
      have hBx := hB4.grown hD10.2.1 hB4.size (fun k hk => by cases hk; rw [HKB.out]; exact hB3.size)
      cases nd' with
      | plain x => obtain ⟨_, h⟩ := HC.out.2.2; exact absurd h (by simp)
      | change x => obtain ⟨_, h⟩ := HC.out.2.2; exact absurd h (by simp)
      | batch l =>
        obtain ⟨L, a, cap, hLx, rfl, hrow2, hpv⟩ := hn10
        have hmt := mt_ba
        have hL8 : L.length ≤ 8 := by have h := hst.2.2; rw [show (ndS (.batch l)).parts = l from rfl, ← hLx, List.length_map] at h; exact h
        have hsm := stmt_ba (w := wx) (L := L) (by omega) hrow2 hpv
        go_wp2_with fail
        refine hsm.mono ?_; rintro e wA ⟨a3, c3, rfl, hbs, hrq0⟩
        have hszx := hBx.size
        have hszx2 := hD10.size
        have hpv1 : PvRows wx (w.heap.size + 1) L := fun q hq => (hpv q hq).mono (by rw [sz_alloc]; have := hB3.size; omega)
        have hpq : PvRows wA (w.heap.size + 1) L := hpv1.map fun _ _ _ _ _ _ hr => row_below hr hbs
        have hrq1 := ownsRow_mono hrq0 (show w.heap.size + 1 ≤ wx.heap.size by rw [sz_alloc] at hszx2; have := hB3.size; omega)
        have hrq : wA.ownsRow (w.heap.size + 1) 31 18 (.slice a3 L.length c3) L.length (flatW (L.map fun q => ⟨q.x, q.tc, q.c, q.s, q.wv, vnil⟩)) := by
          have e : flatW (L.map fun q : Pv => (⟨q.x, q.tc, q.c, q.s, q.wv, vnil⟩ : Pw)) = flatP L := by unfold flatW flatP; rw [List.flatMap_map]; rfl
          rw [e]; exact hrq1

        have hbA := blk_below hbx hbs (blk_lt hbx)
        have hBA := hBx.trans (hbs.mono hBx.size)
        have hone : (stC { Sx.zero with kind := 9 } vnil vnil vnil vnil (.slice a3 L.length c3)).toList.all (·.oneCell') = true := rfl
        have hW := blk_new wA (.cells (stC { Sx.zero with kind := 9 } vnil vnil vnil vnil (.slice a3 L.length c3)) 31)
        have hBA' := hBA.alloc hBA.size (.cells (stC { Sx.zero with kind := 9 } vnil vnil vnil vnil (.slice a3 L.length c3)) 31)
        have hT : Calls Tryz.prog 30 #[.agg (stC { Sx.zero with kind := 9 } vnil vnil vnil vnil (.slice a3 L.length c3))] (wA.alloc (.cells (stC { Sx.zero with kind := 9 } vnil vnil vnil vnil (.slice a3 L.length c3)) 31)) fun e w' => e = .returned (.string (textS (ndS (.batch l)))) ∧ Below (wA.alloc (.cells (stC { Sx.zero with kind := 9 } vnil vnil vnil vnil (.slice a3 L.length c3)) 31)).heap.size (wA.alloc (.cells (stC { Sx.zero with kind := 9 } vnil vnil vnil vnil (.slice a3 L.length c3)) 31)) w' := by
            have e : (L.map fun q : Pv => (⟨q.x, q.tc, q.c, q.s, q.wv, vnil⟩ : Pw)).map Pw.x = l := by rw [← hLx, List.map_map]; rfl
            have h := gtext_any (p := ⟨{ Sx.zero with kind := 9 }, vnil, vnil, vnil, vnil, .slice a3 L.length c3⟩) (L := L.map fun q => ⟨q.x, q.tc, q.c, q.s, q.wv, vnil⟩) (HG.out.below hBA') ⟨zero_st 9, (rows_zero _ 0 _ rfl rfl rfl rfl).rd, rfl⟩ (fun _ => ⟨by rw [List.length_map]; omega, by rw [List.length_map]; exact Rd.own (hrq.alloc _), fun q hq => by
              obtain ⟨q0, hq0, rfl⟩ := List.mem_map.1 hq
              exact ⟨⟨hst.2.1 q0.x (by show q0.x ∈ l; rw [← hLx]; exact List.mem_map_of_mem hq0), ((hpq q0 hq0).map fun _ _ _ _ _ _ hr => hr.alloc _).rd, rfl⟩, Rd_nil _⟩⟩)
            rw [e] at h
            exact h
        obtain ⟨tx, htx⟩ : ∃ r, textS (ndS (.batch l)) = r := ⟨_, rfl⟩
        rw [htx] at hT HP
        have HP2 := Lib.hid HP.out
        clear HP htx
        go_wp2_with (first | refine wpl_sto2 rfl _ _ rfl rfl rfl rfl rfl hone ?_ | refine wpl_st rfl _ rfl rfl rfl hW ?_)
        refine hT.mono ?_; rintro e wB ⟨rfl, hbB⟩
        have hWB := blk_below hW hbB (blk_lt hW)
        have hbB0 := blk_below (blk_alloc hbA _) hbB (blk_lt (blk_alloc hbA _))
        have hBB := hBA'.trans (hbB.mono hBA'.size)
        have hHB := (show HasS wA (w.heap.size + 1) ⟨{ Sx.zero with kind := 9 }, vnil, vnil, vnil, vnil, .slice a3 L.length c3⟩ (L.map fun q => ⟨q.x, q.tc, q.c, q.s, q.wv, vnil⟩) (ndS (.batch l)) from ⟨rfl, by rw [← hLx, List.map_map]; rfl, rows_zero _ _ _ rfl rfl rfl rfl, by rw [List.length_map]; exact hrq, fun q hq => by
            obtain ⟨q0, hq0, rfl⟩ := List.mem_map.1 hq
            exact ⟨hpq q0 hq0, rfl⟩⟩).below ((Below.refl wA.heap.size wA).alloc (Nat.le_refl _) (.cells (stC { Sx.zero with kind := 9 } vnil vnil vnil vnil (.slice a3 L.length c3)) 31) |>.trans (hbB.mono (by rw [sz_alloc]; omega)))
        by_cases hbig : 1000 < tx.size
        · have p9 : (1000 : Int) < (tx.size : Int) := by omega
          have HQ : Hid (parseL s = (Stt.zero, 0, 2)) := by show _ = _; rw [HP2.out, if_pos hbig]
          clear hbig
          go_wp2_with (refine wpl_whole rfl _ _ rfl rfl rfl hbB0 rfl rfl rfl ?_; intro wz hwz)
          refine bodyPost_ret (results_cell3 rfl rfl (lv18 hwz.blk rfl)) rfl ?_
          exact GaveP_of (p := pz) HQ.out (hwz.below _ _ hBB (Nat.le_refl _)) (pz_has _ _)
        · have p9 : ¬ (1000 : Int) < (tx.size : Int) := by omega
          have HQ : Hid (parseL s = (ndS (.batch l), 0, 0)) := by show _ = _; rw [HP2.out, if_neg hbig]
          clear hbig
          go_wp2_with (first | refine wpl_st rfl _ rfl rfl rfl hWB ?_ | (refine wpl_whole rfl _ _ rfl rfl rfl hbB0 rfl rfl hone ?_; intro wz hwz))
          refine bodyPost_ret (results_cell3 rfl rfl (lv18 hwz.blk rfl)) rfl ?_
          exact GaveP_of (p := ⟨{ Sx.zero with kind := 9 }, vnil, vnil, vnil, vnil, .slice a3 L.length c3⟩) HQ.out (hwz.below _ _ hBB (Nat.le_refl _)) ((hwz.has hHB (Nat.lt_succ_self _)).mono (Nat.le_succ _))
end Go.Proofs.YtfbgdjcnlnfoaaaGreatDoor

