/- Parts of the proof, joined: PrsW1 PrsW2. -/
import Derived.Test.YtfbgdjcnlnfoaaaGreatDoorB12j
namespace Go.Proofs.YtfbgdjcnlnfoaaaGreatDoor
open Go.RowKit
open Cle

set_option maxRecDepth 100000 in
set_option maxHeartbeats 3000000 in
theorem parse_ok1 {s : ByteArray} {w : World} (hG : Gp w) (he : (lexL s).2.2 = 0) (hC : (Tx.may (⟨(lexL s).1, (pts s).length⟩ : Tx) (Tx.stF (⟨(lexL s).1, (pts s).length⟩ : Tx) ((lexL s).1.length + 2) ⟨0, none⟩).2 (⟨#[59]⟩ : ByteArray)).i < (lexL s).1.length) : Calls Tryz.prog 18 #[.string s] w (GaveP w s) := by
  have hB1 := (Below.refl w.heap.size w).alloc (Nat.le_refl _) (.cells #[.int .i64 0, .string ⟨#[]⟩, .string ⟨#[]⟩, .string ⟨#[]⟩, .string ⟨#[]⟩, .int .i64 0, .string ⟨#[]⟩, .int .i64 0, .string ⟨#[]⟩, .int .i64 0, .slice none 0 0, .slice none 0 0, .slice none 0 0, .slice none 0 0, .int .i64 0, .int .i64 0, .int .i64 0, .slice none 0 0] 31)
  have hb0 : (w.alloc (.cells #[.int .i64 0, .string ⟨#[]⟩, .string ⟨#[]⟩, .string ⟨#[]⟩, .string ⟨#[]⟩, .int .i64 0, .string ⟨#[]⟩, .int .i64 0, .string ⟨#[]⟩, .int .i64 0, .slice none 0 0, .slice none 0 0, .slice none 0 0, .slice none 0 0, .int .i64 0, .int .i64 0, .int .i64 0, .slice none 0 0] 31)).heap[w.heap.size]? = some (.cells #[.int .i64 0, .string ⟨#[]⟩, .string ⟨#[]⟩, .string ⟨#[]⟩, .string ⟨#[]⟩, .int .i64 0, .string ⟨#[]⟩, .int .i64 0, .string ⟨#[]⟩, .int .i64 0, .slice none 0 0, .slice none 0 0, .slice none 0 0, .slice none 0 0, .int .i64 0, .int .i64 0, .int .i64 0, .slice none 0 0] 31 (0, 0)) := blk_new w _
  have hlex := lexall_any s _ (hG.below hB1).1
  obtain ⟨hLx, hsz⟩ := lexL_lx he
  have q1 : ((lexL s).2.2 != 0) = false := by rw [he]; rfl
  have hX := Lx.ok hLx (pts s).length
  obtain ⟨⟨nd, τ⟩, hpt⟩ : ∃ r, parseT ⟨(lexL s).1, (pts s).length⟩ = r := ⟨_, rfl⟩
  have HE : Hid (parseL s = match τ.bad with | some a => (Stt.zero, (a : Int), 3) | none => if 1000 < (textS (ndS nd)).size then (Stt.zero, 0, 2) else (ndS nd, 0, 0)) := by
    show _ = _; unfold parseL; simp only; rw [if_neg (by rw [he]; simp), hpt]; rfl
  have HST : Hid (τ.bad = none → StOK (ndS nd).x ∧ (∀ y ∈ (ndS nd).parts, StOK y) ∧ (ndS nd).parts.length ≤ 8) := fun hb => by
    obtain ⟨L, R, hGN, _, _⟩ := parseT_con hX (by rw [hpt]; exact hb)
    rw [hpt] at hGN
    exact hGN.st
  unfold parseT at hpt
  simp only at hpt
  obtain ⟨⟨nd', σ1⟩, h1⟩ : ∃ r, Tx.stF ⟨(lexL s).1, (pts s).length⟩ ((lexL s).1.length + 2) ⟨0, none⟩ = r := ⟨_, rfl⟩
  rw [h1] at hpt
  obtain ⟨σ2, h2⟩ : ∃ r, Tx.may ⟨(lexL s).1, (pts s).length⟩ σ1 (⟨#[59]⟩ : ByteArray) = r := ⟨_, rfl⟩
  rw [h2] at hpt
  injection hpt with hnd hτ
  rw [h1] at hC
  simp only [h2] at hC
  have HC := Lib.hid hC
  clear hC
  subst hnd
  have hbz := build_z
  have HG := Lib.hid hG
  have Hsz := Lib.hid hsz
  clear he hG hsz hLx hX
  go_enter Tryz.func18, Tryz.ntmps18
  go_wp2_with fail
  refine hlex.mono ?_; rintro e w2 ⟨⟨v, rfl, hrow⟩, hb2⟩
  have hB2 := hB1.trans (hb2.mono hB1.size)
  have hb0' := blk_below hb0 hb2 (blk_lt hb0)
  obtain ⟨ta, tcap, rfl, _⟩ := row_read hrow
  have hct := count_any s w2 (by have := Hsz.out; omega)
  go_wp2_with fail
  refine hct.mono ?_; rintro e w3 ⟨rfl, hb3⟩
  have hB3 := hB2.trans (hb3.mono hB2.size)
  have hb0'' := blk_below hb0' hb3 (blk_lt hb0')
  obtain ⟨K, hKb, hKL, hKX, hKw, hPQ⟩ := pk_new (HG.out.below hB3) Hsz.out hrow hb3
  have hD4 := Did.refl hPQ
  have hb4 := blk_alloc hb0'' (.cells #[.slice ta (lexL s).1.length tcap, .int .i64 0, .int .i64 (pts s).length, .int .i64 (-1)] 69)
  have hst := statement_any (K := K) ((lexL s).1.length + 2) hPQ (by rw [hKX]; show (lexL s).1.length - 0 < _; omega)
  rw [hKX, h1, hKb] at hst
  go_wp2_with fail
  refine hst.mono ?_; intro e w5 hz
  obtain ⟨v9, rfl, hd5, hn5⟩ := GaveNd_ex hz
  have hD5 := hD4.trans hd5
  have hmay := may_any hd5.1 (⟨#[59]⟩ : ByteArray)
  rw [hKX, h2, hKb] at hmay
  go_wp2_with fail
  refine hmay.mono ?_; rintro e w6 ⟨rfl, hd6⟩
  have hD6 := hD5.trans hd6
  have hn6 := hn5.did hd6 (by rw [hKL, sz_alloc]; exact Nat.le_refl _)
  have hLb : K.L ≤ (w3.alloc (.cells #[.slice ta (lexL s).1.length tcap, .int .i64 0, .int .i64 (pts s).length, .int .i64 (-1)] 69)).heap.size := by rw [hKL, sz_alloc]; exact Nat.le_refl _
  obtain ⟨ta2, tcap2, c0, c1, c2, c3, _, f3, _⟩ := hD6.1.cells
  rw [hKb] at c0 c1 c2 c3 f3
  rw [hKX] at c0 c2
  have HX := Lib.hid hKX
  have HKB := Lib.hid hKb
  have HKL := Lib.hid hKL
  have HTau := Lib.hid hτ
  clear hKX hKb hKL hτ h1 h2 hst hmay hct hlex
  have hB4 := hB3.alloc hB3.size (.cells #[.slice ta (lexL s).1.length tcap, .int .i64 0, .int .i64 (pts s).length, .int .i64 (-1)] 69)
  have HNE : Hid (K.b ≠ w.heap.size) := by show _ ≠ _; rw [HKB.out]; have := blk_lt hb0''; omega
  by_cases hlt : σ2.i < (lexL s).1.length
  · have p0 : (σ2.i : Int) < ((lexL s).1.length : Int) := by omega
    have hf := Tx.fail ⟨(lexL s).1, (pts s).length⟩ σ2
    obtain ⟨σ3, h3⟩ : ∃ r, Tx.fail ⟨(lexL s).1, (pts s).length⟩ σ2 = r := ⟨_, rfl⟩
    have HT3 : Hid (τ = σ3) := by show _ = _; rw [← HTau.out, if_pos hlt, h3]
    have H3 := Lib.hid h3
    obtain ⟨bd, hbad⟩ : ∃ bd, σ3.bad = some bd := by
      cases hb : σ3.bad with
      | some a => exact ⟨a, rfl⟩
      | none => rw [← h3] at hb; exact absurd hb fail_some
    clear h3 hf
    go_wp2_with fail
    go_quiet (fail)
    go_wp2_with fail
    have hD7 := hD6.drewN nq
    generalize w6.drewN nq = w7 at *
    have hat := here_any hD7.1
    rw [HX.out, HKB.out] at hat
    refine hat.mono ?_; rintro e w8 ⟨rfl, m8, rfl⟩
    have hD8 := hD7.drewN m8
    generalize w7.drewN m8 = w8 at *
    have hwr := wrong_any hD8.1 (Tx.here ⟨(lexL s).1, (pts s).length⟩ σ2)
    rw [HKB.out] at hwr
    go_wp2_with fail
    refine hwr.mono ?_; rintro e w9 ⟨rfl, hd9⟩
    have hD9 := hD8.trans hd9
    replace hD9 : Did K (w3.alloc (.cells #[.slice ta (lexL s).1.length tcap, .int .i64 0, .int .i64 (pts s).length, .int .i64 (-1)] 69)) σ3 w9 := by have h := hD9; rw [show σ2.wrong (Tx.here ⟨(lexL s).1, (pts s).length⟩ σ2) = σ3 from H3.out] at h; exact h
    have hok := pok_b hD9.1 (v := false) (by rw [hbad]; rfl)
    rw [HKB.out] at hok
    go_wp2_with fail
    refine hok.mono ?_; rintro e wy ⟨rfl, my, rfl⟩
    have hD10 := hD9.drewN my
    generalize w9.drewN my = wx at *
    obtain ⟨_, _, _, _, _, e3, _, g3, _⟩ := hD10.1.cells
    rw [HKB.out] at e3 g3
    have hbI : σ3.badI = (bd : Int) := by unfold Ps.badI; rw [hbad]
    rw [hbI] at e3
    have hbx := did_blk hD10 hb4 HNE.out
    have hBx := hB4.grown hD10.2.1 hB4.size (fun k hk => by cases hk; rw [HKB.out]; exact hB3.size)
    have HP : Hid (parseL s = (Stt.zero, (bd : Int), 3)) := by
      show _ = _
      rw [HE.out, HT3.out, hbad]
    clear hbad hbI
    go_wp2_with fail
    obtain ⟨zc0, zc1, zc2, zc3, zc4, zc5, zc6, zc7, zc8, zc9, zc10, zc11, zc12, zc13, zc14, zc15, zc16, zc17⟩ := z18_cells hbx
    obtain ⟨zf0, zf1, zf2, zf3, zf4, zf5, zf6, zf7, zf8, zf9, zf10, zf11, zf12, zf13, zf14, zf15, zf16, zf17⟩ := z18_froz hbx
    have hwz := wrote_cells (w := wx) (V := #[.int .i64 0, .string ⟨#[]⟩, .string ⟨#[]⟩, .string ⟨#[]⟩, .string ⟨#[]⟩, .int .i64 0, .string ⟨#[]⟩, .int .i64 0, .string ⟨#[]⟩, .int .i64 0, .slice none 0 0, .slice none 0 0, .slice none 0 0, .slice none 0 0, .int .i64 0, .int .i64 0, .int .i64 0, .slice none 0 0]) hbx rfl rfl
    obtain ⟨wz, hwzE⟩ : ∃ wz, wz = wx.setCells w.heap.size 0 [.int .i64 0, .string ⟨#[]⟩, .string ⟨#[]⟩, .string ⟨#[]⟩, .string ⟨#[]⟩, .int .i64 0, .string ⟨#[]⟩, .int .i64 0, .string ⟨#[]⟩, .int .i64 0, .slice none 0 0, .slice none 0 0, .slice none 0 0, .slice none 0 0, .int .i64 0, .int .i64 0, .int .i64 0, .slice none 0 0] := ⟨_, rfl⟩
    replace hwz : Wrote wx w.heap.size #[.int .i64 0, .string ⟨#[]⟩, .string ⟨#[]⟩, .string ⟨#[]⟩, .string ⟨#[]⟩, .int .i64 0, .string ⟨#[]⟩, .int .i64 0, .string ⟨#[]⟩, .int .i64 0, .slice none 0 0, .slice none 0 0, .slice none 0 0, .slice none 0 0, .int .i64 0, .int .i64 0, .int .i64 0, .slice none 0 0] 31 (wx.setCells w.heap.size 0 [.int .i64 0, .string ⟨#[]⟩, .string ⟨#[]⟩, .string ⟨#[]⟩, .string ⟨#[]⟩, .int .i64 0, .string ⟨#[]⟩, .int .i64 0, .string ⟨#[]⟩, .int .i64 0, .slice none 0 0, .slice none 0 0, .slice none 0 0, .slice none 0 0, .int .i64 0, .int .i64 0, .int .i64 0, .slice none 0 0]) := hwz
    rw [← hwzE] at hwz
    simp only [World.setCells, Nat.zero_add, Nat.reduceAdd] at hwzE
    have HWZ := Lib.hid hwzE
    clear hwzE
    have hne1 : ¬ w3.heap.size = w.heap.size := by have := blk_lt hb0''; omega
    have hne2 : ¬ w.heap.size = w3.heap.size := by have := blk_lt hb0''; omega
    go_region
    all_goals
      go_wp2_with fail
      rw [← HWZ.out]
      refine bodyPost_ret (results_cell3 rfl rfl (lv18 (w := wz.drew) hwz.blk rfl)) rfl ?_
      exact GaveP_of (p := pz) HP.out (hwz.below _ _ hBx (Nat.le_refl _)).drew (pz_has _ _)
  · exact absurd HC.out hlt
end Go.Proofs.YtfbgdjcnlnfoaaaGreatDoor

namespace Go.Proofs.YtfbgdjcnlnfoaaaGreatDoor
open Go.RowKit
open Cle

set_option maxRecDepth 100000 in
set_option maxHeartbeats 3000000 in
theorem parse_ok2 {s : ByteArray} {w : World} (hG : Gp w) (he : (lexL s).2.2 = 0) (hC : ¬ (Tx.may (⟨(lexL s).1, (pts s).length⟩ : Tx) (Tx.stF (⟨(lexL s).1, (pts s).length⟩ : Tx) ((lexL s).1.length + 2) ⟨0, none⟩).2 (⟨#[59]⟩ : ByteArray)).i < (lexL s).1.length ∧ (Tx.may (⟨(lexL s).1, (pts s).length⟩ : Tx) (Tx.stF (⟨(lexL s).1, (pts s).length⟩ : Tx) ((lexL s).1.length + 2) ⟨0, none⟩).2 (⟨#[59]⟩ : ByteArray)).bad ≠ none) : Calls Tryz.prog 18 #[.string s] w (GaveP w s) := by
  have hB1 := (Below.refl w.heap.size w).alloc (Nat.le_refl _) (.cells #[.int .i64 0, .string ⟨#[]⟩, .string ⟨#[]⟩, .string ⟨#[]⟩, .string ⟨#[]⟩, .int .i64 0, .string ⟨#[]⟩, .int .i64 0, .string ⟨#[]⟩, .int .i64 0, .slice none 0 0, .slice none 0 0, .slice none 0 0, .slice none 0 0, .int .i64 0, .int .i64 0, .int .i64 0, .slice none 0 0] 31)
  have hb0 : (w.alloc (.cells #[.int .i64 0, .string ⟨#[]⟩, .string ⟨#[]⟩, .string ⟨#[]⟩, .string ⟨#[]⟩, .int .i64 0, .string ⟨#[]⟩, .int .i64 0, .string ⟨#[]⟩, .int .i64 0, .slice none 0 0, .slice none 0 0, .slice none 0 0, .slice none 0 0, .int .i64 0, .int .i64 0, .int .i64 0, .slice none 0 0] 31)).heap[w.heap.size]? = some (.cells #[.int .i64 0, .string ⟨#[]⟩, .string ⟨#[]⟩, .string ⟨#[]⟩, .string ⟨#[]⟩, .int .i64 0, .string ⟨#[]⟩, .int .i64 0, .string ⟨#[]⟩, .int .i64 0, .slice none 0 0, .slice none 0 0, .slice none 0 0, .slice none 0 0, .int .i64 0, .int .i64 0, .int .i64 0, .slice none 0 0] 31 (0, 0)) := blk_new w _
  have hlex := lexall_any s _ (hG.below hB1).1
  obtain ⟨hLx, hsz⟩ := lexL_lx he
  have q1 : ((lexL s).2.2 != 0) = false := by rw [he]; rfl
  have hX := Lx.ok hLx (pts s).length
  obtain ⟨⟨nd, τ⟩, hpt⟩ : ∃ r, parseT ⟨(lexL s).1, (pts s).length⟩ = r := ⟨_, rfl⟩
  have HE : Hid (parseL s = match τ.bad with | some a => (Stt.zero, (a : Int), 3) | none => if 1000 < (textS (ndS nd)).size then (Stt.zero, 0, 2) else (ndS nd, 0, 0)) := by
    show _ = _; unfold parseL; simp only; rw [if_neg (by rw [he]; simp), hpt]; rfl
  have HST : Hid (τ.bad = none → StOK (ndS nd).x ∧ (∀ y ∈ (ndS nd).parts, StOK y) ∧ (ndS nd).parts.length ≤ 8) := fun hb => by
    obtain ⟨L, R, hGN, _, _⟩ := parseT_con hX (by rw [hpt]; exact hb)
    rw [hpt] at hGN
    exact hGN.st
  unfold parseT at hpt
  simp only at hpt
  obtain ⟨⟨nd', σ1⟩, h1⟩ : ∃ r, Tx.stF ⟨(lexL s).1, (pts s).length⟩ ((lexL s).1.length + 2) ⟨0, none⟩ = r := ⟨_, rfl⟩
  rw [h1] at hpt
  obtain ⟨σ2, h2⟩ : ∃ r, Tx.may ⟨(lexL s).1, (pts s).length⟩ σ1 (⟨#[59]⟩ : ByteArray) = r := ⟨_, rfl⟩
  rw [h2] at hpt
  injection hpt with hnd hτ
  rw [h1] at hC
  simp only [h2] at hC
  have HC := Lib.hid hC
  clear hC
  subst hnd
  have hbz := build_z
  have HG := Lib.hid hG
  have Hsz := Lib.hid hsz
  clear he hG hsz hLx hX
  go_enter Tryz.func18, Tryz.ntmps18
  go_wp2_with fail
  refine hlex.mono ?_; rintro e w2 ⟨⟨v, rfl, hrow⟩, hb2⟩
  have hB2 := hB1.trans (hb2.mono hB1.size)
  have hb0' := blk_below hb0 hb2 (blk_lt hb0)
  obtain ⟨ta, tcap, rfl, _⟩ := row_read hrow
  have hct := count_any s w2 (by have := Hsz.out; omega)
  go_wp2_with fail
  refine hct.mono ?_; rintro e w3 ⟨rfl, hb3⟩
  have hB3 := hB2.trans (hb3.mono hB2.size)
  have hb0'' := blk_below hb0' hb3 (blk_lt hb0')
  obtain ⟨K, hKb, hKL, hKX, hKw, hPQ⟩ := pk_new (HG.out.below hB3) Hsz.out hrow hb3
  have hD4 := Did.refl hPQ
  have hb4 := blk_alloc hb0'' (.cells #[.slice ta (lexL s).1.length tcap, .int .i64 0, .int .i64 (pts s).length, .int .i64 (-1)] 69)
  have hst := statement_any (K := K) ((lexL s).1.length + 2) hPQ (by rw [hKX]; show (lexL s).1.length - 0 < _; omega)
  rw [hKX, h1, hKb] at hst
  go_wp2_with fail
  refine hst.mono ?_; intro e w5 hz
  obtain ⟨v9, rfl, hd5, hn5⟩ := GaveNd_ex hz
  have hD5 := hD4.trans hd5
  have hmay := may_any hd5.1 (⟨#[59]⟩ : ByteArray)
  rw [hKX, h2, hKb] at hmay
  go_wp2_with fail
  refine hmay.mono ?_; rintro e w6 ⟨rfl, hd6⟩
  have hD6 := hD5.trans hd6
  have hn6 := hn5.did hd6 (by rw [hKL, sz_alloc]; exact Nat.le_refl _)
  have hLb : K.L ≤ (w3.alloc (.cells #[.slice ta (lexL s).1.length tcap, .int .i64 0, .int .i64 (pts s).length, .int .i64 (-1)] 69)).heap.size := by rw [hKL, sz_alloc]; exact Nat.le_refl _
  obtain ⟨ta2, tcap2, c0, c1, c2, c3, _, f3, _⟩ := hD6.1.cells
  rw [hKb] at c0 c1 c2 c3 f3
  rw [hKX] at c0 c2
  have HX := Lib.hid hKX
  have HKB := Lib.hid hKb
  have HKL := Lib.hid hKL
  have HTau := Lib.hid hτ
  clear hKX hKb hKL hτ h1 h2 hst hmay hct hlex
  have hB4 := hB3.alloc hB3.size (.cells #[.slice ta (lexL s).1.length tcap, .int .i64 0, .int .i64 (pts s).length, .int .i64 (-1)] 69)
  have HNE : Hid (K.b ≠ w.heap.size) := by show _ ≠ _; rw [HKB.out]; have := blk_lt hb0''; omega
  by_cases hlt : σ2.i < (lexL s).1.length
  · exact absurd hlt HC.out.1
  · have p0 : ¬ (σ2.i : Int) < ((lexL s).1.length : Int) := by omega
    have HT3 : Hid (τ = σ2) := by show _ = _; rw [← HTau.out, if_neg hlt]
    cases hbad : σ2.bad with
    | some bd =>
      go_wp2_with fail
      go_quiet (fail)
      go_wp2_with fail
      have hD9 := hD6.drewN nq
      generalize w6.drewN nq = w9 at *
      have hok := pok_b hD9.1 (v := false) (by rw [hbad]; rfl)
      rw [HKB.out] at hok
      go_wp2_with fail
      refine hok.mono ?_; rintro e wy ⟨rfl, my, rfl⟩
      have hD10 := hD9.drewN my
      generalize w9.drewN my = wx at *
      obtain ⟨_, _, _, _, _, e3, _, g3, _⟩ := hD10.1.cells
      rw [HKB.out] at e3 g3
      have hbI : σ2.badI = (bd : Int) := by unfold Ps.badI; rw [hbad]
      rw [hbI] at e3
      have hbx := did_blk hD10 hb4 HNE.out
      have hBx := hB4.grown hD10.2.1 hB4.size (fun k hk => by cases hk; rw [HKB.out]; exact hB3.size)
      have HP : Hid (parseL s = (Stt.zero, (bd : Int), 3)) := by
        show _ = _
        rw [HE.out, HT3.out, hbad]
      clear hbad hbI
      go_wp2_with fail
      obtain ⟨zc0, zc1, zc2, zc3, zc4, zc5, zc6, zc7, zc8, zc9, zc10, zc11, zc12, zc13, zc14, zc15, zc16, zc17⟩ := z18_cells hbx
      obtain ⟨zf0, zf1, zf2, zf3, zf4, zf5, zf6, zf7, zf8, zf9, zf10, zf11, zf12, zf13, zf14, zf15, zf16, zf17⟩ := z18_froz hbx
      have hwz := wrote_cells (w := wx) (V := #[.int .i64 0, .string ⟨#[]⟩, .string ⟨#[]⟩, .string ⟨#[]⟩, .string ⟨#[]⟩, .int .i64 0, .string ⟨#[]⟩, .int .i64 0, .string ⟨#[]⟩, .int .i64 0, .slice none 0 0, .slice none 0 0, .slice none 0 0, .slice none 0 0, .int .i64 0, .int .i64 0, .int .i64 0, .slice none 0 0]) hbx rfl rfl
      obtain ⟨wz, hwzE⟩ : ∃ wz, wz = wx.setCells w.heap.size 0 [.int .i64 0, .string ⟨#[]⟩, .string ⟨#[]⟩, .string ⟨#[]⟩, .string ⟨#[]⟩, .int .i64 0, .string ⟨#[]⟩, .int .i64 0, .string ⟨#[]⟩, .int .i64 0, .slice none 0 0, .slice none 0 0, .slice none 0 0, .slice none 0 0, .int .i64 0, .int .i64 0, .int .i64 0, .slice none 0 0] := ⟨_, rfl⟩
      replace hwz : Wrote wx w.heap.size #[.int .i64 0, .string ⟨#[]⟩, .string ⟨#[]⟩, .string ⟨#[]⟩, .string ⟨#[]⟩, .int .i64 0, .string ⟨#[]⟩, .int .i64 0, .string ⟨#[]⟩, .int .i64 0, .slice none 0 0, .slice none 0 0, .slice none 0 0, .slice none 0 0, .int .i64 0, .int .i64 0, .int .i64 0, .slice none 0 0] 31 (wx.setCells w.heap.size 0 [.int .i64 0, .string ⟨#[]⟩, .string ⟨#[]⟩, .string ⟨#[]⟩, .string ⟨#[]⟩, .int .i64 0, .string ⟨#[]⟩, .int .i64 0, .string ⟨#[]⟩, .int .i64 0, .slice none 0 0, .slice none 0 0, .slice none 0 0, .slice none 0 0, .int .i64 0, .int .i64 0, .int .i64 0, .slice none 0 0]) := hwz
      rw [← hwzE] at hwz
      simp only [World.setCells, Nat.zero_add, Nat.reduceAdd] at hwzE
      have HWZ := Lib.hid hwzE
      clear hwzE
      have hne1 : ¬ w3.heap.size = w.heap.size := by have := blk_lt hb0''; omega
      have hne2 : ¬ w.heap.size = w3.heap.size := by have := blk_lt hb0''; omega
      go_region
      all_goals
        go_wp2_with fail
        rw [← HWZ.out]
        refine bodyPost_ret (results_cell3 rfl rfl (lv18 (w := wz.drew) hwz.blk rfl)) rfl ?_
        exact GaveP_of (p := pz) HP.out (hwz.below _ _ hBx (Nat.le_refl _)).drew (pz_has _ _)
    | none => exact absurd hbad HC.out.2
end Go.Proofs.YtfbgdjcnlnfoaaaGreatDoor

