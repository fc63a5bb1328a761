/- Parts of the proof, joined: PrsW3 PrsW4. -/
import Derived.Test.YtfbgdjcnlnfoaaaGreatDoorB12j
namespace Go.Proofs.YtfbgdjcnlnfoaaaGreatDoor
open Go.RowKit
open Cle

set_option maxRecDepth 100000 in
set_option maxHeartbeats 3000000 in
theorem parse_ok3 {s : ByteArray} {w : World} (hG : Gp w) (he : (lexL s).2.2 = 0) (hC : ¬ (Tx.may (⟨(lexL s).1, (pts s).length⟩ : Tx) (Tx.stF (⟨(lexL s).1, (pts s).length⟩ : Tx) ((lexL s).1.length + 2) ⟨0, none⟩).2 (⟨#[59]⟩ : ByteArray)).i < (lexL s).1.length ∧ (Tx.may (⟨(lexL s).1, (pts s).length⟩ : Tx) (Tx.stF (⟨(lexL s).1, (pts s).length⟩ : Tx) ((lexL s).1.length + 2) ⟨0, none⟩).2 (⟨#[59]⟩ : ByteArray)).bad = none ∧ ∃ x, (Tx.stF (⟨(lexL s).1, (pts s).length⟩ : Tx) ((lexL s).1.length + 2) ⟨0, none⟩).1 = .plain x) : Calls Tryz.prog 18 #[.string s] w (GaveP w s) := by
  have hB1 := (Below.refl w.heap.size w).alloc (Nat.le_refl _) (.cells #[.int .i64 0, .string ⟨#[]⟩, .string ⟨#[]⟩, .string ⟨#[]⟩, .string ⟨#[]⟩, .int .i64 0, .string ⟨#[]⟩, .int .i64 0, .string ⟨#[]⟩, .int .i64 0, .slice none 0 0, .slice none 0 0, .slice none 0 0, .slice none 0 0, .int .i64 0, .int .i64 0, .int .i64 0, .slice none 0 0] 31)
  have hb0 : (w.alloc (.cells #[.int .i64 0, .string ⟨#[]⟩, .string ⟨#[]⟩, .string ⟨#[]⟩, .string ⟨#[]⟩, .int .i64 0, .string ⟨#[]⟩, .int .i64 0, .string ⟨#[]⟩, .int .i64 0, .slice none 0 0, .slice none 0 0, .slice none 0 0, .slice none 0 0, .int .i64 0, .int .i64 0, .int .i64 0, .slice none 0 0] 31)).heap[w.heap.size]? = some (.cells #[.int .i64 0, .string ⟨#[]⟩, .string ⟨#[]⟩, .string ⟨#[]⟩, .string ⟨#[]⟩, .int .i64 0, .string ⟨#[]⟩, .int .i64 0, .string ⟨#[]⟩, .int .i64 0, .slice none 0 0, .slice none 0 0, .slice none 0 0, .slice none 0 0, .int .i64 0, .int .i64 0, .int .i64 0, .slice none 0 0] 31 (0, 0)) := blk_new w _
  have hlex := lexall_any s _ (hG.below hB1).1
  obtain ⟨hLx, hsz⟩ := lexL_lx he
  have q1 : ((lexL s).2.2 != 0) = false := by rw [he]; rfl
  have hX := Lx.ok hLx (pts s).length
  obtain ⟨⟨nd, τ⟩, hpt⟩ : ∃ r, parseT ⟨(lexL s).1, (pts s).length⟩ = r := ⟨_, rfl⟩
  have HE : Hid (parseL s = match τ.bad with | some a => (Stt.zero, (a : Int), 3) | none => if 1000 < (textS (ndS nd)).size then (Stt.zero, 0, 2) else (ndS nd, 0, 0)) := by
    show _ = _; unfold parseL; simp only; rw [if_neg (by rw [he]; simp), hpt]; rfl
  have HST : Hid (τ.bad = none → StOK (ndS nd).x ∧ (∀ y ∈ (ndS nd).parts, StOK y) ∧ (ndS nd).parts.length ≤ 8) := fun hb => by
    obtain ⟨L, R, hGN, _, _⟩ := parseT_con hX (by rw [hpt]; exact hb)
    rw [hpt] at hGN
    exact hGN.st
  unfold parseT at hpt
  simp only at hpt
  obtain ⟨⟨nd', σ1⟩, h1⟩ : ∃ r, Tx.stF ⟨(lexL s).1, (pts s).length⟩ ((lexL s).1.length + 2) ⟨0, none⟩ = r := ⟨_, rfl⟩
  rw [h1] at hpt
  obtain ⟨σ2, h2⟩ : ∃ r, Tx.may ⟨(lexL s).1, (pts s).length⟩ σ1 (⟨#[59]⟩ : ByteArray) = r := ⟨_, rfl⟩
  rw [h2] at hpt
  injection hpt with hnd hτ
  rw [h1] at hC
  simp only [h2] at hC
  have HC := Lib.hid hC
  clear hC
  subst hnd
  have hbz := build_z
  have HG := Lib.hid hG
  have Hsz := Lib.hid hsz
  clear he hG hsz hLx hX
  go_enter Tryz.func18, Tryz.ntmps18
  go_wp2_with fail
  refine hlex.mono ?_; rintro e w2 ⟨⟨v, rfl, hrow⟩, hb2⟩
  have hB2 := hB1.trans (hb2.mono hB1.size)
  have hb0' := blk_below hb0 hb2 (blk_lt hb0)
  obtain ⟨ta, tcap, rfl, _⟩ := row_read hrow
  have hct := count_any s w2 (by have := Hsz.out; omega)
  go_wp2_with fail
  refine hct.mono ?_; rintro e w3 ⟨rfl, hb3⟩
  have hB3 := hB2.trans (hb3.mono hB2.size)
  have hb0'' := blk_below hb0' hb3 (blk_lt hb0')
  obtain ⟨K, hKb, hKL, hKX, hKw, hPQ⟩ := pk_new (HG.out.below hB3) Hsz.out hrow hb3
  have hD4 := Did.refl hPQ
  have hb4 := blk_alloc hb0'' (.cells #[.slice ta (lexL s).1.length tcap, .int .i64 0, .int .i64 (pts s).length, .int .i64 (-1)] 69)
  have hst := statement_any (K := K) ((lexL s).1.length + 2) hPQ (by rw [hKX]; show (lexL s).1.length - 0 < _; omega)
  rw [hKX, h1, hKb] at hst
  go_wp2_with fail
  refine hst.mono ?_; intro e w5 hz
  obtain ⟨v9, rfl, hd5, hn5⟩ := GaveNd_ex hz
  have hD5 := hD4.trans hd5
  have hmay := may_any hd5.1 (⟨#[59]⟩ : ByteArray)
  rw [hKX, h2, hKb] at hmay
  go_wp2_with fail
  refine hmay.mono ?_; rintro e w6 ⟨rfl, hd6⟩
  have hD6 := hD5.trans hd6
  have hn6 := hn5.did hd6 (by rw [hKL, sz_alloc]; exact Nat.le_refl _)
  have hLb : K.L ≤ (w3.alloc (.cells #[.slice ta (lexL s).1.length tcap, .int .i64 0, .int .i64 (pts s).length, .int .i64 (-1)] 69)).heap.size := by rw [hKL, sz_alloc]; exact Nat.le_refl _
  obtain ⟨ta2, tcap2, c0, c1, c2, c3, _, f3, _⟩ := hD6.1.cells
  rw [hKb] at c0 c1 c2 c3 f3
  rw [hKX] at c0 c2
  have HX := Lib.hid hKX
  have HKB := Lib.hid hKb
  have HKL := Lib.hid hKL
  have HTau := Lib.hid hτ
  clear hKX hKb hKL hτ h1 h2 hst hmay hct hlex
  have hB4 := hB3.alloc hB3.size (.cells #[.slice ta (lexL s).1.length tcap, .int .i64 0, .int .i64 (pts s).length, .int .i64 (-1)] 69)
  have HNE : Hid (K.b ≠ w.heap.size) := by show _ ≠ _; rw [HKB.out]; have := blk_lt hb0''; omega
  by_cases hlt : σ2.i < (lexL s).1.length
  · exact absurd hlt HC.out.1
  · have p0 : ¬ (σ2.i : Int) < ((lexL s).1.length : Int) := by omega
    have HT3 : Hid (τ = σ2) := by show _ = _; rw [← HTau.out, if_neg hlt]
    cases hbad : σ2.bad with
    | some bd => exact absurd hbad (by rw [HC.out.2.1]; simp)
    | none =>
      go_wp2_with fail
      go_quiet (fail)
      go_wp2_with fail
      have hD9 := hD6.drewN nq
      have hn9 := hn6.below (Cle.below_drewN (Below.refl w6.heap.size w6) nq)
      generalize w6.drewN nq = w9 at *
      have hok := pok_b hD9.1 (v := true) (by rw [hbad]; rfl)
      rw [HKB.out] at hok
      have hst := HST.out (by rw [HT3.out]; exact hbad)
      have HP : Hid (parseL s = if 1000 < (textS (ndS nd')).size then (Stt.zero, 0, 2) else (ndS nd', 0, 0)) := by
        show _ = _
        rw [HE.out, HT3.out, hbad]
      clear hbad
      go_wp2_with fail
      refine hok.mono ?_; rintro e wy ⟨rfl, my, rfl⟩
      have hD10 := hD9.drewN my
      have hn10 := hn9.below (Cle.below_drewN (Below.refl w9.heap.size w9) my)
      generalize w9.drewN my = wx at *
      have hbx := did_blk hD10 hb4 HNE.out
      have hBx := hB4.grown hD10.2.1 hB4.size (fun k hk => by cases hk; rw [HKB.out]; exact hB3.size)
      cases nd' with
      | plain x =>
        obtain ⟨tc, c, s', wv, rfl, hrw⟩ := hn10
        have hone0 := hrw.one
        have hmt := mt_pl
        have hsm := stmt_pl (w := wx) x tc c s' wv hone0
        go_wp2_with fail
        refine hsm.mono ?_; rintro e wA ⟨rfl, hbs⟩
        have hrw1 := hrw.mono (show w.heap.size + 1 ≤ _ by rw [sz_alloc]; have := hB3.size; omega)
        have hrw2 := hrw1.map fun _ _ _ _ _ _ hr => row_below hr hbs

        have hbA := blk_below hbx hbs (blk_lt hbx)
        have hBA := hBx.trans (hbs.mono hBx.size)
        have hone : (stC x tc c s' wv vnil).toList.all (·.oneCell') = true := hone0
        have hW := blk_new wA (.cells (stC x tc c s' wv vnil) 31)
        have hBA' := hBA.alloc hBA.size (.cells (stC x tc c s' wv vnil) 31)
        have hT : Calls Tryz.prog 30 #[.agg (stC x tc c s' wv vnil)] (wA.alloc (.cells (stC x tc c s' wv vnil) 31)) fun e w' => e = .returned (.string (textS (ndS (.plain x)))) ∧ Below (wA.alloc (.cells (stC x tc c s' wv vnil) 31)).heap.size (wA.alloc (.cells (stC x tc c s' wv vnil) 31)) w' := gtext_any (p := ⟨x, tc, c, s', wv, vnil⟩) (L := []) (HG.out.below hBA') ⟨hst.1, (hrw2.map fun _ _ _ _ _ _ hr => hr.alloc _).rd, rfl⟩ (fun _ => ⟨Nat.zero_le _, Rd_nil _, fun _ h => nomatch h⟩)
        obtain ⟨tx, htx⟩ : ∃ r, textS (ndS (.plain x)) = r := ⟨_, rfl⟩
        rw [htx] at hT HP
        have HP2 := Lib.hid HP.out
        clear HP htx
        go_wp2_with (first | refine wpl_sto2 rfl _ _ rfl rfl rfl rfl rfl hone ?_ | refine wpl_st rfl _ rfl rfl rfl hW ?_)
        refine hT.mono ?_; rintro e wB ⟨rfl, hbB⟩
        have hWB := blk_below hW hbB (blk_lt hW)
        have hbB0 := blk_below (blk_alloc hbA _) hbB (blk_lt (blk_alloc hbA _))
        have hBB := hBA'.trans (hbB.mono hBA'.size)
        have hHB := (show HasS wA (w.heap.size + 1) ⟨x, tc, c, s', wv, vnil⟩ [] (ndS (.plain x)) from ⟨rfl, rfl, hrw2, World.ownsRow_nil _ _ _ _, fun _ h => nomatch h⟩).below ((Below.refl wA.heap.size wA).alloc (Nat.le_refl _) (.cells (stC x tc c s' wv vnil) 31) |>.trans (hbB.mono (by rw [sz_alloc]; omega)))
        by_cases hbig : 1000 < tx.size
        · have p9 : (1000 : Int) < (tx.size : Int) := by omega
          have HQ : Hid (parseL s = (Stt.zero, 0, 2)) := by show _ = _; rw [HP2.out, if_pos hbig]
          clear hbig
          go_wp2_with (refine wpl_whole rfl _ _ rfl rfl rfl hbB0 rfl rfl rfl ?_; intro wz hwz)
          refine bodyPost_ret (results_cell3 rfl rfl (lv18 hwz.blk rfl)) rfl ?_
          exact GaveP_of (p := pz) HQ.out (hwz.below _ _ hBB (Nat.le_refl _)) (pz_has _ _)
        · have p9 : ¬ (1000 : Int) < (tx.size : Int) := by omega
          have HQ : Hid (parseL s = (ndS (.plain x), 0, 0)) := by show _ = _; rw [HP2.out, if_neg hbig]
          clear hbig
          go_wp2_with (first | refine wpl_st rfl _ rfl rfl rfl hWB ?_ | (refine wpl_whole rfl _ _ rfl rfl rfl hbB0 rfl rfl hone ?_; intro wz hwz))
          refine bodyPost_ret (results_cell3 rfl rfl (lv18 hwz.blk rfl)) rfl ?_
          exact GaveP_of (p := ⟨x, tc, c, s', wv, vnil⟩) HQ.out (hwz.below _ _ hBB (Nat.le_refl _)) ((hwz.has hHB (Nat.lt_succ_self _)).mono (Nat.le_succ _))
      | change x => obtain ⟨_, h⟩ := HC.out.2.2; exact absurd h (by simp)
      | batch l => obtain ⟨_, h⟩ := HC.out.2.2; exact absurd h (by simp)
end Go.Proofs.YtfbgdjcnlnfoaaaGreatDoor

namespace Go.Proofs.YtfbgdjcnlnfoaaaGreatDoor
open Go.RowKit
open Cle

set_option maxRecDepth 100000 in
set_option maxHeartbeats 3000000 in
theorem parse_ok4 {s : ByteArray} {w : World} (hG : Gp w) (he : (lexL s).2.2 = 0) (hC : ¬ (Tx.may (⟨(lexL s).1, (pts s).length⟩ : Tx) (Tx.stF (⟨(lexL s).1, (pts s).length⟩ : Tx) ((lexL s).1.length + 2) ⟨0, none⟩).2 (⟨#[59]⟩ : ByteArray)).i < (lexL s).1.length ∧ (Tx.may (⟨(lexL s).1, (pts s).length⟩ : Tx) (Tx.stF (⟨(lexL s).1, (pts s).length⟩ : Tx) ((lexL s).1.length + 2) ⟨0, none⟩).2 (⟨#[59]⟩ : ByteArray)).bad = none ∧ ∃ x, (Tx.stF (⟨(lexL s).1, (pts s).length⟩ : Tx) ((lexL s).1.length + 2) ⟨0, none⟩).1 = .change x) : Calls Tryz.prog 18 #[.string s] w (GaveP w s) := by
  have hB1 := (Below.refl w.heap.size w).alloc (Nat.le_refl _) (.cells #[.int .i64 0, .string ⟨#[]⟩, .string ⟨#[]⟩, .string ⟨#[]⟩, .string ⟨#[]⟩, .int .i64 0, .string ⟨#[]⟩, .int .i64 0, .string ⟨#[]⟩, .int .i64 0, .slice none 0 0, .slice none 0 0, .slice none 0 0, .slice none 0 0, .int .i64 0, .int .i64 0, .int .i64 0, .slice none 0 0] 31)
  have hb0 : (w.alloc (.cells #[.int .i64 0, .string ⟨#[]⟩, .string ⟨#[]⟩, .string ⟨#[]⟩, .string ⟨#[]⟩, .int .i64 0, .string ⟨#[]⟩, .int .i64 0, .string ⟨#[]⟩, .int .i64 0, .slice none 0 0, .slice none 0 0, .slice none 0 0, .slice none 0 0, .int .i64 0, .int .i64 0, .int .i64 0, .slice none 0 0] 31)).heap[w.heap.size]? = some (.cells #[.int .i64 0, .string ⟨#[]⟩, .string ⟨#[]⟩, .string ⟨#[]⟩, .string ⟨#[]⟩, .int .i64 0, .string ⟨#[]⟩, .int .i64 0, .string ⟨#[]⟩, .int .i64 0, .slice none 0 0, .slice none 0 0, .slice none 0 0, .slice none 0 0, .int .i64 0, .int .i64 0, .int .i64 0, .slice none 0 0] 31 (0, 0)) := blk_new w _
  have hlex := lexall_any s _ (hG.below hB1).1
  obtain ⟨hLx, hsz⟩ := lexL_lx he
  have q1 : ((lexL s).2.2 != 0) = false := by rw [he]; rfl
  have hX := Lx.ok hLx (pts s).length
  obtain ⟨⟨nd, τ⟩, hpt⟩ : ∃ r, parseT ⟨(lexL s).1, (pts s).length⟩ = r := ⟨_, rfl⟩
  have HE : Hid (parseL s = match τ.bad with | some a => (Stt.zero, (a : Int), 3) | none => if 1000 < (textS (ndS nd)).size then (Stt.zero, 0, 2) else (ndS nd, 0, 0)) := by
    show _ = _; unfold parseL; simp only; rw [if_neg (by rw [he]; simp), hpt]; rfl
  have HST : Hid (τ.bad = none → StOK (ndS nd).x ∧ (∀ y ∈ (ndS nd).parts, StOK y) ∧ (ndS nd).parts.length ≤ 8) := fun hb => by
    obtain ⟨L, R, hGN, _, _⟩ := parseT_con hX (by rw [hpt]; exact hb)
    rw [hpt] at hGN
    exact hGN.st
  unfold parseT at hpt
  simp only at hpt
  obtain ⟨⟨nd', σ1⟩, h1⟩ : ∃ r, Tx.stF ⟨(lexL s).1, (pts s).length⟩ ((lexL s).1.length + 2) ⟨0, none⟩ = r := ⟨_, rfl⟩
  rw [h1] at hpt
  obtain ⟨σ2, h2⟩ : ∃ r, Tx.may ⟨(lexL s).1, (pts s).length⟩ σ1 (⟨#[59]⟩ : ByteArray) = r := ⟨_, rfl⟩
  rw [h2] at hpt
  injection hpt with hnd hτ
  rw [h1] at hC
  simp only [h2] at hC
  have HC := Lib.hid hC
  clear hC
  subst hnd
  have hbz := build_z
  have HG := Lib.hid hG
  have Hsz := Lib.hid hsz
  clear he hG hsz hLx hX
  go_enter Tryz.func18, Tryz.ntmps18
  go_wp2_with fail
  refine hlex.mono ?_; rintro e w2 ⟨⟨v, rfl, hrow⟩, hb2⟩
  have hB2 := hB1.trans (hb2.mono hB1.size)
  have hb0' := blk_below hb0 hb2 (blk_lt hb0)
  obtain ⟨ta, tcap, rfl, _⟩ := row_read hrow
  have hct := count_any s w2 (by have := Hsz.out; omega)
  go_wp2_with fail
  refine hct.mono ?_; rintro e w3 ⟨rfl, hb3⟩
  have hB3 := hB2.trans (hb3.mono hB2.size)
  have hb0'' := blk_below hb0' hb3 (blk_lt hb0')
  obtain ⟨K, hKb, hKL, hKX, hKw, hPQ⟩ := pk_new (HG.out.below hB3) Hsz.out hrow hb3
  have hD4 := Did.refl hPQ
  have hb4 := blk_alloc hb0'' (.cells #[.slice ta (lexL s).1.length tcap, .int .i64 0, .int .i64 (pts s).length, .int .i64 (-1)] 69)
  have hst := statement_any (K := K) ((lexL s).1.length + 2) hPQ (by rw [hKX]; show (lexL s).1.length - 0 < _; omega)
  rw [hKX, h1, hKb] at hst
  go_wp2_with fail
  refine hst.mono ?_; intro e w5 hz
  obtain ⟨v9, rfl, hd5, hn5⟩ := GaveNd_ex hz
  have hD5 := hD4.trans hd5
  have hmay := may_any hd5.1 (⟨#[59]⟩ : ByteArray)
  rw [hKX, h2, hKb] at hmay
  go_wp2_with fail
  refine hmay.mono ?_; rintro e w6 ⟨rfl, hd6⟩
  have hD6 := hD5.trans hd6
  have hn6 := hn5.did hd6 (by rw [hKL, sz_alloc]; exact Nat.le_refl _)
  have hLb : K.L ≤ (w3.alloc (.cells #[.slice ta (lexL s).1.length tcap, .int .i64 0, .int .i64 (pts s).length, .int .i64 (-1)] 69)).heap.size := by rw [hKL, sz_alloc]; exact Nat.le_refl _
  obtain ⟨ta2, tcap2, c0, c1, c2, c3, _, f3, _⟩ := hD6.1.cells
  rw [hKb] at c0 c1 c2 c3 f3
  rw [hKX] at c0 c2
  have HX := Lib.hid hKX
  have HKB := Lib.hid hKb
  have HKL := Lib.hid hKL
  have HTau := Lib.hid hτ
  clear hKX hKb hKL hτ h1 h2 hst hmay hct hlex
  have hB4 := hB3.alloc hB3.size (.cells #[.slice ta (lexL s).1.length tcap, .int .i64 0, .int .i64 (pts s).length, .int .i64 (-1)] 69)
  have HNE : Hid (K.b ≠ w.heap.size) := by show _ ≠ _; rw [HKB.out]; have := blk_lt hb0''; omega
  by_cases hlt : σ2.i < (lexL s).1.length
  · exact absurd hlt HC.out.1
  · have p0 : ¬ (σ2.i : Int) < ((lexL s).1.length : Int) := by omega
    have HT3 : Hid (τ = σ2) := by show _ = _; rw [← HTau.out, if_neg hlt]
    cases hbad : σ2.bad with
    | some bd => exact absurd hbad (by rw [HC.out.2.1]; simp)
    | none =>
      go_wp2_with fail
      go_quiet (fail)
      go_wp2_with fail
      have hD9 := hD6.drewN nq
      have hn9 := hn6.below (Cle.below_drewN (Below.refl w6.heap.size w6) nq)
      generalize w6.drewN nq = w9 at *
      have hok := pok_b hD9.1 (v := true) (by rw [hbad]; rfl)
      rw [HKB.out] at hok
      have hst := HST.out (by rw [HT3.out]; exact hbad)
      have HP : Hid (parseL s = if 1000 < (textS (ndS nd')).size then (Stt.zero, 0, 2) else (ndS nd', 0, 0)) := by
        show _ = _
        rw [HE.out, HT3.out, hbad]
      clear hbad
      go_wp2_with fail
      refine hok.mono ?_; rintro e wy ⟨rfl, my, rfl⟩
      have hD10 := hD9.drewN my
      have hn10 := hn9.below (Cle.below_drewN (Below.refl w9.heap.size w9) my)
      generalize w9.drewN my = wx at *
      have hbx := did_blk hD10 hb4 HNE.out
      have hBx := hB4.grown hD10.2.1 hB4.size (fun k hk => by cases hk; rw [HKB.out]; exact hB3.size)
      cases nd' with
      | plain x => obtain ⟨_, h⟩ := HC.out.2.2; exact absurd h (by simp)
      | change x =>
        obtain ⟨tc, c, s', wv, rfl, hrw⟩ := hn10
        have hone0 := hrw.one
        have hmt := mt_ch
        have hsm := stmt_ch (w := wx) x tc c s' wv hone0
        go_wp2_with fail
        refine hsm.mono ?_; rintro e wA ⟨rfl, hbs⟩
        have hrw1 := hrw.mono (show w.heap.size + 1 ≤ _ by rw [sz_alloc]; have := hB3.size; omega)
        have hrw2 := hrw1.map fun _ _ _ _ _ _ hr => row_below hr hbs

        have hbA := blk_below hbx hbs (blk_lt hbx)
        have hBA := hBx.trans (hbs.mono hBx.size)
        have hone : (stC x tc c s' wv vnil).toList.all (·.oneCell') = true := hone0
        have hW := blk_new wA (.cells (stC x tc c s' wv vnil) 31)
        have hBA' := hBA.alloc hBA.size (.cells (stC x tc c s' wv vnil) 31)
        have hT : Calls Tryz.prog 30 #[.agg (stC x tc c s' wv vnil)] (wA.alloc (.cells (stC x tc c s' wv vnil) 31)) fun e w' => e = .returned (.string (textS (ndS (.change x)))) ∧ Below (wA.alloc (.cells (stC x tc c s' wv vnil) 31)).heap.size (wA.alloc (.cells (stC x tc c s' wv vnil) 31)) w' := gtext_any (p := ⟨x, tc, c, s', wv, vnil⟩) (L := []) (HG.out.below hBA') ⟨hst.1, (hrw2.map fun _ _ _ _ _ _ hr => hr.alloc _).rd, rfl⟩ (fun _ => ⟨Nat.zero_le _, Rd_nil _, fun _ h => nomatch h⟩)
        obtain ⟨tx, htx⟩ : ∃ r, textS (ndS (.change x)) = r := ⟨_, rfl⟩
        rw [htx] at hT HP
        have HP2 := Lib.hid HP.out
        clear HP htx
        go_wp2_with (first | refine wpl_sto2 rfl _ _ rfl rfl rfl rfl rfl hone ?_ | refine wpl_st rfl _ rfl rfl rfl hW ?_)
        refine hT.mono ?_; rintro e wB ⟨rfl, hbB⟩
        have hWB := blk_below hW hbB (blk_lt hW)
        have hbB0 := blk_below (blk_alloc hbA _) hbB (blk_lt (blk_alloc hbA _))
        have hBB := hBA'.trans (hbB.mono hBA'.size)
        have hHB := (show HasS wA (w.heap.size + 1) ⟨x, tc, c, s', wv, vnil⟩ [] (ndS (.change x)) from ⟨rfl, rfl, hrw2, World.ownsRow_nil _ _ _ _, fun _ h => nomatch h⟩).below ((Below.refl wA.heap.size wA).alloc (Nat.le_refl _) (.cells (stC x tc c s' wv vnil) 31) |>.trans (hbB.mono (by rw [sz_alloc]; omega)))
        by_cases hbig : 1000 < tx.size
        · have p9 : (1000 : Int) < (tx.size : Int) := by omega
          have HQ : Hid (parseL s = (Stt.zero, 0, 2)) := by show _ = _; rw [HP2.out, if_pos hbig]
          clear hbig
          go_wp2_with (refine wpl_whole rfl _ _ rfl rfl rfl hbB0 rfl rfl rfl ?_; intro wz hwz)
          refine bodyPost_ret (results_cell3 rfl rfl (lv18 hwz.blk rfl)) rfl ?_
          exact GaveP_of (p := pz) HQ.out (hwz.below _ _ hBB (Nat.le_refl _)) (pz_has _ _)
        · have p9 : ¬ (1000 : Int) < (tx.size : Int) := by omega
          have HQ : Hid (parseL s = (ndS (.change x), 0, 0)) := by show _ = _; rw [HP2.out, if_neg hbig]
          clear hbig
          go_wp2_with (first | refine wpl_st rfl _ rfl rfl rfl hWB ?_ | (refine wpl_whole rfl _ _ rfl rfl rfl hbB0 rfl rfl hone ?_; intro wz hwz))
          refine bodyPost_ret (results_cell3 rfl rfl (lv18 hwz.blk rfl)) rfl ?_
          exact GaveP_of (p := ⟨x, tc, c, s', wv, vnil⟩) HQ.out (hwz.below _ _ hBB (Nat.le_refl _)) ((hwz.has hHB (Nat.lt_succ_self _)).mono (Nat.le_succ _))
      | batch l => obtain ⟨_, h⟩ := HC.out.2.2; exact absurd h (by simp)
end Go.Proofs.YtfbgdjcnlnfoaaaGreatDoor

