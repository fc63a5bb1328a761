/- Walks: the reference of layer 13: All. -/
import Derived.Test.YtljoenpgokhekaaDoorRLexD
import Derived.Test.YtljoenpgokhekaaDoorRefB
namespace Go.Proofs.YtljoenpgokhekaaDoor
open Go.RowKit
open Cle

theorem Tryd.infoTr : (Tryd.prog.info? 41).map (fun i => (i.zero, i.size, i.bytes)) = some (some (.agg #[.int .i64 0, .string ⟨#[]⟩, .int .i64 0, .int .i64 0]), 4, 40) := by kernel_rfl

set_option maxRecDepth 100000 in
set_option maxHeartbeats 2000000 in
theorem rlexall_any (s : ByteArray) (w : World) (hs : s.size ≤ 100000) :
    Calls Tryd.prog 21 #[.string s] w fun e w' => (∃ v, e = .returned (.tuple #[v, .int .i64 (lexL s).2.1, .int .i64 (lexL s).2.2]) ∧ w'.ownsRow w.heap.size 41 4 v (lexL s).1.length (flatT (lexL s).1)) ∧ Below w.heap.size w w' := by
  obtain ⟨i0, hi, hz0, hz1, hz2⟩ := info_parts Tryd.infoTr
  by_cases hbig : (1000 : Int) < s.size
  · have HE : Hid (lexL s = ([], 0, 2)) := by show _ = _; unfold lexL; rw [if_pos (by omega)]
    go_enter Tryd.func21, Tryd.ntmps21
    go_wp2_with fail
    go_ret3
    rw [HE.out]
    exact ⟨⟨_, rfl, World.ownsRow_nil _ _ _ _⟩, Below.refl _ _⟩
  have ho := all_any s w (by omega)
  have hOK := ptsOK_pts s
  have hpl : (pts s).length ≤ 100000 := Nat.le_trans hOK.1 hs
  have HL : Hid (lexL s = match lexF s (pts s) ((pts s).length + 1) 0 with | .ok l => (l, 0, 0) | .error a => ([], (a : Nat), 3)) := by show _ = _; unfold lexL; rw [if_neg (by omega)]; cases lexF s (pts s) ((pts s).length + 1) 0 <;> rfl
  obtain ⟨P, hP⟩ : ∃ P, pts s = P := ⟨_, rfl⟩
  rw [hP] at ho hOK hpl HL
  clear hP
  go_enter Tryd.func21, Tryd.ntmps21
  go_wp2_with fail
  refine ho.mono ?_; rintro e w1 ⟨⟨v, rfl, hown⟩, hb1⟩
  obtain ⟨a0, cap0, rfl, hrd⟩ := row_read hown
  have HS0 : Hid (SR (w1.heap.size + 1) (w1.alloc (.cells #[.string s, .slice a0 P.length cap0, .int .i64 0] 79)) w1.heap.size s P 0) := by
    refine ⟨by simp, by omega, a0, cap0, blk_new w1 _, fun h0 => ?_⟩
    obtain ⟨g, e1, e2, e3, e4⟩ := hrd h0
    exact ⟨g, e1, by omega, by omega, fun j u hj => by rw [← e4 j u hj]; unfold World.cell?; rw [Below.heap_alloc _ _ _ e3]⟩
  have HB0 : Hid (Below w.heap.size w (w1.alloc (.cells #[.string s, .slice a0 P.length cap0, .int .i64 0] 79))) := hb1.alloc hb1.size _
  have hsz1 := hb1.size
  clear hrd hown hb1 ho
  go_wp2_with fail
  obtain ⟨b, hb⟩ : ∃ b, w1.heap.size = b := ⟨_, rfl⟩
  rw [hb] at HS0 hsz1 ⊢
  generalize w1.alloc (.cells #[.string s, .slice a0 P.length cap0, .int .i64 0] 79) = w2 at *
  clear hb
  have hS := HS0.out
  have hbw := HB0.out
  clear HS0 HB0
  go_loopw [6] (fun a wr => ∃ (j n : Nat) (done : List Tk), SR (b + 1) wr b s P j ∧ wr.ownsRow (b + 1) 41 4 a done.length (flatT done) ∧ Below w.heap.size w wr ∧ Hid (lexF s P (P.length + 1) 0 = (lexF s P (n + 1) j).map (done ++ ·)) ∧ done.length ≤ j ∧ j ≤ P.length ∧ P.length ≤ n + j) (fun _ wr => P.length - scanI wr b)
  case atStart => exact ⟨0, P.length, [], hS, World.ownsRow_nil _ _ _ _, hbw, by (show _ = _; cases lexF s P (P.length + 1) 0 <;> rfl), by simp, by omega, by omega⟩
  case round =>
    clear hS hbw
    obtain ⟨j, n, done, hS, hown, hbw, HR, hdj, hjP, hn⟩ := hrel
    have HK := Lib.hid (scanI_eq hS)
    have hk := skip_le_len P (P.length - j) j hjP
    rw [show skipF P (P.length - j) j = skip P j from rfl] at hk
    have hkj := skip_le P j
    obtain ⟨i, hi0⟩ : ∃ i, skip P j = i := ⟨_, rfl⟩
    rw [hi0] at hk hkj
    have Hi := Lib.hid hi0
    have hSB := RG.start hS
    have hcb := rblank_any wr b s P j hSB hjP hpl
    rw [hi0] at hcb
    clear hi0 hSB
    go_wp2_with fail
    refine hcb.mono ?_; rintro e w3 ⟨rfl, hS3⟩
    have hown3 := ownsRow_gb hown hS3.2 (Nat.lt_succ_self b)
    have hbw3 : Below w.heap.size w w3 := hbw.trans (gb_to_below hS3.2 (by omega) hbw.size)
    clear hcb hown hbw hS
    obtain ⟨a, cap, c0, c1, c2, f2, _⟩ := hS3.1.cells
    by_cases hend : P.length ≤ i
    · have HX : Hid (lexL s = (done, 0, 0)) := by
        show _ = _; rw [HL.out, HR.out, lexF_end (by rw [Hi.out]; exact hend)]; simp [Except.map]
      have hd : decide (P.length ≤ i) = true := decide_eq_true hend
      go_wp2_with fail
      go_quiet (fail)
      go_wp2_with fail
      go_ret3
      rw [HX.out]
      exact ⟨⟨_, rfl, ownsRow_mono (ownsRow_drewN hown3 _) (by omega)⟩, below_drewN hbw3 _⟩
    · have hd : decide (P.length ≤ i) = false := decide_eq_false hend
      go_wp2_with fail
      go_quiet (fail)
      replace hS3 := hS3.drew nq
      replace hown3 := ownsRow_drewN hown3 nq
      replace hbw3 := below_drewN hbw3 nq
      generalize w3.drewN nq = w5 at *
      clear c0 c1 c2 f2
      obtain ⟨_, _, _, _, c2, f2, _⟩ := hS3.1.cells
      obtain ⟨⟨⟨K, S, N, A⟩, ok, nx⟩, hX⟩ : ∃ X, X = tokO s P i := ⟨_, rfl⟩
      have hc := rone_any w5 b s P i hS3.1 hs hOK (by omega)
      rw [← hX] at hc
      change Calls _ _ _ _ (fun e w' => e = .returned (.tuple #[.agg #[.int .i64 K, .string S, .int .i64 N, .int .i64 A], .bool ok]) ∧ RG (b + 1) w5 w' b s P nx) at hc
      have hL3 := hS3.1.le
      go_wp2_with fail
      refine hc.mono ?_; rintro e w4 ⟨rfl, hS4⟩
      have hown4 : w4.ownsRow (b + 1) 41 4 u6 done.length (flatT done) := ownsRow_gb hown3 hS4.2 (by omega)
      have hbw4 : Below w.heap.size w w4 := hbw3.trans (gb_to_below hS4.2 (by omega) hbw3.size)
      clear hc hown3 hbw3
      replace hS4 := hS4.1
      clear hS3
      cases ok
      · have HX : Hid (lexL s = ([], i, 3)) := by
          have hb : (tokO s P (skip P j)).2.1 = false := by rw [Hi.out, ← hX]
          show _ = _; rw [HL.out, HR.out, lexF_bad (by rw [Hi.out]; omega) hb, Hi.out]; rfl
        go_wp2_with fail
        go_ret3
        rw [HX.out]
        exact ⟨⟨_, rfl, World.ownsRow_nil _ _ _ _⟩, hbw4.alloc hbw4.size _⟩
      · have hg := tokO_gt (s := s) (i := i) (P := P) (by omega) (by rw [← hX])
        rw [← hX] at hg
        obtain ⟨hg1, hg2⟩ : i < nx ∧ nx ≤ P.length := hg
        have hR2 := exmap_step HR.out (m := nx) (by rw [Hi.out]; omega) (by rw [Hi.out, ← hX]) (by rw [Hi.out, ← hX])
        rw [Hi.out, ← hX] at hR2
        have HR2 := Lib.hid hR2
        clear hR2
        have hL4 := hS4.le
        have hb4 := hbw4.size
        go_wp2_with (at_builtin; refine wpList_append_own _ rfl _ _ 36 rfl (b + 1) 41 i0 (.agg #[.int .i64 0, .string ⟨#[]⟩, .int .i64 0, .int .i64 0]) 4 40 Tryd.underlying36 hi hz0 hz1 hz2 rfl (by decide) _ _ _ rfl ((hown4.alloc _).alloc _) ⟨w4.heap.size + 1, 0, none⟩ 1 1 (tkCells ⟨K, S, N, A⟩) rfl rfl (news_tk _ _ ⟨K, S, N, A⟩ _) (tkCells_one _) (by unfold maxLen; omega) (by omega) (by simp; omega) ?_; intro v' w5 hown5 hg5 _; rw [flatT_snoc] at hown5
                     have hbw5 : Below w.heap.size w w5 := ((hbw4.alloc (by omega) _).alloc (by simp; omega) _).grown hg5 (by simp; omega) (fun k hk => by have := (hown4.lt _ hk).1; omega)
                     have hS5 : SR (b + 1) w5 b s P nx := hS4.keep (by have := hg5.size; simp at this; omega) (fun k hk => by
                       rw [hg5.block k (by simp; omega) (fun e => by have := (hown4.lt _ e.symm).1; omega)]
                       rw [Below.heap_alloc _ _ _ (by simp; omega), Below.heap_alloc _ _ _ (by omega)])
                     clear hown4 hbw4 hg5 hS4)
        have hl2 : (done ++ [(⟨K, S, N, A⟩ : Tk)]).length = done.length + 1 := by simp
        go_roundw
        case rel => exact ⟨nx, n - 1, done ++ [⟨K, S, N, A⟩], hS5, by rw [hl2]; exact hown5, hbw5, by rw [Nat.sub_add_cancel (by omega)]; exact HR2, by rw [hl2]; omega, by omega, by omega⟩
        case measure => rw [scanI_eq hS5, HK.out]; omega

end Go.Proofs.YtljoenpgokhekaaDoor
