/- Walks: lex: All. -/
import Derived.Test.YtfbgdjcnlnfoaaaDoorLexG
import Derived.Test.YtfbgdjcnlnfoaaaDoorPlainO
namespace Go.Proofs.YtfbgdjcnlnfoaaaDoor
open Go.RowKit
open Cle

def tkCells (t : Tk) : List Value := [.int .i64 t.kind, .string t.s, .int .i64 t.n, .int .i64 t.at_]
def flatT (l : List Tk) : List Value := l.flatMap tkCells
theorem flatT_snoc (l : List Tk) (p : Tk) : flatT l ++ tkCells p = flatT (l ++ [p]) := by simp [flatT]
theorem tkCells_one (q : Tk) : ∀ u ∈ tkCells q, u.oneCell' = true := by
  intro u hu; simp [tkCells] at hu; rcases hu with rfl | rfl | rfl | rfl <;> rfl
theorem ownsRow_drewN {w : World} {base : Nat} {e : TypeId} {size : Nat} {v : Value} {n : Nat} {xs : List Value} (h : w.ownsRow base e size v n xs) (m : Nat) : (w.drewN m).ownsRow base e size v n xs := by
  obtain ⟨h1, h2⟩ := h
  exact ⟨h1, h2⟩
theorem ownsRow_mono {w : World} {base b2 : Nat} {e : TypeId} {size : Nat} {v : Value} {n : Nat} {xs : List Value} (h : w.ownsRow base e size v n xs) (hb : b2 ≤ base) : w.ownsRow b2 e size v n xs := by
  obtain ⟨h1, h2⟩ := h
  refine ⟨h1, ?_⟩
  rcases h2 with h2 | ⟨g, cap, cur, a, b, c⟩
  · exact .inl h2
  · exact .inr ⟨g, cap, cur, a, Nat.le_trans hb b, c⟩
theorem ownsRow_gb {w w' : World} {base k : Nat} {e : TypeId} {size : Nat} {v : Value} {n : Nat} {xs : List Value} (h : w.ownsRow base e size v n xs) (hg : w.grownBy w' (some k)) (hk : k < base) : w'.ownsRow base e size v n xs := by
  obtain ⟨h1, h2⟩ := h
  refine ⟨h1, ?_⟩
  rcases h2 with h2 | ⟨g, cap, cur, a, b, c, d⟩
  · exact .inl h2
  · exact .inr ⟨g, cap, cur, a, b, by rw [hg.block g (blk_lt c) (fun e => by cases e; omega)]; exact c, d⟩
theorem news_tk (w1 : World) (X : Obj) (q : Tk) (t : TypeId) : ∀ j u, (tkCells q)[j]? = some u → ((w1.alloc X).alloc (.cells #[.int .i64 q.kind, .string q.s, .int .i64 q.n, .int .i64 q.at_] t)).cell? ((⟨w1.heap.size + 1, 0, none⟩ : Addr).add j) = some u := by
  have := cells_new (w1.alloc X) (tkCells q) t
  have e : (w1.alloc X).heap.size = w1.heap.size + 1 := by simp
  rw [e] at this
  exact this
theorem Tryd.infoTk : (Tryd.prog.info? 30).map (fun i => (i.zero, i.size, i.bytes)) = some (some (.agg #[.int .i64 0, .string ⟨#[]⟩, .int .i64 0, .int .i64 0]), 4, 40) := by kernel_rfl

set_option maxRecDepth 100000 in
set_option maxHeartbeats 2000000 in
theorem lexall_any (s : ByteArray) (w : World) (hG : Glob w) :
    Calls Tryd.prog 4 #[.string s] w fun e w' => (∃ v, e = .returned (.tuple #[v, .int .i64 (lexL s).2.1, .int .i64 (lexL s).2.2]) ∧ w'.ownsRow w.heap.size 30 4 v (lexL s).1.length (flatT (lexL s).1)) ∧ Below w.heap.size w w' := by
  obtain ⟨i0, hi, hz0, hz1, hz2⟩ := info_parts Tryd.infoTk
  by_cases hbig : (1000 : Int) < s.size
  · have HE : Hid (lexL s = ([], 0, 2)) := by show _ = _; unfold lexL; rw [if_pos (by omega)]
    go_enter Tryd.func4, Tryd.ntmps4
    go_wp2_with fail
    go_ret3
    rw [HE.out]
    exact ⟨⟨_, rfl, World.ownsRow_nil _ _ _ _⟩, Below.refl _ _⟩
  have hs : s.size ≤ 100000 := by omega
  go_enter Tryd.func4, Tryd.ntmps4
  have ho := open_any s w hG hs
  have hOK := ptsOK_pts s
  have hpl : (pts s).length ≤ 100000 := Nat.le_trans hOK.1 hs
  have HL : Hid (lexL s = match lexF s (pts s) ((pts s).length + 1) 0 with | .ok l => (l, 0, 0) | .error a => ([], (a : Nat), 3)) := by show _ = _; unfold lexL; rw [if_neg (by omega)]; cases lexF s (pts s) ((pts s).length + 1) 0 <;> rfl
  go_wp2_with fail
  refine ho.mono ?_; rintro e w1 ⟨rfl, hS, hb1⟩
  obtain ⟨P, hP⟩ : ∃ P, pts s = P := ⟨_, rfl⟩
  rw [hP] at hS hOK hpl HL
  clear hP ho
  have hlt1 := hS.lt
  obtain ⟨L, hLd⟩ : ∃ L, L = w1.heap.size := ⟨_, rfl⟩
  rw [← hLd] at hS hlt1
  go_wp2_with fail
  refine (skip_any _ _ _ _ _ hS (by omega) hpl).mono ?_; rintro e w2 ⟨rfl, hS, hg2⟩
  go_wp2_with fail
  go_loopw [5] (fun a wr => ∃ (j n : Nat) (done : List Tk) , SQ L wr w.heap.size s P (skip P j) ∧ wr.ownsRow L 30 4 a done.length (flatT done) ∧ Below w.heap.size w wr ∧ Hid (lexF s P (P.length + 1) 0 = (lexF s P (n + 1) j).map (done ++ ·)) ∧ done.length ≤ j ∧ j ≤ P.length ∧ P.length ≤ n + j) (fun _ wr => P.length - scanI wr w.heap.size)
  case atStart => exact ⟨0, P.length, [], hS, World.ownsRow_nil _ _ _ _, hb1.trans (gb_to_below hg2 (Nat.le_refl _) (by omega)), by (show _ = _; cases lexF s P (P.length + 1) 0 <;> rfl), by simp, by omega, by omega⟩
  case round =>
    obtain ⟨j, n, done, hSr, hown, hbw, HR, hdj, hjP, hn⟩ := hrel
    have hk := skip_le_len P (P.length - j) j hjP
    rw [show skipF P (P.length - j) j = skip P j from rfl] at hk
    have hkj := skip_le P j
    by_cases hend : P.length ≤ skip P j
    · have HX : Hid (lexL s = (done, 0, 0)) := by show _ = _; rw [HL.out, HR.out, lexF_end hend]; simp [Except.map]
      have he := end_b wr _ s P _ hSr true (decide_eq_true hend)
      go_wp2_with (go_at_call 9; refine he.mono ?_; rintro e w3 ⟨rfl, m, hm⟩)
      go_ret3
      rw [HX.out]
      exact ⟨⟨_, rfl, ownsRow_mono (ownsRow_drewN hown _) (by omega)⟩, below_drewN hbw _⟩
    · have he := end_b wr _ s P _ hSr false (decide_eq_false hend)
      obtain ⟨i, hi0⟩ : ∃ i, skip P j = i := ⟨_, rfl⟩
      rw [hi0] at hSr hk hkj hend
      have Hi := Lib.hid hi0
      have Hsc := Lib.hid (scanI_eq hSr)
      have hown0 := fun m => ownsRow_drewN hown m
      have hbw0 := fun m => below_drewN hbw m
      have hS0 := fun m => hSr.heap (w' := wr.drewN m) rfl
      clear hown hbw hSr hi0
      go_wp2_with (go_at_call 9; refine he.mono ?_; rintro e w3 ⟨rfl, m, hm⟩; have hS3 := hS0 m; have hown3 := hown0 m; have hbw3 := hbw0 m; rw [← hm] at hS3 hown3 hbw3; obtain ⟨c2, f2⟩ := sq_c2 hS3; clear hS0 hown0 hbw0 hm)
      obtain ⟨⟨⟨K, S, N, A⟩, ok, nx⟩, hX⟩ : ∃ X, X = tokO s P i := ⟨_, rfl⟩
      have hc := token_any w w3 _ s P i hS3 hG hbw3 (Nat.le_refl _) hs hOK (by omega)
      rw [← hX] at hc
      change Calls _ _ _ _ (fun e w' => e = .returned (.tuple #[.agg #[.int .i64 K, .string S, .int .i64 N, .int .i64 A], .bool ok]) ∧ SQ L w' _ s P nx ∧ w3.grownBy w' (some w.heap.size)) at hc
      have hL3 := hS3.le
      refine hc.mono ?_; rintro e w4 ⟨rfl, hS4, hg4⟩
      have hown4 : w4.ownsRow L 30 4 u5 done.length (flatT done) := ownsRow_gb hown3 hg4 (by omega)
      have hbw4 : Below w.heap.size w w4 := hbw3.trans (gb_to_below hg4 (Nat.le_refl _) (by omega))
      clear hc hS3 hown3 hbw3 hg4
      cases ok
      · have HX : Hid (lexL s = ([], i, 3)) := by
          have hb : (tokO s P (skip P j)).2.1 = false := by rw [Hi.out, ← hX]
          show _ = _; rw [HL.out, HR.out, lexF_bad (by rw [Hi.out]; omega) hb, Hi.out]; rfl
        go_wp2_with fail
        go_ret3
        rw [HX.out]
        exact ⟨⟨_, rfl, World.ownsRow_nil _ _ _ _⟩, hbw4.alloc hbw4.size _⟩
      · have hg := tokO_gt (s := s) (i := i) (P := P) (by omega) (by rw [← hX])
        rw [← hX] at hg
        obtain ⟨hg1, hg2⟩ : i < nx ∧ nx ≤ P.length := hg
        have hR2 := exmap_step HR.out (m := nx) (by rw [Hi.out]; omega) (by rw [Hi.out, ← hX]) (by rw [Hi.out, ← hX])
        rw [Hi.out, ← hX] at hR2
        have HR2 := Lib.hid hR2
        clear hR2
        have hL4 := hS4.le
        have hb4 := hbw4.size
        go_wp2_with (first
          | (at_builtin; go_loud (refine wpList_append_own _ rfl _ _ 22 rfl L 30 i0 (.agg #[.int .i64 0, .string ⟨#[]⟩, .int .i64 0, .int .i64 0]) 4 40 Tryd.underlying22 hi hz0 hz1 hz2 rfl (by decide) _ _ _ rfl ((hown4.alloc _).alloc _) ⟨w4.heap.size + 1, 0, none⟩ 1 1 (tkCells ⟨K, S, N, A⟩) rfl rfl (news_tk _ _ ⟨K, S, N, A⟩ _) (tkCells_one _) (by unfold maxLen; omega) (by omega) (by simp; omega) ?_); intro v' w5 hown5 hg5 _; rw [flatT_snoc] at hown5
             have hbw5 : Below w.heap.size w w5 := ((hbw4.alloc (by omega) _).alloc (by simp; omega) _).grown hg5 (by simp; omega) (fun k hk => by have := (hown4.lt _ hk).1; omega)
             have hS5 : SQ L w5 w.heap.size s P nx := hS4.keep (by have := hg5.size; simp at this; omega) (fun k hk => by
               rw [hg5.block k (by simp; omega) (fun e => by have := (hown4.lt _ e.symm).1; omega)]
               rw [Below.heap_alloc _ _ _ (by simp; omega), Below.heap_alloc _ _ _ (by omega)])
             clear hown4 hbw4 hg5 hS4)
          | (go_at_call 8; refine (skip_any _ _ _ _ _ hS5 (by omega) hpl).mono ?_; rintro e w6 ⟨rfl, hS6, hg6⟩
             have hown6 := ownsRow_gb hown5 hg6 (by omega)
             have hbw6 : Below w.heap.size w w6 := hbw5.trans (gb_to_below hg6 (Nat.le_refl _) (by have := hbw5.size; omega))
             clear hown5 hbw5 hS5 hg6))
        have hl2 : (done ++ [(⟨K, S, N, A⟩ : Tk)]).length = done.length + 1 := by simp
        go_roundw
        case rel => exact ⟨nx, n - 1, done ++ [⟨K, S, N, A⟩], hS6, by rw [hl2]; exact hown6, hbw6, by rw [Nat.sub_add_cancel (by omega)]; exact HR2, by rw [hl2]; omega, by omega, by omega⟩
        case measure => rw [scanI_eq hS6, Hsc.out]; have := skip_le P nx; omega

end Go.Proofs.YtfbgdjcnlnfoaaaDoor
