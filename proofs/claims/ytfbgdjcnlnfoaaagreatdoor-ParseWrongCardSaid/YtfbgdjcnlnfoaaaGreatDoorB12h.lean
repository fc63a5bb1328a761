/- Parts of the proof, joined: SamC7. -/
import Derived.Test.YtfbgdjcnlnfoaaaGreatDoorB12a
namespace Go.Proofs.YtfbgdjcnlnfoaaaGreatDoor
open Go.RowKit
open Cle

set_option maxRecDepth 100000 in
set_option maxHeartbeats 4000000 in
theorem same_16 {w : World} {x y : Sx} {a0 b0 : Option Addr} {n0 k0 m0 l0 : Nat} {c s wv pv c' s' wv' pv' : Value} (e0 : (x.kind == y.kind) = true) (e1 : (x.name.toList == y.name.toList) = true) (e2 : (x.of_.toList == y.of_.toList) = true) (e3 : (x.on.toList == y.on.toList) = true) (e4 : (x.stamp == y.stamp) = true) (e5 : (x.ttl == y.ttl) = true) (e6 : (x.limit == y.limit) = true) (e7 : (x.tname.toList == y.tname.toList) = true) (e8 : (x.tid == y.tid) = true) (e9a : (x.part.name.toList == y.part.name.toList) = true) (e9b : (x.part.ty == y.part.ty) = true) (e10a : (x.clus.name.toList == y.clus.name.toList) = true) (e10b : (x.clus.ty == y.clus.ty) = true) (h11 : ∀ w', Below w.heap.size w w' → Calls Tryz.prog 62 #[(.slice a0 n0 k0), (.slice b0 m0 l0)] w' fun e w'' => e = .returned (.bool true) ∧ Below w'.heap.size w' w'') (h12 : ∀ w', Below w.heap.size w w' → Calls Tryz.prog 63 #[c, c'] w' fun e w'' => e = .returned (.bool true) ∧ Below w'.heap.size w' w'') (h13 : ∀ w', Below w.heap.size w w' → Calls Tryz.prog 64 #[s, s'] w' fun e w'' => e = .returned (.bool true) ∧ Below w'.heap.size w' w'') (h14 : ∀ w', Below w.heap.size w w' → Calls Tryz.prog 64 #[wv, wv'] w' fun e w'' => e = .returned (.bool true) ∧ Below w'.heap.size w' w'') (h15 : ∀ w', Below w.heap.size w w' → Calls Tryz.prog 65 #[pv, pv', .func (.func 31) #[] #[]] w' fun e w'' => e = .returned (.bool true) ∧ Below w'.heap.size w' w'') :
    Calls Tryz.prog 31 #[.agg (stC x (.slice a0 n0 k0) c s wv pv), .agg (stC y (.slice b0 m0 l0) c' s' wv' pv')] w fun e w' => e = .returned (.bool true) ∧ Below w.heap.size w w' := by
  obtain ⟨W, hW⟩ : ∃ W, (w.alloc (.cells (stC x (.slice a0 n0 k0) c s wv pv) 31)).alloc (.cells (stC y (.slice b0 m0 l0) c' s' wv' pv') 31) = W := ⟨_, rfl⟩
  obtain ⟨hB, hBx, hBy⟩ := two_new w (stC x (.slice a0 n0 k0) c s wv pv) (stC y (.slice b0 m0 l0) c' s' wv' pv') 31 31
  rw [hW] at hB hBx hBy
  have HX := Lib.hid hBx
  have HY := Lib.hid hBy
  have hlx := blk_lt hBx
  have hly := blk_lt hBy
  obtain ⟨c0, c1, c2, c3, c4, c5, c6, c7, c8, c9, c10, c11, c12, c13, c14, c15, c16, c17⟩ := st18 hBx
  obtain ⟨d0, d1, d2, d3, d4, d5, d6, d7, d8, d9, d10, d11, d12, d13, d14, d15, d16, d17⟩ := st18 hBy
  have HB := Lib.hid hB
  have H11 := Lib.hid h11
  have H12 := Lib.hid h12
  have H13 := Lib.hid h13
  have H14 := Lib.hid h14
  have H15 := Lib.hid h15
  clear h11 h12 h13 h14 h15
  clear hB hBx hBy c0 c1 c2 c3 c11 c12 c13 c14 c15 c16 c17 d0 d1 d2 d3 d11 d12 d13 d14 d15 d16 d17
  go_enter Tryz.func31, Tryz.ntmps31
  go_upto_region 1 with (fail)
  go_cut [5, 6] from 7 to 10 (fun s5 s6 wx => ∃ b5 b6 : Nat, s5 = .pointer (some ⟨b5, 0, none⟩) ∧ s6 = .pointer (some ⟨b6, 0, none⟩) ∧ Below W.heap.size W wx ∧ wx.heap[b5]? = some (.cells #[.string x.tname, .int .i64 x.tid, .string x.part.name, .int .i64 x.part.ty, .string x.clus.name, .int .i64 x.clus.ty, .slice a0 n0 k0] 26 (0, 0)) ∧ wx.heap[b6]? = some (.cells #[.string y.tname, .int .i64 y.tid, .string y.part.name, .int .i64 y.part.ty, .string y.clus.name, .int .i64 y.clus.ty, .slice b0 m0 l0] 26 (0, 0)))
  case first =>
    go_region
    all_goals go_wp2_with fail
    all_goals go_meet
    all_goals first | exact ⟨W.heap.size, W.heap.size + 1, rfl, rfl, (two_newD W _ _ _ _).1, (two_newD W _ _ _ _).2.1, (two_newD W _ _ _ _).2.2⟩ | exact ⟨W.heap.size + 1, W.heap.size, rfl, rfl, (two_newD W _ _ _ _).1, (two_newD W _ _ _ _).2.2, (two_newD W _ _ _ _).2.1⟩
  case rest =>
    obtain ⟨b5, b6, rfl, rfl, hbc, hb5, hb6⟩ := hcut
    clear c4 c5 c6 c7 c8 c9 c10 d4 d5 d6 d7 d8 d9 d10
    have hBx := keep_blk hbc HX.out
    have hBy := keep_blk hbc HY.out
    have HB1 := Lib.hid (HB.out.trans (hbc.mono HB.out.size))
    obtain ⟨c0, c1, c2, c3, c4, c5, c6, c7, c8, c9, c10, c11, c12, c13, c14, c15, c16, c17⟩ := st18 hBx
    obtain ⟨d0, d1, d2, d3, d4, d5, d6, d7, d8, d9, d10, d11, d12, d13, d14, d15, d16, d17⟩ := st18 hBy
    obtain ⟨f0, f1, f2, f3, f4, f5, f6⟩ := t7 hb5
    obtain ⟨g0, g1, g2, g3, g4, g5, g6⟩ := t7 hb6
    have HX1 := Lib.hid hBx
    have HY1 := Lib.hid hBy
    clear hBx hBy hb5 hb6 hbc HX HY HB hW hlx hly c4 c5 c6 c7 c8 c9 c10 d4 d5 d6 d7 d8 d9 d10
    have hcall := H11.out wc HB1.out
    go_wp2_with fail
    refine hcall.mono ?_; rintro e w11 ⟨rfl, hbb⟩
    have HB2 := Lib.hid (HB1.out.trans (hbb.mono HB1.out.size))
    clear f0 f1 f2 f3 f4 f5 f6 g0 g1 g2 g3 g4 g5 g6
    clear hcall c0 c1 c2 c3 c11 c12 c13 c14 c15 c16 c17 d0 d1 d2 d3 d11 d12 d13 d14 d15 d16 d17
    have hBx := keep_blk hbb HX1.out
    have hBy := keep_blk hbb HY1.out
    have HX2 := Lib.hid hBx
    have HY2 := Lib.hid hBy
    obtain ⟨c0, c1, c2, c3, c4, c5, c6, c7, c8, c9, c10, c11, c12, c13, c14, c15, c16, c17⟩ := st18 hBx
    obtain ⟨d0, d1, d2, d3, d4, d5, d6, d7, d8, d9, d10, d11, d12, d13, d14, d15, d16, d17⟩ := st18 hBy
    clear hBx hBy hbb c4 c5 c6 c7 c8 c9 c10 d4 d5 d6 d7 d8 d9 d10
    have hcall := H12.out w11 HB2.out
    go_wp2_with fail
    refine hcall.mono ?_; rintro e w12 ⟨rfl, hbb⟩
    have HB3 := Lib.hid (HB2.out.trans (hbb.mono HB2.out.size))
    clear hcall c0 c1 c2 c3 c11 c12 c13 c14 c15 c16 c17 d0 d1 d2 d3 d11 d12 d13 d14 d15 d16 d17
    have hBx := keep_blk hbb HX2.out
    have hBy := keep_blk hbb HY2.out
    have HX3 := Lib.hid hBx
    have HY3 := Lib.hid hBy
    obtain ⟨c0, c1, c2, c3, c4, c5, c6, c7, c8, c9, c10, c11, c12, c13, c14, c15, c16, c17⟩ := st18 hBx
    obtain ⟨d0, d1, d2, d3, d4, d5, d6, d7, d8, d9, d10, d11, d12, d13, d14, d15, d16, d17⟩ := st18 hBy
    clear hBx hBy hbb c4 c5 c6 c7 c8 c9 c10 d4 d5 d6 d7 d8 d9 d10
    have hcall := H13.out w12 HB3.out
    go_wp2_with fail
    refine hcall.mono ?_; rintro e w13 ⟨rfl, hbb⟩
    have HB4 := Lib.hid (HB3.out.trans (hbb.mono HB3.out.size))
    clear hcall c0 c1 c2 c3 c11 c12 c13 c14 c15 c16 c17 d0 d1 d2 d3 d11 d12 d13 d14 d15 d16 d17
    have hBx := keep_blk hbb HX3.out
    have hBy := keep_blk hbb HY3.out
    have HX4 := Lib.hid hBx
    have HY4 := Lib.hid hBy
    obtain ⟨c0, c1, c2, c3, c4, c5, c6, c7, c8, c9, c10, c11, c12, c13, c14, c15, c16, c17⟩ := st18 hBx
    obtain ⟨d0, d1, d2, d3, d4, d5, d6, d7, d8, d9, d10, d11, d12, d13, d14, d15, d16, d17⟩ := st18 hBy
    clear hBx hBy hbb c4 c5 c6 c7 c8 c9 c10 d4 d5 d6 d7 d8 d9 d10
    have hcall := H14.out w13 HB4.out
    go_wp2_with fail
    refine hcall.mono ?_; rintro e w14 ⟨rfl, hbb⟩
    have HB5 := Lib.hid (HB4.out.trans (hbb.mono HB4.out.size))
    clear hcall c0 c1 c2 c3 c11 c12 c13 c14 c15 c16 c17 d0 d1 d2 d3 d11 d12 d13 d14 d15 d16 d17
    have hBx := keep_blk hbb HX4.out
    have hBy := keep_blk hbb HY4.out
    have HX5 := Lib.hid hBx
    have HY5 := Lib.hid hBy
    obtain ⟨c0, c1, c2, c3, c4, c5, c6, c7, c8, c9, c10, c11, c12, c13, c14, c15, c16, c17⟩ := st18 hBx
    obtain ⟨d0, d1, d2, d3, d4, d5, d6, d7, d8, d9, d10, d11, d12, d13, d14, d15, d16, d17⟩ := st18 hBy
    clear hBx hBy hbb c4 c5 c6 c7 c8 c9 c10 d4 d5 d6 d7 d8 d9 d10
    have hcall := H15.out w14 HB5.out
    go_wp2_with fail
    refine hcall.mono ?_; rintro e w15 ⟨rfl, hbb⟩
    have HB6 := Lib.hid (HB5.out.trans (hbb.mono HB5.out.size))
    go_wp2_with fail
    go_ret
    exact ⟨rfl, HB6.out⟩
end Go.Proofs.YtfbgdjcnlnfoaaaGreatDoor

