/- Parts of the proof, joined: SamC1. -/
import Derived.Test.YtfbgdjcnlnfoaaaGreatDoorB12a
namespace Go.Proofs.YtfbgdjcnlnfoaaaGreatDoor
open Go.RowKit
open Cle

set_option maxRecDepth 100000 in
set_option maxHeartbeats 4000000 in
theorem same_1 {w : World} {x y : Sx} {a0 b0 : Option Addr} {n0 k0 m0 l0 : Nat} {c s wv pv c' s' wv' pv' : Value} (e0 : (x.kind == y.kind) = true) (e1 : (x.name.toList == y.name.toList) = false) :
    Calls Tryz.prog 31 #[.agg (stC x (.slice a0 n0 k0) c s wv pv), .agg (stC y (.slice b0 m0 l0) c' s' wv' pv')] w fun e w' => e = .returned (.bool false) ∧ Below w.heap.size w w' := by
  obtain ⟨W, hW⟩ : ∃ W, (w.alloc (.cells (stC x (.slice a0 n0 k0) c s wv pv) 31)).alloc (.cells (stC y (.slice b0 m0 l0) c' s' wv' pv') 31) = W := ⟨_, rfl⟩
  obtain ⟨hB, hBx, hBy⟩ := two_new w (stC x (.slice a0 n0 k0) c s wv pv) (stC y (.slice b0 m0 l0) c' s' wv' pv') 31 31
  rw [hW] at hB hBx hBy
  have HX := Lib.hid hBx
  have HY := Lib.hid hBy
  have hlx := blk_lt hBx
  have hly := blk_lt hBy
  obtain ⟨c0, c1, c2, c3, c4, c5, c6, c7, c8, c9, c10, c11, c12, c13, c14, c15, c16, c17⟩ := st18 hBx
  obtain ⟨d0, d1, d2, d3, d4, d5, d6, d7, d8, d9, d10, d11, d12, d13, d14, d15, d16, d17⟩ := st18 hBy
  have HB := Lib.hid hB
  clear hB hBx hBy c0 c1 c2 c3 c11 c12 c13 c14 c15 c16 c17 d0 d1 d2 d3 d11 d12 d13 d14 d15 d16 d17
  go_enter Tryz.func31, Tryz.ntmps31
  go_upto_region 1 with (fail)
  go_cut [5, 6] from 7 to 10 (fun s5 s6 wx => ∃ b5 b6 : Nat, s5 = .pointer (some ⟨b5, 0, none⟩) ∧ s6 = .pointer (some ⟨b6, 0, none⟩) ∧ Below W.heap.size W wx ∧ wx.heap[b5]? = some (.cells #[.string x.tname, .int .i64 x.tid, .string x.part.name, .int .i64 x.part.ty, .string x.clus.name, .int .i64 x.clus.ty, .slice a0 n0 k0] 26 (0, 0)) ∧ wx.heap[b6]? = some (.cells #[.string y.tname, .int .i64 y.tid, .string y.part.name, .int .i64 y.part.ty, .string y.clus.name, .int .i64 y.clus.ty, .slice b0 m0 l0] 26 (0, 0)))
  case first =>
    go_region
    all_goals go_wp2_with fail
    all_goals go_meet
    all_goals first | exact ⟨W.heap.size, W.heap.size + 1, rfl, rfl, (two_newD W _ _ _ _).1, (two_newD W _ _ _ _).2.1, (two_newD W _ _ _ _).2.2⟩ | exact ⟨W.heap.size + 1, W.heap.size, rfl, rfl, (two_newD W _ _ _ _).1, (two_newD W _ _ _ _).2.2, (two_newD W _ _ _ _).2.1⟩
  case rest =>
    obtain ⟨b5, b6, rfl, rfl, hbc, hb5, hb6⟩ := hcut
    clear c4 c5 c6 c7 c8 c9 c10 d4 d5 d6 d7 d8 d9 d10
    have hBx := keep_blk hbc HX.out
    have hBy := keep_blk hbc HY.out
    have HB1 := Lib.hid (HB.out.trans (hbc.mono HB.out.size))
    obtain ⟨c0, c1, c2, c3, c4, c5, c6, c7, c8, c9, c10, c11, c12, c13, c14, c15, c16, c17⟩ := st18 hBx
    obtain ⟨d0, d1, d2, d3, d4, d5, d6, d7, d8, d9, d10, d11, d12, d13, d14, d15, d16, d17⟩ := st18 hBy
    obtain ⟨f0, f1, f2, f3, f4, f5, f6⟩ := t7 hb5
    obtain ⟨g0, g1, g2, g3, g4, g5, g6⟩ := t7 hb6
    have HX1 := Lib.hid hBx
    have HY1 := Lib.hid hBy
    clear hBx hBy hb5 hb6 hbc HX HY HB hW hlx hly c4 c5 c6 c7 c8 c9 c10 d4 d5 d6 d7 d8 d9 d10
    go_wp2_with fail
    go_ret
    exact ⟨rfl, HB1.out⟩
set_option maxRecDepth 100000 in
set_option maxHeartbeats 4000000 in
theorem same_2 {w : World} {x y : Sx} {a0 b0 : Option Addr} {n0 k0 m0 l0 : Nat} {c s wv pv c' s' wv' pv' : Value} (e0 : (x.kind == y.kind) = true) (e1 : (x.name.toList == y.name.toList) = true) (e2 : (x.of_.toList == y.of_.toList) = false) :
    Calls Tryz.prog 31 #[.agg (stC x (.slice a0 n0 k0) c s wv pv), .agg (stC y (.slice b0 m0 l0) c' s' wv' pv')] w fun e w' => e = .returned (.bool false) ∧ Below w.heap.size w w' := by
  obtain ⟨W, hW⟩ : ∃ W, (w.alloc (.cells (stC x (.slice a0 n0 k0) c s wv pv) 31)).alloc (.cells (stC y (.slice b0 m0 l0) c' s' wv' pv') 31) = W := ⟨_, rfl⟩
  obtain ⟨hB, hBx, hBy⟩ := two_new w (stC x (.slice a0 n0 k0) c s wv pv) (stC y (.slice b0 m0 l0) c' s' wv' pv') 31 31
  rw [hW] at hB hBx hBy
  have HX := Lib.hid hBx
  have HY := Lib.hid hBy
  have hlx := blk_lt hBx
  have hly := blk_lt hBy
  obtain ⟨c0, c1, c2, c3, c4, c5, c6, c7, c8, c9, c10, c11, c12, c13, c14, c15, c16, c17⟩ := st18 hBx
  obtain ⟨d0, d1, d2, d3, d4, d5, d6, d7, d8, d9, d10, d11, d12, d13, d14, d15, d16, d17⟩ := st18 hBy
  have HB := Lib.hid hB
  clear hB hBx hBy c0 c1 c2 c3 c11 c12 c13 c14 c15 c16 c17 d0 d1 d2 d3 d11 d12 d13 d14 d15 d16 d17
  go_enter Tryz.func31, Tryz.ntmps31
  go_upto_region 1 with (fail)
  go_cut [5, 6] from 7 to 10 (fun s5 s6 wx => ∃ b5 b6 : Nat, s5 = .pointer (some ⟨b5, 0, none⟩) ∧ s6 = .pointer (some ⟨b6, 0, none⟩) ∧ Below W.heap.size W wx ∧ wx.heap[b5]? = some (.cells #[.string x.tname, .int .i64 x.tid, .string x.part.name, .int .i64 x.part.ty, .string x.clus.name, .int .i64 x.clus.ty, .slice a0 n0 k0] 26 (0, 0)) ∧ wx.heap[b6]? = some (.cells #[.string y.tname, .int .i64 y.tid, .string y.part.name, .int .i64 y.part.ty, .string y.clus.name, .int .i64 y.clus.ty, .slice b0 m0 l0] 26 (0, 0)))
  case first =>
    go_region
    all_goals go_wp2_with fail
    all_goals go_meet
    all_goals first | exact ⟨W.heap.size, W.heap.size + 1, rfl, rfl, (two_newD W _ _ _ _).1, (two_newD W _ _ _ _).2.1, (two_newD W _ _ _ _).2.2⟩ | exact ⟨W.heap.size + 1, W.heap.size, rfl, rfl, (two_newD W _ _ _ _).1, (two_newD W _ _ _ _).2.2, (two_newD W _ _ _ _).2.1⟩
  case rest =>
    obtain ⟨b5, b6, rfl, rfl, hbc, hb5, hb6⟩ := hcut
    clear c4 c5 c6 c7 c8 c9 c10 d4 d5 d6 d7 d8 d9 d10
    have hBx := keep_blk hbc HX.out
    have hBy := keep_blk hbc HY.out
    have HB1 := Lib.hid (HB.out.trans (hbc.mono HB.out.size))
    obtain ⟨c0, c1, c2, c3, c4, c5, c6, c7, c8, c9, c10, c11, c12, c13, c14, c15, c16, c17⟩ := st18 hBx
    obtain ⟨d0, d1, d2, d3, d4, d5, d6, d7, d8, d9, d10, d11, d12, d13, d14, d15, d16, d17⟩ := st18 hBy
    obtain ⟨f0, f1, f2, f3, f4, f5, f6⟩ := t7 hb5
    obtain ⟨g0, g1, g2, g3, g4, g5, g6⟩ := t7 hb6
    have HX1 := Lib.hid hBx
    have HY1 := Lib.hid hBy
    clear hBx hBy hb5 hb6 hbc HX HY HB hW hlx hly c4 c5 c6 c7 c8 c9 c10 d4 d5 d6 d7 d8 d9 d10
    go_wp2_with fail
    go_ret
    exact ⟨rfl, HB1.out⟩
set_option maxRecDepth 100000 in
set_option maxHeartbeats 4000000 in
theorem same_3 {w : World} {x y : Sx} {a0 b0 : Option Addr} {n0 k0 m0 l0 : Nat} {c s wv pv c' s' wv' pv' : Value} (e0 : (x.kind == y.kind) = true) (e1 : (x.name.toList == y.name.toList) = true) (e2 : (x.of_.toList == y.of_.toList) = true) (e3 : (x.on.toList == y.on.toList) = false) :
    Calls Tryz.prog 31 #[.agg (stC x (.slice a0 n0 k0) c s wv pv), .agg (stC y (.slice b0 m0 l0) c' s' wv' pv')] w fun e w' => e = .returned (.bool false) ∧ Below w.heap.size w w' := by
  obtain ⟨W, hW⟩ : ∃ W, (w.alloc (.cells (stC x (.slice a0 n0 k0) c s wv pv) 31)).alloc (.cells (stC y (.slice b0 m0 l0) c' s' wv' pv') 31) = W := ⟨_, rfl⟩
  obtain ⟨hB, hBx, hBy⟩ := two_new w (stC x (.slice a0 n0 k0) c s wv pv) (stC y (.slice b0 m0 l0) c' s' wv' pv') 31 31
  rw [hW] at hB hBx hBy
  have HX := Lib.hid hBx
  have HY := Lib.hid hBy
  have hlx := blk_lt hBx
  have hly := blk_lt hBy
  obtain ⟨c0, c1, c2, c3, c4, c5, c6, c7, c8, c9, c10, c11, c12, c13, c14, c15, c16, c17⟩ := st18 hBx
  obtain ⟨d0, d1, d2, d3, d4, d5, d6, d7, d8, d9, d10, d11, d12, d13, d14, d15, d16, d17⟩ := st18 hBy
  have HB := Lib.hid hB
  clear hB hBx hBy c0 c1 c2 c3 c11 c12 c13 c14 c15 c16 c17 d0 d1 d2 d3 d11 d12 d13 d14 d15 d16 d17
  go_enter Tryz.func31, Tryz.ntmps31
  go_upto_region 1 with (fail)
  go_cut [5, 6] from 7 to 10 (fun s5 s6 wx => ∃ b5 b6 : Nat, s5 = .pointer (some ⟨b5, 0, none⟩) ∧ s6 = .pointer (some ⟨b6, 0, none⟩) ∧ Below W.heap.size W wx ∧ wx.heap[b5]? = some (.cells #[.string x.tname, .int .i64 x.tid, .string x.part.name, .int .i64 x.part.ty, .string x.clus.name, .int .i64 x.clus.ty, .slice a0 n0 k0] 26 (0, 0)) ∧ wx.heap[b6]? = some (.cells #[.string y.tname, .int .i64 y.tid, .string y.part.name, .int .i64 y.part.ty, .string y.clus.name, .int .i64 y.clus.ty, .slice b0 m0 l0] 26 (0, 0)))
  case first =>
    go_region
    all_goals go_wp2_with fail
    all_goals go_meet
    all_goals first | exact ⟨W.heap.size, W.heap.size + 1, rfl, rfl, (two_newD W _ _ _ _).1, (two_newD W _ _ _ _).2.1, (two_newD W _ _ _ _).2.2⟩ | exact ⟨W.heap.size + 1, W.heap.size, rfl, rfl, (two_newD W _ _ _ _).1, (two_newD W _ _ _ _).2.2, (two_newD W _ _ _ _).2.1⟩
  case rest =>
    obtain ⟨b5, b6, rfl, rfl, hbc, hb5, hb6⟩ := hcut
    clear c4 c5 c6 c7 c8 c9 c10 d4 d5 d6 d7 d8 d9 d10
    have hBx := keep_blk hbc HX.out
    have hBy := keep_blk hbc HY.out
    have HB1 := Lib.hid (HB.out.trans (hbc.mono HB.out.size))
    obtain ⟨c0, c1, c2, c3, c4, c5, c6, c7, c8, c9, c10, c11, c12, c13, c14, c15, c16, c17⟩ := st18 hBx
    obtain ⟨d0, d1, d2, d3, d4, d5, d6, d7, d8, d9, d10, d11, d12, d13, d14, d15, d16, d17⟩ := st18 hBy
    obtain ⟨f0, f1, f2, f3, f4, f5, f6⟩ := t7 hb5
    obtain ⟨g0, g1, g2, g3, g4, g5, g6⟩ := t7 hb6
    have HX1 := Lib.hid hBx
    have HY1 := Lib.hid hBy
    clear hBx hBy hb5 hb6 hbc HX HY HB hW hlx hly c4 c5 c6 c7 c8 c9 c10 d4 d5 d6 d7 d8 d9 d10
    go_wp2_with fail
    go_ret
    exact ⟨rfl, HB1.out⟩
set_option maxRecDepth 100000 in
set_option maxHeartbeats 4000000 in
theorem same_4 {w : World} {x y : Sx} {a0 b0 : Option Addr} {n0 k0 m0 l0 : Nat} {c s wv pv c' s' wv' pv' : Value} (e0 : (x.kind == y.kind) = true) (e1 : (x.name.toList == y.name.toList) = true) (e2 : (x.of_.toList == y.of_.toList) = true) (e3 : (x.on.toList == y.on.toList) = true) (e4 : (x.stamp == y.stamp) = false) :
    Calls Tryz.prog 31 #[.agg (stC x (.slice a0 n0 k0) c s wv pv), .agg (stC y (.slice b0 m0 l0) c' s' wv' pv')] w fun e w' => e = .returned (.bool false) ∧ Below w.heap.size w w' := by
  obtain ⟨W, hW⟩ : ∃ W, (w.alloc (.cells (stC x (.slice a0 n0 k0) c s wv pv) 31)).alloc (.cells (stC y (.slice b0 m0 l0) c' s' wv' pv') 31) = W := ⟨_, rfl⟩
  obtain ⟨hB, hBx, hBy⟩ := two_new w (stC x (.slice a0 n0 k0) c s wv pv) (stC y (.slice b0 m0 l0) c' s' wv' pv') 31 31
  rw [hW] at hB hBx hBy
  have HX := Lib.hid hBx
  have HY := Lib.hid hBy
  have hlx := blk_lt hBx
  have hly := blk_lt hBy
  obtain ⟨c0, c1, c2, c3, c4, c5, c6, c7, c8, c9, c10, c11, c12, c13, c14, c15, c16, c17⟩ := st18 hBx
  obtain ⟨d0, d1, d2, d3, d4, d5, d6, d7, d8, d9, d10, d11, d12, d13, d14, d15, d16, d17⟩ := st18 hBy
  have HB := Lib.hid hB
  clear hB hBx hBy c0 c1 c2 c3 c11 c12 c13 c14 c15 c16 c17 d0 d1 d2 d3 d11 d12 d13 d14 d15 d16 d17
  go_enter Tryz.func31, Tryz.ntmps31
  go_upto_region 1 with (fail)
  go_cut [5, 6] from 7 to 10 (fun s5 s6 wx => ∃ b5 b6 : Nat, s5 = .pointer (some ⟨b5, 0, none⟩) ∧ s6 = .pointer (some ⟨b6, 0, none⟩) ∧ Below W.heap.size W wx ∧ wx.heap[b5]? = some (.cells #[.string x.tname, .int .i64 x.tid, .string x.part.name, .int .i64 x.part.ty, .string x.clus.name, .int .i64 x.clus.ty, .slice a0 n0 k0] 26 (0, 0)) ∧ wx.heap[b6]? = some (.cells #[.string y.tname, .int .i64 y.tid, .string y.part.name, .int .i64 y.part.ty, .string y.clus.name, .int .i64 y.clus.ty, .slice b0 m0 l0] 26 (0, 0)))
  case first =>
    go_region
    all_goals go_wp2_with fail
    all_goals go_meet
    all_goals first | exact ⟨W.heap.size, W.heap.size + 1, rfl, rfl, (two_newD W _ _ _ _).1, (two_newD W _ _ _ _).2.1, (two_newD W _ _ _ _).2.2⟩ | exact ⟨W.heap.size + 1, W.heap.size, rfl, rfl, (two_newD W _ _ _ _).1, (two_newD W _ _ _ _).2.2, (two_newD W _ _ _ _).2.1⟩
  case rest =>
    obtain ⟨b5, b6, rfl, rfl, hbc, hb5, hb6⟩ := hcut
    clear c4 c5 c6 c7 c8 c9 c10 d4 d5 d6 d7 d8 d9 d10
    have hBx := keep_blk hbc HX.out
    have hBy := keep_blk hbc HY.out
    have HB1 := Lib.hid (HB.out.trans (hbc.mono HB.out.size))
    obtain ⟨c0, c1, c2, c3, c4, c5, c6, c7, c8, c9, c10, c11, c12, c13, c14, c15, c16, c17⟩ := st18 hBx
    obtain ⟨d0, d1, d2, d3, d4, d5, d6, d7, d8, d9, d10, d11, d12, d13, d14, d15, d16, d17⟩ := st18 hBy
    obtain ⟨f0, f1, f2, f3, f4, f5, f6⟩ := t7 hb5
    obtain ⟨g0, g1, g2, g3, g4, g5, g6⟩ := t7 hb6
    have HX1 := Lib.hid hBx
    have HY1 := Lib.hid hBy
    clear hBx hBy hb5 hb6 hbc HX HY HB hW hlx hly c4 c5 c6 c7 c8 c9 c10 d4 d5 d6 d7 d8 d9 d10
    go_wp2_with fail
    go_ret
    exact ⟨rfl, HB1.out⟩
set_option maxRecDepth 100000 in
set_option maxHeartbeats 4000000 in
theorem same_5 {w : World} {x y : Sx} {a0 b0 : Option Addr} {n0 k0 m0 l0 : Nat} {c s wv pv c' s' wv' pv' : Value} (e0 : (x.kind == y.kind) = true) (e1 : (x.name.toList == y.name.toList) = true) (e2 : (x.of_.toList == y.of_.toList) = true) (e3 : (x.on.toList == y.on.toList) = true) (e4 : (x.stamp == y.stamp) = true) (e5 : (x.ttl == y.ttl) = false) :
    Calls Tryz.prog 31 #[.agg (stC x (.slice a0 n0 k0) c s wv pv), .agg (stC y (.slice b0 m0 l0) c' s' wv' pv')] w fun e w' => e = .returned (.bool false) ∧ Below w.heap.size w w' := by
  obtain ⟨W, hW⟩ : ∃ W, (w.alloc (.cells (stC x (.slice a0 n0 k0) c s wv pv) 31)).alloc (.cells (stC y (.slice b0 m0 l0) c' s' wv' pv') 31) = W := ⟨_, rfl⟩
  obtain ⟨hB, hBx, hBy⟩ := two_new w (stC x (.slice a0 n0 k0) c s wv pv) (stC y (.slice b0 m0 l0) c' s' wv' pv') 31 31
  rw [hW] at hB hBx hBy
  have HX := Lib.hid hBx
  have HY := Lib.hid hBy
  have hlx := blk_lt hBx
  have hly := blk_lt hBy
  obtain ⟨c0, c1, c2, c3, c4, c5, c6, c7, c8, c9, c10, c11, c12, c13, c14, c15, c16, c17⟩ := st18 hBx
  obtain ⟨d0, d1, d2, d3, d4, d5, d6, d7, d8, d9, d10, d11, d12, d13, d14, d15, d16, d17⟩ := st18 hBy
  have HB := Lib.hid hB
  clear hB hBx hBy c0 c1 c2 c3 c11 c12 c13 c14 c15 c16 c17 d0 d1 d2 d3 d11 d12 d13 d14 d15 d16 d17
  go_enter Tryz.func31, Tryz.ntmps31
  go_upto_region 1 with (fail)
  go_cut [5, 6] from 7 to 10 (fun s5 s6 wx => ∃ b5 b6 : Nat, s5 = .pointer (some ⟨b5, 0, none⟩) ∧ s6 = .pointer (some ⟨b6, 0, none⟩) ∧ Below W.heap.size W wx ∧ wx.heap[b5]? = some (.cells #[.string x.tname, .int .i64 x.tid, .string x.part.name, .int .i64 x.part.ty, .string x.clus.name, .int .i64 x.clus.ty, .slice a0 n0 k0] 26 (0, 0)) ∧ wx.heap[b6]? = some (.cells #[.string y.tname, .int .i64 y.tid, .string y.part.name, .int .i64 y.part.ty, .string y.clus.name, .int .i64 y.clus.ty, .slice b0 m0 l0] 26 (0, 0)))
  case first =>
    go_region
    all_goals go_wp2_with fail
    all_goals go_meet
    all_goals first | exact ⟨W.heap.size, W.heap.size + 1, rfl, rfl, (two_newD W _ _ _ _).1, (two_newD W _ _ _ _).2.1, (two_newD W _ _ _ _).2.2⟩ | exact ⟨W.heap.size + 1, W.heap.size, rfl, rfl, (two_newD W _ _ _ _).1, (two_newD W _ _ _ _).2.2, (two_newD W _ _ _ _).2.1⟩
  case rest =>
    obtain ⟨b5, b6, rfl, rfl, hbc, hb5, hb6⟩ := hcut
    clear c4 c5 c6 c7 c8 c9 c10 d4 d5 d6 d7 d8 d9 d10
    have hBx := keep_blk hbc HX.out
    have hBy := keep_blk hbc HY.out
    have HB1 := Lib.hid (HB.out.trans (hbc.mono HB.out.size))
    obtain ⟨c0, c1, c2, c3, c4, c5, c6, c7, c8, c9, c10, c11, c12, c13, c14, c15, c16, c17⟩ := st18 hBx
    obtain ⟨d0, d1, d2, d3, d4, d5, d6, d7, d8, d9, d10, d11, d12, d13, d14, d15, d16, d17⟩ := st18 hBy
    obtain ⟨f0, f1, f2, f3, f4, f5, f6⟩ := t7 hb5
    obtain ⟨g0, g1, g2, g3, g4, g5, g6⟩ := t7 hb6
    have HX1 := Lib.hid hBx
    have HY1 := Lib.hid hBy
    clear hBx hBy hb5 hb6 hbc HX HY HB hW hlx hly c4 c5 c6 c7 c8 c9 c10 d4 d5 d6 d7 d8 d9 d10
    go_wp2_with fail
    go_ret
    exact ⟨rfl, HB1.out⟩
end Go.Proofs.YtfbgdjcnlnfoaaaGreatDoor

