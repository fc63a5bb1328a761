/- Parts of the proof, joined: RefE LexD RSmA RSmB RSmC PlainPN PlainPR PlainPS LawPE LawPG FldA PlainPT PlainPV LawPH. -/
import Derived.BigQuiet
import Derived.Lib.QuietBelow
import Derived.Test.YtfbgdjcnlnfoaaaGreatDoorB01
import Derived.Test.YtfbgdjcnlnfoaaaGreatDoorB02
import Derived.Test.YtfbgdjcnlnfoaaaGreatDoorB03
import Derived.Test.YtfbgdjcnlnfoaaaGreatDoorB04
import Derived.Test.YtfbgdjcnlnfoaaaGreatDoorB05
import Derived.Test.YtfbgdjcnlnfoaaaGreatDoorB06
import Derived.Test.YtfbgdjcnlnfoaaaGreatDoorB07
import Derived.Test.YtfbgdjcnlnfoaaaGreatDoorB08
import Derived.Test.YtfbgdjcnlnfoaaaGreatDoorB09
import Derived.Test.YtfbgdjcnlnfoaaaGreatDoorB10
import Derived.Test.YtfbgdjcnlnfoaaaGreatDoorB11
import Derived.Test.YtfbgdjcnlnfoaaaGreatDoorB12a
import Derived.Test.YtfbgdjcnlnfoaaaGreatDoorB12b
import Derived.Test.YtfbgdjcnlnfoaaaGreatDoorB12c
import Derived.Test.YtfbgdjcnlnfoaaaGreatDoorB12d
import Derived.Test.YtfbgdjcnlnfoaaaGreatDoorB12e
import Derived.Test.YtfbgdjcnlnfoaaaGreatDoorB12f
import Derived.Test.YtfbgdjcnlnfoaaaGreatDoorB12g
import Derived.Test.YtfbgdjcnlnfoaaaGreatDoorB12h
import Derived.Test.YtfbgdjcnlnfoaaaGreatDoorB12i
import Derived.Test.YtfbgdjcnlnfoaaaGreatDoorB12j
import Derived.Test.YtfbgdjcnlnfoaaaGreatDoorB13a
import Derived.Test.YtfbgdjcnlnfoaaaGreatDoorB13b
import Derived.Test.YtfbgdjcnlnfoaaaGreatDoorB13c
import Derived.Test.YtfbgdjcnlnfoaaaGreatDoorB13d
import Derived.Test.YtfbgdjcnlnfoaaaGreatDoorB13e
import Derived.Test.YtfbgdjcnlnfoaaaGreatDoorRows
namespace Go.Proofs.YtfbgdjcnlnfoaaaGreatDoor
open Go.RowKit
open Cle

set_option maxRecDepth 100000 in
set_option maxHeartbeats 400000 in
theorem rfold_any (s : ByteArray) (w : World) (hs : s.size ≤ 1000000) :
    Calls Tryz.prog 21 #[.string s] w fun e w' => e = .returned (.string (fold s)) ∧ Below w.heap.size w w' := by
  have hconv := run_bytes_of_string (P := Tryz.prog) w 9 75 5 s Tryz.underlying9 Tryz.underlying75 Tryz.underlying5
  obtain ⟨cap, hcap⟩ : ∃ cap, grownCap w s.size 0 5 = cap := ⟨_, rfl⟩
  rw [hcap] at hconv
  have hce : s.size ≤ cap := by rw [← hcap]; exact grownCap_ge w s.size 0 5
  clear hcap
  obtain ⟨C, hC⟩ : ∃ C, bytesRow s cap = C := ⟨_, rfl⟩
  rw [hC] at hconv
  have hCs : s.size ≤ C.size := by rw [← hC]; simp [bytesRow]
  have HC : Hid (∀ j (hj : j < s.data.size), C[j]? = some (.int .u8 (s.data[j].toNat : Int))) := fun j hj => by rw [← hC]; exact bytesRow_at s cap j hj
  clear hC
  go_enter Tryz.func21, Tryz.ntmps21
  go_wp2
  go_loopw [4] (fun v wr => ∃ (k : Nat) (D : Array Value), k ≤ s.size ∧ v = .int .i64 k ∧ Below w.heap.size w wr ∧ wr.heap[w.heap.size]? = some (.cells D 5 (C.size, C.size + 1)) ∧ D.size = C.size ∧ Hid (∀ j (hj : j < s.data.size), D[j]? = some (.int .u8 (if j < k then ((lowB s.data[j]).toNat : Int) else (s.data[j].toNat : Int))))) (fun v _ => s.size - (intOf v).toNat)
  case atStart => exact ⟨0, C, by omega, rfl, ((Below.refl _ _).alloc (Nat.le_refl _) _).drew, blk_new w _, rfl, fun j hj => by rw [HC.out j hj]; simp⟩
  case round =>
    obtain ⟨k, D, hk, rfl, hbw, hblk, hDs, HD⟩ := hrel
    by_cases hlt : k < s.size
    · have hc0 : wr.cell? ⟨w.heap.size, k, none⟩ = some (.int .u8 (s.data[k].toNat : Int)) := by rw [blk_cell hblk, HD.out k hlt]; simp
      have hf0 : wr.frozen? ⟨w.heap.size, k, none⟩ = false := blk_frozen hblk k (by omega)
      have hlow := lowB_add s.data[k]
      obtain ⟨c, hc⟩ : ∃ c, s.data[k] = c := ⟨_, rfl⟩
      rw [hc] at hc0 hlow
      have hb := c.toNat_lt
      have HL : Hid ((lowB c).toNat = if 65 ≤ c.toNat ∧ c.toNat ≤ 90 then c.toNat + 32 else c.toNat) := hlow
      have HCe : Hid (s.data[k] = c) := hc
      clear hlow hc
      go_wp2
      all_goals (
        go_roundw
        case measure => simp [intOf]; omega)
      case rel =>
        refine ⟨k + 1, _, by omega, by go_num, hbw.setCell (by simp) _, blk_set hblk _ _, by simp [hDs], fun j hj => ?_⟩
        have h1 := HD.out j hj
        by_cases hjk : j = k
        · subst hjk
          rw [Array.getElem?_setIfInBounds_self_of_lt (by omega), if_pos (by omega), HCe.out, HL.out, if_pos ⟨by omega, by omega⟩]
          simp
        · rw [Array.getElem?_setIfInBounds_ne (Ne.symm hjk), h1]
          by_cases h2 : j < k
          · rw [if_pos h2, if_pos (by omega)]
          · rw [if_neg h2, if_neg (by omega)]
      all_goals
        refine ⟨k + 1, D, by omega, by go_num, hbw, hblk, hDs, fun j hj => ?_⟩
        have h1 := HD.out j hj
        by_cases hjk : j = k
        · subst hjk
          rw [h1, if_neg (by omega), if_pos (by omega), HCe.out, HL.out, if_neg (by omega)]
        · rw [h1]
          by_cases h2 : j < k
          · rw [if_pos h2, if_pos (by omega)]
          · rw [if_neg h2, if_neg (by omega)]
    · have hc0 : ∀ j (hj : j < (s.data.map lowB).toList.length), wr.cell? ((⟨w.heap.size, 0, none⟩ : Addr).add j) = some (.int .u8 ((s.data.map lowB).toList[j].toNat : Int)) := fun j hj => by
        simp at hj
        rw [add_at, Nat.zero_add]
        rw [blk_cell hblk, HD.out j hj, if_pos (by have : s.data.size = s.size := rfl; omega)]
        simp
      have hback := run_convert_bytes_back (P := Tryz.prog) wr 75 9 5 ⟨w.heap.size, 0, none⟩ cap (s.data.map lowB).toList Tryz.underlying75 Tryz.underlying5 Tryz.underlying9 hc0
      have hl : (s.data.map lowB).toList.length = s.size := by simp
      rw [hl] at hback
      clear hc0 hl
      go_wp2
      go_ret
      exact ⟨ret_str (by unfold fold; congr 1; apply Array.ext'; simp), hbw⟩

end Go.Proofs.YtfbgdjcnlnfoaaaGreatDoor

namespace Go.Proofs.YtfbgdjcnlnfoaaaGreatDoor
open Go.RowKit
open Cle

theorem Scn.gb {T : TypeId} {flat : List Pt → List Value} {L : Nat} {w w' : World} {b : Nat} {s : ByteArray} {P : List Pt} {i : Nat} (h : Scn T flat L w b s P i) (hb : w.grownBy w' none) : Scn T flat L w' b s P i :=
  h.below ⟨hb.os, hb.tape, hb.output, hb.size, fun k hk => hb.block k hk (by simp)⟩

end Go.Proofs.YtfbgdjcnlnfoaaaGreatDoor

namespace Go.Proofs.YtfbgdjcnlnfoaaaGreatDoor
open Go.RowKit
open Cle

set_option maxHeartbeats 1000000 in
theorem rcol_yes (s : ByteArray) (ty : Int) (w : World) :
    Calls Tryz.prog 117 #[.agg #[.string s, .int .i64 ty], .agg #[.string s, .int .i64 ty]] w fun e w' => e = .returned (.bool true) ∧ Below w.heap.size w w' := by
  obtain ⟨hB, hBx, hBy⟩ := two_new w #[.string s, .int .i64 ty] #[.string s, .int .i64 ty] 23 23
  obtain ⟨W, hW⟩ : ∃ W, (w.alloc (.cells #[.string s, .int .i64 ty] 23)).alloc (.cells #[.string s, .int .i64 ty] 23) = W := ⟨_, rfl⟩
  rw [hW] at hB hBx hBy
  have a0 : W.cell? ⟨w.heap.size, 0, none⟩ = some (.string s) := blk_cell hBx 0
  have a1 : W.cell? ⟨w.heap.size, 1, none⟩ = some (.int .i64 ty) := blk_cell hBx 1
  have b0 : W.cell? ⟨w.heap.size + 1, 0, none⟩ = some (.string s) := blk_cell hBy 0
  have b1 : W.cell? ⟨w.heap.size + 1, 1, none⟩ = some (.int .i64 ty) := blk_cell hBy 1
  have s0 : (s.toList == s.toList) = true := tl_eq rfl
  clear hBx hBy
  go_enter Tryz.func117, Tryz.ntmps117
  go_wp2_with fail
  go_ret
  exact ⟨rfl, hB⟩
set_option maxRecDepth 100000 in
set_option maxHeartbeats 4000000 in
theorem rtexts_yes {w : World} {u v : Value} {L : List ByteArray} (hu : Rd w u L.length (L.map Value.string)) (hv : Rd w v L.length (L.map Value.string)) (hl : L.length ≤ 100000) :
    Calls Tryz.prog 75 #[u, v] w fun e w' => e = .returned (.bool true) ∧ Below w.heap.size w w' := by
  obtain ⟨a1, k1, rfl, hx0⟩ := hu
  obtain ⟨a2, k2, rfl, hy0⟩ := hv
  obtain ⟨n, hn⟩ : ∃ n, L.length = n := ⟨_, rfl⟩
  have HN := Lib.hid hn
  rw [hn] at hx0 hy0 hl ⊢
  clear hn
  have t0 : ((n : Int) != (n : Int)) = false := by simp
  go_enter Tryz.func75, Tryz.ntmps75
  go_wp2_with fail
  go_loopw [5] (fun i wr => ∃ j : Nat, i = .int .i64 j ∧ j ≤ n ∧ Below w.heap.size w wr) (fun i _ => n - (intOf i).toNat)
  case atStart => exact ⟨0, rfl, Nat.zero_le _, Below.refl _ _⟩
  case round =>
    obtain ⟨j, rfl, hj, hBr⟩ := hrel
    have hsz := hBr.size
    by_cases hjl : j < n
    · have p0 : (j : Int) < (n : Int) := by omega
      have p1 : (0 : Int) ≤ (j : Int) := by omega
      have HJ := Lib.hid (show j + 1 ≤ n from hjl)
      obtain ⟨g1, o1, rfl, hx⟩ := hx0 (by omega)
      obtain ⟨g2, o2, rfl, hy⟩ := hy0 (by omega)
      obtain ⟨q, hq⟩ : ∃ q, L[j]? = some q := ⟨_, List.getElem?_eq_getElem (by have := HN.out; omega)⟩
      have k0 : wr.cell? ⟨g1, o1 + j, none⟩ = some (.string q) := blk_cellB hBr (hx (j) _ (by rw [List.getElem?_map, hq]; rfl))
      have l0 : wr.cell? ⟨g2, o2 + j, none⟩ = some (.string q) := blk_cellB hBr (hy (j) _ (by rw [List.getElem?_map, hq]; rfl))
      have s0 : (q.toList == q.toList) = true := tl_eq rfl
      clear hq hx hy
      go_wp2_with fail
      go_quiet (fail)
      go_wp2_with fail
      go_roundw
      case rel => exact ⟨j + 1, by go_num, HJ.out, Cle.below_drewN hBr _⟩
      case measure => have hjj := HJ.out; simp [intOf]; omega
    · have hje : j = n := by omega
      subst hje
      go_wp2_with fail
      go_ret
      exact ⟨rfl, hBr⟩
set_option maxRecDepth 100000 in
set_option maxHeartbeats 4000000 in
theorem rpairs_yes {w : World} {u v : Value} {L : List Pr} (hu : Rd w u L.length (flatR L)) (hv : Rd w v L.length (flatR L)) (hl : L.length ≤ 100000) :
    Calls Tryz.prog 76 #[u, v] w fun e w' => e = .returned (.bool true) ∧ Below w.heap.size w w' := by
  obtain ⟨a1, k1, rfl, hx0⟩ := hu
  obtain ⟨a2, k2, rfl, hy0⟩ := hv
  obtain ⟨n, hn⟩ : ∃ n, L.length = n := ⟨_, rfl⟩
  have HN := Lib.hid hn
  rw [hn] at hx0 hy0 hl ⊢
  clear hn
  have t0 : ((n : Int) != (n : Int)) = false := by simp
  go_enter Tryz.func76, Tryz.ntmps76
  go_wp2_with fail
  go_loopw [5] (fun i wr => ∃ j : Nat, i = .int .i64 j ∧ j ≤ n ∧ Below w.heap.size w wr) (fun i _ => n - (intOf i).toNat)
  case atStart => exact ⟨0, rfl, Nat.zero_le _, Below.refl _ _⟩
  case round =>
    obtain ⟨j, rfl, hj, hBr⟩ := hrel
    have hsz := hBr.size
    by_cases hjl : j < n
    · have p0 : (j : Int) < (n : Int) := by omega
      have p1 : (0 : Int) ≤ (j : Int) := by omega
      have HJ := Lib.hid (show j + 1 ≤ n from hjl)
      obtain ⟨g1, o1, rfl, hx⟩ := hx0 (by omega)
      obtain ⟨g2, o2, rfl, hy⟩ := hy0 (by omega)
      obtain ⟨q, hq⟩ : ∃ q, L[j]? = some q := ⟨_, List.getElem?_eq_getElem (by have := HN.out; omega)⟩
      have k0 : wr.cell? ⟨g1, o1 + j * 4, none⟩ = some (.string q.name) := blk_cellB hBr (hx (j * 4) _ (by have := flatR_at' hq 0 (by omega); rw [Nat.add_zero] at this; rw [this]; rfl))
      have k1 : wr.cell? ⟨g1, o1 + j * 4 + 1, none⟩ = some (.int .i64 q.t.ty) := by rw [Nat.add_assoc]; exact blk_cellB hBr (hx (j * 4 + 1) _ (by rw [flatR_at' hq 1 (by omega)]; rfl))
      have k2 : wr.cell? ⟨g1, o1 + j * 4 + 2, none⟩ = some (.string q.t.s) := by rw [Nat.add_assoc]; exact blk_cellB hBr (hx (j * 4 + 2) _ (by rw [flatR_at' hq 2 (by omega)]; rfl))
      have k3 : wr.cell? ⟨g1, o1 + j * 4 + 3, none⟩ = some (.int .i64 q.t.n) := by rw [Nat.add_assoc]; exact blk_cellB hBr (hx (j * 4 + 3) _ (by rw [flatR_at' hq 3 (by omega)]; rfl))
      have l0 : wr.cell? ⟨g2, o2 + j * 4, none⟩ = some (.string q.name) := blk_cellB hBr (hy (j * 4) _ (by have := flatR_at' hq 0 (by omega); rw [Nat.add_zero] at this; rw [this]; rfl))
      have l1 : wr.cell? ⟨g2, o2 + j * 4 + 1, none⟩ = some (.int .i64 q.t.ty) := by rw [Nat.add_assoc]; exact blk_cellB hBr (hy (j * 4 + 1) _ (by rw [flatR_at' hq 1 (by omega)]; rfl))
      have l2 : wr.cell? ⟨g2, o2 + j * 4 + 2, none⟩ = some (.string q.t.s) := by rw [Nat.add_assoc]; exact blk_cellB hBr (hy (j * 4 + 2) _ (by rw [flatR_at' hq 2 (by omega)]; rfl))
      have l3 : wr.cell? ⟨g2, o2 + j * 4 + 3, none⟩ = some (.int .i64 q.t.n) := by rw [Nat.add_assoc]; exact blk_cellB hBr (hy (j * 4 + 3) _ (by rw [flatR_at' hq 3 (by omega)]; rfl))
      have s0 : (q.name.toList == q.name.toList) = true := tl_eq rfl
      have s1 : (q.t.s.toList == q.t.s.toList) = true := tl_eq rfl
      clear hq hx hy
      go_wp2_with fail
      go_quiet (fail)
      go_wp2_with fail
      go_roundw
      case rel => exact ⟨j + 1, by go_num, HJ.out, Cle.below_drewN hBr _⟩
      case measure => have hjj := HJ.out; simp [intOf]; omega
    · have hje : j = n := by omega
      subst hje
      go_wp2_with fail
      go_ret
      exact ⟨rfl, hBr⟩
set_option maxRecDepth 100000 in
set_option maxHeartbeats 4000000 in
theorem rtable_yes {w : World} {x : Sx} {a0 b0 : Option Addr} {n k0 m0 : Nat} (hn : x.tcols.length = n) (hu : Rd w (.slice a0 n k0) n (flatC x.tcols)) (hv : Rd w (.slice b0 n m0) n (flatC x.tcols)) (hl : n ≤ 100000) :
    Calls Tryz.prog 74 #[.agg #[.string x.tname, .int .i64 x.tid, .string x.part.name, .int .i64 x.part.ty, .string x.clus.name, .int .i64 x.clus.ty, .slice a0 n k0], .agg #[.string x.tname, .int .i64 x.tid, .string x.part.name, .int .i64 x.part.ty, .string x.clus.name, .int .i64 x.clus.ty, .slice b0 n m0]] w fun e w' => e = .returned (.bool true) ∧ Below w.heap.size w w' := by
  have hx0 : 0 < n → ∃ g o, a0 = some ⟨g, o, none⟩ ∧ ∀ k v, (flatC x.tcols)[k]? = some v → w.cell? ⟨g, o + k, none⟩ = some v := by
    obtain ⟨a1, k1, ha1, h⟩ := hu
    cases ha1
    exact h
  have hy0 : 0 < n → ∃ g o, b0 = some ⟨g, o, none⟩ ∧ ∀ k v, (flatC x.tcols)[k]? = some v → w.cell? ⟨g, o + k, none⟩ = some v := by
    obtain ⟨a1, k1, ha1, h⟩ := hv
    cases ha1
    exact h
  clear hu hv
  obtain ⟨hB, hBx, hBy⟩ := two_new w #[.string x.tname, .int .i64 x.tid, .string x.part.name, .int .i64 x.part.ty, .string x.clus.name, .int .i64 x.clus.ty, .slice a0 n k0] #[.string x.tname, .int .i64 x.tid, .string x.part.name, .int .i64 x.part.ty, .string x.clus.name, .int .i64 x.clus.ty, .slice b0 n m0] 26 26
  obtain ⟨W, hW⟩ : ∃ W, (w.alloc (.cells #[.string x.tname, .int .i64 x.tid, .string x.part.name, .int .i64 x.part.ty, .string x.clus.name, .int .i64 x.clus.ty, .slice a0 n k0] 26)).alloc (.cells #[.string x.tname, .int .i64 x.tid, .string x.part.name, .int .i64 x.part.ty, .string x.clus.name, .int .i64 x.clus.ty, .slice b0 n m0] 26) = W := ⟨_, rfl⟩
  rw [hW] at hB hBx hBy
  have HX := Lib.hid hBx
  have HY := Lib.hid hBy
  have HN := Lib.hid hn
  obtain ⟨f0, f1, f2, f3, f4, f5, f6⟩ := t7 hBx
  obtain ⟨g0, g1, g2, g3, g4, g5, g6⟩ := t7 hBy
  have s0 : (x.tname.toList == x.tname.toList) = true := tl_eq rfl
  have r1 := rcol_yes x.part.name x.part.ty
  have r2 := rcol_yes x.clus.name x.clus.ty
  have HB := Lib.hid hB
  have t0 : ((n : Int) != (n : Int)) = false := by simp
  clear hBx hBy hB hn
  go_enter Tryz.func74, Tryz.ntmps74
  go_wp2_with fail
  (try rw [hW])
  refine (r1 _).mono ?_; rintro e w1 ⟨rfl, h1⟩
  have hBx := keep_blk h1 HX.out
  have hBy := keep_blk h1 HY.out
  have HX1 := Lib.hid hBx
  have HY1 := Lib.hid hBy
  have HB1 := Lib.hid (HB.out.trans (h1.mono HB.out.size))
  obtain ⟨f0, f1, f2, f3, f4, f5, f6⟩ := t7 hBx
  obtain ⟨g0, g1, g2, g3, g4, g5, g6⟩ := t7 hBy
  clear hBx hBy h1 HX HY HB r1 hW
  go_wp2_with fail
  refine (r2 _).mono ?_; rintro e w2 ⟨rfl, h2⟩
  have hBx := keep_blk h2 HX1.out
  have hBy := keep_blk h2 HY1.out
  have HX2 := Lib.hid hBx
  have HY2 := Lib.hid hBy
  have HB2 := Lib.hid (HB1.out.trans (h2.mono HB1.out.size))
  obtain ⟨f0, f1, f2, f3, f4, f5, f6⟩ := t7 hBx
  obtain ⟨g0, g1, g2, g3, g4, g5, g6⟩ := t7 hBy
  clear hBx hBy h2 HX1 HY1 HB1 r2
  go_wp2_with fail
  go_loopw [5] (fun i wr => ∃ j : Nat, i = .int .i64 j ∧ j ≤ n ∧ Hid (Below w2.heap.size w2 wr)) (fun i _ => n - (intOf i).toNat)
  case atStart => exact ⟨0, rfl, Nat.zero_le _, Below.refl _ _⟩
  case round =>
    obtain ⟨j, rfl, hj, HBr⟩ := hrel
    have hBx := keep_blk HBr.out HX2.out
    have hBy := keep_blk HBr.out HY2.out
    have f6 := blk_cell hBx 6
    have g6 := blk_cell hBy 6
    have f6' : wr.cell? ⟨w.heap.size, 6, none⟩ = some (.slice a0 n k0) := f6
    have g6' : wr.cell? ⟨w.heap.size + 1, 6, none⟩ = some (.slice b0 n m0) := g6
    clear f6 g6 hBx hBy
    have HBw := Lib.hid (HB2.out.trans (HBr.out.mono HB2.out.size))
    by_cases hjl : j < n
    · have p0 : (j : Int) < (n : Int) := by omega
      have p1 : (0 : Int) ≤ (j : Int) := by omega
      have HJ := Lib.hid (show j + 1 ≤ n from hjl)
      obtain ⟨ga, o1, hea, hx⟩ := hx0 (by omega)
      obtain ⟨gb, o2, heb, hy⟩ := hy0 (by omega)
      subst hea
      subst heb
      obtain ⟨q, hq⟩ : ∃ q, x.tcols[j]? = some q := ⟨_, List.getElem?_eq_getElem (by have := HN.out; omega)⟩
      have k0' : wr.cell? ⟨ga, o1 + j * 2, none⟩ = some (.string q.name) := blk_cellB HBw.out (hx (j * 2) _ (by have := flatC_at' hq 0 (by omega); rw [Nat.add_zero] at this; rw [this]; rfl))
      have k1' : wr.cell? ⟨ga, o1 + j * 2 + 1, none⟩ = some (.int .i64 q.ty) := by rw [Nat.add_assoc]; exact blk_cellB HBw.out (hx (j * 2 + 1) _ (by rw [flatC_at' hq 1 (by omega)]; rfl))
      have l0' : wr.cell? ⟨gb, o2 + j * 2, none⟩ = some (.string q.name) := blk_cellB HBw.out (hy (j * 2) _ (by have := flatC_at' hq 0 (by omega); rw [Nat.add_zero] at this; rw [this]; rfl))
      have l1' : wr.cell? ⟨gb, o2 + j * 2 + 1, none⟩ = some (.int .i64 q.ty) := by rw [Nat.add_assoc]; exact blk_cellB HBw.out (hy (j * 2 + 1) _ (by rw [flatC_at' hq 1 (by omega)]; rfl))
      have rq := rcol_yes q.name q.ty
      clear hq hx hy hx0 hy0
      go_wp2_with fail
      go_region_law (go_simp; go_at_call 117; refine (rq _).mono ?_; rintro e w3 ⟨rfl, h3⟩)
      all_goals go_wp2_with fail
      all_goals go_roundw
      all_goals first
        | exact ⟨j + 1, by go_num, HJ.out, HBr.out.trans (((Cle.below_drewN (Below.refl wr.heap.size wr) _).trans h3).mono HBr.out.size)⟩
        | (have hjj := HJ.out; simp [intOf]; omega)
    · have hje : j = n := by omega
      subst hje
      go_wp2_with fail
      go_ret
      exact ⟨rfl, HBw.out⟩
end Go.Proofs.YtfbgdjcnlnfoaaaGreatDoor

namespace Go.Proofs.YtfbgdjcnlnfoaaaGreatDoor
open Go.RowKit
open Cle

theorem quiet_ldS {ops : Array Oper} {rest : List Oper} {op : Oper} {a : Act} {C : World → Prop} {Q : Act → Prop} {b o : Nat} {p : Pw} (hw : Region.wanted op (yielded ops a.tmps) = true) (x : Operand) (ho : op.op = .load 31 x) (hx : a.eval x = .pointer (some ⟨b, o, none⟩))
    (hr : ∀ w', C w' → w'.rangeAt b o p.arr.toList) (h : wpQuiet Tryz.prog ops C Q rest (a.put op.dst (.agg p.arr))) : wpQuiet Tryz.prog ops C Q (op :: rest) a := by
  obtain ⟨d, hu, hd⟩ := Tryz.undSt
  refine wpQuiet_step fun K hK => ?_
  rw [if_pos hw]
  refine ⟨.agg p.arr, fun w' hC => ?_, hK _ h⟩
  have := run_loadAt_mid w' b o 31 p.arr.toList d (hr w' hC) hu hd (by rw [show p.arr.toList.length = 18 from rfl]; exact Tryz.sizeSt)
  unfold Oper.quietAt execOp
  simp only [ho, hx, Sem.run_bind, this, Result.andThen_ok, Sem.run_pure]
  exact ⟨rfl, rfl⟩
theorem StIn.tc_at {w W : World} {x : Sx} {tc c s wv : Value} {n : Nat} (h : StIn w x tc c s wv) (hn : x.tcols.length = n) (hb : Below w.heap.size w W) : Rd W tc n (flatC x.tcols) := by
  rw [← hn]; exact h.tc.below hb
set_option maxRecDepth 100000 in
set_option maxHeartbeats 8000000 in
theorem rsame_of {w : World} {x : Sx} {a0 b0 ap bp : Option Addr} {n k0 m0 l kp mp : Nat} {c s wv c' s' wv' : Value} (hn : x.tcols.length = n) (hp : StIn w x (.slice a0 n k0) c s wv) (hq : StIn w x (.slice b0 n m0) c' s' wv') (sm : SmX x) {L1 L2 : List Pw} (hl1 : L1.length = l) (hl2 : L2.length = l) (hL : Rd w (.slice ap l kp) l (flatW L1)) (hM : Rd w (.slice bp l mp) l (flatW L2)) (hl : l ≤ 100000)
    (hf : ∀ (j : Nat) (q r : Pw), L1[j]? = some q → L2[j]? = some r → ∀ w', Below w.heap.size w w' → Calls Tryz.prog 34 #[.agg q.arr, .agg r.arr] w' fun e w'' => e = .returned (.bool true) ∧ Below w'.heap.size w' w'') :
    Calls Tryz.prog 34 #[.agg (stC x (.slice a0 n k0) c s wv (.slice ap l kp)), .agg (stC x (.slice b0 n m0) c' s' wv' (.slice bp l mp))] w fun e w' => e = .returned (.bool true) ∧ Below w.heap.size w w' := by
  obtain ⟨hB, hBx, hBy⟩ := two_new w (stC x (.slice a0 n k0) c s wv (.slice ap l kp)) (stC x (.slice b0 n m0) c' s' wv' (.slice bp l mp)) 31 31
  obtain ⟨W, hW⟩ : ∃ W, (w.alloc (.cells (stC x (.slice a0 n k0) c s wv (.slice ap l kp)) 31)).alloc (.cells (stC x (.slice b0 n m0) c' s' wv' (.slice bp l mp)) 31) = W := ⟨_, rfl⟩
  rw [hW] at hB hBx hBy
  have HX0 := Lib.hid hBx
  have HY0 := Lib.hid hBy
  have HB0 := Lib.hid hB
  have HP := Lib.hid hp
  have HQ := Lib.hid hq
  have HF := Lib.hid hf
  have HL := Lib.hid hL
  have HM := Lib.hid hM
  have HSM := Lib.hid sm
  have HN := Lib.hid hn
  have HL1 := Lib.hid hl1
  have HL2 := Lib.hid hl2
  clear hB hBx hBy hp hq hf hL hM sm hn hl1 hl2
  have s0 : (x.name.toList == x.name.toList) = true := tl_eq rfl
  have s1 : (x.of_.toList == x.of_.toList) = true := tl_eq rfl
  have s2 : (x.on.toList == x.on.toList) = true := tl_eq rfl
  have t0 : ((l : Int) != (l : Int)) = false := by simp
  obtain ⟨c0, c1, c2, c3, c4, c5, c6, c7, c8, c9, c10, c11, c12, c13, c14, c15, c16, c17⟩ := st18 HX0.out
  obtain ⟨d0, d1, d2, d3, d4, d5, d6, d7, d8, d9, d10, d11, d12, d13, d14, d15, d16, d17⟩ := st18 HY0.out
  clear c11 d11 c12 d12 c13 d13 c14 d14 c15 d15 c16 d16 c17 d17
  go_enter Tryz.func34, Tryz.ntmps34
  go_wp2_with fail
  (try rw [hW])
  refine (rtable_yes (x := x) HN.out (HP.out.tc_at HN.out HB0.out) (HQ.out.tc_at HN.out HB0.out) (by have := HSM.out.1; have := HN.out; omega)).mono ?_; rintro e w1 ⟨rfl, h1⟩
  have HX1 := Lib.hid (keep_blk h1 HX0.out)
  have HY1 := Lib.hid (keep_blk h1 HY0.out)
  have HB1 := Lib.hid (HB0.out.trans (h1.mono HB0.out.size))
  clear h1 HX0 HY0 hW c0 d0 c1 d1 c2 d2 c3 d3 c4 d4 c5 d5 c6 d6 c7 d7 c8 d8 c9 d9 c10 d10
  obtain ⟨c0, c1, c2, c3, c4, c5, c6, c7, c8, c9, c10, c11, c12, c13, c14, c15, c16, c17⟩ := st18 HX1.out
  obtain ⟨d0, d1, d2, d3, d4, d5, d6, d7, d8, d9, d10, d11, d12, d13, d14, d15, d16, d17⟩ := st18 HY1.out
  clear c0 d0 c1 d1 c2 d2 c3 d3 c4 d4 c5 d5 c6 d6 c7 d7 c8 d8 c9 d9 c10 d10 c12 d12 c13 d13 c14 d14 c15 d15 c16 d16 c17 d17
  go_wp2_with fail
  refine (rtexts_yes (L := x.cols) (HP.out.c.below HB1.out) (HQ.out.c.below HB1.out) HSM.out.2.1).mono ?_; rintro e w2 ⟨rfl, h2⟩
  have HX2 := Lib.hid (keep_blk h2 HX1.out)
  have HY2 := Lib.hid (keep_blk h2 HY1.out)
  have HB2 := Lib.hid (HB1.out.trans (h2.mono HB1.out.size))
  clear h2 HX1 HY1 c11 d11
  obtain ⟨c0, c1, c2, c3, c4, c5, c6, c7, c8, c9, c10, c11, c12, c13, c14, c15, c16, c17⟩ := st18 HX2.out
  obtain ⟨d0, d1, d2, d3, d4, d5, d6, d7, d8, d9, d10, d11, d12, d13, d14, d15, d16, d17⟩ := st18 HY2.out
  clear c0 d0 c1 d1 c2 d2 c3 d3 c4 d4 c5 d5 c6 d6 c7 d7 c8 d8 c9 d9 c10 d10 c11 d11 c13 d13 c14 d14 c15 d15 c16 d16 c17 d17
  go_wp2_with fail
  refine (rpairs_yes (L := x.sets) (HP.out.s.below HB2.out) (HQ.out.s.below HB2.out) HSM.out.2.2.1).mono ?_; rintro e w3 ⟨rfl, h3⟩
  have HX3 := Lib.hid (keep_blk h3 HX2.out)
  have HY3 := Lib.hid (keep_blk h3 HY2.out)
  have HB3 := Lib.hid (HB2.out.trans (h3.mono HB2.out.size))
  clear h3 HX2 HY2 c12 d12
  obtain ⟨c0, c1, c2, c3, c4, c5, c6, c7, c8, c9, c10, c11, c12, c13, c14, c15, c16, c17⟩ := st18 HX3.out
  obtain ⟨d0, d1, d2, d3, d4, d5, d6, d7, d8, d9, d10, d11, d12, d13, d14, d15, d16, d17⟩ := st18 HY3.out
  clear c0 d0 c1 d1 c2 d2 c3 d3 c4 d4 c5 d5 c6 d6 c7 d7 c8 d8 c9 d9 c10 d10 c11 d11 c12 d12 c14 d14 c15 d15 c16 d16 c17 d17
  go_wp2_with fail
  refine (rpairs_yes (L := x.wher) (HP.out.wv.below HB3.out) (HQ.out.wv.below HB3.out) HSM.out.2.2.2).mono ?_; rintro e w4 ⟨rfl, h4⟩
  have HX4 := Lib.hid (keep_blk h4 HX3.out)
  have HY4 := Lib.hid (keep_blk h4 HY3.out)
  have HB4 := Lib.hid (HB3.out.trans (h4.mono HB3.out.size))
  clear h4 HX3 HY3 c13 d13
  obtain ⟨c0, c1, c2, c3, c4, c5, c6, c7, c8, c9, c10, c11, c12, c13, c14, c15, c16, c17⟩ := st18 HX4.out
  obtain ⟨d0, d1, d2, d3, d4, d5, d6, d7, d8, d9, d10, d11, d12, d13, d14, d15, d16, d17⟩ := st18 HY4.out
  clear c0 d0 c1 d1 c2 d2 c3 d3 c4 d4 c5 d5 c6 d6 c7 d7 c8 d8 c9 d9 c10 d10 c11 d11 c12 d12 c13 d13
  go_wp2_with fail
  go_loopw [5] (fun i wr => ∃ j : Nat, i = .int .i64 j ∧ j ≤ l ∧ Hid (Below w4.heap.size w4 wr)) (fun i _ => l - (intOf i).toNat)
  case atStart => exact ⟨0, rfl, Nat.zero_le _, Below.refl _ _⟩
  case round =>
    obtain ⟨j, rfl, hj, HBr⟩ := hrel
    have e17 := blk_cellB HBr.out c17
    have f17 := blk_cellB HBr.out d17
    have HBw := Lib.hid (HB4.out.trans (HBr.out.mono HB4.out.size))
    clear c14 c15 c16 c17 d14 d15 d16 d17
    by_cases hjl : j < l
    · have p0 : (j : Int) < (l : Int) := by omega
      have p1 : (0 : Int) ≤ (j : Int) := by omega
      have HJ := Lib.hid (show j + 1 ≤ l from hjl)
      obtain ⟨q, hq⟩ : ∃ q, L1[j]? = some q := ⟨_, List.getElem?_eq_getElem (by have := HL1.out; omega)⟩
      obtain ⟨r, hr⟩ : ∃ r, L2[j]? = some r := ⟨_, List.getElem?_eq_getElem (by have := HL2.out; omega)⟩
      obtain ⟨a1, k1, ha1, hx0⟩ := HL.out
      obtain ⟨a2, k2, ha2, hy0⟩ := HM.out
      cases ha1
      cases ha2
      obtain ⟨ga, o1, hea, hx⟩ := hx0 (by omega)
      obtain ⟨gb, o2, heb, hy⟩ := hy0 (by omega)
      subst hea
      subst heb
      have hc := Lib.hid (HF.out j q r hq hr)
      have hR1 := flat_range hx hq HBw.out
      have hR2 := flat_range hy hr HBw.out
      obtain ⟨x1, tc1, cc1, ss1, wv1, pv1⟩ := q
      obtain ⟨x2, tc2, cc2, ss2, wv2, pv2⟩ := r
      clear hq hr hx hy hx0 hy0
      have rq := fun w' hb => hc.out w' hb
      have HC1 := fun d os (i : Nat) v hv => cell_regrown (hR1 i v hv) d os
      have HC2 := fun d os (i : Nat) v hv => cell_regrown (hR2 i v hv) d os
      have e17' := cell_regrown e17
      have f17' := cell_regrown f17
      have HC1' := Lib.hid HC1
      have HC2' := Lib.hid HC2
      clear hR1 hR2 rq HC1 HC2
      go_wp2_with fail
      refine wp_region_quiet_below (by kernel_rfl) (by kernel_rfl) ?_
      iterate 4 (go_big_quiet_step (fail))
      refine quiet_ldS rfl _ rfl rfl (p := ⟨x1, tc1, cc1, ss1, wv1, pv1⟩) (fun w' hw' => by obtain ⟨p, rfl⟩ := hw'; exact HC1'.out p.d p.os) ?_
      go_simp
      iterate 4 (go_big_quiet_step (fail))
      refine quiet_ldS rfl _ rfl rfl (p := ⟨x2, tc2, cc2, ss2, wv2, pv2⟩) (fun w' hw' => by obtain ⟨p, rfl⟩ := hw'; exact HC2'.out p.d p.os) ?_
      go_simp
      go_big_quiet_step (exact Calls.regrown_of (hc.out _ (HBw.out.trans ((below_regrown wr _ _).mono HBw.out.size))))
      go_big_quiet_step (fail)
      refine wpQuiet_nil ?_
      intro pq
      obtain ⟨dq, osq⟩ := pq
      go_wp2_with fail
      go_roundw
      case rel => exact ⟨j + 1, by go_num, HJ.out, HBr.out.trans ((below_regrown wr dq osq).mono HBr.out.size)⟩
      case measure => have hjj := HJ.out; simp [intOf]; omega
    · have hje : j = l := by omega
      subst hje
      go_wp2_with fail
      go_ret
      exact ⟨rfl, HBw.out⟩
end Go.Proofs.YtfbgdjcnlnfoaaaGreatDoor

namespace Go.Proofs.YtfbgdjcnlnfoaaaGreatDoor
open Go.RowKit
open Cle

set_option maxRecDepth 100000 in
theorem rsame0_yes {w : World} {q r : Pw} (h1 : StIn w q.x q.tc q.c q.s q.wv) (p1 : Rd w q.pv 0 []) (h2 : StIn w r.x r.tc r.c r.s r.wv) (p2 : Rd w r.pv 0 []) (sm : SmX q.x) (hx : q.x = r.x) :
    Calls Tryz.prog 34 #[.agg q.arr, .agg r.arr] w fun e w' => e = .returned (.bool true) ∧ Below w.heap.size w w' := by
  obtain ⟨x, tc, c, s, wv, pv⟩ := q
  obtain ⟨x', tc', c', s', wv', pv'⟩ := r
  have hx : x = x' := hx
  subst hx
  obtain ⟨a0, k0, e1, _⟩ := h1.tc
  obtain ⟨b0, m0, e2, _⟩ := h2.tc
  have p1' := p1
  have p2' := p2
  obtain ⟨ap, kp, e3, _⟩ := p1'
  obtain ⟨bp, mp, e4, _⟩ := p2'
  have e1 : tc = .slice a0 x.tcols.length k0 := e1
  have e2 : tc' = .slice b0 x.tcols.length m0 := e2
  have e3 : pv = .slice ap 0 kp := e3
  have e4 : pv' = .slice bp 0 mp := e4
  subst e1 e2 e3 e4
  exact rsame_of rfl h1 h2 sm (L1 := []) (L2 := []) rfl rfl p1 p2 (by omega) (fun j q r h => by simp at h)
set_option maxRecDepth 100000 in
theorem rsame_yes {w : World} {p q : Pw} {L M : List Pw} (hp : WdS w p L) (hq : WdS w q M) (sm : SmS ⟨p.x, L.map Pw.x⟩) (hx : p.x = q.x) (hm : L.map Pw.x = M.map Pw.x) :
    Calls Tryz.prog 34 #[.agg p.arr, .agg q.arr] w fun e w' => e = .returned (.bool true) ∧ Below w.heap.size w w' := by
  have hlen : M.length = L.length := by have := congrArg List.length hm; simpa using this.symm
  obtain ⟨x, tc, c, s, wv, pv⟩ := p
  obtain ⟨x', tc', c', s', wv', pv'⟩ := q
  have hx : x = x' := hx
  subst hx
  obtain ⟨a0, k0, e1, _⟩ := hp.st.tc
  obtain ⟨b0, m0, e2, _⟩ := hq.st.tc
  obtain ⟨ap, kp, e3, _⟩ := hp.pv
  obtain ⟨bp, mp, e4, _⟩ := hq.pv
  have e1 : tc = .slice a0 x.tcols.length k0 := e1
  have e2 : tc' = .slice b0 x.tcols.length m0 := e2
  have e3 : pv = .slice ap L.length kp := e3
  have e4 : pv' = .slice bp M.length mp := e4
  rw [hlen] at e4
  subst e1 e2 e3 e4
  have hqp : Rd w (.slice bp L.length mp) L.length (flatW M) := by have := hq.pv; rw [hlen] at this; exact this
  have hst := hp.st
  have hst2 := hq.st
  have hpv := hp.pv
  have hsm := sm.1
  have hll : L.length ≤ 100000 := by have := sm.2.1; simpa using this
  have hf : ∀ (j : Nat) (u v : Pw), L[j]? = some u → M[j]? = some v → ∀ w', Below w.heap.size w w' → Calls Tryz.prog 34 #[.agg u.arr, .agg v.arr] w' fun e w'' => e = .returned (.bool true) ∧ Below w'.heap.size w' w'' := by
    intro j u v hu hv w' hb
    have hxe : u.x = v.x := by
      have h1 : (L.map Pw.x)[j]? = some u.x := by rw [List.getElem?_map, hu]; rfl
      have h2 : (M.map Pw.x)[j]? = some v.x := by rw [List.getElem?_map, hv]; rfl
      rw [hm, h2] at h1
      exact (Option.some.inj h1).symm
    have hum := List.mem_of_getElem? hu
    have hvm := List.mem_of_getElem? hv
    exact rsame0_yes ((hp.each u hum).1.below hb) ((hp.each u hum).2.below hb) ((hq.each v hvm).1.below hb) ((hq.each v hvm).2.below hb) (sm.2.2 u.x (List.mem_map.2 ⟨u, hum, rfl⟩)) hxe
  have H := rsame_of (w := w) (x := x) (a0 := a0) (b0 := b0) (ap := ap) (bp := bp) (n := x.tcols.length) (k0 := k0) (m0 := m0) (l := L.length) (kp := kp) (mp := mp) (c := c) (s := s) (wv := wv) (c' := c') (s' := s') (wv' := wv') rfl hst hst2 hsm (L1 := L) (L2 := M) rfl hlen hpv hqp hll hf
  rw [hlen]
  exact H
set_option maxRecDepth 100000 in
set_option maxHeartbeats 4000000 in
theorem rstmt_yes {w : World} {p q : Pw} {L M : List Pw} (hp : WdS w p L) (hq : WdS w q M) (sm : SmS ⟨p.x, L.map Pw.x⟩) (hx : p.x = q.x) (hm : L.map Pw.x = M.map Pw.x) :
    Calls Tryz.prog 19 #[.agg p.arr, .agg q.arr] w fun e w' => e = .returned (.bool true) ∧ Below w.heap.size w w' := by
  obtain ⟨hB, hBx, hBy⟩ := two_new w p.arr q.arr 31 31
  have hc := rsame_yes (hp.below hB) (hq.below hB) sm hx hm
  obtain ⟨x, tc, c, s, wv, pv⟩ := p
  obtain ⟨x', tc', c', s', wv', pv'⟩ := q
  clear hp hq sm hx hm
  go_enter Tryz.func19, Tryz.ntmps19
  go_wp2_with (first | refine wpl_st rfl _ rfl rfl rfl hBx ?_ | refine wpl_st rfl _ rfl rfl rfl hBy ?_)
  refine hc.mono ?_; rintro e w2 ⟨rfl, hb2⟩
  go_wp2_with fail
  go_ret
  exact ⟨rfl, hB.trans (hb2.mono hB.size)⟩
end Go.Proofs.YtfbgdjcnlnfoaaaGreatDoor

namespace Go.Proofs.YtfbgdjcnlnfoaaaGreatDoor
namespace Cle

end Cle
end Go.Proofs.YtfbgdjcnlnfoaaaGreatDoor

namespace Go.Proofs.YtfbgdjcnlnfoaaaGreatDoor
namespace Cle

def Bo (X : Tx) (σ σ' : Ps) : Prop := (∀ a, σ.bad = some a → a ≤ X.en) → ∀ a, σ'.bad = some a → a ≤ X.en
theorem Bo.refl {X : Tx} (σ : Ps) : Bo X σ σ := fun h => h
theorem Bo.trans {X : Tx} {σ σ1 σ2 : Ps} (h : Bo X σ σ1) (h' : Bo X σ1 σ2) : Bo X σ σ2 := fun hb => h' (h hb)
theorem bo_step {X : Tx} (σ : Ps) : Bo X σ σ.step := fun h => h
theorem bo_if {X : Tx} {c : Prop} [Decidable c] {σ σ1 σ2 : Ps} (h1 : Bo X σ σ1) (h2 : Bo X σ σ2) : Bo X σ (if c then σ1 else σ2) := by
  split
  · exact h1
  · exact h2
theorem here_le (X : Tx) (hE : ∀ t ∈ X.T, t.at_ ≤ X.en) (σ : Ps) : X.here σ ≤ X.en := by
  unfold Tx.here
  split
  · rename_i t ht
    exact hE t (List.mem_of_getElem? ht)
  · exact Nat.le_refl _
theorem bo_here (X : Tx) (hE : ∀ t ∈ X.T, t.at_ ≤ X.en) (σ τ : Ps) : Bo X σ (σ.wrong (X.here τ)) := by
  intro h a ha
  unfold Ps.wrong at ha
  cases hb : σ.bad with
  | none =>
    rw [hb] at ha
    cases ha
    exact here_le X hE τ
  | some b => rw [hb] at ha; exact h a ha
section
variable (X : Tx) (hE : ∀ t ∈ X.T, t.at_ ≤ X.en)
include hE
theorem fail_bo (σ : Ps) : Bo X σ (X.fail σ) := bo_here X hE _ _
theorem must1_bo (σ : Ps) (s : ByteArray) : Bo X σ (X.must1 σ s) := bo_if (bo_step _) (fail_bo X hE _)
theorem must_bo : ∀ (l : List ByteArray) (σ : Ps), Bo X σ (X.must σ l)
  | [], σ => Bo.refl σ
  | s :: l, σ => (must1_bo X hE σ s).trans (must_bo l (X.must1 σ s))
theorem may_bo (σ : Ps) (s : ByteArray) : Bo X σ (X.may σ s) := bo_if ((fun _ => bo_step σ) hE) (Bo.refl _)
theorem name_bo (σ : Ps) : Bo X σ (X.name σ).2 := by
  unfold Tx.name
  split
  · split
    · exact fail_bo X hE _
    · exact bo_step _
  · exact fail_bo X hE _
theorem value_bo (σ : Ps) : Bo X σ (X.value σ).2 := by
  unfold Tx.value
  split
  · exact bo_step _
  · split
    · exact bo_step _
    · exact fail_bo X hE _
theorem count_bo (σ : Ps) : Bo X σ (X.count σ).2 := (value_bo X hE σ).trans (bo_if (bo_here X hE _ _) (Bo.refl _))
theorem column_bo (σ : Ps) (l : List ByteArray) (most : Nat) : Bo X σ (X.column σ l most).2 := by
  unfold Tx.column
  have h1 : Bo X σ (if most ≤ l.length then σ.wrong (X.here σ) else σ) := bo_if (bo_here X hE _ _) (Bo.refl _)
  exact (h1.trans (name_bo X hE _)).trans (bo_if (bo_here X hE _ _) (Bo.refl _))
theorem columnsF_bo (most : Nat) : ∀ n σ l, Bo X σ (X.columnsF most n σ l).2
  | 0, σ, l => Bo.refl σ
  | n + 1, σ, l => by
    rw [Tx.columnsF]
    split
    · exact ((bo_step σ).trans (column_bo X hE _ _ _)).trans (columnsF_bo most n _ _)
    · exact Bo.refl σ
theorem columns_bo (σ : Ps) (most : Nat) : Bo X σ (X.columns σ most).2 := (column_bo X hE σ [] most).trans (columnsF_bo X hE most _ _ _)
theorem some_bo (σ : Ps) : Bo X σ (X.some_ σ).2 := by
  unfold Tx.some_
  split
  · exact bo_step _
  · exact columns_bo X hE _ _
theorem equal_bo (σ : Ps) : Bo X σ (X.equal σ).2 := ((name_bo X hE σ).trans (must_bo X hE _ _)).trans (value_bo X hE _)
theorem wher_bo (σ : Ps) (b : Bool) : Bo X σ (X.wher σ b).2 := by
  have h0 := (must_bo X hE [(⟨#[119, 104, 101, 114, 101]⟩ : ByteArray)] σ).trans (equal_bo X hE _)
  unfold Tx.wher
  simp only
  split
  · exact (h0.trans (must_bo X hE _ _)).trans (equal_bo X hE _)
  · split
    · exact (h0.trans (bo_step _)).trans (equal_bo X hE _)
    · exact h0
theorem using_bo (σ : Ps) (b : Bool) (x : Sx) : Bo X σ (X.using_ σ b x).2 := by
  unfold Tx.using_
  split
  · simp only
    split
    · exact ((bo_step σ).trans (bo_step _)).trans (count_bo X hE _)
    · have h0 := ((bo_step σ).trans (must_bo X hE [(⟨#[116, 105, 109, 101, 115, 116, 97, 109, 112]⟩ : ByteArray)] _)).trans (count_bo X hE _)
      split
      · exact ((h0.trans (bo_step _)).trans (must_bo X hE _ _)).trans (count_bo X hE _)
      · exact h0
  · exact Bo.refl σ
theorem one_bo (σ : Ps) (l : List ByteArray) (but : ByteArray) : Bo X σ (X.one σ l but).2 := (name_bo X hE σ).trans (bo_if (bo_here X hE _ _) (Bo.refl _))
theorem kind_bo (σ : Ps) : Bo X σ (X.kind σ).2 := by
  unfold Tx.kind
  split
  · exact bo_step _
  · exact must_bo X hE _ _
theorem tableF_bo : ∀ n σ l C, Bo X σ (X.tableF n σ l C).2.2
  | 0, σ, l, C => Bo.refl σ
  | n + 1, σ, l, C => by
    rw [Tx.tableF]
    split
    · exact Bo.refl σ
    · split
      · exact bo_step σ
      · exact (((column_bo X hE σ l 10).trans (kind_bo X hE _)).trans (must_bo X hE _ _)).trans (tableF_bo n _ _ _)
theorem table_bo (σ : Ps) : Bo X σ (X.table σ).2 :=
  (((((((name_bo X hE σ).trans (must_bo X hE _ _)).trans (tableF_bo X hE _ _ _ _)).trans (must_bo X hE _ _)).trans (one_bo X hE _ _ _)).trans (must_bo X hE _ _)).trans (one_bo X hE _ _ _)).trans (must_bo X hE _ _)
theorem view_bo (σ : Ps) : Bo X σ (X.view σ).2 :=
  ((((((((((((((must_bo X hE _ σ).trans (name_bo X hE _)).trans (must_bo X hE _ _)).trans (some_bo X hE _)).trans (must_bo X hE _ _)).trans (name_bo X hE _)).trans (must_bo X hE _ _)).trans (name_bo X hE _)).trans (must_bo X hE _ _)).trans (one_bo X hE _ _ _)).trans (must_bo X hE _ _)).trans (name_bo X hE _)).trans (must_bo X hE _ _)).trans (name_bo X hE _)).trans (must_bo X hE _ _)
theorem index_bo (σ : Ps) : Bo X σ (X.index σ).2 :=
  ((((((must_bo X hE _ σ).trans (name_bo X hE _)).trans (must_bo X hE _ _)).trans (name_bo X hE _)).trans (must_bo X hE _ _)).trans (name_bo X hE _)).trans (must_bo X hE _ _)
theorem valuesF_bo : ∀ n σ l, Bo X σ (X.valuesF n σ l).2
  | 0, σ, l => Bo.refl σ
  | n + 1, σ, l => by
    rw [Tx.valuesF]
    split
    · exact ((bo_step σ).trans (value_bo X hE _)).trans (valuesF_bo n _ _)
    · exact Bo.refl σ
theorem insert_bo (σ : Ps) : Bo X σ (X.insert σ).2 :=
  (((((((((must_bo X hE _ σ).trans (name_bo X hE _)).trans (must_bo X hE _ _)).trans (columns_bo X hE _ _)).trans (must_bo X hE _ _)).trans (value_bo X hE _)).trans (valuesF_bo X hE _ _ _)).trans (bo_if (fail_bo X hE _) (Bo.refl _))).trans (must_bo X hE _ _)).trans (using_bo X hE _ _ _)
theorem setsF_bo : ∀ n σ l Z, Bo X σ (X.setsF n σ l Z).2
  | 0, σ, l, Z => Bo.refl σ
  | n + 1, σ, l, Z => by
    have h0 := ((column_bo X hE σ l 8).trans (must_bo X hE [(⟨#[61]⟩ : ByteArray)] _)).trans (value_bo X hE _)
    rw [Tx.setsF]
    try simp only
    split
    · exact (h0.trans (bo_step _)).trans (setsF_bo n _ _ _)
    · exact h0
theorem update_bo (σ : Ps) : Bo X σ (X.update σ).2 :=
  ((((name_bo X hE σ).trans (using_bo X hE _ _ _)).trans (must_bo X hE _ _)).trans (setsF_bo X hE _ _ _ _)).trans (wher_bo X hE _ _)
theorem remove_bo (σ : Ps) : Bo X σ (X.remove σ).2 := by
  unfold Tx.remove
  have h0 : Bo X σ (if X.sees σ (⟨#[102, 114, 111, 109]⟩ : ByteArray) = true then ([], σ) else X.columns σ 8).2 := by
    split
    · exact Bo.refl σ
    · exact columns_bo X hE _ _
  exact (((h0.trans (must_bo X hE _ _)).trans (name_bo X hE _)).trans (using_bo X hE _ _ _)).trans (wher_bo X hE _ _)
theorem ask_bo (σ : Ps) : Bo X σ (X.ask σ).2 := by
  have h0 := (((some_bo X hE σ).trans (must_bo X hE [(⟨#[102, 114, 111, 109]⟩ : ByteArray)] _)).trans (name_bo X hE _)).trans (wher_bo X hE _ false)
  unfold Tx.ask
  simp only
  split
  · exact (h0.trans (bo_step _)).trans (count_bo X hE _)
  · exact h0
theorem manyF_bo {st : Ps → Tx.Nd × Ps} (hst : ∀ σ, Bo X σ (st σ).2) : ∀ n σ l, Bo X σ (X.manyF st n σ l).2
  | 0, σ, l => Bo.refl σ
  | n + 1, σ, l => by
    rw [Tx.manyF]
    split
    · exact Bo.refl σ
    · split
      · exact bo_step σ
      · simp only
        have h1 : Bo X σ (st (if 8 ≤ l.length then σ.wrong (X.here σ) else σ)).2 := (bo_if (bo_here X hE _ _) (Bo.refl _)).trans (hst _)
        split
        · exact (h1.trans (must_bo X hE _ _)).trans (manyF_bo hst n _ _)
        · exact fun _ a ha => by cases ha; exact here_le X hE σ
theorem stF_bo : ∀ n σ, Bo X σ (X.stF n σ).2
  | 0, σ => Bo.refl σ
  | n + 1, σ => by
    rw [Tx.stF]
    split
    · exact (bo_step σ).trans (insert_bo X hE _)
    split
    · exact (bo_step σ).trans (update_bo X hE _)
    split
    · exact (bo_step σ).trans (remove_bo X hE _)
    split
    · exact (bo_step σ).trans (ask_bo X hE _)
    split
    · exact (((bo_step σ).trans (must_bo X hE _ _)).trans (manyF_bo X hE (stF_bo n) _ _ _)).trans (must_bo X hE _ _)
    split
    · exact (bo_step σ).trans (name_bo X hE _)
    split
    · split
      · exact ((bo_step σ).trans (bo_step _)).trans (table_bo X hE _)
      split
      · exact ((bo_step σ).trans (bo_step _)).trans (view_bo X hE _)
      · exact (bo_step σ).trans (index_bo X hE _)
    · exact fail_bo X hE _
theorem parseT_bo (a : Nat) (h : (parseT X).2.bad = some a) : a ≤ X.en := by
  unfold parseT at h
  simp only at h
  exact (((stF_bo X hE _ _).trans (may_bo X hE _ _)).trans (bo_if (fail_bo X hE _) (Bo.refl _))) (fun a ha => absurd ha (by simp)) a h
end
end Cle
end Go.Proofs.YtfbgdjcnlnfoaaaGreatDoor

namespace Go.Proofs.YtfbgdjcnlnfoaaaGreatDoor
namespace Cle

theorem lexF_lies (s : ByteArray) : ∀ n i, (∀ l, lexF s (pts s) n i = .ok l → ∀ t ∈ l, t.at_ ≤ (pts s).length) ∧ (∀ a, lexF s (pts s) n i = .error a → a ≤ (pts s).length)
  | 0, i => ⟨fun l h t ht => by cases h; exact absurd ht (by simp), fun a h => by cases h⟩
  | n + 1, i => by
    obtain ⟨h1, h2⟩ := lexF_lies s n (tokO s (pts s) (skip (pts s) i)).2.2
    refine ⟨fun l h t ht => ?_, fun a h => ?_⟩
    · rw [lexF] at h
      split at h
      · cases h; exact absurd ht (by simp)
      · rename_i hlt
        split at h
        · rename_i hok
          cases hr : lexF s (pts s) n (tokO s (pts s) (skip (pts s) i)).2.2 with
          | error a => rw [hr] at h; cases h
          | ok r =>
            rw [hr] at h
            cases h
            rcases List.mem_cons.1 ht with rfl | ht
            · rw [tokO_at _ _ _ hok]; omega
            · exact h1 r hr t ht
        · cases h
    · rw [lexF] at h
      split at h
      · cases h
      · rename_i hlt
        split at h
        · cases hr : lexF s (pts s) n (tokO s (pts s) (skip (pts s) i)).2.2 with
          | error b => rw [hr] at h; cases h; exact h2 _ hr
          | ok r => rw [hr] at h; cases h
        · cases h; omega
theorem parseL_none {s : ByteArray} {z : Stt} {a e : Int} (h : parseL s = (z, a, e)) (he : e ≠ 0) : z = Stt.zero ∧ 0 ≤ a ∧ a ≤ ((pts s).length : Nat) ∧ (e = 2 ∨ e = 3) := by
  unfold parseL at h
  simp only at h
  split at h
  · rename_i hl
    cases h
    unfold lexL at hl ⊢
    split
    · exact ⟨rfl, by omega, by simp, Or.inl rfl⟩
    · rename_i h1
      rw [if_neg h1] at hl
      split
      · rename_i l hr; rw [hr] at hl; exact absurd rfl hl
      · rename_i b hr
        have := (lexF_lies s _ _).2 b hr
        exact ⟨rfl, by simp, by simpa using this, Or.inr rfl⟩
  · rename_i hl
    split at h
    · rename_i b hb
      cases h
      have hE : ∀ t ∈ (lexL s).1, t.at_ ≤ (pts s).length := by
        unfold lexL
        split
        · intro t ht; exact absurd ht (by simp)
        · split
          · rename_i l hr; exact (lexF_lies s _ _).1 l hr
          · intro t ht; exact absurd ht (by simp)
      have := parseT_bo (⟨(lexL s).1, (pts s).length⟩ : Tx) hE b hb
      exact ⟨rfl, by simp, by simpa using this, Or.inr rfl⟩
    · split at h
      · cases h; exact ⟨rfl, by omega, by simp, Or.inl rfl⟩
      · cases h; exact absurd rfl he
end Cle
end Go.Proofs.YtfbgdjcnlnfoaaaGreatDoor

namespace Go.Proofs.YtfbgdjcnlnfoaaaGreatDoor
open Go.RowKit
open Cle

theorem que_wds0 {W : World} {x : Sx} (h1 : x.tcols = []) (h2 : x.cols = []) (h3 : x.sets = []) (h4 : x.wher = []) : WdS W ⟨x, vnil, vnil, vnil, vnil, vnil⟩ [] :=
  ⟨⟨by rw [h1]; exact rd_vnil W, by rw [h2]; exact rd_vnil W, by rw [h3]; exact rd_vnil W, by rw [h4]; exact rd_vnil W⟩, rd_vnil W, by simp⟩
end Go.Proofs.YtfbgdjcnlnfoaaaGreatDoor

namespace Go.Proofs.YtfbgdjcnlnfoaaaGreatDoor
open Go.RowKit
open Cle

end Go.Proofs.YtfbgdjcnlnfoaaaGreatDoor

namespace Go.Proofs.YtfbgdjcnlnfoaaaGreatDoor
open Go.RowKit
open Cle

theorem byte_is {s : ByteArray} {j : Nat} (h : j < s.size) (c : Nat) : ((s[j].toNat : Int) == (c : Int)) = decide (bY s j = c) := by
  rw [bY_eq s j h]
  by_cases hc : bY s j = c
  · rw [hc]; simp
  · rw [beq_eq_false_iff_ne.2 (by omega)]; simp [hc]
set_option maxRecDepth 100000 in
set_option maxHeartbeats 4000000 in
theorem ends_any (s : ByteArray) (w : World) (hs : s.size ≤ 1000000) :
    Calls Tryz.prog 20 #[.string s] w fun e w' => ∃ b : Bool, e = .returned (.bool b) ∧ (b = true ↔ ∃ k, k < s.size ∧ bY s k = 59) ∧ w = w' := by
  go_enter Tryz.func20, Tryz.ntmps20
  go_wp2_with fail
  go_loopw [3] (fun i wr => ∃ j : Nat, i = .int .i64 j ∧ j ≤ s.size ∧ Hid (w = wr) ∧ Hid (∀ k, k < j → bY s k ≠ 59)) (fun i _ => s.size - (intOf i).toNat)
  case atStart => exact ⟨0, rfl, Nat.zero_le _, rfl, fun k hk => absurd hk (by omega)⟩
  case round =>
    obtain ⟨j, rfl, hj, HW, HA⟩ := hrel
    by_cases hlt : j < s.size
    · have p0 : (j : Int) < (s.size : Int) := by omega
      have p1 : (0 : Int) ≤ (j : Int) := by omega
      have hb := byte_is hlt 59
      by_cases h59 : bY s j = 59
      · rw [decide_eq_true h59] at hb
        have HE : Hid (∃ k, k < s.size ∧ bY s k = 59) := ⟨j, hlt, h59⟩
        clear h59
        go_wp2_with fail
        go_ret
        exact ⟨true, rfl, ⟨fun _ => HE.out, fun _ => rfl⟩, HW.out⟩
      · rw [decide_eq_false h59] at hb
        have HB : Hid (∀ k, k < j + 1 → bY s k ≠ 59) := fun k hk => by
          by_cases hkj : k = j
          · rw [hkj]; exact h59
          · exact HA.out k (by omega)
        have HJ := Lib.hid hlt
        clear h59
        go_wp2_with fail
        go_roundw
        case rel => exact ⟨j + 1, by go_num, HJ.out, HW.out, HB.out⟩
        case measure => have := HJ.out; simp [intOf]; omega
    · have hje : j = s.size := by omega
      subst hje
      go_wp2_with fail
      go_ret
      exact ⟨false, rfl, ⟨fun h => absurd h (by decide), fun ⟨k, h1, h2⟩ => absurd h2 (HA.out k h1)⟩, HW.out⟩
end Go.Proofs.YtfbgdjcnlnfoaaaGreatDoor

namespace Go.Proofs.YtfbgdjcnlnfoaaaGreatDoor
namespace Cle

theorem dec_ge (n b0 b1 b2 b3 : Nat) (hn : 1 ≤ n) (h0 : 128 ≤ b0) : 128 ≤ (Lib.decodeN n b0 b1 b2 b3).1 := by
  unfold Lib.decodeN
  rw [if_neg (by omega)]
  repeat' split
  all_goals (try simp only)
  all_goals omega
theorem ptsAt_byte (s : ByteArray) : ∀ n pos, s.size - pos ≤ n → ∀ p ∈ ptsAt s pos, p.r < 128 → bY s p.at_ = p.r ∧ p.at_ < s.size := by
  intro n
  induction n with
  | zero => intro pos h p hp; rw [ptsAt_end s pos (by omega)] at hp; exact absurd hp (by simp)
  | succ n ih =>
    intro pos h p hp hr
    by_cases hlt : pos < s.size
    · have hw0 := width_pos s pos hlt
      rw [ptsAt_step s pos hlt] at hp
      rcases List.mem_cons.1 hp with rfl | hp
      · have hd : (Utf8.decode s pos).1 < 128 := hr
        rw [dec_bY] at hd
        have h0 : bY s pos < 128 := by
          refine Decidable.byContradiction fun hn => ?_
          have := dec_ge (s.size - pos) (bY s pos) (bY s (pos + 1)) (bY s (pos + 2)) (bY s (pos + 3)) (by omega) (by omega)
          omega
        refine ⟨?_, hlt⟩
        show bY s pos = (Utf8.decode s pos).1
        rw [dec_bY]
        unfold Lib.decodeN
        rw [if_pos h0]
      · exact ih _ (by omega) p hp hr
    · rw [ptsAt_end s pos hlt] at hp; exact absurd hp (by simp)
theorem pts_byte (s : ByteArray) {i : Nat} {q : Nat} (hq : q < 128) (h : isB (pts s) i (q : Int) = true) : ∃ k, k < s.size ∧ bY s k = q := by
  unfold isB at h
  split at h
  · rename_i p hp
    have hr : p.r = q := by have := eq_of_beq h; omega
    obtain ⟨h1, h2⟩ := ptsAt_byte s s.size 0 (by omega) p (by rw [← pts_eq]; exact List.mem_of_getElem? hp) (by omega)
    exact ⟨p.at_, h2, by omega⟩
  · exact absurd h (by decide)
theorem no_isB {s : ByteArray} {q : Nat} (hq : q < 128) (h : ∀ k, k < s.size → bY s k ≠ q) (i : Nat) : isB (pts s) i (q : Int) = false := by
  rw [Bool.eq_false_iff]
  intro hb
  obtain ⟨k, h1, h2⟩ := pts_byte s hq hb
  exact h k h1 h2

theorem low_isB (P : List Pt) (i : Nat) (q : Int) (hq : q < 65 ∨ 122 < q) : isB (P.map Pt.low) i q = isB P i q := by
  unfold isB
  rw [List.getElem?_map]
  cases P[i]? with
  | none => rfl
  | some p =>
    simp only [Option.map_some]
    unfold Pt.low lowN
    simp only
    split
    · rename_i h
      rw [Bool.eq_iff_iff]
      simp only [beq_iff_eq]
      omega
    · rfl
theorem low_blankB (P : List Pt) : blankB (P.map Pt.low) = blankB P := by
  funext i
  unfold blankB
  rw [low_isB P i 32 (by omega), low_isB P i 9 (by omega), low_isB P i 10 (by omega), low_isB P i 13 (by omega)]
theorem low_dashB (P : List Pt) : dashB (P.map Pt.low) = dashB P := by
  funext i
  unfold dashB
  rw [low_isB P i 45 (by omega), low_isB P (i + 1) 45 (by omega)]
theorem low_lineEnd (P : List Pt) : lineEnd (P.map Pt.low) = lineEnd P := by
  funext i
  unfold lineEnd
  rw [List.length_map]
  congr 1
  funext j
  rw [low_isB P j 10 (by omega)]
theorem low_skipF (P : List Pt) : ∀ n i, skipF (P.map Pt.low) n i = skipF P n i
  | 0, i => rfl
  | n + 1, i => by rw [skipF, skipF, low_blankB, low_dashB, low_lineEnd, List.length_map, low_skipF P n, low_skipF P n]
theorem low_skip (P : List Pt) (i : Nat) : skip (P.map Pt.low) i = skip P i := by
  unfold skip
  rw [List.length_map, low_skipF]
theorem low_rAt (P : List Pt) (i : Nat) (h : digB P i = true) : rAt (P.map Pt.low) i = rAt P i := by
  unfold digB at h
  unfold rAt
  rw [List.getElem?_map]
  cases hp : P[i]? with
  | none => rfl
  | some p =>
    rw [hp] at h
    simp only [Option.map_some]
    unfold digitB at h
    simp only [Bool.and_eq_true, decide_eq_true_eq] at h
    unfold Pt.low lowN
    simp only
    rw [if_neg (by omega)]
theorem low_numF (P : List Pt) : ∀ n i v ok, numF (P.map Pt.low) n i v ok = numF P n i v ok
  | 0, i, v, ok => rfl
  | n + 1, i, v, ok => by
    rw [numF, numF, low_digB]
    cases h : digB P i with
    | false => rfl
    | true => rw [low_rAt P i h, low_numF P n]
theorem low_wordEnd (P : List Pt) (i : Nat) : wordEnd (P.map Pt.low) i = wordEnd P i := by
  unfold wordEnd
  rw [List.length_map]
  congr 1
  funext k
  rw [low_letB, low_digB]
theorem low_byteAt (s : ByteArray) (P : List Pt) (i : Nat) : byteAt (fold s) (P.map Pt.low) i = byteAt s P i := by
  unfold byteAt
  rw [List.getElem?_map]
  cases P[i]? with
  | none => exact fold_size s
  | some p => rfl
theorem fold_cut (s : ByteArray) (a b : Nat) : (fold s).extract a b = fold (s.extract a b) := by
  apply ByteArray.ext
  simp only [fold, ByteArray.data_extract]
  rw [Array.map_extract]
theorem low_numberO (P : List Pt) (i : Nat) : numberO (P.map Pt.low) i = numberO P i := by
  have e1 : numStart (P.map Pt.low) i = numStart P i := by unfold numStart; rw [low_isB P i 45 (by omega)]
  have e2 : numR (P.map Pt.low) i = numR P i := by
    unfold numR num
    rw [e1, low_digB, List.length_map, low_numF]
  unfold numberO
  rw [e2, low_isB P i 45 (by omega), low_letB]
theorem sign_low (r : Nat) : signB ((lowN r : Nat) : Int) = signB (r : Int) ∧ (signB (r : Int) = true → lowN r = r) := by
  unfold lowN signB
  split
  · rename_i h
    constructor
    · rw [Bool.eq_iff_iff]
      simp only [Bool.or_eq_true, beq_iff_eq]
      omega
    · intro hs
      simp only [Bool.or_eq_true, beq_iff_eq] at hs
      omega
  · exact ⟨rfl, fun _ => rfl⟩
theorem low_tokO (s : ByteArray) (h39 : ∀ i, isB (pts s) i 39 = false) (i : Nat) : tokO (fold s) ((pts s).map Pt.low) i = tokO s (pts s) i := by
  unfold tokO
  rw [low_letB, low_digB, low_isB _ i 45 (by omega), low_isB _ i 39 (by omega), h39 i, low_numberO]
  have e1 : wordO (fold s) ((pts s).map Pt.low) i = wordO s (pts s) i := by
    unfold wordO wordT
    rw [low_byteAt, low_wordEnd, low_byteAt, fold_cut, fold_fold, fold_size]
  rw [e1]
  have e2 : rAt ((pts s).map Pt.low) i = match (pts s)[i]? with | some p => ((lowN p.r : Nat) : Int) | none => -1 := by
    unfold rAt
    rw [List.getElem?_map]
    cases (pts s)[i]? <;> rfl
  have e3 : signB (rAt ((pts s).map Pt.low) i) = signB (rAt (pts s) i) := by
    rw [e2]
    unfold rAt
    cases (pts s)[i]? with
    | none => rfl
    | some p => exact (sign_low p.r).1
  have e4 : signB (rAt (pts s) i) = true → rAt ((pts s).map Pt.low) i = rAt (pts s) i := by
    intro h
    rw [e2]
    unfold rAt at h ⊢
    cases hp : (pts s)[i]? with
    | none => rfl
    | some p =>
      rw [hp] at h
      exact congrArg _ ((sign_low p.r).2 h)
  rw [e3]
  cases hs : signB (rAt (pts s) i) with
  | false => simp
  | true => rw [e4 hs]; simp
theorem low_lexF (s : ByteArray) (h39 : ∀ i, isB (pts s) i 39 = false) : ∀ n i, lexF (fold s) ((pts s).map Pt.low) n i = lexF s (pts s) n i
  | 0, i => rfl
  | n + 1, i => by rw [lexF, lexF, low_skip, List.length_map, low_tokO s h39, low_lexF s h39 n]
theorem low_lexL (s : ByteArray) (h39 : ∀ i, isB (pts s) i 39 = false) : lexL (fold s) = lexL s := by
  unfold lexL
  rw [fold_size, pts_fold, List.length_map, low_lexF s h39]
theorem parseL_fold (s : ByteArray) (h : ∀ k, k < s.size → bY s k ≠ 39) : parseL (fold s) = parseL s := by
  have h39 : ∀ i, isB (pts s) i 39 = false := fun i => no_isB (q := 39) (by omega) h i
  unfold parseL
  rw [low_lexL s h39, pts_fold, List.length_map]

theorem Ins.lex_more {s u r B : ByteArray} {a d : Nat} (h : Ins s u r B a d) (ha : a = (pts s).length) (hd : bY u d = 10) {Z : List Tk} (hZ : ∀ m, (pts u).length < m + a → Cle.lexF u (pts u) m a = .ok Z) :
    ∀ n m e l, Cle.lexF s (pts s) n e = .ok l → (pts s).length < n + e → (pts u).length < m + e → e ≤ a → Cle.lexF u (pts u) m e = .ok (l ++ Z) := by
  intro n
  induction n with
  | zero => intro m e l _ hn _ hea; omega
  | succ n ih =>
    intro m e l hl hn hm hea
    rw [Cle.lexF] at hl
    split at hl
    · rename_i hq
      cases hl
      have h2 := skip_le_len (pts s) ((pts s).length - e) e (by omega)
      rw [show skipF (pts s) ((pts s).length - e) e = skip (pts s) e from rfl] at h2
      have hse : skip (pts s) e = a := by omega
      have hsu := h.skip_to (fun _ => hd) (fun hh => absurd ha (by omega)) (a - e) e (Nat.le_refl _) hea hse
      rw [lexF_skip u (pts u) m e a hsu, List.nil_append]
      exact hZ m (by omega)
    · rename_i hlt
      split at hl
      · rename_i hok
        cases hq : Cle.lexF s (pts s) n (Cle.tokO s (pts s) (Cle.skip (pts s) e)).2.2 with
        | error b => rw [hq] at hl; cases hl
        | ok l1 =>
          rw [hq] at hl
          cases hl
          have hg := tokO_gt (s := s) (P := pts s) (i := skip (pts s) e) (by omega) hok
          have hse := skip_le (pts s) e
          have hul := h.ulen
          have hska := h.skip_in (a - e) e (Nat.le_refl _) (by omega)
          have htk := h.tokO (i := skip (pts s) e) (by omega) hok (by omega)
          cases m with
          | zero => omega
          | succ m =>
            rw [lexF_go (by rw [hska]; omega) (by rw [hska, htk]; exact hok), hska, htk]
            rw [ih m _ l1 hq (by omega) (by omega) (by omega)]
            rfl
      · cases hl
theorem end_lx : Lx (⟨#[10, 59]⟩ : ByteArray) [⟨4, ⟨#[59]⟩, 0, 1⟩] := Lx.blank 10 (by decide) (Lx.sign 59 (by decide) Lx.nil)
theorem sign_end {s : ByteArray} {l : List Tk} (h : Lx s l) : Lx (s ++ (⟨#[10, 59]⟩ : ByteArray)) (l ++ [⟨4, ⟨#[59]⟩, 0, (pts s).length + 1⟩]) := by
  have hb : byteAt s (pts s) (pts s).length = s.size := by
    unfold byteAt
    rw [List.getElem?_eq_none (Nat.le_refl _)]
  have hI := ins_of s (⟨#[10, 59]⟩ : ByteArray) (pts s).length (Nat.le_refl _) (Or.inr (Or.inl rfl))
  rw [hb] at hI
  have e1 : s.extract 0 s.size = s := by simp
  have e2 : s.extract s.size s.size = ⟨#[]⟩ := by apply ByteArray.ext; simp
  rw [e1, e2, app_nil] at hI
  have hd : bY (s ++ (⟨#[10, 59]⟩ : ByteArray)) s.size = 10 := by
    have := bY_app_hi s (⟨#[10, 59]⟩ : ByteArray) 0
    rw [Nat.add_zero] at this
    rw [this]; rfl
  have hta : ((pts s).take (pts s).length).length = (pts s).length := by rw [List.take_length]
  have hul : (pts (s ++ (⟨#[10, 59]⟩ : ByteArray))).length = (pts s).length + 2 := by
    have := hI.cu.len
    rw [app_nil, hta] at this
    rw [this]; rfl
  refine hI.lex_more rfl hd (Z := [⟨4, ⟨#[59]⟩, 0, (pts s).length + 1⟩]) (fun m hm => ?_) ((pts s).length + 1) ((pts (s ++ (⟨#[10, 59]⟩ : ByteArray))).length + 1) 0 l h (by omega) (by omega) (Nat.zero_le _)
  have h2 := hI.cu.lexF m 0
  rw [hta, Nat.add_zero, app_nil] at h2
  rw [h2]
  have h3 : Cle.lexF (⟨#[10, 59]⟩ : ByteArray) (pts (⟨#[10, 59]⟩ : ByteArray)) ((pts (⟨#[10, 59]⟩ : ByteArray)).length + 1) 0 = .ok [⟨4, ⟨#[59]⟩, 0, 1⟩] := end_lx
  have hp2 : (pts (⟨#[10, 59]⟩ : ByteArray)).length = 2 := rfl
  rw [lexF_fuel (⟨#[10, 59]⟩ : ByteArray) (pts (⟨#[10, 59]⟩ : ByteArray)) m ((pts (⟨#[10, 59]⟩ : ByteArray)).length + 1) 0 (by omega) (by omega), h3]
  show Except.ok _ = Except.ok _
  simp only [Tk.on, List.map_cons, List.map_nil, Except.ok.injEq, List.cons.injEq, Tk.mk.injEq, and_true, true_and]
  omega
theorem tokO_sign {s : ByteArray} {P : List Pt} {i : Nat} (h : (tokO s P i).2.1 = true) (hf : (tokO s P i).1.fo = (4, ⟨#[59]⟩, 0)) : isB P i 59 = true := by
  unfold tokO at h hf
  split at hf
  · exact absurd (congrArg Prod.fst hf) (by show ¬ (1 : Int) = 4; decide)
  · split at hf
    · exact absurd (congrArg Prod.fst hf) (by show ¬ (2 : Int) = 4; decide)
    · split at hf
      · refine absurd (congrArg Prod.fst hf) ?_
        unfold textO
        split
        · show ¬ (3 : Int) = 4; decide
        · show ¬ (3 : Int) = 4; decide
      · split at hf
        · rename_i hs
          have h2 := congrArg (fun x => x.2.1.data.toList) hf
          unfold signB rAt at hs
          unfold rAt at h2
          unfold isB
          cases hp : P[i]? with
          | none => rw [hp] at hs; exact absurd hs (by decide)
          | some p =>
            rw [hp] at hs h2
            simp only [Bool.or_eq_true, beq_iff_eq] at hs
            simp only [Tk.fo, List.cons.injEq, and_true] at h2
            rcases hs with ((((hs | hs) | hs) | hs) | hs) | hs <;> simp only [hs] at h2 ⊢ <;> first | rfl | exact absurd h2 (by decide)
        · exact absurd (congrArg Prod.fst hf) (by show ¬ (0 : Int) = 4; decide)
theorem lexF_sign (s : ByteArray) : ∀ n i l, lexF s (pts s) n i = .ok l → ∀ t ∈ l, t.fo = (4, ⟨#[59]⟩, 0) → ∃ j, isB (pts s) j 59 = true
  | 0, i, l, h, t, ht, _ => by cases h; exact absurd ht (by simp)
  | n + 1, i, l, h, t, ht, hf => by
    rw [lexF] at h
    split at h
    · cases h; exact absurd ht (by simp)
    · split at h
      · rename_i hok
        cases hq : lexF s (pts s) n (tokO s (pts s) (skip (pts s) i)).2.2 with
        | error b => rw [hq] at h; cases h
        | ok l1 =>
          rw [hq] at h
          cases h
          rcases List.mem_cons.1 ht with rfl | ht
          · exact ⟨_, tokO_sign hok hf⟩
          · exact lexF_sign s n _ l1 hq t ht hf
      · cases h
end Cle
end Go.Proofs.YtfbgdjcnlnfoaaaGreatDoor

namespace Go.Proofs.YtfbgdjcnlnfoaaaGreatDoor
namespace Cle

theorem fail_bad (X : Tx) (σ : Ps) : (X.fail σ).bad ≠ none := wrong_bad
theorem parseT_two {X : Tx} {nd : Tx.Nd} {L : List To} (hG : GN nd L) (hF : X.F = L ++ [tokW (⟨#[59]⟩ : ByteArray), tokW (⟨#[59]⟩ : ByteArray)]) : (parseT X).2.bad ≠ none := by
  have h0 : Cur X ⟨0, none⟩ (L ++ [tokW (⟨#[59]⟩ : ByteArray), tokW (⟨#[59]⟩ : ByteArray)]) := ⟨rfl, by rw [List.drop_zero]; exact hF⟩
  obtain ⟨h1, h2⟩ := stF_go X.T.length hG h0 (fin_semi _)
  unfold parseT
  simp only
  have e : X.may (X.stF (X.T.length + 2) ⟨0, none⟩).2 (⟨#[59]⟩ : ByteArray) = (X.stF (X.T.length + 2) ⟨0, none⟩).2.step := if_pos (by rw [h2.sees, seesF_W]; rfl)
  rw [e]
  have h3 := h2.step
  have hl : (X.stF (X.T.length + 2) ⟨0, none⟩).2.step.i < X.T.length := by
    have h4 := congrArg List.length h3.2
    rw [List.length_drop] at h4
    have h5 : X.F.length = X.T.length := by unfold Tx.F; rw [List.length_map]
    simp only [List.length_cons, List.length_nil] at h4
    omega
  rw [if_pos hl]
  exact fail_bad X _
theorem parseL_more {s : ByteArray} {z : Stt} {a : Int} (h : parseL s = (z, a, 0)) (hs : s.size ≤ 900) :
    parseL (s ++ (⟨#[10, 59]⟩ : ByteArray)) = (z, 0, 0) ∨ ((parseL (s ++ (⟨#[10, 59]⟩ : ByteArray))).2.2 ≠ 0 ∧ ∃ k, k < s.size ∧ bY s k = 59) := by
  obtain ⟨nd, L, R, hG, rfl, _, ht, ⟨T, hT, hF⟩, hR, _⟩ := parseL_con h
  rcases hR with rfl | rfl
  · left
    refine parseL_go hG (R := [tokW (⟨#[59]⟩ : ByteArray)]) (Or.inr rfl) ⟨_, sign_end hT, ?_⟩ (by rw [ByteArray.size_append]; show s.size + 2 ≤ 1000; omega) ht
    rw [List.map_append, hF, List.append_nil]
    rfl
  · right
    refine ⟨?_, ?_⟩
    · have hx := sign_end hT
      have hl := hx.lexL (show (s ++ (⟨#[10, 59]⟩ : ByteArray)).size ≤ 1000 by rw [ByteArray.size_append]; show s.size + 2 ≤ 1000; omega)
      unfold parseL
      rw [hl]
      simp only
      rw [if_neg (by decide)]
      have hb := parseT_two (X := ⟨T ++ [⟨4, ⟨#[59]⟩, 0, (pts s).length + 1⟩], (pts (s ++ (⟨#[10, 59]⟩ : ByteArray))).length⟩) hG (by
        show List.map Tk.fo _ = _
        rw [List.map_append, hF, List.append_assoc]
        rfl)
      split
      · show ¬ ((3 : Int) = 0); decide
      · rename_i hn
        exact absurd hn hb
    · have hm : (tokW (⟨#[59]⟩ : ByteArray)) ∈ T.map Tk.fo := by rw [hF]; simp
      obtain ⟨t, ht, hft⟩ := List.mem_map.1 hm
      obtain ⟨j, hj⟩ := lexF_sign s _ _ T hT t ht (by rw [hft]; rfl)
      exact pts_byte s (q := 59) (by omega) hj
end Cle
end Go.Proofs.YtfbgdjcnlnfoaaaGreatDoor

namespace Go.Proofs.YtfbgdjcnlnfoaaaGreatDoor
open Go.RowKit
open Cle

theorem build_zero (w : World) : (Instr.build 31 #[]).run Tryz.prog w = .ok (.agg #[.int .i64 0, .string ⟨#[]⟩, .string ⟨#[]⟩, .string ⟨#[]⟩, .string ⟨#[]⟩, .int .i64 0, .string ⟨#[]⟩, .int .i64 0, .string ⟨#[]⟩, .int .i64 0, .slice none 0 0, .slice none 0 0, .slice none 0 0, .slice none 0 0, .int .i64 0, .int .i64 0, .int .i64 0, .slice none 0 0]) w := by kernel_rfl
def zeroP : Pw := ⟨Sx.zero, vnil, vnil, vnil, vnil, vnil⟩
theorem zero_wds (W : World) : WdS W zeroP [] := que_wds0 rfl rfl rfl rfl
theorem zero_sm {z : Stt} (h : z = Stt.zero) : SmS z := by
  subst h
  exact ⟨⟨by decide, by decide, by decide, by decide⟩, by decide, by simp [Stt.zero]⟩
set_option maxRecDepth 100000 in
set_option maxHeartbeats 8000000 in
theorem folds_same (s : ByteArray) (w : World) (hG : Gp w) (h9 : ¬ 900 < s.size) {pz : Stt} (hp : parseL s = (pz, 0, 0)) (hp2' : parseL (s ++ (⟨#[10, 59]⟩ : ByteArray)) = (pz, 0, 0)) :
    Calls Tryz.prog 4 #[.string s] w fun e w' => e = .returned (.bool true) ∧ Sp w w' := by
  have HG := Lib.hid hG
  have q1 : ¬ (900 : Int) < (s.size : Int) := by omega
  have hp1 := parse_at HG.out (s := s) rfl rfl rfl
  rw [hp] at hp1
  have HM := Lib.hid (parseL_may hp)
  have HFD : Hid ((∀ k, k < s.size → bY s k ≠ 39) → parseL (fold s) = (pz, 0, 0)) := Lib.hid (fun h => (parseL_fold s h).trans hp)
  have hs := add_str s (⟨#[10, 59]⟩ : ByteArray) (by show _ + 2 ≤ _; omega)
  obtain ⟨s2, hs2⟩ : ∃ r, s ++ (⟨#[10, 59]⟩ : ByteArray) = r := ⟨_, rfl⟩
  rw [hs2] at hs hp2'
  have HSZ := Lib.hid (show s.size ≤ 1000000 by omega)
  clear hG hp hs2 h9
  go_enter Tryz.func4, Tryz.ntmps4
  go_wp2_with fail
  refine hp1.mono ?_; rintro en w1 ⟨x, tc, c, sv, wv, pv, L, rfl, hb1, hS1⟩
  have HS1 : Hid (Sp w w1) := (Sp.refl HG.out).step hb1
  have hq1 := hS1.wd.one
  have HZ1 : Hid ((⟨x, L.map Pw.x⟩ : Stt) = pz) := hS1.z
  have HB0 : Hid (Below w1.heap.size w1 (w1.alloc (.cells (stC x tc c sv wv pv) 31))) := (Below.refl w1.heap.size w1).alloc (Nat.le_refl _) _
  have HWD1 := Lib.hid (hS1.wd.below HB0.out)
  have HS2 : Hid (Sp w (w1.alloc (.cells (stC x tc c sv wv pv) 31))) := HS1.out.alloc _
  have hbx := blk_new w1 (.cells (stC x tc c sv wv pv) 31)
  have hc := check_any (p := ⟨x, tc, c, sv, wv, pv⟩) (L := L) HS2.out.2 HWD1.out (may_sz (by rw [HZ1.out]; exact HM.out))
  have HBX := Lib.hid hbx
  clear hS1 hb1 hp1
  go_wp2_with (first | refine wpl_sto2 rfl _ _ rfl rfl rfl rfl rfl hq1 ?_ | refine wpl_stgd (by go_simp) _ rfl rfl rfl hbx ?_)
  refine hc.mono ?_; rintro en w2 ⟨b, rfl, hb, hb2⟩
  have hbt := hb.2 (by rw [HZ1.out]; exact HM.out)
  subst hbt
  have HS3 : Hid (Sp w w2) := HS2.out.step hb2
  have HBX2 := Lib.hid (keep_blk hb2 HBX.out)
  have HWD2 := Lib.hid (HWD1.out.below hb2)
  have hp2 := parse_at HS3.out.2 (s := s2) rfl (show (parseL s2).2.1 = 0 by rw [hp2']) (show (parseL s2).2.2 = 0 by rw [hp2'])
  rw [hp2'] at hp2
  clear hb hb2 hc hbx hq1
  go_wp2_with fail
  refine hp2.mono ?_; rintro en w3 ⟨y, tc2, c2, sv2, wv2, pv2, M, rfl, hb3, hS3⟩
  have hq3 := hS3.wd.one
  have HZ3 : Hid ((⟨y, M.map Pw.x⟩ : Stt) = pz) := hS3.z
  have hB0 : Below w3.heap.size w3 (w3.alloc (.cells (stC y tc2 c2 sv2 wv2 pv2) 31)) := (Below.refl w3.heap.size w3).alloc (Nat.le_refl _) _
  have hB3 : Below w2.heap.size w2 (w3.alloc (.cells (stC y tc2 c2 sv2 wv2 pv2) 31)) := hb3.alloc hb3.size _
  have HWX := Lib.hid (HWD2.out.below hB3)
  have HWY := Lib.hid (hS3.wd.below hB0)
  have hbx5 := keep_blk hB3 HBX2.out
  have hby5 := blk_new w3 (.cells (stC y tc2 c2 sv2 wv2 pv2) 31)
  have HS5 : Hid (Sp w (w3.alloc (.cells (stC y tc2 c2 sv2 wv2 pv2) 31))) := HS3.out.step hB3
  obtain ⟨W5, hW5⟩ : ∃ W5, w3.alloc (.cells (stC y tc2 c2 sv2 wv2 pv2) 31) = W5 := ⟨_, rfl⟩
  rw [hW5] at HWX HWY hbx5 hby5 HS5
  have HBX5 := Lib.hid hbx5
  have HBY5 := Lib.hid hby5
  clear hS3 hb3 hp2 hB0 hB3 hbx5 hby5
  go_wp2_with (first | refine wpl_sto2 rfl _ _ rfl rfl rfl rfl rfl hq3 ?_)
  (try rw [hW5])
  go_loopw [9] (fun i wr => ∃ j : Nat, i = .int .i64 j ∧ j ≤ s.size ∧ Hid (W5 = wr) ∧ Hid (∀ k, k < j → bY s k ≠ 39)) (fun i _ => s.size - (intOf i).toNat)
  case atStart => exact ⟨0, rfl, Nat.zero_le _, rfl, fun k hk => absurd hk (by omega)⟩
  case round =>
    obtain ⟨j, rfl, hj, HW, HA⟩ := hrel
    obtain rfl := HW.out
    clear HW hW5
    have hbx5 := HBX5.out
    have hby5 := HBY5.out
    by_cases hlt : j < s.size
    · have p0 : (j : Int) < (s.size : Int) := by omega
      have p1 : (0 : Int) ≤ (j : Int) := by omega
      have hb39 : ((s[j].toNat : Int) == 39) = decide (bY s j = 39) := byte_is hlt 39
      have hb45 : ((s[j].toNat : Int) == 45) = decide (bY s j = 45) := byte_is hlt 45
      by_cases hq : bY s j = 39 ∨ bY s j = 45
      · have hsame := rstmt_yes (p := ⟨x, tc, c, sv, wv, pv⟩) (q := ⟨y, tc2, c2, sv2, wv2, pv2⟩) HWX.out HWY.out (by rw [HZ1.out]; exact sm_may HM.out) (by have := HZ1.out.trans HZ3.out.symm; injection this) (by have := HZ1.out.trans HZ3.out.symm; injection this)
        have hor : (decide (bY s j = 39) = true) ∨ (decide (bY s j = 39) = false ∧ decide (bY s j = 45) = true) := by
          by_cases h : bY s j = 39
          · exact Or.inl (decide_eq_true h)
          · exact Or.inr ⟨decide_eq_false h, decide_eq_true (hq.resolve_left h)⟩
        clear hq hj
        rcases hor with g1 | ⟨g1, g2⟩
        all_goals
          rw [g1] at hb39
          (try rw [g2] at hb45)
          clear g1
          go_wp2_with (first | refine wpl_stgd (by go_simp) _ rfl rfl rfl hbx5 ?_ | refine wpl_stgd (by go_simp) _ rfl rfl rfl hby5 ?_)
          refine hsame.mono ?_; rintro e w6 ⟨rfl, hb6⟩
          have HS6 : Hid (Sp w w6) := HS5.out.step hb6
          have haw := awake14_any HS6.out.2
          clear hb6 hsame hbx5 hby5
          go_wp2_with fail
          refine haw.mono ?_; rintro e w9 ⟨rfl, h9⟩
          go_wp2_with fail
          go_ret
          exact ⟨rfl, HS6.out.trans h9⟩
      · rw [decide_eq_false (fun h => hq (Or.inl h))] at hb39
        rw [decide_eq_false (fun h => hq (Or.inr h))] at hb45
        have HB : Hid (∀ k, k < j + 1 → bY s k ≠ 39) := fun k hk => by
          by_cases hkj : k = j
          · rw [hkj]; exact fun h => hq (Or.inl h)
          · exact HA.out k (by omega)
        have HJ := Lib.hid hlt
        clear hq hbx5 hby5
        go_wp2_with fail
        go_roundw
        case rel => exact ⟨j + 1, by go_num, HJ.out, trivial, HB.out⟩
        case measure => have := HJ.out; simp [intOf]; omega
    · have hje : j = s.size := by omega
      subst hje
      have hfd := HFD.out HA.out
      have hf := rfold_any s W5 HSZ.out
      clear hbx5 hby5 hj
      go_wp2_with fail
      refine hf.mono ?_; rintro e w6 ⟨rfl, hb6⟩
      have HS6 : Hid (Sp w w6) := HS5.out.step hb6
      have hp3 := parse_at HS6.out.2 (s := fold s) rfl (show (parseL (fold s)).2.1 = 0 by rw [hfd]) (show (parseL (fold s)).2.2 = 0 by rw [hfd])
      rw [hfd] at hp3
      have hbx6 := keep_blk hb6 HBX5.out
      have hby6 := keep_blk hb6 HBY5.out
      have HWX6 := Lib.hid (HWX.out.below hb6)
      have HWY6 := Lib.hid (HWY.out.below hb6)
      clear hb6 hf hfd
      go_wp2_with fail
      refine hp3.mono ?_; rintro en w7 ⟨z, tc3, c3, sv3, wv3, pv3, M3, rfl, hb7, hS7⟩
      have hq7 := hS7.wd.one
      have HZ7 : Hid ((⟨z, M3.map Pw.x⟩ : Stt) = pz) := hS7.z
      have hB70 : Below w7.heap.size w7 (w7.alloc (.cells (stC z tc3 c3 sv3 wv3 pv3) 31)) := (Below.refl w7.heap.size w7).alloc (Nat.le_refl _) _
      have hB7 : Below w6.heap.size w6 (w7.alloc (.cells (stC z tc3 c3 sv3 wv3 pv3) 31)) := hb7.alloc hb7.size _
      have HWX8 := Lib.hid (HWX6.out.below hB7)
      have HWY8 := Lib.hid (HWY6.out.below hB7)
      have HWZ8 := Lib.hid (hS7.wd.below hB70)
      have hbx8 := keep_blk hB7 hbx6
      have hby8 := keep_blk hB7 hby6
      have hbz8 := blk_new w7 (.cells (stC z tc3 c3 sv3 wv3 pv3) 31)
      have HS8 : Hid (Sp w (w7.alloc (.cells (stC z tc3 c3 sv3 wv3 pv3) 31))) := HS6.out.step hB7
      have HBX8 := Lib.hid hbx8
      have HBY8 := Lib.hid hby8
      have HBZ8 := Lib.hid hbz8
      clear hS7 hb7 hp3 hB70 hB7 hbx6 hby6
      have hsame := rstmt_yes (p := ⟨x, tc, c, sv, wv, pv⟩) (q := ⟨y, tc2, c2, sv2, wv2, pv2⟩) HWX8.out HWY8.out (by rw [HZ1.out]; exact sm_may HM.out) (by have := HZ1.out.trans HZ3.out.symm; injection this) (by have := HZ1.out.trans HZ3.out.symm; injection this)
      go_wp2_with (first | refine wpl_sto2 rfl _ _ rfl rfl rfl rfl rfl hq7 ?_ | refine wpl_stgd (by go_simp) _ rfl rfl rfl hbx8 ?_ | refine wpl_stgd (by go_simp) _ rfl rfl rfl hby8 ?_)
      refine hsame.mono ?_; rintro e w10 ⟨rfl, hb10⟩
      have hbx10 := keep_blk hb10 HBX8.out
      have hbz10 := keep_blk hb10 HBZ8.out
      have HS10 : Hid (Sp w w10) := HS8.out.step hb10
      have hsz := rstmt_yes (p := ⟨x, tc, c, sv, wv, pv⟩) (q := ⟨z, tc3, c3, sv3, wv3, pv3⟩) (HWX8.out.below hb10) (HWZ8.out.below hb10) (by rw [HZ1.out]; exact sm_may HM.out) (by have := HZ1.out.trans HZ7.out.symm; injection this) (by have := HZ1.out.trans HZ7.out.symm; injection this)
      clear hb10 hsame hbx8 hby8 hbz8 hq7
      go_wp2_with (first | refine wpl_stgd (by go_simp) _ rfl rfl rfl hbx10 ?_ | refine wpl_stgd (by go_simp) _ rfl rfl rfl hbz10 ?_)
      refine hsz.mono ?_; rintro e w11 ⟨rfl, hb11⟩
      have HS11 : Hid (Sp w w11) := HS10.out.step hb11
      have haw := awake14_any HS11.out.2
      clear hb11 hsz hbx10 hbz10
      go_wp2_with fail
      refine haw.mono ?_; rintro e w12 ⟨rfl, h12⟩
      go_wp2_with fail
      go_ret
      exact ⟨rfl, HS11.out.trans h12⟩
set_option maxRecDepth 100000 in
set_option maxHeartbeats 8000000 in
theorem folds_ends (s : ByteArray) (w : World) (hG : Gp w) (h9 : ¬ 900 < s.size) {pz : Stt} (hp : parseL s = (pz, 0, 0)) (hq2 : (parseL (s ++ (⟨#[10, 59]⟩ : ByteArray))).2.2 ≠ 0) (hk : ∃ k, k < s.size ∧ bY s k = 59) :
    Calls Tryz.prog 4 #[.string s] w fun e w' => e = .returned (.bool true) ∧ Sp w w' := by
  have HG := Lib.hid hG
  have HK := Lib.hid hk
  clear hk
  have q1 : ¬ (900 : Int) < (s.size : Int) := by omega
  have hp1 := parse_at HG.out (s := s) rfl rfl rfl
  rw [hp] at hp1
  have HM := Lib.hid (parseL_may hp)
  have HFD : Hid ((∀ k, k < s.size → bY s k ≠ 39) → parseL (fold s) = (pz, 0, 0)) := Lib.hid (fun h => (parseL_fold s h).trans hp)
  have hs := add_str s (⟨#[10, 59]⟩ : ByteArray) (by show _ + 2 ≤ _; omega)
  obtain ⟨s2, hs2⟩ : ∃ r, s ++ (⟨#[10, 59]⟩ : ByteArray) = r := ⟨_, rfl⟩
  rw [hs2] at hs hq2
  have HSZ := Lib.hid (show s.size ≤ 1000000 by omega)
  clear hG hp hs2 h9
  go_enter Tryz.func4, Tryz.ntmps4
  go_wp2_with fail
  refine hp1.mono ?_; rintro en w1 ⟨x, tc, c, sv, wv, pv, L, rfl, hb1, hS1⟩
  have HS1 : Hid (Sp w w1) := (Sp.refl HG.out).step hb1
  have hq1 := hS1.wd.one
  have HZ1 : Hid ((⟨x, L.map Pw.x⟩ : Stt) = pz) := hS1.z
  have HB0 : Hid (Below w1.heap.size w1 (w1.alloc (.cells (stC x tc c sv wv pv) 31))) := (Below.refl w1.heap.size w1).alloc (Nat.le_refl _) _
  have HWD1 := Lib.hid (hS1.wd.below HB0.out)
  have HS2 : Hid (Sp w (w1.alloc (.cells (stC x tc c sv wv pv) 31))) := HS1.out.alloc _
  have hbx := blk_new w1 (.cells (stC x tc c sv wv pv) 31)
  have hc := check_any (p := ⟨x, tc, c, sv, wv, pv⟩) (L := L) HS2.out.2 HWD1.out (may_sz (by rw [HZ1.out]; exact HM.out))
  have HBX := Lib.hid hbx
  clear hS1 hb1 hp1
  go_wp2_with (first | refine wpl_sto2 rfl _ _ rfl rfl rfl rfl rfl hq1 ?_ | refine wpl_stgd (by go_simp) _ rfl rfl rfl hbx ?_)
  refine hc.mono ?_; rintro en w2 ⟨b, rfl, hb, hb2⟩
  have hbt := hb.2 (by rw [HZ1.out]; exact HM.out)
  subst hbt
  have HS3 : Hid (Sp w w2) := HS2.out.step hb2
  have HBX2 := Lib.hid (keep_blk hb2 HBX.out)
  have HWD2 := Lib.hid (HWD1.out.below hb2)
  have hp2 := parse_at HS3.out.2 (s := s2) rfl rfl rfl
  obtain ⟨⟨qz, qa, qe⟩, hq⟩ : ∃ r, parseL s2 = r := ⟨_, rfl⟩
  rw [hq] at hp2 hq2
  have hqe : (qe == 0) = false := beq_eq_false_iff_ne.2 hq2
  clear hq hq2
  clear hb hb2 hc hbx hq1
  go_wp2_with fail
  refine hp2.mono ?_; rintro en w3 ⟨y, tc2, c2, sv2, wv2, pv2, M, rfl, hb3, hS3⟩
  have hq3 := hS3.wd.one
  have HZ3 : Hid ((⟨y, M.map Pw.x⟩ : Stt) = qz) := hS3.z
  have hB0 : Below w3.heap.size w3 (w3.alloc (.cells (stC y tc2 c2 sv2 wv2 pv2) 31)) := (Below.refl w3.heap.size w3).alloc (Nat.le_refl _) _
  have hB3 : Below w2.heap.size w2 (w3.alloc (.cells (stC y tc2 c2 sv2 wv2 pv2) 31)) := hb3.alloc hb3.size _
  have HWX := Lib.hid (HWD2.out.below hB3)
  have HWY := Lib.hid (hS3.wd.below hB0)
  have hbx5 := keep_blk hB3 HBX2.out
  have hby5 := blk_new w3 (.cells (stC y tc2 c2 sv2 wv2 pv2) 31)
  have HS5 : Hid (Sp w (w3.alloc (.cells (stC y tc2 c2 sv2 wv2 pv2) 31))) := HS3.out.step hB3
  obtain ⟨W5, hW5⟩ : ∃ W5, w3.alloc (.cells (stC y tc2 c2 sv2 wv2 pv2) 31) = W5 := ⟨_, rfl⟩
  rw [hW5] at HWX HWY hbx5 hby5 HS5
  have HBX5 := Lib.hid hbx5
  have HBY5 := Lib.hid hby5
  clear hS3 hb3 hp2 hB0 hB3 hbx5 hby5
  go_wp2_with (first | refine wpl_sto2 rfl _ _ rfl rfl rfl rfl rfl hq3 ?_)
  (try rw [hW5])
  go_loopw [9] (fun i wr => ∃ j : Nat, i = .int .i64 j ∧ j ≤ s.size ∧ Hid (W5 = wr) ∧ Hid (∀ k, k < j → bY s k ≠ 39)) (fun i _ => s.size - (intOf i).toNat)
  case atStart => exact ⟨0, rfl, Nat.zero_le _, rfl, fun k hk => absurd hk (by omega)⟩
  case round =>
    obtain ⟨j, rfl, hj, HW, HA⟩ := hrel
    obtain rfl := HW.out
    clear HW hW5
    have hbx5 := HBX5.out
    have hby5 := HBY5.out
    by_cases hlt : j < s.size
    · have p0 : (j : Int) < (s.size : Int) := by omega
      have p1 : (0 : Int) ≤ (j : Int) := by omega
      have hb39 : ((s[j].toNat : Int) == 39) = decide (bY s j = 39) := byte_is hlt 39
      have hb45 : ((s[j].toNat : Int) == 45) = decide (bY s j = 45) := byte_is hlt 45
      by_cases hq : bY s j = 39 ∨ bY s j = 45
      · have he := ends_any s W5 HSZ.out
        have hor : (decide (bY s j = 39) = true) ∨ (decide (bY s j = 39) = false ∧ decide (bY s j = 45) = true) := by
          by_cases h : bY s j = 39
          · exact Or.inl (decide_eq_true h)
          · exact Or.inr ⟨decide_eq_false h, decide_eq_true (hq.resolve_left h)⟩
        clear hq hj
        rcases hor with g1 | ⟨g1, g2⟩
        all_goals
          rw [g1] at hb39
          (try rw [g2] at hb45)
          clear g1
          go_wp2_with fail
          refine he.mono ?_; rintro e w6 ⟨b6, rfl, hb6, rfl⟩
          have hbt := hb6.2 HK.out
          subst hbt
          have haw := awake14_any HS5.out.2
          clear hb6 he hbx5 hby5
          go_wp2_with fail
          refine haw.mono ?_; rintro e w9 ⟨rfl, h9⟩
          go_wp2_with fail
          go_ret
          exact ⟨rfl, HS5.out.trans h9⟩
      · rw [decide_eq_false (fun h => hq (Or.inl h))] at hb39
        rw [decide_eq_false (fun h => hq (Or.inr h))] at hb45
        have HB : Hid (∀ k, k < j + 1 → bY s k ≠ 39) := fun k hk => by
          by_cases hkj : k = j
          · rw [hkj]; exact fun h => hq (Or.inl h)
          · exact HA.out k (by omega)
        have HJ := Lib.hid hlt
        clear hq hbx5 hby5
        go_wp2_with fail
        go_roundw
        case rel => exact ⟨j + 1, by go_num, HJ.out, trivial, HB.out⟩
        case measure => have := HJ.out; simp [intOf]; omega
    · have hje : j = s.size := by omega
      subst hje
      have hfd := HFD.out HA.out
      have hf := rfold_any s W5 HSZ.out
      clear hbx5 hby5 hj
      go_wp2_with fail
      refine hf.mono ?_; rintro e w6 ⟨rfl, hb6⟩
      have HS6 : Hid (Sp w w6) := HS5.out.step hb6
      have hp3 := parse_at HS6.out.2 (s := fold s) rfl (show (parseL (fold s)).2.1 = 0 by rw [hfd]) (show (parseL (fold s)).2.2 = 0 by rw [hfd])
      rw [hfd] at hp3
      have hbx6 := keep_blk hb6 HBX5.out
      have hby6 := keep_blk hb6 HBY5.out
      have HWX6 := Lib.hid (HWX.out.below hb6)
      have HWY6 := Lib.hid (HWY.out.below hb6)
      clear hb6 hf hfd
      go_wp2_with fail
      refine hp3.mono ?_; rintro en w7 ⟨z, tc3, c3, sv3, wv3, pv3, M3, rfl, hb7, hS7⟩
      have hq7 := hS7.wd.one
      have HZ7 : Hid ((⟨z, M3.map Pw.x⟩ : Stt) = pz) := hS7.z
      have hB70 : Below w7.heap.size w7 (w7.alloc (.cells (stC z tc3 c3 sv3 wv3 pv3) 31)) := (Below.refl w7.heap.size w7).alloc (Nat.le_refl _) _
      have hB7 : Below w6.heap.size w6 (w7.alloc (.cells (stC z tc3 c3 sv3 wv3 pv3) 31)) := hb7.alloc hb7.size _
      have HWX8 := Lib.hid (HWX6.out.below hB7)
      have HWY8 := Lib.hid (HWY6.out.below hB7)
      have HWZ8 := Lib.hid (hS7.wd.below hB70)
      have hbx8 := keep_blk hB7 hbx6
      have hby8 := keep_blk hB7 hby6
      have hbz8 := blk_new w7 (.cells (stC z tc3 c3 sv3 wv3 pv3) 31)
      have HS8 : Hid (Sp w (w7.alloc (.cells (stC z tc3 c3 sv3 wv3 pv3) 31))) := HS6.out.step hB7
      have HBX8 := Lib.hid hbx8
      have HBY8 := Lib.hid hby8
      have HBZ8 := Lib.hid hbz8
      clear hS7 hb7 hp3 hB70 hB7 hbx6 hby6
      have he := ends_any s (w7.alloc (.cells (stC z tc3 c3 sv3 wv3 pv3) 31)) HSZ.out
      go_wp2_with (first | refine wpl_sto2 rfl _ _ rfl rfl rfl rfl rfl hq7 ?_)
      refine he.mono ?_; rintro e w10 ⟨b10, rfl, hb10, rfl⟩
      have hbt := hb10.2 HK.out
      subst hbt
      have hsz := rstmt_yes (p := ⟨x, tc, c, sv, wv, pv⟩) (q := ⟨z, tc3, c3, sv3, wv3, pv3⟩) HWX8.out HWZ8.out (by rw [HZ1.out]; exact sm_may HM.out) (by have := HZ1.out.trans HZ7.out.symm; injection this) (by have := HZ1.out.trans HZ7.out.symm; injection this)
      clear hb10 he hby8 hq7
      go_wp2_with (first | refine wpl_stgd (by go_simp) _ rfl rfl rfl hbx8 ?_ | refine wpl_stgd (by go_simp) _ rfl rfl rfl hbz8 ?_)
      refine hsz.mono ?_; rintro e w11 ⟨rfl, hb11⟩
      have HS11 : Hid (Sp w w11) := HS8.out.step hb11
      have haw := awake14_any HS11.out.2
      clear hb11 hsz hbx8 hbz8
      go_wp2_with fail
      refine haw.mono ?_; rintro e w12 ⟨rfl, h12⟩
      go_wp2_with fail
      go_ret
      exact ⟨rfl, HS11.out.trans h12⟩
set_option maxRecDepth 100000 in
set_option maxHeartbeats 8000000 in
theorem parseFolds_law (s : ByteArray) (w : World) (hG : Gp w) :
    Calls Tryz.prog 4 #[.string s] w fun e w' => e = .returned (.bool true) ∧ Sp w w' := by
  by_cases h9 : 900 < s.size
  · have HG := Lib.hid hG
    have q1 : (900 : Int) < (s.size : Int) := by omega
    have haw := awake14_any HG.out
    clear h9 hG
    go_enter Tryz.func4, Tryz.ntmps4
    go_wp2_with fail
    refine haw.mono ?_; rintro e w7 ⟨rfl, h7⟩
    go_wp2_with fail
    go_ret
    exact ⟨rfl, h7⟩
  · obtain ⟨⟨pz, pa, pe⟩, hp⟩ : ∃ r, parseL s = r := ⟨_, rfl⟩
    by_cases he : pe = 0
    · subst he
      have hpa : pa = 0 := by
        obtain ⟨_, _, _, _, _, h, _⟩ := parseL_con hp
        exact h
      subst hpa
      rcases parseL_more hp (by omega) with h | ⟨h, hk⟩
      · exact folds_same s w hG h9 hp h
      · exact folds_ends s w hG h9 hp h hk
    · obtain ⟨hz, _, _, h23⟩ := parseL_none hp he
      subst hz
      have HG := Lib.hid hG
      have q1 : ¬ (900 : Int) < (s.size : Int) := by omega
      have hp1 := parse_at HG.out (s := s) rfl rfl rfl
      rw [hp] at hp1
      have hbz := build_zero
      clear hp h9 hG he
      rcases h23 with rfl | rfl
      all_goals
        go_enter Tryz.func4, Tryz.ntmps4
        go_wp2_with fail
        refine hp1.mono ?_; rintro en w1 ⟨x, tc, c, sv, wv, pv, L, rfl, hb1, hS1⟩
        have HS1 : Hid (Sp w w1) := (Sp.refl HG.out).step hb1
        have hq1 := hS1.wd.one
        have HZ1 : Hid ((⟨x, L.map Pw.x⟩ : Stt) = Stt.zero) := hS1.z
        have HB0 : Hid (Below w1.heap.size w1 (w1.alloc (.cells (stC x tc c sv wv pv) 31))) := (Below.refl w1.heap.size w1).alloc (Nat.le_refl _) _
        have HS2 : Hid (Sp w (w1.alloc (.cells (stC x tc c sv wv pv) 31))) := HS1.out.alloc _
        have hbx := blk_new w1 (.cells (stC x tc c sv wv pv) 31)
        have hsame := rstmt_yes (p := ⟨x, tc, c, sv, wv, pv⟩) (q := zeroP) (M := []) (hS1.wd.below HB0.out) (zero_wds _) (zero_sm HZ1.out) (by have := HZ1.out; injection this) (by have := HZ1.out; injection this)
        clear hS1 hb1 hp1
        go_wp2_with (first | refine wpl_sto2 rfl _ _ rfl rfl rfl rfl rfl hq1 ?_ | refine wpl_stgd (by go_simp) _ rfl rfl rfl hbx ?_)
        refine hsame.mono ?_; rintro e w2 ⟨rfl, hb2⟩
        have HS3 : Hid (Sp w w2) := HS2.out.step hb2
        have haw := awake14_any HS3.out.2
        clear hb2 hsame hbx
        go_wp2_with fail
        refine haw.mono ?_; rintro e w9 ⟨rfl, h9⟩
        go_wp2_with fail
        go_ret
        exact ⟨rfl, HS3.out.trans h9⟩
end Go.Proofs.YtfbgdjcnlnfoaaaGreatDoor

