/- Parts of the proof, joined: Kit LexD ChkA AwkA RSmA RSmB RSmC PlainPN PlainPR PlainPS LawPE LawPG. -/
import Derived.WalkKit
import Derived.WalkSpells
import Derived.WalkLawsBesides
import Derived.Lib.OthersKept
import Derived.Lib.Hide
import Derived.BigQuiet
import Derived.Lib.QuietBelow
import Derived.Test.YtfbgdjcnlnfoaaaGreatDoorB01
import Derived.Test.YtfbgdjcnlnfoaaaGreatDoorB02
import Derived.Test.YtfbgdjcnlnfoaaaGreatDoorB03
import Derived.Test.YtfbgdjcnlnfoaaaGreatDoorB04
import Derived.Test.YtfbgdjcnlnfoaaaGreatDoorB05
import Derived.Test.YtfbgdjcnlnfoaaaGreatDoorB06
import Derived.Test.YtfbgdjcnlnfoaaaGreatDoorB07
import Derived.Test.YtfbgdjcnlnfoaaaGreatDoorB08
import Derived.Test.YtfbgdjcnlnfoaaaGreatDoorB09
import Derived.Test.YtfbgdjcnlnfoaaaGreatDoorB10
import Derived.Test.YtfbgdjcnlnfoaaaGreatDoorB11
import Derived.Test.YtfbgdjcnlnfoaaaGreatDoorB12a
import Derived.Test.YtfbgdjcnlnfoaaaGreatDoorB12b
import Derived.Test.YtfbgdjcnlnfoaaaGreatDoorB12c
import Derived.Test.YtfbgdjcnlnfoaaaGreatDoorB12d
import Derived.Test.YtfbgdjcnlnfoaaaGreatDoorB12e
import Derived.Test.YtfbgdjcnlnfoaaaGreatDoorB12f
import Derived.Test.YtfbgdjcnlnfoaaaGreatDoorB12g
import Derived.Test.YtfbgdjcnlnfoaaaGreatDoorB12h
import Derived.Test.YtfbgdjcnlnfoaaaGreatDoorB12i
import Derived.Test.YtfbgdjcnlnfoaaaGreatDoorB12j
import Derived.Test.YtfbgdjcnlnfoaaaGreatDoorB13a
import Derived.Test.YtfbgdjcnlnfoaaaGreatDoorB13b
import Derived.Test.YtfbgdjcnlnfoaaaGreatDoorB13c
import Derived.Test.YtfbgdjcnlnfoaaaGreatDoorB13d
import Derived.Test.YtfbgdjcnlnfoaaaGreatDoorB13e
import Derived.Test.YtfbgdjcnlnfoaaaGreatDoorRows
namespace Go.Proofs.YtfbgdjcnlnfoaaaGreatDoor
open Go.RowKit
namespace Cle

theorem isEmpty_size (s : ByteArray) : s.toList.isEmpty = decide (s.size = 0) := by
  rw [ByteArray.toList_eq]
  obtain ⟨⟨l⟩⟩ := s
  cases l <;> rfl
end Cle
end Go.Proofs.YtfbgdjcnlnfoaaaGreatDoor

namespace Go.Proofs.YtfbgdjcnlnfoaaaGreatDoor
open Go.RowKit
open Cle

theorem Scn.gb {T : TypeId} {flat : List Pt → List Value} {L : Nat} {w w' : World} {b : Nat} {s : ByteArray} {P : List Pt} {i : Nat} (h : Scn T flat L w b s P i) (hb : w.grownBy w' none) : Scn T flat L w' b s P i :=
  h.below ⟨hb.os, hb.tape, hb.output, hb.size, fun k hk => hb.block k hk (by simp)⟩

end Go.Proofs.YtfbgdjcnlnfoaaaGreatDoor

namespace Go.Proofs.YtfbgdjcnlnfoaaaGreatDoor
open Go.RowKit
open Cle

set_option maxRecDepth 100000 in
set_option maxHeartbeats 4000000 in
theorem ptext_yes {w : World} {p : Pw} {L : List Pw} (hG : Gp w) (h : WdS w p L) (hs : SzS p L) (hm : May ⟨p.x, L.map Pw.x⟩) :
    Calls Tryz.prog 26 #[.agg p.arr] w fun e w' => e = .returned (.string (textS ⟨p.x, L.map Pw.x⟩)) ∧ Below w.heap.size w w' := by
  have hB1 := (Below.refl w.heap.size w).alloc (Nat.le_refl _) (.cells p.arr 31)
  have hbl : (w.alloc (.cells p.arr 31)).heap[w.heap.size]? = some (.cells p.arr 31 (0, 0)) := blk_new w _
  have hc := check_any (hG.below hB1) (h.below hB1) hs
  have hL8 : L.length ≤ 100 := by have := (light_sizes (may_lightS hm)).2.1; simp at this; omega
  have HT : Hid (∀ w', Below w.heap.size w w' → Calls Tryz.prog 30 #[.agg p.arr] w' fun e w'' => e = .returned (.string (textS ⟨p.x, L.map Pw.x⟩)) ∧ Below w'.heap.size w' w'') := fun w' hb => wtext_any (hG.below hb) (h.below hb) hs hL8
  have HM := Lib.hid hm
  clear hm h hs hL8
  obtain ⟨x, tc, c, s, wv, pv⟩ := p
  go_enter Tryz.func26, Tryz.ntmps26
  go_wp2_with (refine wpl_st rfl _ rfl rfl rfl hbl ?_)
  refine hc.mono ?_; rintro e w2 ⟨b, rfl, hb, hb2⟩
  have hbt := hb.2 HM.out
  subst hbt
  have hB2 := hB1.trans (hb2.mono hB1.size)
  have hbl2 := keep_blk hb2 hbl
  have h2 := HT.out w2 hB2
  clear hb hc
  go_wp2_with (refine wpl_st rfl _ rfl rfl rfl hbl2 ?_)
  refine h2.mono ?_; rintro e w3 ⟨rfl, hb3⟩
  go_wp2_with fail
  go_ret
  exact ⟨rfl, hB2.trans (hb3.mono hB2.size)⟩
set_option maxRecDepth 100000 in
set_option maxHeartbeats 4000000 in
theorem ptext_no {w : World} {p : Pw} {L : List Pw} (hG : Gp w) (h : WdS w p L) (hs : SzS p L) (hm : ¬ May ⟨p.x, L.map Pw.x⟩) :
    Calls Tryz.prog 26 #[.agg p.arr] w fun e w' => e = .returned (.string ⟨#[]⟩) ∧ Below w.heap.size w w' := by
  have hB1 := (Below.refl w.heap.size w).alloc (Nat.le_refl _) (.cells p.arr 31)
  have hbl : (w.alloc (.cells p.arr 31)).heap[w.heap.size]? = some (.cells p.arr 31 (0, 0)) := blk_new w _
  have hc := check_any (hG.below hB1) (h.below hB1) hs
  have HM := Lib.hid hm
  clear hm h hs
  obtain ⟨x, tc, c, s, wv, pv⟩ := p
  go_enter Tryz.func26, Tryz.ntmps26
  go_wp2_with (refine wpl_st rfl _ rfl rfl rfl hbl ?_)
  refine hc.mono ?_; rintro e w2 ⟨b, rfl, hb, hb2⟩
  have hbt : b = false := by
    cases b with
    | false => rfl
    | true => exact absurd (hb.1 rfl) HM.out
  subst hbt
  clear hb hc
  go_wp2_with fail
  go_ret
  exact ⟨rfl, hB1.trans (hb2.mono hB1.size)⟩
end Go.Proofs.YtfbgdjcnlnfoaaaGreatDoor

namespace Go.Proofs.YtfbgdjcnlnfoaaaGreatDoor
open Go.RowKit
open Cle

theorem drv_res : (parseL (⟨#[100, 114, 111, 112, 32, 32, 32, 86, 32, 59]⟩ : ByteArray)).2.1 = 0 ∧ (parseL (⟨#[100, 114, 111, 112, 32, 32, 32, 86, 32, 59]⟩ : ByteArray)).2.2 = 0 ∧ textS (parseL (⟨#[100, 114, 111, 112, 32, 32, 32, 86, 32, 59]⟩ : ByteArray)).1 = (⟨#[68, 82, 79, 80, 32, 118]⟩ : ByteArray) := by decide +kernel
set_option maxRecDepth 100000 in
set_option maxHeartbeats 8000000 in
theorem awake15_any {w : World} (hG : Gp w) : Calls Tryz.prog 25 #[] w fun e w' => e = .returned (.bool true) ∧ Sp w w' := by
  obtain ⟨r1, r2, r3⟩ := drv_res
  have hm := Lib.hid (may_of r2)
  obtain ⟨z, hz⟩ : ∃ z, (parseL (⟨#[100, 114, 111, 112, 32, 32, 32, 86, 32, 59]⟩ : ByteArray)).1 = z := ⟨_, rfl⟩
  have hp1 := parse_at hG hz r1 r2
  rw [hz] at r3 hm
  have R3 := Lib.hid r3
  have HG := Lib.hid hG
  clear r1 r2 r3 hz hG
  go_enter Tryz.func25, Tryz.ntmps25
  go_wp2_with fail
  refine hp1.mono ?_; rintro en w1 ⟨x, tc, c, s, wv, pv, L, rfl, hb1, hS1⟩
  have hS : Sp w w1 := (Sp.refl HG.out).step hb1
  have hq1 := hS1.wd.one
  have hS2 := hS.alloc (.cells (stC x tc c s wv pv) 31)
  have hM : May ⟨x, L.map Pw.x⟩ := by rw [show (⟨x, L.map Pw.x⟩ : Stt) = z from hS1.z]; exact hm.out
  have ht := ptext_yes (w := w1.alloc (.cells (stC x tc c s wv pv) 31)) (p := ⟨x, tc, c, s, wv, pv⟩) (L := L) hS2.2 (hS1.wd.below ((Below.refl _ _).alloc (Nat.le_refl _) _)) (may_sz hM) hM
  rw [show (⟨x, L.map Pw.x⟩ : Stt) = z from hS1.z, R3.out] at ht
  have hbl := blk_new w1 (.cells (stC x tc c s wv pv) 31)
  clear hS1 hM hb1 hp1
  go_wp2_with (first | refine wpl_sto2 rfl _ _ rfl rfl rfl rfl rfl hq1 ?_ | refine wpl_stgd (by go_simp) _ rfl rfl rfl hbl ?_)
  refine ht.mono ?_; rintro en w5 ⟨rfl, hb5⟩
  go_wp2_with fail
  go_ret
  exact ⟨rfl, hS2.step hb5⟩
end Go.Proofs.YtfbgdjcnlnfoaaaGreatDoor

namespace Go.Proofs.YtfbgdjcnlnfoaaaGreatDoor
open Go.RowKit
open Cle

set_option maxHeartbeats 1000000 in
theorem rcol_yes (s : ByteArray) (ty : Int) (w : World) :
    Calls Tryz.prog 117 #[.agg #[.string s, .int .i64 ty], .agg #[.string s, .int .i64 ty]] w fun e w' => e = .returned (.bool true) ∧ Below w.heap.size w w' := by
  obtain ⟨hB, hBx, hBy⟩ := two_new w #[.string s, .int .i64 ty] #[.string s, .int .i64 ty] 23 23
  obtain ⟨W, hW⟩ : ∃ W, (w.alloc (.cells #[.string s, .int .i64 ty] 23)).alloc (.cells #[.string s, .int .i64 ty] 23) = W := ⟨_, rfl⟩
  rw [hW] at hB hBx hBy
  have a0 : W.cell? ⟨w.heap.size, 0, none⟩ = some (.string s) := blk_cell hBx 0
  have a1 : W.cell? ⟨w.heap.size, 1, none⟩ = some (.int .i64 ty) := blk_cell hBx 1
  have b0 : W.cell? ⟨w.heap.size + 1, 0, none⟩ = some (.string s) := blk_cell hBy 0
  have b1 : W.cell? ⟨w.heap.size + 1, 1, none⟩ = some (.int .i64 ty) := blk_cell hBy 1
  have s0 : (s.toList == s.toList) = true := tl_eq rfl
  clear hBx hBy
  go_enter Tryz.func117, Tryz.ntmps117
  go_wp2_with fail
  go_ret
  exact ⟨rfl, hB⟩
set_option maxRecDepth 100000 in
set_option maxHeartbeats 4000000 in
theorem rtexts_yes {w : World} {u v : Value} {L : List ByteArray} (hu : Rd w u L.length (L.map Value.string)) (hv : Rd w v L.length (L.map Value.string)) (hl : L.length ≤ 100000) :
    Calls Tryz.prog 75 #[u, v] w fun e w' => e = .returned (.bool true) ∧ Below w.heap.size w w' := by
  obtain ⟨a1, k1, rfl, hx0⟩ := hu
  obtain ⟨a2, k2, rfl, hy0⟩ := hv
  obtain ⟨n, hn⟩ : ∃ n, L.length = n := ⟨_, rfl⟩
  have HN := Lib.hid hn
  rw [hn] at hx0 hy0 hl ⊢
  clear hn
  have t0 : ((n : Int) != (n : Int)) = false := by simp
  go_enter Tryz.func75, Tryz.ntmps75
  go_wp2_with fail
  go_loopw [5] (fun i wr => ∃ j : Nat, i = .int .i64 j ∧ j ≤ n ∧ Below w.heap.size w wr) (fun i _ => n - (intOf i).toNat)
  case atStart => exact ⟨0, rfl, Nat.zero_le _, Below.refl _ _⟩
  case round =>
    obtain ⟨j, rfl, hj, hBr⟩ := hrel
    have hsz := hBr.size
    by_cases hjl : j < n
    · have p0 : (j : Int) < (n : Int) := by omega
      have p1 : (0 : Int) ≤ (j : Int) := by omega
      have HJ := Lib.hid (show j + 1 ≤ n from hjl)
      obtain ⟨g1, o1, rfl, hx⟩ := hx0 (by omega)
      obtain ⟨g2, o2, rfl, hy⟩ := hy0 (by omega)
      obtain ⟨q, hq⟩ : ∃ q, L[j]? = some q := ⟨_, List.getElem?_eq_getElem (by have := HN.out; omega)⟩
      have k0 : wr.cell? ⟨g1, o1 + j, none⟩ = some (.string q) := blk_cellB hBr (hx (j) _ (by rw [List.getElem?_map, hq]; rfl))
      have l0 : wr.cell? ⟨g2, o2 + j, none⟩ = some (.string q) := blk_cellB hBr (hy (j) _ (by rw [List.getElem?_map, hq]; rfl))
      have s0 : (q.toList == q.toList) = true := tl_eq rfl
      clear hq hx hy
      go_wp2_with fail
      go_quiet (fail)
      go_wp2_with fail
      go_roundw
      case rel => exact ⟨j + 1, by go_num, HJ.out, Cle.below_drewN hBr _⟩
      case measure => have hjj := HJ.out; simp [intOf]; omega
    · have hje : j = n := by omega
      subst hje
      go_wp2_with fail
      go_ret
      exact ⟨rfl, hBr⟩
set_option maxRecDepth 100000 in
set_option maxHeartbeats 4000000 in
theorem rpairs_yes {w : World} {u v : Value} {L : List Pr} (hu : Rd w u L.length (flatR L)) (hv : Rd w v L.length (flatR L)) (hl : L.length ≤ 100000) :
    Calls Tryz.prog 76 #[u, v] w fun e w' => e = .returned (.bool true) ∧ Below w.heap.size w w' := by
  obtain ⟨a1, k1, rfl, hx0⟩ := hu
  obtain ⟨a2, k2, rfl, hy0⟩ := hv
  obtain ⟨n, hn⟩ : ∃ n, L.length = n := ⟨_, rfl⟩
  have HN := Lib.hid hn
  rw [hn] at hx0 hy0 hl ⊢
  clear hn
  have t0 : ((n : Int) != (n : Int)) = false := by simp
  go_enter Tryz.func76, Tryz.ntmps76
  go_wp2_with fail
  go_loopw [5] (fun i wr => ∃ j : Nat, i = .int .i64 j ∧ j ≤ n ∧ Below w.heap.size w wr) (fun i _ => n - (intOf i).toNat)
  case atStart => exact ⟨0, rfl, Nat.zero_le _, Below.refl _ _⟩
  case round =>
    obtain ⟨j, rfl, hj, hBr⟩ := hrel
    have hsz := hBr.size
    by_cases hjl : j < n
    · have p0 : (j : Int) < (n : Int) := by omega
      have p1 : (0 : Int) ≤ (j : Int) := by omega
      have HJ := Lib.hid (show j + 1 ≤ n from hjl)
      obtain ⟨g1, o1, rfl, hx⟩ := hx0 (by omega)
      obtain ⟨g2, o2, rfl, hy⟩ := hy0 (by omega)
      obtain ⟨q, hq⟩ : ∃ q, L[j]? = some q := ⟨_, List.getElem?_eq_getElem (by have := HN.out; omega)⟩
      have k0 : wr.cell? ⟨g1, o1 + j * 4, none⟩ = some (.string q.name) := blk_cellB hBr (hx (j * 4) _ (by have := flatR_at' hq 0 (by omega); rw [Nat.add_zero] at this; rw [this]; rfl))
      have k1 : wr.cell? ⟨g1, o1 + j * 4 + 1, none⟩ = some (.int .i64 q.t.ty) := by rw [Nat.add_assoc]; exact blk_cellB hBr (hx (j * 4 + 1) _ (by rw [flatR_at' hq 1 (by omega)]; rfl))
      have k2 : wr.cell? ⟨g1, o1 + j * 4 + 2, none⟩ = some (.string q.t.s) := by rw [Nat.add_assoc]; exact blk_cellB hBr (hx (j * 4 + 2) _ (by rw [flatR_at' hq 2 (by omega)]; rfl))
      have k3 : wr.cell? ⟨g1, o1 + j * 4 + 3, none⟩ = some (.int .i64 q.t.n) := by rw [Nat.add_assoc]; exact blk_cellB hBr (hx (j * 4 + 3) _ (by rw [flatR_at' hq 3 (by omega)]; rfl))
      have l0 : wr.cell? ⟨g2, o2 + j * 4, none⟩ = some (.string q.name) := blk_cellB hBr (hy (j * 4) _ (by have := flatR_at' hq 0 (by omega); rw [Nat.add_zero] at this; rw [this]; rfl))
      have l1 : wr.cell? ⟨g2, o2 + j * 4 + 1, none⟩ = some (.int .i64 q.t.ty) := by rw [Nat.add_assoc]; exact blk_cellB hBr (hy (j * 4 + 1) _ (by rw [flatR_at' hq 1 (by omega)]; rfl))
      have l2 : wr.cell? ⟨g2, o2 + j * 4 + 2, none⟩ = some (.string q.t.s) := by rw [Nat.add_assoc]; exact blk_cellB hBr (hy (j * 4 + 2) _ (by rw [flatR_at' hq 2 (by omega)]; rfl))
      have l3 : wr.cell? ⟨g2, o2 + j * 4 + 3, none⟩ = some (.int .i64 q.t.n) := by rw [Nat.add_assoc]; exact blk_cellB hBr (hy (j * 4 + 3) _ (by rw [flatR_at' hq 3 (by omega)]; rfl))
      have s0 : (q.name.toList == q.name.toList) = true := tl_eq rfl
      have s1 : (q.t.s.toList == q.t.s.toList) = true := tl_eq rfl
      clear hq hx hy
      go_wp2_with fail
      go_quiet (fail)
      go_wp2_with fail
      go_roundw
      case rel => exact ⟨j + 1, by go_num, HJ.out, Cle.below_drewN hBr _⟩
      case measure => have hjj := HJ.out; simp [intOf]; omega
    · have hje : j = n := by omega
      subst hje
      go_wp2_with fail
      go_ret
      exact ⟨rfl, hBr⟩
set_option maxRecDepth 100000 in
set_option maxHeartbeats 4000000 in
theorem rtable_yes {w : World} {x : Sx} {a0 b0 : Option Addr} {n k0 m0 : Nat} (hn : x.tcols.length = n) (hu : Rd w (.slice a0 n k0) n (flatC x.tcols)) (hv : Rd w (.slice b0 n m0) n (flatC x.tcols)) (hl : n ≤ 100000) :
    Calls Tryz.prog 74 #[.agg #[.string x.tname, .int .i64 x.tid, .string x.part.name, .int .i64 x.part.ty, .string x.clus.name, .int .i64 x.clus.ty, .slice a0 n k0], .agg #[.string x.tname, .int .i64 x.tid, .string x.part.name, .int .i64 x.part.ty, .string x.clus.name, .int .i64 x.clus.ty, .slice b0 n m0]] w fun e w' => e = .returned (.bool true) ∧ Below w.heap.size w w' := by
  have hx0 : 0 < n → ∃ g o, a0 = some ⟨g, o, none⟩ ∧ ∀ k v, (flatC x.tcols)[k]? = some v → w.cell? ⟨g, o + k, none⟩ = some v := by
    obtain ⟨a1, k1, ha1, h⟩ := hu
    cases ha1
    exact h
  have hy0 : 0 < n → ∃ g o, b0 = some ⟨g, o, none⟩ ∧ ∀ k v, (flatC x.tcols)[k]? = some v → w.cell? ⟨g, o + k, none⟩ = some v := by
    obtain ⟨a1, k1, ha1, h⟩ := hv
    cases ha1
    exact h
  clear hu hv
  obtain ⟨hB, hBx, hBy⟩ := two_new w #[.string x.tname, .int .i64 x.tid, .string x.part.name, .int .i64 x.part.ty, .string x.clus.name, .int .i64 x.clus.ty, .slice a0 n k0] #[.string x.tname, .int .i64 x.tid, .string x.part.name, .int .i64 x.part.ty, .string x.clus.name, .int .i64 x.clus.ty, .slice b0 n m0] 26 26
  obtain ⟨W, hW⟩ : ∃ W, (w.alloc (.cells #[.string x.tname, .int .i64 x.tid, .string x.part.name, .int .i64 x.part.ty, .string x.clus.name, .int .i64 x.clus.ty, .slice a0 n k0] 26)).alloc (.cells #[.string x.tname, .int .i64 x.tid, .string x.part.name, .int .i64 x.part.ty, .string x.clus.name, .int .i64 x.clus.ty, .slice b0 n m0] 26) = W := ⟨_, rfl⟩
  rw [hW] at hB hBx hBy
  have HX := Lib.hid hBx
  have HY := Lib.hid hBy
  have HN := Lib.hid hn
  obtain ⟨f0, f1, f2, f3, f4, f5, f6⟩ := t7 hBx
  obtain ⟨g0, g1, g2, g3, g4, g5, g6⟩ := t7 hBy
  have s0 : (x.tname.toList == x.tname.toList) = true := tl_eq rfl
  have r1 := rcol_yes x.part.name x.part.ty
  have r2 := rcol_yes x.clus.name x.clus.ty
  have HB := Lib.hid hB
  have t0 : ((n : Int) != (n : Int)) = false := by simp
  clear hBx hBy hB hn
  go_enter Tryz.func74, Tryz.ntmps74
  go_wp2_with fail
  (try rw [hW])
  refine (r1 _).mono ?_; rintro e w1 ⟨rfl, h1⟩
  have hBx := keep_blk h1 HX.out
  have hBy := keep_blk h1 HY.out
  have HX1 := Lib.hid hBx
  have HY1 := Lib.hid hBy
  have HB1 := Lib.hid (HB.out.trans (h1.mono HB.out.size))
  obtain ⟨f0, f1, f2, f3, f4, f5, f6⟩ := t7 hBx
  obtain ⟨g0, g1, g2, g3, g4, g5, g6⟩ := t7 hBy
  clear hBx hBy h1 HX HY HB r1 hW
  go_wp2_with fail
  refine (r2 _).mono ?_; rintro e w2 ⟨rfl, h2⟩
  have hBx := keep_blk h2 HX1.out
  have hBy := keep_blk h2 HY1.out
  have HX2 := Lib.hid hBx
  have HY2 := Lib.hid hBy
  have HB2 := Lib.hid (HB1.out.trans (h2.mono HB1.out.size))
  obtain ⟨f0, f1, f2, f3, f4, f5, f6⟩ := t7 hBx
  obtain ⟨g0, g1, g2, g3, g4, g5, g6⟩ := t7 hBy
  clear hBx hBy h2 HX1 HY1 HB1 r2
  go_wp2_with fail
  go_loopw [5] (fun i wr => ∃ j : Nat, i = .int .i64 j ∧ j ≤ n ∧ Hid (Below w2.heap.size w2 wr)) (fun i _ => n - (intOf i).toNat)
  case atStart => exact ⟨0, rfl, Nat.zero_le _, Below.refl _ _⟩
  case round =>
    obtain ⟨j, rfl, hj, HBr⟩ := hrel
    have hBx := keep_blk HBr.out HX2.out
    have hBy := keep_blk HBr.out HY2.out
    have f6 := blk_cell hBx 6
    have g6 := blk_cell hBy 6
    have f6' : wr.cell? ⟨w.heap.size, 6, none⟩ = some (.slice a0 n k0) := f6
    have g6' : wr.cell? ⟨w.heap.size + 1, 6, none⟩ = some (.slice b0 n m0) := g6
    clear f6 g6 hBx hBy
    have HBw := Lib.hid (HB2.out.trans (HBr.out.mono HB2.out.size))
    by_cases hjl : j < n
    · have p0 : (j : Int) < (n : Int) := by omega
      have p1 : (0 : Int) ≤ (j : Int) := by omega
      have HJ := Lib.hid (show j + 1 ≤ n from hjl)
      obtain ⟨ga, o1, hea, hx⟩ := hx0 (by omega)
      obtain ⟨gb, o2, heb, hy⟩ := hy0 (by omega)
      subst hea
      subst heb
      obtain ⟨q, hq⟩ : ∃ q, x.tcols[j]? = some q := ⟨_, List.getElem?_eq_getElem (by have := HN.out; omega)⟩
      have k0' : wr.cell? ⟨ga, o1 + j * 2, none⟩ = some (.string q.name) := blk_cellB HBw.out (hx (j * 2) _ (by have := flatC_at' hq 0 (by omega); rw [Nat.add_zero] at this; rw [this]; rfl))
      have k1' : wr.cell? ⟨ga, o1 + j * 2 + 1, none⟩ = some (.int .i64 q.ty) := by rw [Nat.add_assoc]; exact blk_cellB HBw.out (hx (j * 2 + 1) _ (by rw [flatC_at' hq 1 (by omega)]; rfl))
      have l0' : wr.cell? ⟨gb, o2 + j * 2, none⟩ = some (.string q.name) := blk_cellB HBw.out (hy (j * 2) _ (by have := flatC_at' hq 0 (by omega); rw [Nat.add_zero] at this; rw [this]; rfl))
      have l1' : wr.cell? ⟨gb, o2 + j * 2 + 1, none⟩ = some (.int .i64 q.ty) := by rw [Nat.add_assoc]; exact blk_cellB HBw.out (hy (j * 2 + 1) _ (by rw [flatC_at' hq 1 (by omega)]; rfl))
      have rq := rcol_yes q.name q.ty
      clear hq hx hy hx0 hy0
      go_wp2_with fail
      go_region_law (go_simp; go_at_call 117; refine (rq _).mono ?_; rintro e w3 ⟨rfl, h3⟩)
      all_goals go_wp2_with fail
      all_goals go_roundw
      all_goals first
        | exact ⟨j + 1, by go_num, HJ.out, HBr.out.trans (((Cle.below_drewN (Below.refl wr.heap.size wr) _).trans h3).mono HBr.out.size)⟩
        | (have hjj := HJ.out; simp [intOf]; omega)
    · have hje : j = n := by omega
      subst hje
      go_wp2_with fail
      go_ret
      exact ⟨rfl, HBw.out⟩
end Go.Proofs.YtfbgdjcnlnfoaaaGreatDoor

namespace Go.Proofs.YtfbgdjcnlnfoaaaGreatDoor
open Go.RowKit
open Cle

theorem quiet_ldS {ops : Array Oper} {rest : List Oper} {op : Oper} {a : Act} {C : World → Prop} {Q : Act → Prop} {b o : Nat} {p : Pw} (hw : Region.wanted op (yielded ops a.tmps) = true) (x : Operand) (ho : op.op = .load 31 x) (hx : a.eval x = .pointer (some ⟨b, o, none⟩))
    (hr : ∀ w', C w' → w'.rangeAt b o p.arr.toList) (h : wpQuiet Tryz.prog ops C Q rest (a.put op.dst (.agg p.arr))) : wpQuiet Tryz.prog ops C Q (op :: rest) a := by
  obtain ⟨d, hu, hd⟩ := Tryz.undSt
  refine wpQuiet_step fun K hK => ?_
  rw [if_pos hw]
  refine ⟨.agg p.arr, fun w' hC => ?_, hK _ h⟩
  have := run_loadAt_mid w' b o 31 p.arr.toList d (hr w' hC) hu hd (by rw [show p.arr.toList.length = 18 from rfl]; exact Tryz.sizeSt)
  unfold Oper.quietAt execOp
  simp only [ho, hx, Sem.run_bind, this, Result.andThen_ok, Sem.run_pure]
  exact ⟨rfl, rfl⟩
theorem StIn.tc_at {w W : World} {x : Sx} {tc c s wv : Value} {n : Nat} (h : StIn w x tc c s wv) (hn : x.tcols.length = n) (hb : Below w.heap.size w W) : Rd W tc n (flatC x.tcols) := by
  rw [← hn]; exact h.tc.below hb
set_option maxRecDepth 100000 in
set_option maxHeartbeats 8000000 in
theorem rsame_of {w : World} {x : Sx} {a0 b0 ap bp : Option Addr} {n k0 m0 l kp mp : Nat} {c s wv c' s' wv' : Value} (hn : x.tcols.length = n) (hp : StIn w x (.slice a0 n k0) c s wv) (hq : StIn w x (.slice b0 n m0) c' s' wv') (sm : SmX x) {L1 L2 : List Pw} (hl1 : L1.length = l) (hl2 : L2.length = l) (hL : Rd w (.slice ap l kp) l (flatW L1)) (hM : Rd w (.slice bp l mp) l (flatW L2)) (hl : l ≤ 100000)
    (hf : ∀ (j : Nat) (q r : Pw), L1[j]? = some q → L2[j]? = some r → ∀ w', Below w.heap.size w w' → Calls Tryz.prog 34 #[.agg q.arr, .agg r.arr] w' fun e w'' => e = .returned (.bool true) ∧ Below w'.heap.size w' w'') :
    Calls Tryz.prog 34 #[.agg (stC x (.slice a0 n k0) c s wv (.slice ap l kp)), .agg (stC x (.slice b0 n m0) c' s' wv' (.slice bp l mp))] w fun e w' => e = .returned (.bool true) ∧ Below w.heap.size w w' := by
  obtain ⟨hB, hBx, hBy⟩ := two_new w (stC x (.slice a0 n k0) c s wv (.slice ap l kp)) (stC x (.slice b0 n m0) c' s' wv' (.slice bp l mp)) 31 31
  obtain ⟨W, hW⟩ : ∃ W, (w.alloc (.cells (stC x (.slice a0 n k0) c s wv (.slice ap l kp)) 31)).alloc (.cells (stC x (.slice b0 n m0) c' s' wv' (.slice bp l mp)) 31) = W := ⟨_, rfl⟩
  rw [hW] at hB hBx hBy
  have HX0 := Lib.hid hBx
  have HY0 := Lib.hid hBy
  have HB0 := Lib.hid hB
  have HP := Lib.hid hp
  have HQ := Lib.hid hq
  have HF := Lib.hid hf
  have HL := Lib.hid hL
  have HM := Lib.hid hM
  have HSM := Lib.hid sm
  have HN := Lib.hid hn
  have HL1 := Lib.hid hl1
  have HL2 := Lib.hid hl2
  clear hB hBx hBy hp hq hf hL hM sm hn hl1 hl2
  have s0 : (x.name.toList == x.name.toList) = true := tl_eq rfl
  have s1 : (x.of_.toList == x.of_.toList) = true := tl_eq rfl
  have s2 : (x.on.toList == x.on.toList) = true := tl_eq rfl
  have t0 : ((l : Int) != (l : Int)) = false := by simp
  obtain ⟨c0, c1, c2, c3, c4, c5, c6, c7, c8, c9, c10, c11, c12, c13, c14, c15, c16, c17⟩ := st18 HX0.out
  obtain ⟨d0, d1, d2, d3, d4, d5, d6, d7, d8, d9, d10, d11, d12, d13, d14, d15, d16, d17⟩ := st18 HY0.out
  clear c11 d11 c12 d12 c13 d13 c14 d14 c15 d15 c16 d16 c17 d17
  go_enter Tryz.func34, Tryz.ntmps34
  go_wp2_with fail
  (try rw [hW])
  refine (rtable_yes (x := x) HN.out (HP.out.tc_at HN.out HB0.out) (HQ.out.tc_at HN.out HB0.out) (by have := HSM.out.1; have := HN.out; omega)).mono ?_; rintro e w1 ⟨rfl, h1⟩
  have HX1 := Lib.hid (keep_blk h1 HX0.out)
  have HY1 := Lib.hid (keep_blk h1 HY0.out)
  have HB1 := Lib.hid (HB0.out.trans (h1.mono HB0.out.size))
  clear h1 HX0 HY0 hW c0 d0 c1 d1 c2 d2 c3 d3 c4 d4 c5 d5 c6 d6 c7 d7 c8 d8 c9 d9 c10 d10
  obtain ⟨c0, c1, c2, c3, c4, c5, c6, c7, c8, c9, c10, c11, c12, c13, c14, c15, c16, c17⟩ := st18 HX1.out
  obtain ⟨d0, d1, d2, d3, d4, d5, d6, d7, d8, d9, d10, d11, d12, d13, d14, d15, d16, d17⟩ := st18 HY1.out
  clear c0 d0 c1 d1 c2 d2 c3 d3 c4 d4 c5 d5 c6 d6 c7 d7 c8 d8 c9 d9 c10 d10 c12 d12 c13 d13 c14 d14 c15 d15 c16 d16 c17 d17
  go_wp2_with fail
  refine (rtexts_yes (L := x.cols) (HP.out.c.below HB1.out) (HQ.out.c.below HB1.out) HSM.out.2.1).mono ?_; rintro e w2 ⟨rfl, h2⟩
  have HX2 := Lib.hid (keep_blk h2 HX1.out)
  have HY2 := Lib.hid (keep_blk h2 HY1.out)
  have HB2 := Lib.hid (HB1.out.trans (h2.mono HB1.out.size))
  clear h2 HX1 HY1 c11 d11
  obtain ⟨c0, c1, c2, c3, c4, c5, c6, c7, c8, c9, c10, c11, c12, c13, c14, c15, c16, c17⟩ := st18 HX2.out
  obtain ⟨d0, d1, d2, d3, d4, d5, d6, d7, d8, d9, d10, d11, d12, d13, d14, d15, d16, d17⟩ := st18 HY2.out
  clear c0 d0 c1 d1 c2 d2 c3 d3 c4 d4 c5 d5 c6 d6 c7 d7 c8 d8 c9 d9 c10 d10 c11 d11 c13 d13 c14 d14 c15 d15 c16 d16 c17 d17
  go_wp2_with fail
  refine (rpairs_yes (L := x.sets) (HP.out.s.below HB2.out) (HQ.out.s.below HB2.out) HSM.out.2.2.1).mono ?_; rintro e w3 ⟨rfl, h3⟩
  have HX3 := Lib.hid (keep_blk h3 HX2.out)
  have HY3 := Lib.hid (keep_blk h3 HY2.out)
  have HB3 := Lib.hid (HB2.out.trans (h3.mono HB2.out.size))
  clear h3 HX2 HY2 c12 d12
  obtain ⟨c0, c1, c2, c3, c4, c5, c6, c7, c8, c9, c10, c11, c12, c13, c14, c15, c16, c17⟩ := st18 HX3.out
  obtain ⟨d0, d1, d2, d3, d4, d5, d6, d7, d8, d9, d10, d11, d12, d13, d14, d15, d16, d17⟩ := st18 HY3.out
  clear c0 d0 c1 d1 c2 d2 c3 d3 c4 d4 c5 d5 c6 d6 c7 d7 c8 d8 c9 d9 c10 d10 c11 d11 c12 d12 c14 d14 c15 d15 c16 d16 c17 d17
  go_wp2_with fail
  refine (rpairs_yes (L := x.wher) (HP.out.wv.below HB3.out) (HQ.out.wv.below HB3.out) HSM.out.2.2.2).mono ?_; rintro e w4 ⟨rfl, h4⟩
  have HX4 := Lib.hid (keep_blk h4 HX3.out)
  have HY4 := Lib.hid (keep_blk h4 HY3.out)
  have HB4 := Lib.hid (HB3.out.trans (h4.mono HB3.out.size))
  clear h4 HX3 HY3 c13 d13
  obtain ⟨c0, c1, c2, c3, c4, c5, c6, c7, c8, c9, c10, c11, c12, c13, c14, c15, c16, c17⟩ := st18 HX4.out
  obtain ⟨d0, d1, d2, d3, d4, d5, d6, d7, d8, d9, d10, d11, d12, d13, d14, d15, d16, d17⟩ := st18 HY4.out
  clear c0 d0 c1 d1 c2 d2 c3 d3 c4 d4 c5 d5 c6 d6 c7 d7 c8 d8 c9 d9 c10 d10 c11 d11 c12 d12 c13 d13
  go_wp2_with fail
  go_loopw [5] (fun i wr => ∃ j : Nat, i = .int .i64 j ∧ j ≤ l ∧ Hid (Below w4.heap.size w4 wr)) (fun i _ => l - (intOf i).toNat)
  case atStart => exact ⟨0, rfl, Nat.zero_le _, Below.refl _ _⟩
  case round =>
    obtain ⟨j, rfl, hj, HBr⟩ := hrel
    have e17 := blk_cellB HBr.out c17
    have f17 := blk_cellB HBr.out d17
    have HBw := Lib.hid (HB4.out.trans (HBr.out.mono HB4.out.size))
    clear c14 c15 c16 c17 d14 d15 d16 d17
    by_cases hjl : j < l
    · have p0 : (j : Int) < (l : Int) := by omega
      have p1 : (0 : Int) ≤ (j : Int) := by omega
      have HJ := Lib.hid (show j + 1 ≤ l from hjl)
      obtain ⟨q, hq⟩ : ∃ q, L1[j]? = some q := ⟨_, List.getElem?_eq_getElem (by have := HL1.out; omega)⟩
      obtain ⟨r, hr⟩ : ∃ r, L2[j]? = some r := ⟨_, List.getElem?_eq_getElem (by have := HL2.out; omega)⟩
      obtain ⟨a1, k1, ha1, hx0⟩ := HL.out
      obtain ⟨a2, k2, ha2, hy0⟩ := HM.out
      cases ha1
      cases ha2
      obtain ⟨ga, o1, hea, hx⟩ := hx0 (by omega)
      obtain ⟨gb, o2, heb, hy⟩ := hy0 (by omega)
      subst hea
      subst heb
      have hc := Lib.hid (HF.out j q r hq hr)
      have hR1 := flat_range hx hq HBw.out
      have hR2 := flat_range hy hr HBw.out
      obtain ⟨x1, tc1, cc1, ss1, wv1, pv1⟩ := q
      obtain ⟨x2, tc2, cc2, ss2, wv2, pv2⟩ := r
      clear hq hr hx hy hx0 hy0
      have rq := fun w' hb => hc.out w' hb
      have HC1 := fun d os (i : Nat) v hv => cell_regrown (hR1 i v hv) d os
      have HC2 := fun d os (i : Nat) v hv => cell_regrown (hR2 i v hv) d os
      have e17' := cell_regrown e17
      have f17' := cell_regrown f17
      have HC1' := Lib.hid HC1
      have HC2' := Lib.hid HC2
      clear hR1 hR2 rq HC1 HC2
      go_wp2_with fail
      refine wp_region_quiet_below (by kernel_rfl) (by kernel_rfl) ?_
      iterate 4 (go_big_quiet_step (fail))
      refine quiet_ldS rfl _ rfl rfl (p := ⟨x1, tc1, cc1, ss1, wv1, pv1⟩) (fun w' hw' => by obtain ⟨p, rfl⟩ := hw'; exact HC1'.out p.d p.os) ?_
      go_simp
      iterate 4 (go_big_quiet_step (fail))
      refine quiet_ldS rfl _ rfl rfl (p := ⟨x2, tc2, cc2, ss2, wv2, pv2⟩) (fun w' hw' => by obtain ⟨p, rfl⟩ := hw'; exact HC2'.out p.d p.os) ?_
      go_simp
      go_big_quiet_step (exact Calls.regrown_of (hc.out _ (HBw.out.trans ((below_regrown wr _ _).mono HBw.out.size))))
      go_big_quiet_step (fail)
      refine wpQuiet_nil ?_
      intro pq
      obtain ⟨dq, osq⟩ := pq
      go_wp2_with fail
      go_roundw
      case rel => exact ⟨j + 1, by go_num, HJ.out, HBr.out.trans ((below_regrown wr dq osq).mono HBr.out.size)⟩
      case measure => have hjj := HJ.out; simp [intOf]; omega
    · have hje : j = l := by omega
      subst hje
      go_wp2_with fail
      go_ret
      exact ⟨rfl, HBw.out⟩
end Go.Proofs.YtfbgdjcnlnfoaaaGreatDoor

namespace Go.Proofs.YtfbgdjcnlnfoaaaGreatDoor
open Go.RowKit
open Cle

set_option maxRecDepth 100000 in
theorem rsame0_yes {w : World} {q r : Pw} (h1 : StIn w q.x q.tc q.c q.s q.wv) (p1 : Rd w q.pv 0 []) (h2 : StIn w r.x r.tc r.c r.s r.wv) (p2 : Rd w r.pv 0 []) (sm : SmX q.x) (hx : q.x = r.x) :
    Calls Tryz.prog 34 #[.agg q.arr, .agg r.arr] w fun e w' => e = .returned (.bool true) ∧ Below w.heap.size w w' := by
  obtain ⟨x, tc, c, s, wv, pv⟩ := q
  obtain ⟨x', tc', c', s', wv', pv'⟩ := r
  have hx : x = x' := hx
  subst hx
  obtain ⟨a0, k0, e1, _⟩ := h1.tc
  obtain ⟨b0, m0, e2, _⟩ := h2.tc
  have p1' := p1
  have p2' := p2
  obtain ⟨ap, kp, e3, _⟩ := p1'
  obtain ⟨bp, mp, e4, _⟩ := p2'
  have e1 : tc = .slice a0 x.tcols.length k0 := e1
  have e2 : tc' = .slice b0 x.tcols.length m0 := e2
  have e3 : pv = .slice ap 0 kp := e3
  have e4 : pv' = .slice bp 0 mp := e4
  subst e1 e2 e3 e4
  exact rsame_of rfl h1 h2 sm (L1 := []) (L2 := []) rfl rfl p1 p2 (by omega) (fun j q r h => by simp at h)
set_option maxRecDepth 100000 in
theorem rsame_yes {w : World} {p q : Pw} {L M : List Pw} (hp : WdS w p L) (hq : WdS w q M) (sm : SmS ⟨p.x, L.map Pw.x⟩) (hx : p.x = q.x) (hm : L.map Pw.x = M.map Pw.x) :
    Calls Tryz.prog 34 #[.agg p.arr, .agg q.arr] w fun e w' => e = .returned (.bool true) ∧ Below w.heap.size w w' := by
  have hlen : M.length = L.length := by have := congrArg List.length hm; simpa using this.symm
  obtain ⟨x, tc, c, s, wv, pv⟩ := p
  obtain ⟨x', tc', c', s', wv', pv'⟩ := q
  have hx : x = x' := hx
  subst hx
  obtain ⟨a0, k0, e1, _⟩ := hp.st.tc
  obtain ⟨b0, m0, e2, _⟩ := hq.st.tc
  obtain ⟨ap, kp, e3, _⟩ := hp.pv
  obtain ⟨bp, mp, e4, _⟩ := hq.pv
  have e1 : tc = .slice a0 x.tcols.length k0 := e1
  have e2 : tc' = .slice b0 x.tcols.length m0 := e2
  have e3 : pv = .slice ap L.length kp := e3
  have e4 : pv' = .slice bp M.length mp := e4
  rw [hlen] at e4
  subst e1 e2 e3 e4
  have hqp : Rd w (.slice bp L.length mp) L.length (flatW M) := by have := hq.pv; rw [hlen] at this; exact this
  have hst := hp.st
  have hst2 := hq.st
  have hpv := hp.pv
  have hsm := sm.1
  have hll : L.length ≤ 100000 := by have := sm.2.1; simpa using this
  have hf : ∀ (j : Nat) (u v : Pw), L[j]? = some u → M[j]? = some v → ∀ w', Below w.heap.size w w' → Calls Tryz.prog 34 #[.agg u.arr, .agg v.arr] w' fun e w'' => e = .returned (.bool true) ∧ Below w'.heap.size w' w'' := by
    intro j u v hu hv w' hb
    have hxe : u.x = v.x := by
      have h1 : (L.map Pw.x)[j]? = some u.x := by rw [List.getElem?_map, hu]; rfl
      have h2 : (M.map Pw.x)[j]? = some v.x := by rw [List.getElem?_map, hv]; rfl
      rw [hm, h2] at h1
      exact (Option.some.inj h1).symm
    have hum := List.mem_of_getElem? hu
    have hvm := List.mem_of_getElem? hv
    exact rsame0_yes ((hp.each u hum).1.below hb) ((hp.each u hum).2.below hb) ((hq.each v hvm).1.below hb) ((hq.each v hvm).2.below hb) (sm.2.2 u.x (List.mem_map.2 ⟨u, hum, rfl⟩)) hxe
  have H := rsame_of (w := w) (x := x) (a0 := a0) (b0 := b0) (ap := ap) (bp := bp) (n := x.tcols.length) (k0 := k0) (m0 := m0) (l := L.length) (kp := kp) (mp := mp) (c := c) (s := s) (wv := wv) (c' := c') (s' := s') (wv' := wv') rfl hst hst2 hsm (L1 := L) (L2 := M) rfl hlen hpv hqp hll hf
  rw [hlen]
  exact H
set_option maxRecDepth 100000 in
set_option maxHeartbeats 4000000 in
theorem rstmt_yes {w : World} {p q : Pw} {L M : List Pw} (hp : WdS w p L) (hq : WdS w q M) (sm : SmS ⟨p.x, L.map Pw.x⟩) (hx : p.x = q.x) (hm : L.map Pw.x = M.map Pw.x) :
    Calls Tryz.prog 19 #[.agg p.arr, .agg q.arr] w fun e w' => e = .returned (.bool true) ∧ Below w.heap.size w w' := by
  obtain ⟨hB, hBx, hBy⟩ := two_new w p.arr q.arr 31 31
  have hc := rsame_yes (hp.below hB) (hq.below hB) sm hx hm
  obtain ⟨x, tc, c, s, wv, pv⟩ := p
  obtain ⟨x', tc', c', s', wv', pv'⟩ := q
  clear hp hq sm hx hm
  go_enter Tryz.func19, Tryz.ntmps19
  go_wp2_with (first | refine wpl_st rfl _ rfl rfl rfl hBx ?_ | refine wpl_st rfl _ rfl rfl rfl hBy ?_)
  refine hc.mono ?_; rintro e w2 ⟨rfl, hb2⟩
  go_wp2_with fail
  go_ret
  exact ⟨rfl, hB.trans (hb2.mono hB.size)⟩
end Go.Proofs.YtfbgdjcnlnfoaaaGreatDoor

namespace Go.Proofs.YtfbgdjcnlnfoaaaGreatDoor
namespace Cle

theorem may_kind {z : Stt} (h : May z) : 1 ≤ z.x.kind ∧ z.x.kind ≤ 9 := by
  obtain ⟨nd, L, h1, rfl, _⟩ := h
  cases h1 with
  | change h => cases h <;> exact ⟨of_decide_eq_true rfl, of_decide_eq_true rfl⟩
  | batch => exact ⟨of_decide_eq_true rfl, of_decide_eq_true rfl⟩
  | plain h =>
    cases h with
    | table o c v a h =>
      obtain ⟨p, q, D, _, _, e0, _, _⟩ := table_canon h
      show 1 ≤ (tableX o c v a).kind ∧ (tableX o c v a).kind ≤ 9
      rw [e0]
      exact ⟨of_decide_eq_true rfl, of_decide_eq_true rfl⟩
    | view => exact ⟨of_decide_eq_true rfl, of_decide_eq_true rfl⟩
    | index => exact ⟨of_decide_eq_true rfl, of_decide_eq_true rfl⟩
    | drop => exact ⟨of_decide_eq_true rfl, of_decide_eq_true rfl⟩
    | ask => exact ⟨of_decide_eq_true rfl, of_decide_eq_true rfl⟩
end Cle
end Go.Proofs.YtfbgdjcnlnfoaaaGreatDoor

namespace Go.Proofs.YtfbgdjcnlnfoaaaGreatDoor
namespace Cle

def Bo (X : Tx) (σ σ' : Ps) : Prop := (∀ a, σ.bad = some a → a ≤ X.en) → ∀ a, σ'.bad = some a → a ≤ X.en
theorem Bo.refl {X : Tx} (σ : Ps) : Bo X σ σ := fun h => h
theorem Bo.trans {X : Tx} {σ σ1 σ2 : Ps} (h : Bo X σ σ1) (h' : Bo X σ1 σ2) : Bo X σ σ2 := fun hb => h' (h hb)
theorem bo_step {X : Tx} (σ : Ps) : Bo X σ σ.step := fun h => h
theorem bo_if {X : Tx} {c : Prop} [Decidable c] {σ σ1 σ2 : Ps} (h1 : Bo X σ σ1) (h2 : Bo X σ σ2) : Bo X σ (if c then σ1 else σ2) := by
  split
  · exact h1
  · exact h2
theorem here_le (X : Tx) (hE : ∀ t ∈ X.T, t.at_ ≤ X.en) (σ : Ps) : X.here σ ≤ X.en := by
  unfold Tx.here
  split
  · rename_i t ht
    exact hE t (List.mem_of_getElem? ht)
  · exact Nat.le_refl _
theorem bo_here (X : Tx) (hE : ∀ t ∈ X.T, t.at_ ≤ X.en) (σ τ : Ps) : Bo X σ (σ.wrong (X.here τ)) := by
  intro h a ha
  unfold Ps.wrong at ha
  cases hb : σ.bad with
  | none =>
    rw [hb] at ha
    cases ha
    exact here_le X hE τ
  | some b => rw [hb] at ha; exact h a ha
section
variable (X : Tx) (hE : ∀ t ∈ X.T, t.at_ ≤ X.en)
include hE
theorem fail_bo (σ : Ps) : Bo X σ (X.fail σ) := bo_here X hE _ _
theorem must1_bo (σ : Ps) (s : ByteArray) : Bo X σ (X.must1 σ s) := bo_if (bo_step _) (fail_bo X hE _)
theorem must_bo : ∀ (l : List ByteArray) (σ : Ps), Bo X σ (X.must σ l)
  | [], σ => Bo.refl σ
  | s :: l, σ => (must1_bo X hE σ s).trans (must_bo l (X.must1 σ s))
theorem may_bo (σ : Ps) (s : ByteArray) : Bo X σ (X.may σ s) := bo_if ((fun _ => bo_step σ) hE) (Bo.refl _)
theorem name_bo (σ : Ps) : Bo X σ (X.name σ).2 := by
  unfold Tx.name
  split
  · split
    · exact fail_bo X hE _
    · exact bo_step _
  · exact fail_bo X hE _
theorem value_bo (σ : Ps) : Bo X σ (X.value σ).2 := by
  unfold Tx.value
  split
  · exact bo_step _
  · split
    · exact bo_step _
    · exact fail_bo X hE _
theorem count_bo (σ : Ps) : Bo X σ (X.count σ).2 := (value_bo X hE σ).trans (bo_if (bo_here X hE _ _) (Bo.refl _))
theorem column_bo (σ : Ps) (l : List ByteArray) (most : Nat) : Bo X σ (X.column σ l most).2 := by
  unfold Tx.column
  have h1 : Bo X σ (if most ≤ l.length then σ.wrong (X.here σ) else σ) := bo_if (bo_here X hE _ _) (Bo.refl _)
  exact (h1.trans (name_bo X hE _)).trans (bo_if (bo_here X hE _ _) (Bo.refl _))
theorem columnsF_bo (most : Nat) : ∀ n σ l, Bo X σ (X.columnsF most n σ l).2
  | 0, σ, l => Bo.refl σ
  | n + 1, σ, l => by
    rw [Tx.columnsF]
    split
    · exact ((bo_step σ).trans (column_bo X hE _ _ _)).trans (columnsF_bo most n _ _)
    · exact Bo.refl σ
theorem columns_bo (σ : Ps) (most : Nat) : Bo X σ (X.columns σ most).2 := (column_bo X hE σ [] most).trans (columnsF_bo X hE most _ _ _)
theorem some_bo (σ : Ps) : Bo X σ (X.some_ σ).2 := by
  unfold Tx.some_
  split
  · exact bo_step _
  · exact columns_bo X hE _ _
theorem equal_bo (σ : Ps) : Bo X σ (X.equal σ).2 := ((name_bo X hE σ).trans (must_bo X hE _ _)).trans (value_bo X hE _)
theorem wher_bo (σ : Ps) (b : Bool) : Bo X σ (X.wher σ b).2 := by
  have h0 := (must_bo X hE [(⟨#[119, 104, 101, 114, 101]⟩ : ByteArray)] σ).trans (equal_bo X hE _)
  unfold Tx.wher
  simp only
  split
  · exact (h0.trans (must_bo X hE _ _)).trans (equal_bo X hE _)
  · split
    · exact (h0.trans (bo_step _)).trans (equal_bo X hE _)
    · exact h0
theorem using_bo (σ : Ps) (b : Bool) (x : Sx) : Bo X σ (X.using_ σ b x).2 := by
  unfold Tx.using_
  split
  · simp only
    split
    · exact ((bo_step σ).trans (bo_step _)).trans (count_bo X hE _)
    · have h0 := ((bo_step σ).trans (must_bo X hE [(⟨#[116, 105, 109, 101, 115, 116, 97, 109, 112]⟩ : ByteArray)] _)).trans (count_bo X hE _)
      split
      · exact ((h0.trans (bo_step _)).trans (must_bo X hE _ _)).trans (count_bo X hE _)
      · exact h0
  · exact Bo.refl σ
theorem one_bo (σ : Ps) (l : List ByteArray) (but : ByteArray) : Bo X σ (X.one σ l but).2 := (name_bo X hE σ).trans (bo_if (bo_here X hE _ _) (Bo.refl _))
theorem kind_bo (σ : Ps) : Bo X σ (X.kind σ).2 := by
  unfold Tx.kind
  split
  · exact bo_step _
  · exact must_bo X hE _ _
theorem tableF_bo : ∀ n σ l C, Bo X σ (X.tableF n σ l C).2.2
  | 0, σ, l, C => Bo.refl σ
  | n + 1, σ, l, C => by
    rw [Tx.tableF]
    split
    · exact Bo.refl σ
    · split
      · exact bo_step σ
      · exact (((column_bo X hE σ l 10).trans (kind_bo X hE _)).trans (must_bo X hE _ _)).trans (tableF_bo n _ _ _)
theorem table_bo (σ : Ps) : Bo X σ (X.table σ).2 :=
  (((((((name_bo X hE σ).trans (must_bo X hE _ _)).trans (tableF_bo X hE _ _ _ _)).trans (must_bo X hE _ _)).trans (one_bo X hE _ _ _)).trans (must_bo X hE _ _)).trans (one_bo X hE _ _ _)).trans (must_bo X hE _ _)
theorem view_bo (σ : Ps) : Bo X σ (X.view σ).2 :=
  ((((((((((((((must_bo X hE _ σ).trans (name_bo X hE _)).trans (must_bo X hE _ _)).trans (some_bo X hE _)).trans (must_bo X hE _ _)).trans (name_bo X hE _)).trans (must_bo X hE _ _)).trans (name_bo X hE _)).trans (must_bo X hE _ _)).trans (one_bo X hE _ _ _)).trans (must_bo X hE _ _)).trans (name_bo X hE _)).trans (must_bo X hE _ _)).trans (name_bo X hE _)).trans (must_bo X hE _ _)
theorem index_bo (σ : Ps) : Bo X σ (X.index σ).2 :=
  ((((((must_bo X hE _ σ).trans (name_bo X hE _)).trans (must_bo X hE _ _)).trans (name_bo X hE _)).trans (must_bo X hE _ _)).trans (name_bo X hE _)).trans (must_bo X hE _ _)
theorem valuesF_bo : ∀ n σ l, Bo X σ (X.valuesF n σ l).2
  | 0, σ, l => Bo.refl σ
  | n + 1, σ, l => by
    rw [Tx.valuesF]
    split
    · exact ((bo_step σ).trans (value_bo X hE _)).trans (valuesF_bo n _ _)
    · exact Bo.refl σ
theorem insert_bo (σ : Ps) : Bo X σ (X.insert σ).2 :=
  (((((((((must_bo X hE _ σ).trans (name_bo X hE _)).trans (must_bo X hE _ _)).trans (columns_bo X hE _ _)).trans (must_bo X hE _ _)).trans (value_bo X hE _)).trans (valuesF_bo X hE _ _ _)).trans (bo_if (fail_bo X hE _) (Bo.refl _))).trans (must_bo X hE _ _)).trans (using_bo X hE _ _ _)
theorem setsF_bo : ∀ n σ l Z, Bo X σ (X.setsF n σ l Z).2
  | 0, σ, l, Z => Bo.refl σ
  | n + 1, σ, l, Z => by
    have h0 := ((column_bo X hE σ l 8).trans (must_bo X hE [(⟨#[61]⟩ : ByteArray)] _)).trans (value_bo X hE _)
    rw [Tx.setsF]
    try simp only
    split
    · exact (h0.trans (bo_step _)).trans (setsF_bo n _ _ _)
    · exact h0
theorem update_bo (σ : Ps) : Bo X σ (X.update σ).2 :=
  ((((name_bo X hE σ).trans (using_bo X hE _ _ _)).trans (must_bo X hE _ _)).trans (setsF_bo X hE _ _ _ _)).trans (wher_bo X hE _ _)
theorem remove_bo (σ : Ps) : Bo X σ (X.remove σ).2 := by
  unfold Tx.remove
  have h0 : Bo X σ (if X.sees σ (⟨#[102, 114, 111, 109]⟩ : ByteArray) = true then ([], σ) else X.columns σ 8).2 := by
    split
    · exact Bo.refl σ
    · exact columns_bo X hE _ _
  exact (((h0.trans (must_bo X hE _ _)).trans (name_bo X hE _)).trans (using_bo X hE _ _ _)).trans (wher_bo X hE _ _)
theorem ask_bo (σ : Ps) : Bo X σ (X.ask σ).2 := by
  have h0 := (((some_bo X hE σ).trans (must_bo X hE [(⟨#[102, 114, 111, 109]⟩ : ByteArray)] _)).trans (name_bo X hE _)).trans (wher_bo X hE _ false)
  unfold Tx.ask
  simp only
  split
  · exact (h0.trans (bo_step _)).trans (count_bo X hE _)
  · exact h0
theorem manyF_bo {st : Ps → Tx.Nd × Ps} (hst : ∀ σ, Bo X σ (st σ).2) : ∀ n σ l, Bo X σ (X.manyF st n σ l).2
  | 0, σ, l => Bo.refl σ
  | n + 1, σ, l => by
    rw [Tx.manyF]
    split
    · exact Bo.refl σ
    · split
      · exact bo_step σ
      · simp only
        have h1 : Bo X σ (st (if 8 ≤ l.length then σ.wrong (X.here σ) else σ)).2 := (bo_if (bo_here X hE _ _) (Bo.refl _)).trans (hst _)
        split
        · exact (h1.trans (must_bo X hE _ _)).trans (manyF_bo hst n _ _)
        · exact fun _ a ha => by cases ha; exact here_le X hE σ
theorem stF_bo : ∀ n σ, Bo X σ (X.stF n σ).2
  | 0, σ => Bo.refl σ
  | n + 1, σ => by
    rw [Tx.stF]
    split
    · exact (bo_step σ).trans (insert_bo X hE _)
    split
    · exact (bo_step σ).trans (update_bo X hE _)
    split
    · exact (bo_step σ).trans (remove_bo X hE _)
    split
    · exact (bo_step σ).trans (ask_bo X hE _)
    split
    · exact (((bo_step σ).trans (must_bo X hE _ _)).trans (manyF_bo X hE (stF_bo n) _ _ _)).trans (must_bo X hE _ _)
    split
    · exact (bo_step σ).trans (name_bo X hE _)
    split
    · split
      · exact ((bo_step σ).trans (bo_step _)).trans (table_bo X hE _)
      split
      · exact ((bo_step σ).trans (bo_step _)).trans (view_bo X hE _)
      · exact (bo_step σ).trans (index_bo X hE _)
    · exact fail_bo X hE _
theorem parseT_bo (a : Nat) (h : (parseT X).2.bad = some a) : a ≤ X.en := by
  unfold parseT at h
  simp only at h
  exact (((stF_bo X hE _ _).trans (may_bo X hE _ _)).trans (bo_if (fail_bo X hE _) (Bo.refl _))) (fun a ha => absurd ha (by simp)) a h
end
end Cle
end Go.Proofs.YtfbgdjcnlnfoaaaGreatDoor

namespace Go.Proofs.YtfbgdjcnlnfoaaaGreatDoor
namespace Cle

theorem lexF_lies (s : ByteArray) : ∀ n i, (∀ l, lexF s (pts s) n i = .ok l → ∀ t ∈ l, t.at_ ≤ (pts s).length) ∧ (∀ a, lexF s (pts s) n i = .error a → a ≤ (pts s).length)
  | 0, i => ⟨fun l h t ht => by cases h; exact absurd ht (by simp), fun a h => by cases h⟩
  | n + 1, i => by
    obtain ⟨h1, h2⟩ := lexF_lies s n (tokO s (pts s) (skip (pts s) i)).2.2
    refine ⟨fun l h t ht => ?_, fun a h => ?_⟩
    · rw [lexF] at h
      split at h
      · cases h; exact absurd ht (by simp)
      · rename_i hlt
        split at h
        · rename_i hok
          cases hr : lexF s (pts s) n (tokO s (pts s) (skip (pts s) i)).2.2 with
          | error a => rw [hr] at h; cases h
          | ok r =>
            rw [hr] at h
            cases h
            rcases List.mem_cons.1 ht with rfl | ht
            · rw [tokO_at _ _ _ hok]; omega
            · exact h1 r hr t ht
        · cases h
    · rw [lexF] at h
      split at h
      · cases h
      · rename_i hlt
        split at h
        · cases hr : lexF s (pts s) n (tokO s (pts s) (skip (pts s) i)).2.2 with
          | error b => rw [hr] at h; cases h; exact h2 _ hr
          | ok r => rw [hr] at h; cases h
        · cases h; omega
theorem parseL_none {s : ByteArray} {z : Stt} {a e : Int} (h : parseL s = (z, a, e)) (he : e ≠ 0) : z = Stt.zero ∧ 0 ≤ a ∧ a ≤ ((pts s).length : Nat) ∧ (e = 2 ∨ e = 3) := by
  unfold parseL at h
  simp only at h
  split at h
  · rename_i hl
    cases h
    unfold lexL at hl ⊢
    split
    · exact ⟨rfl, by omega, by simp, Or.inl rfl⟩
    · rename_i h1
      rw [if_neg h1] at hl
      split
      · rename_i l hr; rw [hr] at hl; exact absurd rfl hl
      · rename_i b hr
        have := (lexF_lies s _ _).2 b hr
        exact ⟨rfl, by simp, by simpa using this, Or.inr rfl⟩
  · rename_i hl
    split at h
    · rename_i b hb
      cases h
      have hE : ∀ t ∈ (lexL s).1, t.at_ ≤ (pts s).length := by
        unfold lexL
        split
        · intro t ht; exact absurd ht (by simp)
        · split
          · rename_i l hr; exact (lexF_lies s _ _).1 l hr
          · intro t ht; exact absurd ht (by simp)
      have := parseT_bo (⟨(lexL s).1, (pts s).length⟩ : Tx) hE b hb
      exact ⟨rfl, by simp, by simpa using this, Or.inr rfl⟩
    · split at h
      · cases h; exact ⟨rfl, by omega, by simp, Or.inl rfl⟩
      · cases h; exact absurd rfl he
end Cle
end Go.Proofs.YtfbgdjcnlnfoaaaGreatDoor

namespace Go.Proofs.YtfbgdjcnlnfoaaaGreatDoor
open Go.RowKit
open Cle

theorem stok_of {x : Sx} (h1 : x.name.size ≤ 100) (h2 : x.of_.size ≤ 100) (h3 : x.on = ⟨#[]⟩) (h4 : x.part = Cl.zero) (h5 : x.clus = Cl.zero) (h6 : x.tcols = []) (h7 : x.cols.length ≤ 5 ∧ ∀ q ∈ x.cols, q.size ≤ 100) (h8 : x.sets = []) (h9 : x.wher.length ≤ 2 ∧ ∀ q ∈ x.wher, (I64 q.t.ty ∧ I64 q.t.n ∧ q.t.s.size ≤ 100) ∧ q.name.size ≤ 100) (h10 : I64 x.stamp) (h11 : I64 x.ttl) (h12 : I64 x.limit) : StOK x := by
  refine ⟨by omega, by omega, by rw [h3]; decide, by rw [h4]; decide, by rw [h5]; decide, by rw [h6]; exact ⟨by decide, by simp⟩, ⟨by omega, fun q hq => by have := h7.2 q hq; omega⟩, by rw [h8]; exact ⟨by decide, by simp⟩, ⟨by omega, fun q hq => ?_⟩, by omega, h10, h11, h12⟩
  obtain ⟨⟨a, b, c⟩, d⟩ := h9.2 q hq
  exact ⟨⟨a, b, by omega⟩, by omega⟩
theorem tx_ne {t : ByteArray} (h : t ≠ ⟨#[]⟩) : t.toList.isEmpty = false := by
  rw [isEmpty_size]
  exact decide_eq_false fun h2 => h (by apply ByteArray.ext; exact Array.eq_empty_of_size_eq_zero h2)
end Go.Proofs.YtfbgdjcnlnfoaaaGreatDoor

namespace Go.Proofs.YtfbgdjcnlnfoaaaGreatDoor
open Go.RowKit
open Cle

theorem zero_not : ¬ May Stt.zero := fun h => by
  have := (may_kind h).1
  exact absurd this (by decide)
theorem nil_parse : (parseL ⟨#[]⟩).2.2 = 3 := by decide +kernel
theorem may_ne {z : Stt} (h : May z) : textS z ≠ ⟨#[]⟩ := fun he => by
  have h1 := may_parse h
  rw [he] at h1
  have h2 := nil_parse
  rw [h1] at h2
  exact absurd h2 (show ¬ ((0 : Int) = 3) by decide)
theorem pts_le (s : ByteArray) : (pts s).length ≤ s.size := by have := ptsAt_count s s.size 0 (by omega); rw [pts_eq]; omega
theorem zero_sz {p : Pw} {L : List Pw} (h : (⟨p.x, L.map Pw.x⟩ : Stt) = Stt.zero) : SzS p L := by
  injection h with h1 h2
  have hL : L = [] := by simpa using h2
  subst hL
  refine ⟨?_, by simp⟩
  rw [h1]
  exact stok_of (by decide) (by decide) rfl rfl rfl rfl ⟨by decide, by simp [Sx.zero]⟩ rfl ⟨by decide, by simp [Sx.zero]⟩ ⟨by decide, by decide⟩ ⟨by decide, by decide⟩ ⟨by decide, by decide⟩
set_option maxRecDepth 100000 in
set_option maxHeartbeats 8000000 in
theorem printBack_law (s : ByteArray) (w : World) (hG : Gp w) :
    Calls Tryz.prog 10 #[.string s] w fun e w' => e = .returned (.bool true) ∧ Sp w w' := by
  have HG := Lib.hid hG
  clear hG
  by_cases h15 : 1500 < s.size
  · have q1 : (1500 : Int) < (s.size : Int) := by omega
    have haw := awake15_any HG.out
    clear h15
    go_enter Tryz.func10, Tryz.ntmps10
    go_wp2_with fail
    refine haw.mono ?_; rintro e w7 ⟨rfl, h7⟩
    go_wp2_with fail
    go_ret
    exact ⟨rfl, h7⟩
  · have q1 : ¬ (1500 : Int) < (s.size : Int) := by omega
    have hp1 := parse_at HG.out (s := s) rfl rfl rfl
    have hlen := pts_le s
    obtain ⟨⟨pz, pa, pe⟩, hp⟩ : ∃ r, parseL s = r := ⟨_, rfl⟩
    rw [hp] at hp1
    by_cases he : pe = 0
    · subst he
      have hm := parseL_may hp
      have hpa : pa = 0 := by
        obtain ⟨_, _, _, _, _, h, _⟩ := parseL_con hp
        exact h
      subst hpa
      have HM := Lib.hid hm
      have HNE := Lib.hid (may_ne hm)
      have HPP := Lib.hid (may_parse hm)
      obtain ⟨t, htt⟩ : ∃ t, textS pz = t := ⟨_, rfl⟩
      rw [htt] at HNE HPP
      have HTT := Lib.hid htt
      have hte2 : t.toList.isEmpty = false := tx_ne HNE.out
      have hss : (t.toList == t.toList) = true := tl_eq rfl
      clear hp hm h15 htt hlen
      go_enter Tryz.func10, Tryz.ntmps10
      go_wp2_with fail
      refine hp1.mono ?_; rintro en w1 ⟨x, tc, c, sv, wv, pv, L, rfl, hb1, hS1⟩
      have HS1 : Hid (Sp w w1) := (Sp.refl HG.out).step hb1
      have hq1 := hS1.wd.one
      have hz1 : (⟨x, L.map Pw.x⟩ : Stt) = pz := hS1.z
      have HZ1 := Lib.hid hz1
      have HB0 : Hid (Below w1.heap.size w1 (w1.alloc (.cells (stC x tc c sv wv pv) 31))) := (Below.refl w1.heap.size w1).alloc (Nat.le_refl _) _
      have HWD1 := Lib.hid (hS1.wd.below HB0.out)
      have HS2 : Hid (Sp w (w1.alloc (.cells (stC x tc c sv wv pv) 31))) := HS1.out.alloc _
      have hbx := blk_new w1 (.cells (stC x tc c sv wv pv) 31)
      have ht := ptext_yes (p := ⟨x, tc, c, sv, wv, pv⟩) HS2.out.2 HWD1.out (may_sz (by rw [HZ1.out]; exact HM.out)) (by rw [HZ1.out]; exact HM.out)
      rw [HZ1.out, HTT.out] at ht
      have HBX := Lib.hid hbx
      clear hS1 hb1 hp1 hz1
      go_wp2_with (first | refine wpl_sto2 rfl _ _ rfl rfl rfl rfl rfl hq1 ?_ | refine wpl_stgd (by go_simp) _ rfl rfl rfl hbx ?_)
      refine ht.mono ?_; rintro e w2 ⟨rfl, hb2⟩
      have HS3 : Hid (Sp w w2) := HS2.out.step hb2
      have HBX2 := Lib.hid (keep_blk hb2 HBX.out)
      have HWD2 := Lib.hid (HWD1.out.below hb2)
      have hp2 := parse_at HS3.out.2 (s := t) rfl (show (parseL t).2.1 = 0 by rw [HPP.out]) (show (parseL t).2.2 = 0 by rw [HPP.out])
      rw [HPP.out] at hp2
      clear hb2 ht hbx hq1
      go_wp2_with fail
      refine hp2.mono ?_; rintro en w3 ⟨y, tc2, c2, sv2, wv2, pv2, M, rfl, hb3, hS3⟩
      have hq3 := hS3.wd.one
      have HZ3 : Hid ((⟨y, M.map Pw.x⟩ : Stt) = pz) := hS3.z
      have hB0 : Below w3.heap.size w3 (w3.alloc (.cells (stC y tc2 c2 sv2 wv2 pv2) 31)) := (Below.refl w3.heap.size w3).alloc (Nat.le_refl _) _
      have hB3 : Below w2.heap.size w2 (w3.alloc (.cells (stC y tc2 c2 sv2 wv2 pv2) 31)) := hb3.alloc hb3.size _
      have HWX := Lib.hid (HWD2.out.below hB3)
      have HWY := Lib.hid (hS3.wd.below hB0)
      have hbx5 := keep_blk hB3 HBX2.out
      have hby5 := blk_new w3 (.cells (stC y tc2 c2 sv2 wv2 pv2) 31)
      have HS5 : Hid (Sp w (w3.alloc (.cells (stC y tc2 c2 sv2 wv2 pv2) 31))) := HS3.out.step hB3
      have hsame := rstmt_yes (p := ⟨x, tc, c, sv, wv, pv⟩) (q := ⟨y, tc2, c2, sv2, wv2, pv2⟩) HWX.out HWY.out (by rw [HZ1.out]; exact sm_may HM.out) (by have := HZ1.out.trans HZ3.out.symm; injection this) (by have := HZ1.out.trans HZ3.out.symm; injection this)
      have HBY5 := Lib.hid hby5
      clear hS3 hb3 hp2 hB0 hB3
      go_wp2_with (first | refine wpl_sto2 rfl _ _ rfl rfl rfl rfl rfl hq3 ?_ | refine wpl_stgd (by go_simp) _ rfl rfl rfl hbx5 ?_ | refine wpl_stgd (by go_simp) _ rfl rfl rfl hby5 ?_)
      refine hsame.mono ?_; rintro e w6 ⟨rfl, hb6⟩
      have hby6 := keep_blk hb6 HBY5.out
      have HS6 : Hid (Sp w w6) := HS5.out.step hb6
      have ht6 := ptext_yes (p := ⟨y, tc2, c2, sv2, wv2, pv2⟩) HS6.out.2 (HWY.out.below hb6) (may_sz (by rw [HZ3.out]; exact HM.out)) (by rw [HZ3.out]; exact HM.out)
      rw [HZ3.out, HTT.out] at ht6
      clear hb6 hsame hbx5 hby5 hq3
      go_wp2_with (first | refine wpl_stgd (by go_simp) _ rfl rfl rfl hby6 ?_)
      refine ht6.mono ?_; rintro e w8 ⟨rfl, hb8⟩
      have HS8 : Hid (Sp w w8) := HS6.out.step hb8
      have haw := awake15_any HS8.out.2
      clear hb8 ht6 hby6
      go_wp2_with fail
      refine haw.mono ?_; rintro e w9 ⟨rfl, h9⟩
      go_wp2_with fail
      go_ret
      exact ⟨rfl, HS8.out.trans h9⟩
    · obtain ⟨hz, ha0, ha1, _⟩ := parseL_none hp he
      subst hz
      have q2 : (pe == 0) = false := beq_eq_false_iff_ne.2 he
      have q3 : pa ≤ (s.size : Int) := by omega
      clear hp h15 he ha1 hlen
      go_enter Tryz.func10, Tryz.ntmps10
      go_wp2_with fail
      refine hp1.mono ?_; rintro en w1 ⟨x, tc, c, sv, wv, pv, L, rfl, hb1, hS1⟩
      have HS1 : Hid (Sp w w1) := (Sp.refl HG.out).step hb1
      have hq1 := hS1.wd.one
      have HZ1 : Hid ((⟨x, L.map Pw.x⟩ : Stt) = Stt.zero) := hS1.z
      have HB0 : Hid (Below w1.heap.size w1 (w1.alloc (.cells (stC x tc c sv wv pv) 31))) := (Below.refl w1.heap.size w1).alloc (Nat.le_refl _) _
      have HWD1 := Lib.hid (hS1.wd.below HB0.out)
      have HS2 : Hid (Sp w (w1.alloc (.cells (stC x tc c sv wv pv) 31))) := HS1.out.alloc _
      have hbx := blk_new w1 (.cells (stC x tc c sv wv pv) 31)
      have ht := ptext_no (p := ⟨x, tc, c, sv, wv, pv⟩) HS2.out.2 HWD1.out (zero_sz HZ1.out) (by rw [HZ1.out]; exact zero_not)
      clear hS1 hb1 hp1
      go_wp2_with (first | refine wpl_sto2 rfl _ _ rfl rfl rfl rfl rfl hq1 ?_ | refine wpl_stgd (by go_simp) _ rfl rfl rfl hbx ?_)
      refine ht.mono ?_; rintro e w2 ⟨rfl, hb2⟩
      have HS3 : Hid (Sp w w2) := HS2.out.step hb2
      have haw := awake15_any HS3.out.2
      clear hb2 ht hbx
      go_wp2_with fail
      refine haw.mono ?_; rintro e w9 ⟨rfl, h9⟩
      go_wp2_with fail
      go_ret
      exact ⟨rfl, HS3.out.trans h9⟩
end Go.Proofs.YtfbgdjcnlnfoaaaGreatDoor

