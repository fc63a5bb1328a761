/- Parts of the proof, joined: GrmN GrmO GrmP GrmS GrmQ GrmR SamA PlainPK LgtA PrsU WdS SamB. -/
import Derived.Deep.RegionHeld3
import Derived.Test.YtfbgdjcnlnfoaaaGreatDoorB09
import Derived.Test.YtfbgdjcnlnfoaaaGreatDoorB10
namespace Go.Proofs.YtfbgdjcnlnfoaaaGreatDoor
open Go.RowKit
open Cle

set_option maxRecDepth 100000 in
set_option maxHeartbeats 8000000 in
theorem text_view {w : World} {x : Sx} {tc c s wv pv : Value} (hk : x.kind = 2) (hG : Gp w) (hok : StOK x) (hin : StIn w x tc c s wv) (hpv : pv.oneCell' = true) :
    Calls Tryz.prog 30 #[.agg (stC x tc c s wv pv)] w fun e w' => e = .returned (.string (catP (viewP x))) ∧ Below w.heap.size w w' := by
  have hone := hin.one hpv
  have hB1 := (Below.refl w.heap.size w).alloc (Nat.le_refl _) (.cells (stC x tc c s wv pv) 31)
  have hbl : (w.alloc (.cells (stC x tc c s wv pv) 31)).heap[w.heap.size]? = some (.cells (stC x tc c s wv pv) 31 (0, 0)) := blk_new w _
  have hof := of_any (w := w.alloc (.cells (stC x tc c s wv pv) 31)) x tc c s wv pv
  have hkv : kindV x.kind (stC x tc c s wv pv) = .iface 86 (.agg (stC x tc c s wv pv)) := by unfold kindV; rw [hk]; rfl
  rw [hkv] at hof
  clear hkv
  obtain ⟨Js, eJs⟩ : ∃ r, catP (someP x.cols) = r := ⟨_, rfl⟩
  have zJs : Js.size ≤ 100000300 := by rw [← eJs]; exact some_le (Nat.le_trans hok.cols.1 (by decide)) hok.cols.2
  obtain ⟨Jk, eJk⟩ : ∃ r, joinB (⟨#[44, 32]⟩ : ByteArray) ((⟨x.on, Tm.zero⟩ :: x.wher).map Pr.name) = r := ⟨_, rfl⟩
  have hnm : ∀ q ∈ (⟨x.on, Tm.zero⟩ :: x.wher : List Pr).map Pr.name, q.size ≤ 1000000 := by intro q hq; rcases List.mem_cons.1 hq with rfl | hq; exact hok.on; obtain ⟨r, hr, rfl⟩ := List.mem_map.1 hq; exact (hok.wher.2 r hr).2
  have hln : (⟨x.on, Tm.zero⟩ :: x.wher : List Pr).length ≤ 100 := by have := hok.wher90; simp; omega
  have zJk : Jk.size ≤ 100 * 1000002 := by
      rw [← eJk]
      have := joinB_le (⟨#[44, 32]⟩ : ByteArray) ((⟨x.on, Tm.zero⟩ :: x.wher : List Pr).map Pr.name) 1000000 hnm
      rw [List.length_map] at this
      exact Nat.le_trans this (Nat.mul_le_mul hln (by decide))
  have Az0 : ((⟨#[67, 82, 69, 65, 84, 69, 32, 77, 65, 84, 69, 82, 73, 65, 76, 73, 90, 69, 68, 32, 86, 73, 69, 87, 32]⟩ : ByteArray)).size ≤ 25 := by decide
  have Ay1 : (x.name).size ≤ 1000000 := hok.name
  obtain ⟨A1, Ae1⟩ : ∃ r, (⟨#[67, 82, 69, 65, 84, 69, 32, 77, 65, 84, 69, 82, 73, 65, 76, 73, 90, 69, 68, 32, 86, 73, 69, 87, 32]⟩ : ByteArray) ++ x.name = r := ⟨_, rfl⟩
  have Ah1 := add_str ((⟨#[67, 82, 69, 65, 84, 69, 32, 77, 65, 84, 69, 82, 73, 65, 76, 73, 90, 69, 68, 32, 86, 73, 69, 87, 32]⟩ : ByteArray)) (x.name) (by omega)
  rw [Ae1] at Ah1
  have Az1 : A1.size ≤ 1000025 := by rw [← Ae1, ByteArray.size_append]; omega
  have Ay2 : ((⟨#[32, 65, 83, 32, 83, 69, 76, 69, 67, 84, 32]⟩ : ByteArray)).size ≤ 11 := by decide
  obtain ⟨A2, Ae2⟩ : ∃ r, A1 ++ (⟨#[32, 65, 83, 32, 83, 69, 76, 69, 67, 84, 32]⟩ : ByteArray) = r := ⟨_, rfl⟩
  have Ah2 := add_str (A1) ((⟨#[32, 65, 83, 32, 83, 69, 76, 69, 67, 84, 32]⟩ : ByteArray)) (by omega)
  rw [Ae2] at Ah2
  have Az2 : A2.size ≤ 1000036 := by rw [← Ae2, ByteArray.size_append]; omega
  have Ay3 : (Js).size ≤ 100000300 := zJs
  obtain ⟨A3, Ae3⟩ : ∃ r, A2 ++ Js = r := ⟨_, rfl⟩
  have Ah3 := add_str (A2) (Js) (by omega)
  rw [Ae3] at Ah3
  have Az3 : A3.size ≤ 101000336 := by rw [← Ae3, ByteArray.size_append]; omega
  have Ay4 : ((⟨#[32, 70, 82, 79, 77, 32]⟩ : ByteArray)).size ≤ 6 := by decide
  obtain ⟨A4, Ae4⟩ : ∃ r, A3 ++ (⟨#[32, 70, 82, 79, 77, 32]⟩ : ByteArray) = r := ⟨_, rfl⟩
  have Ah4 := add_str (A3) ((⟨#[32, 70, 82, 79, 77, 32]⟩ : ByteArray)) (by omega)
  rw [Ae4] at Ah4
  have Az4 : A4.size ≤ 101000342 := by rw [← Ae4, ByteArray.size_append]; omega
  have Ay5 : (x.of_).size ≤ 1000000 := hok.of_
  obtain ⟨A5, Ae5⟩ : ∃ r, A4 ++ x.of_ = r := ⟨_, rfl⟩
  have Ah5 := add_str (A4) (x.of_) (by omega)
  rw [Ae5] at Ah5
  have Az5 : A5.size ≤ 102000342 := by rw [← Ae5, ByteArray.size_append]; omega
  have Ay6 : ((⟨#[32, 87, 72, 69, 82, 69, 32]⟩ : ByteArray)).size ≤ 7 := by decide
  obtain ⟨A6, Ae6⟩ : ∃ r, A5 ++ (⟨#[32, 87, 72, 69, 82, 69, 32]⟩ : ByteArray) = r := ⟨_, rfl⟩
  have Ah6 := add_str (A5) ((⟨#[32, 87, 72, 69, 82, 69, 32]⟩ : ByteArray)) (by omega)
  rw [Ae6] at Ah6
  have Az6 : A6.size ≤ 102000349 := by rw [← Ae6, ByteArray.size_append]; omega
  have Ay7 : (x.on).size ≤ 1000000 := hok.on
  obtain ⟨A7, Ae7⟩ : ∃ r, A6 ++ x.on = r := ⟨_, rfl⟩
  have Ah7 := add_str (A6) (x.on) (by omega)
  rw [Ae7] at Ah7
  have Az7 : A7.size ≤ 103000349 := by rw [← Ae7, ByteArray.size_append]; omega
  have Ay8 : ((⟨#[32, 73, 83, 32, 78, 79, 84, 32, 78, 85, 76, 76, 32, 80, 82, 73, 77, 65, 82, 89, 32, 75, 69, 89, 32, 40]⟩ : ByteArray)).size ≤ 26 := by decide
  obtain ⟨A8, Ae8⟩ : ∃ r, A7 ++ (⟨#[32, 73, 83, 32, 78, 79, 84, 32, 78, 85, 76, 76, 32, 80, 82, 73, 77, 65, 82, 89, 32, 75, 69, 89, 32, 40]⟩ : ByteArray) = r := ⟨_, rfl⟩
  have Ah8 := add_str (A7) ((⟨#[32, 73, 83, 32, 78, 79, 84, 32, 78, 85, 76, 76, 32, 80, 82, 73, 77, 65, 82, 89, 32, 75, 69, 89, 32, 40]⟩ : ByteArray)) (by omega)
  rw [Ae8] at Ah8
  have Az8 : A8.size ≤ 103000375 := by rw [← Ae8, ByteArray.size_append]; omega
  have Ay9 : (Jk).size ≤ 100000200 := zJk
  obtain ⟨A9, Ae9⟩ : ∃ r, A8 ++ Jk = r := ⟨_, rfl⟩
  have Ah9 := add_str (A8) (Jk) (by omega)
  rw [Ae9] at Ah9
  have Az9 : A9.size ≤ 203000575 := by rw [← Ae9, ByteArray.size_append]; omega
  have Ay10 : ((⟨#[41]⟩ : ByteArray)).size ≤ 1 := by decide
  obtain ⟨A10, Ae10⟩ : ∃ r, A9 ++ (⟨#[41]⟩ : ByteArray) = r := ⟨_, rfl⟩
  have Ah10 := add_str (A9) ((⟨#[41]⟩ : ByteArray)) (by omega)
  rw [Ae10] at Ah10
  have Az10 : A10.size ≤ 203000576 := by rw [← Ae10, ByteArray.size_append]; omega
  have HE : Hid (A10 = catP (viewP x)) := by
      show _ = _
      rw [← Ae10, ← Ae9, ← Ae8, ← Ae7, ← Ae6, ← Ae5, ← Ae4, ← Ae3, ← Ae2, ← Ae1, ← eJk, ← eJs]
      unfold viewP
      rw [catP_app, catP_app, catP_app, catP_app, ← joinB_cat, comma_cat, ← mapcat]
      apply ByteArray.ext; apply Array.ext'; simp [catP, Pc.text]
  clear Ae1 Ae2 Ae3 Ae4 Ae5 Ae6 Ae7 Ae8 Ae9 Ae10
  clear Az0 Az1 Az2 Az3 Az4 Az5 Az6 Az7 Az8 Az9 Az10 Ay1 Ay2 Ay3 Ay4 Ay5 Ay6 Ay7 Ay8 Ay9 Ay10
  clear zJk zJs
  have HC := Lib.hid (fun (wq : World) (hBq : Below w.heap.size w wq) => And.intro (hG.below hBq) (hin.below hBq))
  have HNM := Lib.hid hnm
  have HLN := Lib.hid hln
  have HJ := Lib.hid eJk
  have HJs := Lib.hid eJs
  have HTL : Hid (x.wher.length ≤ 90) := hok.wher90
  have HOK := Lib.hid hok
  clear eJk eJs hnm hln hok hin hG hk
  have hta := ta_view
  have hta0 := ta_view_table
  go_enter Tryz.func30, Tryz.ntmps30
  go_wp2_with (refine wpl_st rfl _ rfl rfl rfl hbl ?_)
  refine hof.mono ?_; rintro e w2 ⟨rfl, hb2⟩
  have hB2 := hB1.trans (hb2.mono hB1.size)
  have hV : (w2.alloc (.cells (stC x tc c s wv pv) 86)).heap[w2.heap.size]? = some (.cells (stC x tc c s wv pv) 86 (0, 0)) := blk_new w2 _
  have hB3 := hB2.alloc hB2.size (.cells (stC x tc c s wv pv) 86)
  have m3 := (st18 hV).2.2.2.1
  have m13 := (st18 hV).2.2.2.2.2.2.2.2.2.2.2.2.2.1
  have hs0 := sz_alloc w2 (.cells (stC x tc c s wv pv) 86)
  have hlit := row_lit (w2.alloc (.cells (stC x tc c s wv pv) 86)) [.string x.on, .int .i64 0, .string ⟨#[]⟩, .int .i64 0] 61 1 4 (w2.heap.size + 1) rfl (by decide) (Nat.le_of_eq hs0.symm)
  rw [hs0] at hlit
  have hB5 := hB3.alloc hB3.size (.cells #[.string x.on, .int .i64 0, .string ⟨#[]⟩, .int .i64 0] 61)
  have m13' : ((w2.alloc (.cells (stC x tc c s wv pv) 86)).alloc (.cells #[.string x.on, .int .i64 0, .string ⟨#[]⟩, .int .i64 0] 61)).cell? ⟨w2.heap.size, 13, none⟩ = some wv := by rw [blk_cell (blk_alloc hV _)]; rfl
  have hrd := ((HC.out _ hB5).2).wv
  have HT9 := HTL.out
  go_wp2_with (first | refine wpl_stg sz_view rfl _ _ rfl rfl rfl rfl rfl hone ?_ | (at_builtin; refine appM Tryz.eltP rfl _ _ rfl (w2.heap.size + 1) _ _ _ rfl hlit _ _ _ rfl hrd (flatR_len _) (flatR_one _) (by omega) (Nat.le_of_lt (by rw [sz_alloc, hs0]; omega)) ?_; intro a6 c6 wq h6 hg6))
  have hV0' := blk_alloc hV (.cells #[.string x.on, .int .i64 0, .string ⟨#[]⟩, .int .i64 0] 61)
  have hW0 := (hg6.block _ (blk_lt hV0') (fun e => by have := (hlit.lt _ e.symm).1; omega)).trans hV0'
  have hBq := below_app hB5 hB5.size hg6 (fun g2 hg2 => by have := (hlit.lt g2 hg2).1; have := hB2.size; omega)
  have d0 : wq.cell? ⟨w2.heap.size, 1, none⟩ = some (.string x.name) := by rw [blk_cell hW0]; rfl
  have d1 : wq.cell? ⟨w2.heap.size, 2, none⟩ = some (.string x.of_) := by rw [blk_cell hW0]; rfl
  have d2 : wq.cell? ⟨w2.heap.size, 3, none⟩ = some (.string x.on) := by rw [blk_cell hW0]; rfl
  have d3 : wq.cell? ⟨w2.heap.size, 11, none⟩ = some c := by rw [blk_cell hW0]; rfl
  have hrow : Rd wq (.slice a6 (⟨x.on, Tm.zero⟩ :: x.wher : List Pr).length c6) (⟨x.on, Tm.zero⟩ :: x.wher : List Pr).length (flatR (⟨x.on, Tm.zero⟩ :: x.wher)) := by
      have e : (⟨x.on, Tm.zero⟩ :: x.wher : List Pr).length = 1 + x.wher.length := by simp; omega
      rw [e]; exact Rd.own h6
  have HJk : Hid (∀ (w' : World), Below wq.heap.size wq w' → Calls Tryz.prog 52 #[.slice a6 (1 + x.wher.length) c6, .string (⟨#[44, 32]⟩ : ByteArray), .func (.func 53) #[] #[]] w' (fun e w'' => e = .returned (.string Jk) ∧ Below w'.heap.size w' w'')) := fun w' hB' => by
      rw [← HJ.out]
      have e : (⟨x.on, Tm.zero⟩ :: x.wher : List Pr).length = 1 + x.wher.length := by simp; omega
      have := ln_any (T := Pr.name) (sep := (⟨#[44, 32]⟩ : ByteArray)) HLN.out (hrow.below hB') (fun q _ w'' _ => name_of_any q w'') (by
        have := joinB_le (⟨#[44, 32]⟩ : ByteArray) ((⟨x.on, Tm.zero⟩ :: x.wher : List Pr).map Pr.name) 1000000 HNM.out
        rw [List.length_map] at this
        exact Nat.le_trans this (Nat.le_trans (Nat.mul_le_mul HLN.out (Nat.le_refl _)) (by decide)))
      rw [e] at this; exact this
  have HJs2 : Hid (∀ (w' : World), Below wq.heap.size wq w' → Calls Tryz.prog 51 #[c] w' (fun e w'' => e = .returned (.string Js) ∧ Below w'.heap.size w' w'')) := fun w' hB' => by
      rw [← HJs.out]
      exact gsome_any (Nat.le_trans HOK.out.cols.1 (by decide)) (((HC.out wq hBq).2).c.below hB') HOK.out.cols.2
  clear HC HNM HLN HJ HTL HOK hof hbl hB1 hb2 hB2 hone hta hta0 hB3 hB5 hV hs0 m13' hlit hrd HT9 hV0' hW0 hrow h6 hg6 m3 m13
  go_wp2_with fail
  have hS : Below wq.heap.size wq wq ∧ wq.cell? ⟨w2.heap.size, 1, none⟩ = some (.string x.name) ∧ wq.cell? ⟨w2.heap.size, 2, none⟩ = some (.string x.of_) ∧ wq.cell? ⟨w2.heap.size, 3, none⟩ = some (.string x.on) ∧ wq.cell? ⟨w2.heap.size, 11, none⟩ = some (c) := ⟨Below.refl _ _, d0, d1, d2, d3⟩
  go_region_held3 (fun w' => Below wq.heap.size wq w' ∧ w'.cell? ⟨w2.heap.size, 1, none⟩ = some (.string x.name) ∧ w'.cell? ⟨w2.heap.size, 2, none⟩ = some (.string x.of_) ∧ w'.cell? ⟨w2.heap.size, 3, none⟩ = some (.string x.on) ∧ w'.cell? ⟨w2.heap.size, 11, none⟩ = some (c)) (first | exact tws4 (by assumption) hbJs2 | exact tws4 (by assumption) hbJk | exact ⟨(Below.refl _ _).drew, d0, d1, d2, d3⟩)
    (first
    | (go_at_call 51; with_reducible refine (HJs2.out _ (And.left (by assumption))).mono ?_; rintro e wJs2 ⟨rfl, hbJs2⟩)
    | (go_at_call 52; with_reducible refine (HJk.out _ (And.left (by assumption))).mono ?_; rintro e wJk ⟨rfl, hbJk⟩))
  go_wp2_with fail
  go_ret
  rw [← HE.out]
  exact ⟨rfl, hBq.trans (Below.mono (And.left (by assumption)) hBq.size)⟩
end Go.Proofs.YtfbgdjcnlnfoaaaGreatDoor

namespace Go.Proofs.YtfbgdjcnlnfoaaaGreatDoor
open Go.RowKit
open Cle

set_option maxRecDepth 100000 in
set_option maxHeartbeats 8000000 in
theorem text_batch {w : World} {x : Sx} {tc c s wv pv : Value} {J : ByteArray} (hk : x.kind = 9) (hin : StIn w x tc c s wv) (hpv : pv.oneCell' = true) (hJ : J.size ≤ 500000000000000)
    (hls : ∀ w', Below w.heap.size w w' → Calls Tryz.prog 60 #[pv, .string ⟨#[]⟩, .func (.func 61) #[] #[]] w' fun e w'' => e = .returned (.string J) ∧ Below w'.heap.size w' w'') :
    Calls Tryz.prog 30 #[.agg (stC x tc c s wv pv)] w fun e w' => e = .returned (.string (((⟨#[66, 69, 71, 73, 78, 32, 66, 65, 84, 67, 72, 32]⟩ : ByteArray) ++ J) ++ (⟨#[65, 80, 80, 76, 89, 32, 66, 65, 84, 67, 72]⟩ : ByteArray))) ∧ Below w.heap.size w w' := by
  have hone := hin.one hpv
  have hB1 := (Below.refl w.heap.size w).alloc (Nat.le_refl _) (.cells (stC x tc c s wv pv) 31)
  have hbl : (w.alloc (.cells (stC x tc c s wv pv) 31)).heap[w.heap.size]? = some (.cells (stC x tc c s wv pv) 31 (0, 0)) := blk_new w _
  have hof := of_any (w := w.alloc (.cells (stC x tc c s wv pv) 31)) x tc c s wv pv
  have hkv : kindV x.kind (stC x tc c s wv pv) = .iface 100 (.agg (stC x tc c s wv pv)) := by unfold kindV; rw [hk]; rfl
  rw [hkv] at hof
  clear hkv
  have ha1 := add_str (⟨#[66, 69, 71, 73, 78, 32, 66, 65, 84, 67, 72, 32]⟩ : ByteArray) J (by show 12 + _ ≤ _; omega)
  have ha2 := add_str ((⟨#[66, 69, 71, 73, 78, 32, 66, 65, 84, 67, 72, 32]⟩ : ByteArray) ++ J) (⟨#[65, 80, 80, 76, 89, 32, 66, 65, 84, 67, 72]⟩ : ByteArray) (by rw [ByteArray.size_append]; show 12 + _ + 11 ≤ _; omega)
  have HLS := Lib.hid hls
  clear hls hin hk hJ
  have hta := ta_batch
  have hta0 := ta_batch_table
  have hta1 := ta_batch_view
  have hta2 := ta_batch_index
  have hta3 := ta_batch_drop
  have hta4 := ta_batch_insert
  have hta5 := ta_batch_update
  have hta6 := ta_batch_remove
  have hta7 := ta_batch_ask
  go_enter Tryz.func30, Tryz.ntmps30
  go_wp2_with (refine wpl_st rfl _ rfl rfl rfl hbl ?_)
  refine hof.mono ?_; rintro e w2 ⟨rfl, hb2⟩
  have hB2 := hB1.trans (hb2.mono hB1.size)
  have hV : (w2.alloc (.cells (stC x tc c s wv pv) 100)).heap[w2.heap.size]? = some (.cells (stC x tc c s wv pv) 100 (0, 0)) := blk_new w2 _
  have hB3 := hB2.alloc hB2.size (.cells (stC x tc c s wv pv) 100)
  have m17 := (st18 hV).2.2.2.2.2.2.2.2.2.2.2.2.2.2.2.2.2
  have hc := HLS.out _ hB3
  go_wp2_with (refine wpl_stg sz_batch rfl _ _ rfl rfl rfl rfl rfl hone ?_)
  refine hc.mono ?_; rintro e w3 ⟨rfl, hb3⟩
  go_wp2_with fail
  go_ret
  exact ⟨rfl, hB3.trans (hb3.mono hB3.size)⟩
set_option maxRecDepth 100000 in
set_option maxHeartbeats 8000000 in
theorem text_none {w : World} {x : Sx} {tc c s wv pv : Value} (hk : ∀ k : Int, 1 ≤ k → k ≤ 9 → x.kind ≠ k) :
    Calls Tryz.prog 30 #[.agg (stC x tc c s wv pv)] w fun e w' => e = .returned (.string ⟨#[]⟩) ∧ Below w.heap.size w w' := by
  have hB1 := (Below.refl w.heap.size w).alloc (Nat.le_refl _) (.cells (stC x tc c s wv pv) 31)
  have hbl : (w.alloc (.cells (stC x tc c s wv pv) 31)).heap[w.heap.size]? = some (.cells (stC x tc c s wv pv) 31 (0, 0)) := blk_new w _
  have hof := of_any (w := w.alloc (.cells (stC x tc c s wv pv) 31)) x tc c s wv pv
  have hkv : kindV x.kind (stC x tc c s wv pv) = .nilIface := by unfold kindV; rw [if_neg (hk 1 (by decide) (by decide)), if_neg (hk 2 (by decide) (by decide)), if_neg (hk 3 (by decide) (by decide)), if_neg (hk 4 (by decide) (by decide)), if_neg (hk 5 (by decide) (by decide)), if_neg (hk 6 (by decide) (by decide)), if_neg (hk 7 (by decide) (by decide)), if_neg (hk 8 (by decide) (by decide)), if_neg (hk 9 (by decide) (by decide))]
  rw [hkv] at hof
  clear hkv
  clear hk
  have hta0 := ta_nil_table
  have hta1 := ta_nil_view
  have hta2 := ta_nil_index
  have hta3 := ta_nil_drop
  have hta4 := ta_nil_insert
  have hta5 := ta_nil_update
  have hta6 := ta_nil_remove
  have hta7 := ta_nil_ask
  have hta8 := ta_nil_batch
  go_enter Tryz.func30, Tryz.ntmps30
  go_wp2_with (refine wpl_st rfl _ rfl rfl rfl hbl ?_)
  refine hof.mono ?_; rintro e w2 ⟨rfl, hb2⟩
  have hB2 := hB1.trans (hb2.mono hB1.size)
  go_wp2_with fail
  go_ret
  exact ⟨rfl, hB2⟩
end Go.Proofs.YtfbgdjcnlnfoaaaGreatDoor

namespace Go.Proofs.YtfbgdjcnlnfoaaaGreatDoor
open Go.RowKit
open Cle

set_option maxRecDepth 100000 in
set_option maxHeartbeats 8000000 in
theorem text_remove0 {w : World} {x : Sx} {tc c s wv pv : Value} (hc0 : x.cols = []) (hk : x.kind = 7) (hG : Gp w) (hok : StOK x) (hin : StIn w x tc c s wv) (hpv : pv.oneCell' = true) :
    Calls Tryz.prog 30 #[.agg (stC x tc c s wv pv)] w fun e w' => e = .returned (.string (catP (removeP x))) ∧ Below w.heap.size w w' := by
  obtain ⟨cA, cC, hce, _⟩ := hin.c
  rw [hc0] at hce
  replace hce : c = .slice cA 0 cC := hce
  subst hce
  have hone := hin.one hpv
  have hB1 := (Below.refl w.heap.size w).alloc (Nat.le_refl _) (.cells (stC x tc (.slice cA 0 cC) s wv pv) 31)
  have hbl : (w.alloc (.cells (stC x tc (.slice cA 0 cC) s wv pv) 31)).heap[w.heap.size]? = some (.cells (stC x tc (.slice cA 0 cC) s wv pv) 31 (0, 0)) := blk_new w _
  have hof := of_any (w := w.alloc (.cells (stC x tc (.slice cA 0 cC) s wv pv) 31)) x tc (.slice cA 0 cC) s wv pv
  have hkv : kindV x.kind (stC x tc (.slice cA 0 cC) s wv pv) = .iface 97 (.agg (stC x tc (.slice cA 0 cC) s wv pv)) := by unfold kindV; rw [hk]; rfl
  rw [hkv] at hof
  clear hkv
  obtain ⟨Ju, eJu⟩ : ∃ r, catP (usingP x.stamp x.ttl) = r := ⟨_, rfl⟩
  have zJu : Ju.size ≤ 1000 := by rw [← eJu]; exact using_le _ _ hok.stamp hok.ttl
  obtain ⟨Jw, eJw⟩ : ∃ r, catP (whereP x.wher) = r := ⟨_, rfl⟩
  have zJw : Jw.size ≤ 400002000 := by rw [← eJw]; exact where_le hok.wher
  have Az0 : ((⟨#[68, 69, 76, 69, 84, 69, 32]⟩ : ByteArray)).size ≤ 7 := by decide
  have Ay1 : ((⟨#[]⟩ : ByteArray)).size ≤ 0 := by decide
  obtain ⟨A1, Ae1⟩ : ∃ r, (⟨#[68, 69, 76, 69, 84, 69, 32]⟩ : ByteArray) ++ (⟨#[]⟩ : ByteArray) = r := ⟨_, rfl⟩
  have Ah1 := add_str ((⟨#[68, 69, 76, 69, 84, 69, 32]⟩ : ByteArray)) ((⟨#[]⟩ : ByteArray)) (by omega)
  rw [Ae1] at Ah1
  have Az1 : A1.size ≤ 7 := by rw [← Ae1, ByteArray.size_append]; omega
  have Ay2 : ((⟨#[70, 82, 79, 77, 32]⟩ : ByteArray)).size ≤ 5 := by decide
  obtain ⟨A2, Ae2⟩ : ∃ r, A1 ++ (⟨#[70, 82, 79, 77, 32]⟩ : ByteArray) = r := ⟨_, rfl⟩
  have Ah2 := add_str (A1) ((⟨#[70, 82, 79, 77, 32]⟩ : ByteArray)) (by omega)
  rw [Ae2] at Ah2
  have Az2 : A2.size ≤ 12 := by rw [← Ae2, ByteArray.size_append]; omega
  have Ay3 : (x.of_).size ≤ 1000000 := hok.of_
  obtain ⟨A3, Ae3⟩ : ∃ r, A2 ++ x.of_ = r := ⟨_, rfl⟩
  have Ah3 := add_str (A2) (x.of_) (by omega)
  rw [Ae3] at Ah3
  have Az3 : A3.size ≤ 1000012 := by rw [← Ae3, ByteArray.size_append]; omega
  have Ay4 : (Ju).size ≤ 1000 := zJu
  obtain ⟨A4, Ae4⟩ : ∃ r, A3 ++ Ju = r := ⟨_, rfl⟩
  have Ah4 := add_str (A3) (Ju) (by omega)
  rw [Ae4] at Ah4
  have Az4 : A4.size ≤ 1001012 := by rw [← Ae4, ByteArray.size_append]; omega
  have Ay5 : (Jw).size ≤ 400002000 := zJw
  obtain ⟨A5, Ae5⟩ : ∃ r, A4 ++ Jw = r := ⟨_, rfl⟩
  have Ah5 := add_str (A4) (Jw) (by omega)
  rw [Ae5] at Ah5
  have Az5 : A5.size ≤ 401003012 := by rw [← Ae5, ByteArray.size_append]; omega
  have HE : Hid (A5 = catP (removeP x)) := by
      show _ = _
      rw [← Ae5, ← Ae4, ← Ae3, ← Ae2, ← Ae1, ← eJu, ← eJw]
      unfold removeP
      rw [if_pos hc0]
      apply ByteArray.ext; apply Array.ext'; simp [catP_app, catP, Pc.text]
  clear Ae1 Ae2 Ae3 Ae4 Ae5
  clear Az0 Az1 Az2 Az3 Az4 Az5 Ay1 Ay2 Ay3 Ay4 Ay5
  clear zJu zJw
  have HC := Lib.hid (fun (wq : World) (hBq : Below w.heap.size w wq) => And.intro (hG.below hBq) (hin.below hBq))
  have HOK := Lib.hid hok
  have HJ : Hid (catP (usingP x.stamp x.ttl) = Ju ∧ catP (whereP x.wher) = Jw) := ⟨eJu, eJw⟩
  clear eJu eJw hok hin hG hk
  have hta := ta_remove
  have hta0 := ta_remove_table
  have hta1 := ta_remove_view
  have hta2 := ta_remove_index
  have hta3 := ta_remove_drop
  have hta4 := ta_remove_insert
  have hta5 := ta_remove_update
  go_enter Tryz.func30, Tryz.ntmps30
  go_wp2_with (refine wpl_st rfl _ rfl rfl rfl hbl ?_)
  refine hof.mono ?_; rintro e w2 ⟨rfl, hb2⟩
  have hB2 := hB1.trans (hb2.mono hB1.size)
  have hV : (w2.alloc (.cells (stC x tc (.slice cA 0 cC) s wv pv) 97)).heap[w2.heap.size]? = some (.cells (stC x tc (.slice cA 0 cC) s wv pv) 97 (0, 0)) := blk_new w2 _
  have hB3 := hB2.alloc hB2.size (.cells (stC x tc (.slice cA 0 cC) s wv pv) 97)
  have m11 := (st18 hV).2.2.2.2.2.2.2.2.2.2.2.1
  clear hc0
  go_wp2_with (refine wpl_stg sz_remove rfl _ _ rfl rfl rfl rfl rfl hone ?_)
  obtain ⟨wq, hwq⟩ : ∃ wq, wq = w2.alloc (.cells (stC x tc (.slice cA 0 cC) s wv pv) 97) := ⟨_, rfl⟩
  rw [← hwq] at hV hB3 ⊢
  clear hwq
  obtain ⟨hGq, hinq⟩ := HC.out wq hB3
  have hok := HOK.out
  obtain ⟨eJu, eJw⟩ := HJ.out
  have HJu : Hid (∀ (w' : World), Below wq.heap.size wq w' → Calls Tryz.prog 56 #[.int .i64 x.stamp, .int .i64 x.ttl] w' (fun e w'' => e = .returned (.string Ju) ∧ Below w'.heap.size w' w'')) := fun w' hB' => by rw [← eJu]; exact gusing_any (hGq.below hB') hok.stamp hok.ttl
  have HJw : Hid (∀ (w' : World), Below wq.heap.size wq w' → Calls Tryz.prog 58 #[wv] w' (fun e w'' => e = .returned (.string Jw) ∧ Below w'.heap.size w' w'')) := fun w' hB' => by rw [← eJw]; exact gwhere_any (hGq.below hB') hok.wher (hinq.wv.below hB')
  clear hGq hinq hok eJu eJw
  clear HC HOK HJ hof hbl hB1 hb2 hB2 hone hta hta0 hta1 hta2 hta3 hta4 hta5
  have d2 : wq.cell? ⟨w2.heap.size, 2, none⟩ = some (.string x.of_) := (st18 hV).2.2.1
  have d13 : wq.cell? ⟨w2.heap.size, 13, none⟩ = some (wv) := (st18 hV).2.2.2.2.2.2.2.2.2.2.2.2.2.1
  have d14 : wq.cell? ⟨w2.heap.size, 14, none⟩ = some (.int .i64 x.stamp) := (st18 hV).2.2.2.2.2.2.2.2.2.2.2.2.2.2.1
  have d15 : wq.cell? ⟨w2.heap.size, 15, none⟩ = some (.int .i64 x.ttl) := (st18 hV).2.2.2.2.2.2.2.2.2.2.2.2.2.2.2.1
  have hS : Below wq.heap.size wq wq ∧ wq.cell? ⟨w2.heap.size, 2, none⟩ = some (.string x.of_) ∧ wq.cell? ⟨w2.heap.size, 13, none⟩ = some (wv) ∧ wq.cell? ⟨w2.heap.size, 14, none⟩ = some (.int .i64 x.stamp) ∧ wq.cell? ⟨w2.heap.size, 15, none⟩ = some (.int .i64 x.ttl) := ⟨Below.refl _ _, d2, d13, d14, d15⟩
  go_region_held3 (fun w' => Below wq.heap.size wq w' ∧ w'.cell? ⟨w2.heap.size, 2, none⟩ = some (.string x.of_) ∧ w'.cell? ⟨w2.heap.size, 13, none⟩ = some (wv) ∧ w'.cell? ⟨w2.heap.size, 14, none⟩ = some (.int .i64 x.stamp) ∧ w'.cell? ⟨w2.heap.size, 15, none⟩ = some (.int .i64 x.ttl)) (first | exact tws4 (by assumption) hbJu | exact tws4 (by assumption) hbJw | exact ⟨(Below.refl _ _).drew, d2, d13, d14, d15⟩)
    (first
    | (go_at_call 56; with_reducible refine (HJu.out _ (And.left (by assumption))).mono ?_; rintro e wJu ⟨rfl, hbJu⟩)
    | (go_at_call 58; with_reducible refine (HJw.out _ (And.left (by assumption))).mono ?_; rintro e wJw ⟨rfl, hbJw⟩))
  go_wp2_with fail
  go_ret
  rw [← HE.out]
  exact ⟨rfl, hB3.trans (Below.mono (And.left (by assumption)) hB3.size)⟩
end Go.Proofs.YtfbgdjcnlnfoaaaGreatDoor

namespace Go.Proofs.YtfbgdjcnlnfoaaaGreatDoor
open Go.RowKit
open Cle

theorem cat_le (M : Nat) : ∀ (l : List Pc), (∀ p ∈ l, p.text.size ≤ M) → (catP l).size ≤ l.length * M
  | [], _ => Nat.zero_le _
  | p :: l, h => by
    have ih := cat_le M l fun q hq => h q (List.mem_cons_of_mem _ hq)
    have hp := h p (List.mem_cons_self ..)
    show (p.text ++ catP l).size ≤ _
    rw [ByteArray.size_append, List.length_cons, Nat.succ_mul]
    omega
theorem typeds_le {x : Sx} (h : StOK x) : (catP (sepP commaP ((x.part :: x.clus :: x.tcols).map typedP))).size ≤ 100 * 1000007 := by
  rw [← joinB_cat, comma_cat]
  have := joinB_le (⟨#[44, 32]⟩ : ByteArray) (((x.part :: x.clus :: x.tcols).map typedP).map catP) 1000005 (fun y hy => by
    rw [List.map_map] at hy
    obtain ⟨q, hq, rfl⟩ := List.mem_map.1 hy
    refine typed_le q ?_
    rcases List.mem_cons.1 hq with rfl | hq
    · exact h.part
    rcases List.mem_cons.1 hq with rfl | hq
    · exact h.clus
    · exact h.tcols.2 q hq)
  rw [List.length_map, List.length_map] at this
  have hl := h.tcols.1
  exact Nat.le_trans this (Nat.mul_le_mul (by simp; omega) (by decide))
theorem keys_le {x : Sx} (h : StOK x) : (catP (sepP commaP ((x.on :: x.wher.map Pr.name).map fun s => [Pc.wd s]))).size ≤ 100 * 1000002 := by
  rw [← joinB_cat, comma_cat, ← mapcat]
  have := joinB_le (⟨#[44, 32]⟩ : ByteArray) (x.on :: x.wher.map Pr.name) 1000000 (fun y hy => by
    rcases List.mem_cons.1 hy with rfl | hy
    · exact h.on
    · obtain ⟨q, hq, rfl⟩ := List.mem_map.1 hy
      exact (h.wher.2 q hq).2)
  have hl := h.wher90
  rw [List.length_cons, List.length_map] at this
  exact Nat.le_trans this (Nat.mul_le_mul (by omega) (by decide))
theorem stable_le {x : Sx} (h : StOK x) : (catP (tableP x)).size ≤ 1000000000 := by
  unfold tableP
  have e1 : (catP [.wd (⟨#[67, 82, 69, 65, 84, 69]⟩ : ByteArray), .bl, .wd (⟨#[84, 65, 66, 76, 69]⟩ : ByteArray), .bl, .wd x.name, .bl, .sg 40]).size ≤ 7 * 1000000 := cat_le 1000000 _ (by
    intro p hp
    simp only [List.mem_cons, List.not_mem_nil, or_false] at hp
    rcases hp with rfl | rfl | rfl | rfl | rfl | rfl | rfl <;> first | decide | exact h.name | exact h.of_ | exact h.on | exact h.part | exact h.clus)
  have e2 := typeds_le h
  have e3 : (catP [.sg 44, .bl, .wd (⟨#[80, 82, 73, 77, 65, 82, 89]⟩ : ByteArray), .bl, .wd (⟨#[75, 69, 89]⟩ : ByteArray), .bl, .sg 40, .wd x.part.name, .sg 44, .bl, .wd x.clus.name, .sg 41, .sg 41]).size ≤ 13 * 1000000 := cat_le 1000000 _ (by
    intro p hp
    simp only [List.mem_cons, List.not_mem_nil, or_false] at hp
    rcases hp with rfl | rfl | rfl | rfl | rfl | rfl | rfl | rfl | rfl | rfl | rfl | rfl | rfl <;> first | decide | exact h.name | exact h.of_ | exact h.on | exact h.part | exact h.clus)
  try simp only [catP_app, ByteArray.size_append] at *
  omega
theorem sview_le {x : Sx} (h : StOK x) : (catP (viewP x)).size ≤ 1000000000 := by
  unfold viewP
  have e1 : (catP [.wd (⟨#[67, 82, 69, 65, 84, 69]⟩ : ByteArray), .bl, .wd (⟨#[77, 65, 84, 69, 82, 73, 65, 76, 73, 90, 69, 68]⟩ : ByteArray), .bl, .wd (⟨#[86, 73, 69, 87]⟩ : ByteArray), .bl, .wd x.name, .bl, .wd (⟨#[65, 83]⟩ : ByteArray), .bl, .wd (⟨#[83, 69, 76, 69, 67, 84]⟩ : ByteArray), .bl]).size ≤ 12 * 1000000 := cat_le 1000000 _ (by
    intro p hp
    simp only [List.mem_cons, List.not_mem_nil, or_false] at hp
    rcases hp with rfl | rfl | rfl | rfl | rfl | rfl | rfl | rfl | rfl | rfl | rfl | rfl <;> first | decide | exact h.name | exact h.of_ | exact h.on | exact h.part | exact h.clus)
  have e2 := some_le (Nat.le_trans h.cols.1 (by decide)) h.cols.2
  have e3 : (catP [.bl, .wd (⟨#[70, 82, 79, 77]⟩ : ByteArray), .bl, .wd x.of_, .bl, .wd (⟨#[87, 72, 69, 82, 69]⟩ : ByteArray), .bl, .wd x.on, .bl, .wd (⟨#[73, 83]⟩ : ByteArray), .bl, .wd (⟨#[78, 79, 84]⟩ : ByteArray), .bl, .wd (⟨#[78, 85, 76, 76]⟩ : ByteArray), .bl, .wd (⟨#[80, 82, 73, 77, 65, 82, 89]⟩ : ByteArray), .bl, .wd (⟨#[75, 69, 89]⟩ : ByteArray), .bl, .sg 40]).size ≤ 20 * 1000000 := cat_le 1000000 _ (by
    intro p hp
    simp only [List.mem_cons, List.not_mem_nil, or_false] at hp
    rcases hp with rfl | rfl | rfl | rfl | rfl | rfl | rfl | rfl | rfl | rfl | rfl | rfl | rfl | rfl | rfl | rfl | rfl | rfl | rfl | rfl <;> first | decide | exact h.name | exact h.of_ | exact h.on | exact h.part | exact h.clus)
  have e4 := keys_le h
  have e5 : (catP [.sg 41]).size ≤ 1 * 1000000 := cat_le 1000000 _ (by
    intro p hp
    simp only [List.mem_cons, List.not_mem_nil, or_false] at hp
    rcases hp with rfl <;> first | decide | exact h.name | exact h.of_ | exact h.on | exact h.part | exact h.clus)
  try simp only [catP_app, ByteArray.size_append] at *
  omega
theorem sindex_le {x : Sx} (h : StOK x) : (catP (indexP x)).size ≤ 1000000000 := by
  unfold indexP
  have e1 : (catP [.wd (⟨#[67, 82, 69, 65, 84, 69]⟩ : ByteArray), .bl, .wd (⟨#[73, 78, 68, 69, 88]⟩ : ByteArray), .bl, .wd x.name, .bl, .wd (⟨#[79, 78]⟩ : ByteArray), .bl, .wd x.of_, .bl, .sg 40, .wd x.on, .sg 41]).size ≤ 13 * 1000000 := cat_le 1000000 _ (by
    intro p hp
    simp only [List.mem_cons, List.not_mem_nil, or_false] at hp
    rcases hp with rfl | rfl | rfl | rfl | rfl | rfl | rfl | rfl | rfl | rfl | rfl | rfl | rfl <;> first | decide | exact h.name | exact h.of_ | exact h.on | exact h.part | exact h.clus)
  try simp only [catP_app, ByteArray.size_append] at *
  omega
theorem sdrop_le {x : Sx} (h : StOK x) : (catP (dropP x)).size ≤ 1000000000 := by
  unfold dropP
  have e1 : (catP [.wd (⟨#[68, 82, 79, 80]⟩ : ByteArray), .bl, .wd x.name]).size ≤ 3 * 1000000 := cat_le 1000000 _ (by
    intro p hp
    simp only [List.mem_cons, List.not_mem_nil, or_false] at hp
    rcases hp with rfl | rfl | rfl <;> first | decide | exact h.name | exact h.of_ | exact h.on | exact h.part | exact h.clus)
  try simp only [catP_app, ByteArray.size_append] at *
  omega
theorem sinsert_le {x : Sx} (h : StOK x) : (catP (insertP x)).size ≤ 1000000000 := by
  unfold insertP
  have e1 : (catP [.wd (⟨#[73, 78, 83, 69, 82, 84]⟩ : ByteArray), .bl, .wd (⟨#[73, 78, 84, 79]⟩ : ByteArray), .bl, .wd x.of_, .bl, .sg 40]).size ≤ 7 * 1000000 := cat_le 1000000 _ (by
    intro p hp
    simp only [List.mem_cons, List.not_mem_nil, or_false] at hp
    rcases hp with rfl | rfl | rfl | rfl | rfl | rfl | rfl <;> first | decide | exact h.name | exact h.of_ | exact h.on | exact h.part | exact h.clus)
  have e2 := names_cat x.sets ▸ names_le h.sets
  have e3 : (catP [.sg 41, .bl, .wd (⟨#[86, 65, 76, 85, 69, 83]⟩ : ByteArray), .bl, .sg 40]).size ≤ 5 * 1000000 := cat_le 1000000 _ (by
    intro p hp
    simp only [List.mem_cons, List.not_mem_nil, or_false] at hp
    rcases hp with rfl | rfl | rfl | rfl | rfl <;> first | decide | exact h.name | exact h.of_ | exact h.on | exact h.part | exact h.clus)
  have e4 := terms_cat x.sets ▸ terms_le h.sets
  have e5 : (catP [.sg 41]).size ≤ 1 * 1000000 := cat_le 1000000 _ (by
    intro p hp
    simp only [List.mem_cons, List.not_mem_nil, or_false] at hp
    rcases hp with rfl <;> first | decide | exact h.name | exact h.of_ | exact h.on | exact h.part | exact h.clus)
  have e6 := using_le x.stamp x.ttl h.stamp h.ttl
  try simp only [catP_app, ByteArray.size_append] at *
  omega
theorem supdate_le {x : Sx} (h : StOK x) : (catP (updateP x)).size ≤ 1000000000 := by
  unfold updateP
  have e1 : (catP [.wd (⟨#[85, 80, 68, 65, 84, 69]⟩ : ByteArray), .bl, .wd x.of_]).size ≤ 3 * 1000000 := cat_le 1000000 _ (by
    intro p hp
    simp only [List.mem_cons, List.not_mem_nil, or_false] at hp
    rcases hp with rfl | rfl | rfl <;> first | decide | exact h.name | exact h.of_ | exact h.on | exact h.part | exact h.clus)
  have e2 := using_le x.stamp x.ttl h.stamp h.ttl
  have e3 : (catP [.bl, .wd (⟨#[83, 69, 84]⟩ : ByteArray), .bl]).size ≤ 3 * 1000000 := cat_le 1000000 _ (by
    intro p hp
    simp only [List.mem_cons, List.not_mem_nil, or_false] at hp
    rcases hp with rfl | rfl | rfl <;> first | decide | exact h.name | exact h.of_ | exact h.on | exact h.part | exact h.clus)
  have e4 := equals_cat x.sets ▸ equals_le h.sets (⟨#[44, 32]⟩ : ByteArray) (by decide)
  have e5 := where_le h.wher
  try simp only [catP_app, ByteArray.size_append] at *
  omega
theorem sremove_le {x : Sx} (h : StOK x) : (catP (removeP x)).size ≤ 1000000000 := by
  unfold removeP
  have e1 : (catP [.wd (⟨#[68, 69, 76, 69, 84, 69]⟩ : ByteArray), .bl]).size ≤ 2 * 1000000 := cat_le 1000000 _ (by
    intro p hp
    simp only [List.mem_cons, List.not_mem_nil, or_false] at hp
    rcases hp with rfl | rfl <;> first | decide | exact h.name | exact h.of_ | exact h.on | exact h.part | exact h.clus)
  have e2 := show (catP (if x.cols = [] then [] else someP x.cols ++ [.bl])).size ≤ 100 * 1000003 + 1 from (by
    split
    · decide
    · rw [catP_app, ByteArray.size_append]
      have := some_le (Nat.le_trans h.cols.1 (by decide)) h.cols.2
      show _ + 1 ≤ _
      omega)
  have e3 : (catP [.wd (⟨#[70, 82, 79, 77]⟩ : ByteArray), .bl, .wd x.of_]).size ≤ 3 * 1000000 := cat_le 1000000 _ (by
    intro p hp
    simp only [List.mem_cons, List.not_mem_nil, or_false] at hp
    rcases hp with rfl | rfl | rfl <;> first | decide | exact h.name | exact h.of_ | exact h.on | exact h.part | exact h.clus)
  have e4 := using_le x.stamp x.ttl h.stamp h.ttl
  have e5 := where_le h.wher
  try simp only [catP_app, ByteArray.size_append] at *
  omega
theorem sask_le {x : Sx} (h : StOK x) : (catP (askP x)).size ≤ 1000000000 := by
  unfold askP
  have e1 : (catP [.wd (⟨#[83, 69, 76, 69, 67, 84]⟩ : ByteArray), .bl]).size ≤ 2 * 1000000 := cat_le 1000000 _ (by
    intro p hp
    simp only [List.mem_cons, List.not_mem_nil, or_false] at hp
    rcases hp with rfl | rfl <;> first | decide | exact h.name | exact h.of_ | exact h.on | exact h.part | exact h.clus)
  have e2 := some_le (Nat.le_trans h.cols.1 (by decide)) h.cols.2
  have e3 : (catP [.bl, .wd (⟨#[70, 82, 79, 77]⟩ : ByteArray), .bl, .wd x.of_]).size ≤ 4 * 1000000 := cat_le 1000000 _ (by
    intro p hp
    simp only [List.mem_cons, List.not_mem_nil, or_false] at hp
    rcases hp with rfl | rfl | rfl | rfl <;> first | decide | exact h.name | exact h.of_ | exact h.on | exact h.part | exact h.clus)
  have e4 := where_le h.wher
  have e5 := show (catP (if x.limit = 0 then [] else [.bl, .wd (⟨#[76, 73, 77, 73, 84]⟩ : ByteArray), .bl, .nm x.limit])).size ≤ 100 from (by
    split
    · decide
    · have := itoaS_le x.limit h.limit
      show (⟨#[32]⟩ ++ ((⟨#[76, 73, 77, 73, 84]⟩ : ByteArray) ++ (⟨#[32]⟩ ++ (itoaS x.limit ++ ⟨#[]⟩)))).size ≤ _
      rw [ByteArray.size_append, ByteArray.size_append, ByteArray.size_append, ByteArray.size_append]
      show 1 + (5 + (1 + (_ + 0))) ≤ _
      omega)
  try simp only [catP_app, ByteArray.size_append] at *
  omega
theorem st_le {x : Sx} (h : StOK x) : (catP (stP x)).size ≤ 1000000000 := by
  unfold stP
  split
  · exact stable_le h
  split
  · exact sview_le h
  split
  · exact sindex_le h
  split
  · exact sdrop_le h
  split
  · exact sinsert_le h
  split
  · exact supdate_le h
  split
  · exact sremove_le h
  split
  · exact sask_le h
  split
  · decide +kernel
  · decide
end Go.Proofs.YtfbgdjcnlnfoaaaGreatDoor

namespace Go.Proofs.YtfbgdjcnlnfoaaaGreatDoor
open Go.RowKit
open Cle

structure Pw where
  x : Sx
  tc : Value
  c : Value
  s : Value
  wv : Value
  pv : Value
def Pw.arr (p : Pw) : Array Value := stC p.x p.tc p.c p.s p.wv p.pv
structure PwIn (w : World) (p : Pw) : Prop where
  ok : StOK p.x
  rd : StIn w p.x p.tc p.c p.s p.wv
  one : p.pv.oneCell' = true
theorem PwIn.below {w w' : World} {p : Pw} (h : PwIn w p) (hb : Below w.heap.size w w') : PwIn w' p := ⟨h.ok, h.rd.below hb, h.one⟩
def flatW (L : List Pw) : List Value := L.flatMap fun p => p.arr.toList
theorem flatW_at : ∀ {L : List Pw} {j : Nat} {q : Pw} (_ : L[j]? = some q) (i : Nat) (_ : i < 18), (flatW L)[j * 18 + i]? = q.arr.toList[i]?
  | p :: l, 0, q, h, i, hi => by
    cases h
    simp only [flatW, List.flatMap_cons, Nat.zero_mul, Nat.zero_add]
    rw [List.getElem?_append_left (by simp [Pw.arr]; omega)]
  | p :: l, k + 1, q, h, i, hi => by
    have := flatW_at (L := l) (j := k) (q := q) (by simpa using h) i hi
    simp only [flatW, List.flatMap_cons] at this ⊢
    rw [List.getElem?_append_right (by simp [Pw.arr]; omega)]
    have e : (k + 1) * 18 + i - p.arr.toList.length = k * 18 + i := by simp [Pw.arr]; omega
    rw [e]; exact this
theorem wpl_ldm {ops : Array Oper} {rest : List Oper} {op : Oper} {a : Act} {w : World} {Q : Exit → Act → World → Prop} {b o : Nat} {V : Array Value} (hgd : op.guard = none) (x : Operand) (ho : op.op = .load 31 x)
    (hx : a.eval x = .pointer (some ⟨b, o, none⟩)) (hV : V.size = 18) (hc : w.rangeAt b o V.toList) (h : wpList Tryz.prog ops Q rest (a.put op.dst (.agg V)) w) : wpList Tryz.prog ops Q (op :: rest) a w := by
  obtain ⟨d, hu, hd⟩ := Tryz.undSt
  exact wpList_load_mid hgd 31 x ho b o hx V.toList d hc hu hd (by rw [show V.toList.length = 18 by simpa using hV]; exact Tryz.sizeSt) (by simpa using h)
set_option maxRecDepth 100000 in
set_option maxHeartbeats 4000000 in
theorem lq_any {w : World} {u : Value} {L : List Pw} {sep : ByteArray} {T : Pw → ByteArray} (hl : L.length ≤ 100) (hr : Rd w u L.length (flatW L)) (h1 : ∀ p ∈ L, p.arr.toList.all (·.oneCell') = true)
    (hf : ∀ q ∈ L, ∀ w', Below w.heap.size w w' → Calls Tryz.prog 61 #[.agg q.arr] w' fun e w'' => e = .returned (.string (T q)) ∧ Below w'.heap.size w' w'')
    (hs : (joinB sep (L.map T)).size ≤ 140737488355328) :
    Calls Tryz.prog 60 #[u, .string sep, .func (.func 61) #[] #[]] w fun e w' => e = .returned (.string (joinB sep (L.map T))) ∧ Below w.heap.size w w' := by
  obtain ⟨a, cap, rfl, hx0⟩ := hr
  go_enter Tryz.func60, Tryz.ntmps60
  go_wp2_with fail
  go_loopw [7, 12] (fun out i wr => ∃ (j : Nat) (a3 : Option Addr) (c3 : Nat), out = .slice a3 j c3 ∧ i = .int .i64 j ∧ j ≤ L.length ∧ Below w.heap.size w wr ∧ wr.ownsRow w.heap.size 9 1 (.slice a3 j c3) j (((L.take j).map T).map Value.string)) (fun _ i _ => L.length - (intOf i).toNat)
  case atStart => exact ⟨0, none, 0, rfl, rfl, Nat.zero_le _, Below.refl _ _, World.ownsRow_nil _ _ _ _⟩
  case round =>
    obtain ⟨j, a3, c3, rfl, rfl, hj, hBr, hown⟩ := hrel
    have hsz := hBr.size
    by_cases hjl : j < L.length
    · have p0 : (j : Int) < (L.length : Int) := by omega
      have p1 : (0 : Int) ≤ (j : Int) := by omega
      have HJ := Lib.hid (show j + 1 ≤ L.length from hjl)
      obtain ⟨g, o, rfl, hx⟩ := hx0 (by omega)
      obtain ⟨q, hq⟩ : ∃ q, L[j]? = some q := ⟨_, List.getElem?_eq_getElem hjl⟩
      have hone := h1 q (List.mem_of_getElem? hq)
      have hR : wr.rangeAt g (o + j * 18) q.arr.toList := fun i v hv => by
        have hi : i < 18 := by have := (List.getElem?_eq_some_iff.1 hv).1; simp [Pw.arr] at this; omega
        have := hx (j * 18 + i) v (by rw [flatW_at hq i hi]; exact hv)
        rw [Nat.add_assoc]
        exact blk_cellB hBr this
      have hB1 := hBr.alloc hBr.size (.cells q.arr 31)
      have hbl : (wr.alloc (.cells q.arr 31)).heap[wr.heap.size]? = some (.cells q.arr 31 (0, 0)) := blk_new wr _
      have hc := hf q (List.mem_of_getElem? hq) _ hB1
      have HT : Hid (((L.take (j + 1)).map T).map Value.string = ((L.take j).map T).map Value.string ++ [.string (T q)]) := by
        obtain ⟨hj2, rfl⟩ := List.getElem?_eq_some_iff.1 hq
        show _ = _
        rw [List.take_succ_eq_append_getElem hj2, List.map_append, List.map_append]; rfl
      clear hq hx
      generalize T q = t at *
      obtain ⟨x, tc, c, s, wv, pv⟩ := q
      go_wp2_with (first | refine wpl_ldm rfl _ rfl rfl rfl hR ?_ | refine wpl_sto2 rfl _ _ rfl rfl rfl rfl rfl hone ?_ | refine wpl_st rfl _ rfl rfl rfl hbl ?_)
      refine hc.mono ?_; rintro e w2 ⟨rfl, hb2⟩
      have hB2 := hB1.trans (hb2.mono hB1.size)
      have hown2 := row_below (hown.alloc _) hb2
      have hs2 := hB2.size
      go_wp2_with (at_builtin; refine app1 Tryz.eltS rfl _ _ rfl w.heap.size _ _ _ rfl (hown2.alloc _) _ _ [.string t] rfl rfl (cells_last _ _ _) (by intro u hu; rw [List.mem_singleton.1 hu]; rfl) (by have := HJ.out; omega) (by simp; omega) ?_; intro a5 c5 w5 h5 hg5 hn5)
      have hB5 := below_app (hB2.alloc hs2 _) (by rw [sz_alloc]; omega) hg5 (fun g2 hg2 => (hown2.lt g2 hg2).1)
      go_wp2_with fail
      go_roundw
      case rel => exact ⟨j + 1, a5, c5, rfl, by go_num, HJ.out, hB5, by rw [HT.out]; exact h5⟩
      case measure => have hjj := HJ.out; simp [intOf]; omega
    · have hje : j = L.length := by omega
      subst hje
      rw [List.take_length] at hown
      have hlen : (L.map T).length = L.length := List.length_map ..
      have hj := join_any (.slice a3 L.length c3) (L.map T) sep wr (by rw [hlen]; exact Rd.own hown) (by rw [hlen]; exact ownsRow_cap hown) hs (by omega)
      go_wp2_with fail
      refine hj.mono ?_; rintro e w9 ⟨rfl, hb9⟩
      go_wp2_with fail
      go_ret
      exact ⟨rfl, hBr.trans (hb9.mono hsz)⟩
set_option maxRecDepth 100000 in
set_option maxHeartbeats 4000000 in
theorem text2_any {w : World} {q : Pw} {t : ByteArray} (ht : t.size ≤ 2000000000)
    (hT : ∀ w', Below w.heap.size w w' → Calls Tryz.prog 30 #[.agg q.arr] w' fun e w'' => e = .returned (.string t) ∧ Below w'.heap.size w' w'') :
    Calls Tryz.prog 61 #[.agg q.arr] w fun e w' => e = .returned (.string (t ++ (⟨#[59, 32]⟩ : ByteArray))) ∧ Below w.heap.size w w' := by
  have hB1 := (Below.refl w.heap.size w).alloc (Nat.le_refl _) (.cells q.arr 31)
  have hbl : (w.alloc (.cells q.arr 31)).heap[w.heap.size]? = some (.cells q.arr 31 (0, 0)) := blk_new w _
  have ha := add_str t (⟨#[59, 32]⟩ : ByteArray) (by show _ + 2 ≤ _; omega)
  have hc := hT _ hB1
  clear hT
  obtain ⟨x, tc, c, s, wv, pv⟩ := q
  go_enter Tryz.func61, Tryz.ntmps61
  go_wp2_with (refine wpl_st rfl _ rfl rfl rfl hbl ?_)
  refine hc.mono ?_; rintro e w2 ⟨rfl, hb2⟩
  go_wp2_with fail
  go_ret
  exact ⟨rfl, hB1.trans (hb2.mono hB1.size)⟩
theorem textN_any {w : World} {p : Pw} (hG : Gp w) (hk : p.x.kind ≠ 9) (h : PwIn w p) :
    Calls Tryz.prog 30 #[.agg p.arr] w fun e w' => e = .returned (.string (catP (stP p.x))) ∧ Below w.heap.size w w' := by
  obtain ⟨x, tc, c, s, wv, pv⟩ := p
  obtain ⟨hok, hin, hpv⟩ := h
  replace hk : x.kind ≠ 9 := hk
  show Calls _ _ #[.agg (stC x tc c s wv pv)] w _
  unfold stP
  simp only
  by_cases h1 : x.kind = 1
  · rw [if_pos h1]; exact text_table h1 hG hok hin hpv
  rw [if_neg h1]
  by_cases h2 : x.kind = 2
  · rw [if_pos h2]; exact text_view h2 hG hok hin hpv
  rw [if_neg h2]
  by_cases h3 : x.kind = 3
  · rw [if_pos h3]; exact text_index h3 hG hok hin hpv
  rw [if_neg h3]
  by_cases h4 : x.kind = 4
  · rw [if_pos h4]; exact text_drop h4 hG hok hin hpv
  rw [if_neg h4]
  by_cases h5 : x.kind = 5
  · rw [if_pos h5]; exact text_insert h5 hG hok hin hpv
  rw [if_neg h5]
  by_cases h6 : x.kind = 6
  · rw [if_pos h6]; exact text_update h6 hG hok hin hpv
  rw [if_neg h6]
  by_cases h7 : x.kind = 7
  · rw [if_pos h7]
    by_cases hc : x.cols = []
    · exact text_remove0 hc h7 hG hok hin hpv
    · exact text_remove1 hc h7 hG hok hin hpv
  rw [if_neg h7]
  by_cases h8 : x.kind = 8
  · rw [if_pos h8]
    by_cases hc : x.limit = 0
    · exact text_ask0 hc h8 hG hok hin hpv
    · exact text_ask1 hc h8 hG hok hin hpv
  rw [if_neg h8, if_neg hk]
  exact text_none (fun k a b => by
    intro e
    have : k = 1 ∨ k = 2 ∨ k = 3 ∨ k = 4 ∨ k = 5 ∨ k = 6 ∨ k = 7 ∨ k = 8 ∨ k = 9 := by omega
    rcases this with rfl | rfl | rfl | rfl | rfl | rfl | rfl | rfl | rfl
    · exact h1 e
    · exact h2 e
    · exact h3 e
    · exact h4 e
    · exact h5 e
    · exact h6 e
    · exact h7 e
    · exact h8 e
    · exact hk e)
end Go.Proofs.YtfbgdjcnlnfoaaaGreatDoor

namespace Go.Proofs.YtfbgdjcnlnfoaaaGreatDoor
open Go.RowKit
open Cle

theorem flat_nil : ∀ l : List (List Pc), (l.flatMap fun b => ([] : List Pc) ++ b) = l.flatten
  | [] => rfl
  | a :: l => by rw [List.flatMap_cons, flat_nil l]; rfl
theorem sepP_nil : ∀ l : List (List Pc), sepP [] l = l.flatten
  | [] => rfl
  | a :: l => by
    show a ++ _ = _
    rw [List.flatten_cons]
    exact congrArg _ (flat_nil l)
def partB (x : Sx) : ByteArray := catP (stP x) ++ (⟨#[59, 32]⟩ : ByteArray)
theorem parts_cat (l : List Sx) : joinB ⟨#[]⟩ (l.map partB) = catP ((l.map stP).flatMap fun a => a ++ [.sg 59, .bl]) := by
  have h := joinB_cat [] ((l.map stP).map fun a => a ++ [Pc.sg 59, .bl])
  rw [sepP_nil, List.map_map, List.map_map] at h
  rw [List.flatMap_def, ← h]
  show joinB _ _ = joinB ⟨#[]⟩ _
  congr 1
  refine List.map_congr_left fun x _ => ?_
  show partB x = catP (stP x ++ [Pc.sg 59, .bl])
  rw [catP_app]; rfl
theorem batch_cat (l : List Sx) : ((⟨#[66, 69, 71, 73, 78, 32, 66, 65, 84, 67, 72, 32]⟩ : ByteArray) ++ joinB ⟨#[]⟩ (l.map partB)) ++ (⟨#[65, 80, 80, 76, 89, 32, 66, 65, 84, 67, 72]⟩ : ByteArray) = catP (batchP (l.map stP)) := by
  rw [parts_cat]
  unfold batchP
  rw [catP_app, catP_app]
  congr 1
theorem parts_le {L : List Pw} (hl : L.length ≤ 100) (h : ∀ q ∈ L, (catP (stP q.x)).size ≤ 1000000000) : (joinB ⟨#[]⟩ (L.map fun q => partB q.x)).size ≤ 120000000000 := by
  have := joinB_le ⟨#[]⟩ (L.map fun q => partB q.x) 1000000002 (fun y hy => by
    obtain ⟨q, hq, rfl⟩ := List.mem_map.1 hy
    have := h q hq
    unfold partB
    rw [ByteArray.size_append]
    show _ + 2 ≤ _
    omega)
  rw [List.length_map] at this
  refine Nat.le_trans this (Nat.le_trans (Nat.mul_le_mul hl (Nat.le_refl _)) ?_)
  decide
theorem textB_any {w : World} {p : Pw} {L : List Pw} (h : PwIn w p) (hk : p.x.kind = 9) (hl : L.length ≤ 100) (hr : Rd w p.pv L.length (flatW L)) (hp : ∀ q ∈ L, PwIn w q)
    (hT : ∀ q ∈ L, ∀ w', Below w.heap.size w w' → Calls Tryz.prog 30 #[.agg q.arr] w' fun e w'' => e = .returned (.string (catP (stP q.x))) ∧ Below w'.heap.size w' w'') :
    Calls Tryz.prog 30 #[.agg p.arr] w fun e w' => e = .returned (.string (catP (batchP ((L.map Pw.x).map stP)))) ∧ Below w.heap.size w w' := by
  have hJ := parts_le hl (fun q hq => (st_le (hp q hq).ok))
  have e : L.map (fun q => partB q.x) = (L.map Pw.x).map partB := by rw [List.map_map]; rfl
  rw [← batch_cat, ← e]
  refine text_batch (x := p.x) hk h.rd h.one (Nat.le_trans hJ (by decide)) (fun w' hb => ?_)
  refine lq_any (T := fun q => partB q.x) hl (hr.below hb) (fun q hq => (hp q hq).rd.one (hp q hq).one) (fun q hq w'' hb' => ?_) (Nat.le_trans hJ (by decide))
  exact text2_any (t := catP (stP q.x)) (Nat.le_trans (st_le (hp q hq).ok) (by decide)) (fun w3 hb3 => hT q hq w3 (hb.trans ((hb'.trans (hb3.mono hb'.size)).mono hb.size)))
theorem text0_any {w : World} {p : Pw} (hG : Gp w) (h : PwIn w p) (hp : Rd w p.pv 0 []) :
    Calls Tryz.prog 30 #[.agg p.arr] w fun e w' => e = .returned (.string (catP (stP p.x))) ∧ Below w.heap.size w w' := by
  by_cases hk : p.x.kind = 9
  · have := textB_any (L := []) h hk (by decide) hp (fun q hq => absurd hq (by simp)) (fun q hq => absurd hq (by simp))
    have e : stP p.x = batchP [] := by unfold stP; rw [hk]; rfl
    rw [e]; exact this
  · exact textN_any hG hk h
theorem gtext_any {w : World} {p : Pw} {L : List Pw} (hG : Gp w) (h : PwIn w p) (hL : p.x.kind = 9 → L.length ≤ 100 ∧ Rd w p.pv L.length (flatW L) ∧ ∀ q ∈ L, PwIn w q ∧ Rd w q.pv 0 []) :
    Calls Tryz.prog 30 #[.agg p.arr] w fun e w' => e = .returned (.string (textS ⟨p.x, L.map Pw.x⟩)) ∧ Below w.heap.size w w' := by
  unfold textS sttP
  by_cases hk : p.x.kind = 9
  · obtain ⟨h1, h2, h3⟩ := hL hk
    rw [if_pos hk]
    exact textB_any h hk h1 h2 (fun q hq => (h3 q hq).1) (fun q hq w' hb => text0_any (hG.below hb) ((h3 q hq).1.below hb) ((h3 q hq).2.below hb))
  · rw [if_neg hk]
    exact textN_any hG hk h
end Go.Proofs.YtfbgdjcnlnfoaaaGreatDoor

namespace Go.Proofs.YtfbgdjcnlnfoaaaGreatDoor
open Go.RowKit
open Cle

theorem getD_ext {α : Type} {L M : List α} (hl : L.length = M.length) (h : ∀ k, k < L.length → L[k]? = M[k]?) : L = M := by
  apply List.ext_getElem?
  intro k
  by_cases hk : k < L.length
  · exact h k hk
  · rw [List.getElem?_eq_none (by omega), List.getElem?_eq_none (by omega)]
theorem pre_step {α : Type} {L M : List α} {j : Nat} {q q' : α} (hq : L[j]? = some q) (hq' : M[j]? = some q') (h : ∀ k, k < j → L[k]? = M[k]?) (he : q = q') : ∀ k, k < j + 1 → L[k]? = M[k]? := by
  intro k hk
  by_cases hkj : k < j
  · exact h k hkj
  · have : k = j := by omega
    subst this
    rw [hq, hq', he]
theorem cl_ne {q q' : Cl} (h : q ≠ q') : (q.name.toList == q'.name.toList) = false ∨ (q.name = q'.name ∧ (q.ty == q'.ty) = false) := by
  obtain ⟨a, b⟩ := q
  obtain ⟨a', b'⟩ := q'
  by_cases h1 : a = a'
  · subst h1
    refine Or.inr ⟨rfl, beq_eq_false_iff_ne.2 fun h2 => h ?_⟩
    have h2' : b = b' := h2
    rw [h2']
  · exact Or.inl (by rw [bytes_eq]; exact bEq_ne h1)
theorem pr_ne {q q' : Pr} (h : q ≠ q') : (q.name.toList == q'.name.toList) = false ∨ (q.name = q'.name ∧ (q.t.ty == q'.t.ty) = false) ∨ (q.name = q'.name ∧ q.t.ty = q'.t.ty ∧ (q.t.s.toList == q'.t.s.toList) = false) ∨ (q.name = q'.name ∧ q.t.ty = q'.t.ty ∧ q.t.s = q'.t.s ∧ (q.t.n == q'.t.n) = false) := by
  obtain ⟨a, b, c, d⟩ := q
  obtain ⟨a', b', c', d'⟩ := q'
  by_cases h1 : a = a'
  · subst h1
    by_cases h2 : b = b'
    · subst h2
      by_cases h3 : c = c'
      · subst h3
        refine Or.inr (Or.inr (Or.inr ⟨rfl, rfl, rfl, beq_eq_false_iff_ne.2 fun h2 => h ?_⟩))
        have h2' : d = d' := h2
        rw [h2']
      · exact Or.inr (Or.inr (Or.inl ⟨rfl, rfl, by rw [bytes_eq]; exact bEq_ne h3⟩))
    · exact Or.inr (Or.inl ⟨rfl, beq_eq_false_iff_ne.2 h2⟩)
  · exact Or.inl (by rw [bytes_eq]; exact bEq_ne h1)
theorem pre_ne {α : Type} {L M : List α} {j : Nat} {q q' : α} (hq : L[j]? = some q) (hq' : M[j]? = some q') (hne : q ≠ q') : L ≠ M := by
  rintro rfl
  rw [hq] at hq'
  exact hne (by injection hq')
set_option maxRecDepth 100000 in
set_option maxHeartbeats 4000000 in
theorem eqc_any {w : World} {u v : Value} {L M : List Cl} (hu : Rd w u L.length (flatC L)) (hv : Rd w v M.length (flatC M)) (hl : L.length ≤ 100000) (_hm : M.length ≤ 100000) :
    Calls Tryz.prog 62 #[u, v] w fun e w' => ∃ b : Bool, e = .returned (.bool b) ∧ (b = true ↔ L = M) ∧ Below w.heap.size w w' := by
  obtain ⟨a1, k1, rfl, hx0⟩ := hu
  obtain ⟨a2, k2, rfl, hy0⟩ := hv
  by_cases hlen : L.length = M.length
  · have HL := Lib.hid hlen
    obtain ⟨n, hn⟩ : ∃ n, L.length = n := ⟨_, rfl⟩
    have hn2 : M.length = n := by omega
    have HN := Lib.hid hn
    have HN2 := Lib.hid hn2
    rw [hn] at hx0 hl ⊢
    rw [hn2] at hy0 ⊢
    clear hlen hn hn2 _hm
    have t0 : ((n : Int) != (n : Int)) = false := by simp
    go_enter Tryz.func62, Tryz.ntmps62
    go_wp2_with fail
    go_loopw [13] (fun i wr => ∃ j : Nat, i = .int .i64 j ∧ j ≤ n ∧ Below w.heap.size w wr ∧ Hid (∀ k, k < j → L[k]? = M[k]?)) (fun i _ => n - (intOf i).toNat)
    case atStart => exact ⟨0, rfl, Nat.zero_le _, Below.refl _ _, fun k hk => absurd hk (by omega)⟩
    case round =>
      obtain ⟨j, rfl, hj, hBr, HA⟩ := hrel
      have hsz := hBr.size
      by_cases hjl : j < n
      · have p0 : (j : Int) < (n : Int) := by omega
        have p1 : (0 : Int) ≤ (j : Int) := by omega
        have HJ := Lib.hid (show j + 1 ≤ n from hjl)
        obtain ⟨g1, o1, rfl, hx⟩ := hx0 (by omega)
        obtain ⟨g2, o2, rfl, hy⟩ := hy0 (by omega)
        obtain ⟨q, hq⟩ : ∃ q, L[j]? = some q := ⟨_, List.getElem?_eq_getElem (by have := HN.out; omega)⟩
        obtain ⟨q', hq'⟩ : ∃ q, M[j]? = some q := ⟨_, List.getElem?_eq_getElem (by have := HN2.out; omega)⟩
        have k0 : wr.cell? ⟨g1, o1 + j * 2, none⟩ = some (.string q.name) := blk_cellB hBr (hx (j * 2) (.string q.name) (by rw [show j * 2 = j * 2 + 0 from rfl, flatC_at' hq 0 (by omega)]; rfl))
        have k1 : wr.cell? ⟨g1, o1 + j * 2 + 1, none⟩ = some (.int .i64 q.ty) := blk_cellB hBr (hx (j * 2 + 1) (.int .i64 q.ty) (by rw [show j * 2 + 1 = j * 2 + 1 from rfl, flatC_at' hq 1 (by omega)]; rfl))
        have l0 : wr.cell? ⟨g2, o2 + j * 2, none⟩ = some (.string q'.name) := blk_cellB hBr (hy (j * 2) (.string q'.name) (by rw [show j * 2 = j * 2 + 0 from rfl, flatC_at' hq' 0 (by omega)]; rfl))
        have l1 : wr.cell? ⟨g2, o2 + j * 2 + 1, none⟩ = some (.int .i64 q'.ty) := blk_cellB hBr (hy (j * 2 + 1) (.int .i64 q'.ty) (by rw [show j * 2 + 1 = j * 2 + 1 from rfl, flatC_at' hq' 1 (by omega)]; rfl))
        by_cases he : q = q'
        · have HT : Hid (∀ k, k < j + 1 → L[k]? = M[k]?) := pre_step hq hq' HA.out he
          clear hq hq' hx hy
          subst he
          go_wp2_with fail
          go_quiet (fail)
          go_wp2_with fail
          go_roundw
          case rel => exact ⟨j + 1, by go_num, HJ.out, Cle.below_drewN hBr _, HT⟩
          case measure => have hjj := HJ.out; simp [intOf]; omega
        · have HT : Hid (L ≠ M) := pre_ne hq hq' he
          clear hq hq' hx hy hx0 hy0
          rcases cl_ne he with hne | ⟨e0, hne⟩
          · clear he
            go_wp2_with fail
            go_quiet (fail)
            go_wp2_with fail
            go_ret
            exact ⟨false, rfl, by simpa using HT.out, Cle.below_drewN hBr _⟩
          · rw [e0] at k0
            have s0 : (q'.name.toList == q'.name.toList) = true := by rw [bytes_eq]; exact bEq_iff.2 rfl
            clear e0
            clear he
            go_wp2_with fail
            go_quiet (fail)
            go_wp2_with fail
            go_ret
            exact ⟨false, rfl, by simpa using HT.out, Cle.below_drewN hBr _⟩
      · have hje : j = n := by omega
        subst hje
        have HT : Hid (L = M) := getD_ext HL.out (by rw [HN.out]; exact HA.out)
        clear HA
        go_wp2_with fail
        go_ret
        exact ⟨true, rfl, by simpa using HT.out, hBr⟩
  · have t0 : ((L.length : Int) != (M.length : Int)) = true := by rw [bne_iff_ne]; omega
    have HT : Hid (L ≠ M) := fun h => hlen (by rw [h])
    clear hlen
    go_enter Tryz.func62, Tryz.ntmps62
    go_wp2_with fail
    go_ret
    exact ⟨false, rfl, by simpa using HT.out, Below.refl _ _⟩
set_option maxRecDepth 100000 in
set_option maxHeartbeats 4000000 in
theorem eqs_any {w : World} {u v : Value} {L M : List ByteArray} (hu : Rd w u L.length (L.map Value.string)) (hv : Rd w v M.length (M.map Value.string)) (hl : L.length ≤ 100000) (_hm : M.length ≤ 100000) :
    Calls Tryz.prog 63 #[u, v] w fun e w' => ∃ b : Bool, e = .returned (.bool b) ∧ (b = true ↔ L = M) ∧ Below w.heap.size w w' := by
  obtain ⟨a1, k1, rfl, hx0⟩ := hu
  obtain ⟨a2, k2, rfl, hy0⟩ := hv
  by_cases hlen : L.length = M.length
  · have HL := Lib.hid hlen
    obtain ⟨n, hn⟩ : ∃ n, L.length = n := ⟨_, rfl⟩
    have hn2 : M.length = n := by omega
    have HN := Lib.hid hn
    have HN2 := Lib.hid hn2
    rw [hn] at hx0 hl ⊢
    rw [hn2] at hy0 ⊢
    clear hlen hn hn2 _hm
    have t0 : ((n : Int) != (n : Int)) = false := by simp
    go_enter Tryz.func63, Tryz.ntmps63
    go_wp2_with fail
    go_loopw [13] (fun i wr => ∃ j : Nat, i = .int .i64 j ∧ j ≤ n ∧ Below w.heap.size w wr ∧ Hid (∀ k, k < j → L[k]? = M[k]?)) (fun i _ => n - (intOf i).toNat)
    case atStart => exact ⟨0, rfl, Nat.zero_le _, Below.refl _ _, fun k hk => absurd hk (by omega)⟩
    case round =>
      obtain ⟨j, rfl, hj, hBr, HA⟩ := hrel
      have hsz := hBr.size
      by_cases hjl : j < n
      · have p0 : (j : Int) < (n : Int) := by omega
        have p1 : (0 : Int) ≤ (j : Int) := by omega
        have HJ := Lib.hid (show j + 1 ≤ n from hjl)
        obtain ⟨g1, o1, rfl, hx⟩ := hx0 (by omega)
        obtain ⟨g2, o2, rfl, hy⟩ := hy0 (by omega)
        obtain ⟨q, hq⟩ : ∃ q, L[j]? = some q := ⟨_, List.getElem?_eq_getElem (by have := HN.out; omega)⟩
        obtain ⟨q', hq'⟩ : ∃ q, M[j]? = some q := ⟨_, List.getElem?_eq_getElem (by have := HN2.out; omega)⟩
        have k0 : wr.cell? ⟨g1, o1 + j, none⟩ = some (.string q) := blk_cellB hBr (hx (j) (.string q) (by rw [List.getElem?_map, hq]; rfl))
        have l0 : wr.cell? ⟨g2, o2 + j, none⟩ = some (.string q') := blk_cellB hBr (hy (j) (.string q') (by rw [List.getElem?_map, hq']; rfl))
        by_cases he : q = q'
        · have HT : Hid (∀ k, k < j + 1 → L[k]? = M[k]?) := pre_step hq hq' HA.out he
          clear hq hq' hx hy
          subst he
          have s0 : (q.toList == q.toList) = true := by rw [bytes_eq]; exact bEq_iff.2 rfl
          go_wp2_with fail
          go_quiet (fail)
          go_wp2_with fail
          go_roundw
          case rel => exact ⟨j + 1, by go_num, HJ.out, Cle.below_drewN hBr _, HT⟩
          case measure => have hjj := HJ.out; simp [intOf]; omega
        · have HT : Hid (L ≠ M) := pre_ne hq hq' he
          clear hq hq' hx hy hx0 hy0
          have hne : (q.toList == q'.toList) = false := by rw [bytes_eq]; exact bEq_ne he
          clear he
          go_wp2_with fail
          go_quiet (fail)
          go_wp2_with fail
          go_ret
          exact ⟨false, rfl, by simpa using HT.out, Cle.below_drewN hBr _⟩
      · have hje : j = n := by omega
        subst hje
        have HT : Hid (L = M) := getD_ext HL.out (by rw [HN.out]; exact HA.out)
        clear HA
        go_wp2_with fail
        go_ret
        exact ⟨true, rfl, by simpa using HT.out, hBr⟩
  · have t0 : ((L.length : Int) != (M.length : Int)) = true := by rw [bne_iff_ne]; omega
    have HT : Hid (L ≠ M) := fun h => hlen (by rw [h])
    clear hlen
    go_enter Tryz.func63, Tryz.ntmps63
    go_wp2_with fail
    go_ret
    exact ⟨false, rfl, by simpa using HT.out, Below.refl _ _⟩
set_option maxRecDepth 100000 in
set_option maxHeartbeats 4000000 in
theorem eqr_any {w : World} {u v : Value} {L M : List Pr} (hu : Rd w u L.length (flatR L)) (hv : Rd w v M.length (flatR M)) (hl : L.length ≤ 100000) (_hm : M.length ≤ 100000) :
    Calls Tryz.prog 64 #[u, v] w fun e w' => ∃ b : Bool, e = .returned (.bool b) ∧ (b = true ↔ L = M) ∧ Below w.heap.size w w' := by
  obtain ⟨a1, k1, rfl, hx0⟩ := hu
  obtain ⟨a2, k2, rfl, hy0⟩ := hv
  by_cases hlen : L.length = M.length
  · have HL := Lib.hid hlen
    obtain ⟨n, hn⟩ : ∃ n, L.length = n := ⟨_, rfl⟩
    have hn2 : M.length = n := by omega
    have HN := Lib.hid hn
    have HN2 := Lib.hid hn2
    rw [hn] at hx0 hl ⊢
    rw [hn2] at hy0 ⊢
    clear hlen hn hn2 _hm
    have t0 : ((n : Int) != (n : Int)) = false := by simp
    go_enter Tryz.func64, Tryz.ntmps64
    go_wp2_with fail
    go_loopw [13] (fun i wr => ∃ j : Nat, i = .int .i64 j ∧ j ≤ n ∧ Below w.heap.size w wr ∧ Hid (∀ k, k < j → L[k]? = M[k]?)) (fun i _ => n - (intOf i).toNat)
    case atStart => exact ⟨0, rfl, Nat.zero_le _, Below.refl _ _, fun k hk => absurd hk (by omega)⟩
    case round =>
      obtain ⟨j, rfl, hj, hBr, HA⟩ := hrel
      have hsz := hBr.size
      by_cases hjl : j < n
      · have p0 : (j : Int) < (n : Int) := by omega
        have p1 : (0 : Int) ≤ (j : Int) := by omega
        have HJ := Lib.hid (show j + 1 ≤ n from hjl)
        obtain ⟨g1, o1, rfl, hx⟩ := hx0 (by omega)
        obtain ⟨g2, o2, rfl, hy⟩ := hy0 (by omega)
        obtain ⟨q, hq⟩ : ∃ q, L[j]? = some q := ⟨_, List.getElem?_eq_getElem (by have := HN.out; omega)⟩
        obtain ⟨q', hq'⟩ : ∃ q, M[j]? = some q := ⟨_, List.getElem?_eq_getElem (by have := HN2.out; omega)⟩
        have k0 : wr.cell? ⟨g1, o1 + j * 4, none⟩ = some (.string q.name) := blk_cellB hBr (hx (j * 4) (.string q.name) (by rw [show j * 4 = j * 4 + 0 from rfl, flatR_at' hq 0 (by omega)]; rfl))
        have k1 : wr.cell? ⟨g1, o1 + j * 4 + 1, none⟩ = some (.int .i64 q.t.ty) := blk_cellB hBr (hx (j * 4 + 1) (.int .i64 q.t.ty) (by rw [show j * 4 + 1 = j * 4 + 1 from rfl, flatR_at' hq 1 (by omega)]; rfl))
        have k2 : wr.cell? ⟨g1, o1 + j * 4 + 2, none⟩ = some (.string q.t.s) := blk_cellB hBr (hx (j * 4 + 2) (.string q.t.s) (by rw [show j * 4 + 2 = j * 4 + 2 from rfl, flatR_at' hq 2 (by omega)]; rfl))
        have k3 : wr.cell? ⟨g1, o1 + j * 4 + 3, none⟩ = some (.int .i64 q.t.n) := blk_cellB hBr (hx (j * 4 + 3) (.int .i64 q.t.n) (by rw [show j * 4 + 3 = j * 4 + 3 from rfl, flatR_at' hq 3 (by omega)]; rfl))
        have l0 : wr.cell? ⟨g2, o2 + j * 4, none⟩ = some (.string q'.name) := blk_cellB hBr (hy (j * 4) (.string q'.name) (by rw [show j * 4 = j * 4 + 0 from rfl, flatR_at' hq' 0 (by omega)]; rfl))
        have l1 : wr.cell? ⟨g2, o2 + j * 4 + 1, none⟩ = some (.int .i64 q'.t.ty) := blk_cellB hBr (hy (j * 4 + 1) (.int .i64 q'.t.ty) (by rw [show j * 4 + 1 = j * 4 + 1 from rfl, flatR_at' hq' 1 (by omega)]; rfl))
        have l2 : wr.cell? ⟨g2, o2 + j * 4 + 2, none⟩ = some (.string q'.t.s) := blk_cellB hBr (hy (j * 4 + 2) (.string q'.t.s) (by rw [show j * 4 + 2 = j * 4 + 2 from rfl, flatR_at' hq' 2 (by omega)]; rfl))
        have l3 : wr.cell? ⟨g2, o2 + j * 4 + 3, none⟩ = some (.int .i64 q'.t.n) := blk_cellB hBr (hy (j * 4 + 3) (.int .i64 q'.t.n) (by rw [show j * 4 + 3 = j * 4 + 3 from rfl, flatR_at' hq' 3 (by omega)]; rfl))
        by_cases he : q = q'
        · have HT : Hid (∀ k, k < j + 1 → L[k]? = M[k]?) := pre_step hq hq' HA.out he
          clear hq hq' hx hy
          subst he
          go_wp2_with fail
          go_quiet (fail)
          go_wp2_with fail
          go_roundw
          case rel => exact ⟨j + 1, by go_num, HJ.out, Cle.below_drewN hBr _, HT⟩
          case measure => have hjj := HJ.out; simp [intOf]; omega
        · have HT : Hid (L ≠ M) := pre_ne hq hq' he
          clear hq hq' hx hy hx0 hy0
          rcases pr_ne he with hne | ⟨e0, hne⟩ | ⟨e0, e1, hne⟩ | ⟨e0, e1, e2, hne⟩
          · clear he
            go_wp2_with fail
            go_quiet (fail)
            go_wp2_with fail
            go_ret
            exact ⟨false, rfl, by simpa using HT.out, Cle.below_drewN hBr _⟩
          · rw [e0] at k0
            have s0 : (q'.name.toList == q'.name.toList) = true := by rw [bytes_eq]; exact bEq_iff.2 rfl
            clear e0
            clear he
            go_wp2_with fail
            go_quiet (fail)
            go_wp2_with fail
            go_ret
            exact ⟨false, rfl, by simpa using HT.out, Cle.below_drewN hBr _⟩
          · rw [e0] at k0
            have s0 : (q'.name.toList == q'.name.toList) = true := by rw [bytes_eq]; exact bEq_iff.2 rfl
            rw [e1] at k1
            clear e0 e1
            clear he
            go_wp2_with fail
            go_quiet (fail)
            go_wp2_with fail
            go_ret
            exact ⟨false, rfl, by simpa using HT.out, Cle.below_drewN hBr _⟩
          · rw [e0] at k0
            have s0 : (q'.name.toList == q'.name.toList) = true := by rw [bytes_eq]; exact bEq_iff.2 rfl
            rw [e1] at k1
            rw [e2] at k2
            have s2 : (q'.t.s.toList == q'.t.s.toList) = true := by rw [bytes_eq]; exact bEq_iff.2 rfl
            clear e0 e1 e2
            clear he
            go_wp2_with fail
            go_quiet (fail)
            go_wp2_with fail
            go_ret
            exact ⟨false, rfl, by simpa using HT.out, Cle.below_drewN hBr _⟩
      · have hje : j = n := by omega
        subst hje
        have HT : Hid (L = M) := getD_ext HL.out (by rw [HN.out]; exact HA.out)
        clear HA
        go_wp2_with fail
        go_ret
        exact ⟨true, rfl, by simpa using HT.out, hBr⟩
  · have t0 : ((L.length : Int) != (M.length : Int)) = true := by rw [bne_iff_ne]; omega
    have HT : Hid (L ≠ M) := fun h => hlen (by rw [h])
    clear hlen
    go_enter Tryz.func64, Tryz.ntmps64
    go_wp2_with fail
    go_ret
    exact ⟨false, rfl, by simpa using HT.out, Below.refl _ _⟩
end Go.Proofs.YtfbgdjcnlnfoaaaGreatDoor

namespace Go.Proofs.YtfbgdjcnlnfoaaaGreatDoor
namespace Cle

def lightS (z : Stt) : Bool := lightX z.x && decide (z.parts.length ≤ 8) && z.parts.all lightX
theorem may_lightS {z : Stt} (h : May z) : lightS z = true := by
  obtain ⟨h1, h2, h3⟩ := may_light h
  unfold lightS
  rw [h1, decide_eq_true h2, List.all_eq_true.2 h3]; rfl
theorem may_iff {z : Stt} : May z ↔ (parseL (textS z)).2.2 = 0 ∧ z = (parseL (textS z)).1 := by
  constructor
  · intro h; rw [may_parse h]; exact ⟨rfl, rfl⟩
  · intro h
    obtain ⟨h1, h2⟩ := h
    obtain ⟨⟨z', a, e⟩, hr⟩ : ∃ r, parseL (textS z) = r := ⟨_, rfl⟩
    rw [hr] at h1 h2
    simp only at h1 h2
    subst h1
    have := parseL_may hr
    rw [h2]; exact this

def dropS (nm : ByteArray) : Stt := ⟨{ Sx.zero with kind := 4, name := nm }, []⟩
theorem drop_textS (nm : ByteArray) : textS (dropS nm) = (⟨#[68, 82, 79, 80, 32]⟩ : ByteArray) ++ nm := by
  show catP [.wd (⟨#[68, 82, 79, 80]⟩ : ByteArray), .bl, .wd nm] = _
  apply ByteArray.ext
  simp [catP, Pc.text]
theorem drop_size {nm : ByteArray} (h : nameOK nm) : (textS (dropS nm)).size ≤ 1000 := by
  rw [drop_textS, ByteArray.size_append]
  have := h.2.2.1
  show 5 + nm.size ≤ 1000
  omega
theorem drop_may {nm : ByteArray} (h : nameOK nm) : May (dropS nm) :=
  ⟨.plain { Sx.zero with kind := 4, name := nm }, _, .plain (.drop nm h), rfl, drop_size h⟩
theorem drop_parse {nm : ByteArray} (h : nameOK nm) : parseL ((⟨#[68, 82, 79, 80, 32]⟩ : ByteArray) ++ nm) = (dropS nm, 0, 0) := by
  rw [← drop_textS]; exact may_parse (drop_may h)

def Pc.wid : Pc → Nat
  | .wd s => (pts s).length
  | .sg _ => 1
  | .tx v => (pts (quote v)).length
  | .nm v => (minusL (decide (v < 0)) ++ dec v.natAbs).length
  | .bl => 1
def Pc.tk (p : Pc) (a : Nat) : List Tk := p.toks.map fun t => ⟨t.1, t.2.1, t.2.2, a⟩
def tksAt : List Pc → Nat → List Tk
  | [], _ => []
  | p :: l, a => p.tk a ++ tksAt l (a + p.wid)
theorem tk_on (p : Pc) (a m : Nat) : p.tk (a + m) = (p.tk a).map (Tk.on m) := by
  unfold Pc.tk; rw [List.map_map]; rfl
theorem tksAt_on : ∀ (l : List Pc) (a m : Nat), tksAt l (a + m) = (tksAt l a).map (Tk.on m)
  | [], _, _ => rfl
  | p :: l, a, m => by
    rw [tksAt, tksAt, List.map_append, ← tk_on, show a + m + p.wid = (a + p.wid) + m by omega, tksAt_on l]
theorem tksAt_app : ∀ (l r : List Pc) (a : Nat), tksAt (l ++ r) a = tksAt l a ++ tksAt r (a + (l.map Pc.wid).sum)
  | [], _, _ => rfl
  | p :: l, r, a => by
    rw [List.cons_append, tksAt, tksAt, tksAt_app l r, List.map_cons, List.sum_cons, List.append_assoc, Nat.add_assoc]
theorem tksAt_fo : ∀ (l : List Pc) (a : Nat), (tksAt l a).map Tk.fo = toksP l
  | [], _ => rfl
  | p :: l, a => by
    rw [tksAt, List.map_append, tksAt_fo l, toksP_cons]
    congr 1
    unfold Pc.tk
    rw [List.map_map]
    exact (List.map_congr_left fun t _ => rfl).trans (List.map_id _)
theorem cat_lxA : ∀ (l : List Pc) (h : Bool), (∀ p ∈ l, p.ok) → nb h l = true → Lx (catP l) (tksAt l 0)
  | [], _, _, _ => Lx.nil
  | p :: l, h, hok, hn => by
    have hok2 : ∀ p ∈ l, p.ok := fun q hq => hok q (List.mem_cons_of_mem _ hq)
    have hp := hok p (List.mem_cons_self ..)
    have hn2 : nb p.hard l = true := by unfold nb at hn; simp at hn; exact hn.2
    have hT := cat_lxA l p.hard hok2 hn2
    rw [tksAt, tksAt_on l 0 p.wid]
    cases p with
    | bl => exact Lx.blank 32 (by decide) hT
    | sg c => exact Lx.sign c hp hT
    | wd s =>
      obtain ⟨h1, h2⟩ := soft_stop hok2 hn2
      exact Lx.word hp.1 h1 hp.2 hT
    | tx v =>
      obtain ⟨h1, h2⟩ := soft_stop hok2 hn2
      exact Lx.text hp.1 hp.2 h2 hT
    | nm v =>
      obtain ⟨h1, h2⟩ := soft_stop hok2 hn2
      obtain ⟨g1, g2⟩ := dec_dig v.natAbs
      unfold Pc.ok at hp
      simp only at hp
      have hv := numV_dec v.natAbs (by omega)
      have := Lx.number (decide (v < 0)) _ g1 g2 h1 _ hv hT
      have e : (if decide (v < 0) = true then -(v.natAbs : Int) else (v.natAbs : Int)) = v := by
        by_cases hneg : v < 0
        · simp [hneg]; omega
        · simp [hneg]; omega
      rw [e] at this
      exact this
theorem Cur.here {X : Tx} {σ : Ps} {L : List To} (h : Cur X σ L) {A : List Tk} {t : Tk} {B : List Tk} (hT : X.T = A ++ t :: B) (hl : L.length = B.length + 1) : X.here σ = t.at_ := by
  have h1 : X.F.length - σ.i = L.length := by rw [← h.2, List.length_drop]
  have h2 : X.F.length = A.length + (B.length + 1) := by unfold Tx.F; rw [List.length_map, hT, List.length_append, List.length_cons]
  have h3 : σ.i = A.length := by omega
  unfold Tx.here
  have : X.T[σ.i]? = some t := by rw [hT, h3, List.getElem?_append_right (Nat.le_refl _), Nat.sub_self]; rfl
  rw [this]
end Cle
end Go.Proofs.YtfbgdjcnlnfoaaaGreatDoor

namespace Go.Proofs.YtfbgdjcnlnfoaaaGreatDoor
open Go.RowKit
open Cle

theorem wpl_stgd {ops : Array Oper} {rest : List Oper} {op : Oper} {a : Act} {w : World} {Q : Exit → Act → World → Prop} {b : Nat} {V : Array Value} {T : TypeId} (hw : Region.wanted op (yielded ops a.tmps) = true) (x : Operand) (ho : op.op = .load 31 x)
    (hx : a.eval x = .pointer (some ⟨b, 0, none⟩)) (hV : V.size = 18) (hb : w.heap[b]? = some (.cells V T (0, 0))) (h : wpList Tryz.prog ops Q rest (a.put op.dst (.agg V)) w) : wpList Tryz.prog ops Q (op :: rest) a w := by
  obtain ⟨d, hu, hd⟩ := Tryz.undSt
  refine wpList_step fun K hK => ?_
  rw [if_pos hw]
  refine wp_load_mid 31 x ho b 0 hx V.toList d (fun j v hv => ?_) hu hd (by rw [show V.toList.length = 18 by simpa using hV]; exact Tryz.sizeSt) (hK _ _ (by simpa using h))
  rw [Nat.zero_add, blk_cell hb]; simpa using hv
set_option maxRecDepth 100000 in
set_option maxHeartbeats 4000000 in
theorem light_no0 {w : World} {x : Sx} {a0 a1 a2 a3 a4 : Option Addr} {n0 n1 n2 n3 n4 k0 k1 k2 k3 k4 : Nat} (t0 : decide ((10 : Int) < (n1 : Int)) = true) :
    Calls Tryz.prog 29 #[.agg (stC x (.slice a0 n0 k0) (.slice a1 n1 k1) (.slice a2 n2 k2) (.slice a3 n3 k3) (.slice a4 n4 k4))] w fun e w' => e = .returned (.bool false) ∧ Below w.heap.size w w' := by
  have hB := (Below.refl w.heap.size w).alloc (Nat.le_refl _) (.cells (stC x (.slice a0 n0 k0) (.slice a1 n1 k1) (.slice a2 n2 k2) (.slice a3 n3 k3) (.slice a4 n4 k4)) 31)
  have hbl : (w.alloc (.cells (stC x (.slice a0 n0 k0) (.slice a1 n1 k1) (.slice a2 n2 k2) (.slice a3 n3 k3) (.slice a4 n4 k4)) 31)).heap[w.heap.size]? = some (.cells (stC x (.slice a0 n0 k0) (.slice a1 n1 k1) (.slice a2 n2 k2) (.slice a3 n3 k3) (.slice a4 n4 k4)) 31 (0, 0)) := blk_new w _
  obtain ⟨c0, c1, c2, c3, c4, c5, c6, c7, c8, c9, c10, c11, c12, c13, c14, c15, c16, c17⟩ := st18 hbl
  clear c0 c1 c2 c3 c4 c5 c6 c7 c8 c9 c14 c15 c16
  have u10 := blk_frozen0 hbl 10
  have u11 := blk_frozen0 hbl 11
  have u12 := blk_frozen0 hbl 12
  have u13 := blk_frozen0 hbl 13
  have u17 := blk_frozen0 hbl 17
  clear hbl
  go_enter Tryz.func29, Tryz.ntmps29
  go_wp2_with fail
  go_ret
  exact ⟨rfl, hB⟩
set_option maxRecDepth 100000 in
set_option maxHeartbeats 4000000 in
theorem light_no1 {w : World} {x : Sx} {a0 a1 a2 a3 a4 : Option Addr} {n0 n1 n2 n3 n4 k0 k1 k2 k3 k4 : Nat} (t0 : decide ((10 : Int) < (n1 : Int)) = false) (t1 : decide ((10 : Int) < (n2 : Int)) = true) :
    Calls Tryz.prog 29 #[.agg (stC x (.slice a0 n0 k0) (.slice a1 n1 k1) (.slice a2 n2 k2) (.slice a3 n3 k3) (.slice a4 n4 k4))] w fun e w' => e = .returned (.bool false) ∧ Below w.heap.size w w' := by
  have hB := (Below.refl w.heap.size w).alloc (Nat.le_refl _) (.cells (stC x (.slice a0 n0 k0) (.slice a1 n1 k1) (.slice a2 n2 k2) (.slice a3 n3 k3) (.slice a4 n4 k4)) 31)
  have hbl : (w.alloc (.cells (stC x (.slice a0 n0 k0) (.slice a1 n1 k1) (.slice a2 n2 k2) (.slice a3 n3 k3) (.slice a4 n4 k4)) 31)).heap[w.heap.size]? = some (.cells (stC x (.slice a0 n0 k0) (.slice a1 n1 k1) (.slice a2 n2 k2) (.slice a3 n3 k3) (.slice a4 n4 k4)) 31 (0, 0)) := blk_new w _
  obtain ⟨c0, c1, c2, c3, c4, c5, c6, c7, c8, c9, c10, c11, c12, c13, c14, c15, c16, c17⟩ := st18 hbl
  clear c0 c1 c2 c3 c4 c5 c6 c7 c8 c9 c14 c15 c16
  have u10 := blk_frozen0 hbl 10
  have u11 := blk_frozen0 hbl 11
  have u12 := blk_frozen0 hbl 12
  have u13 := blk_frozen0 hbl 13
  have u17 := blk_frozen0 hbl 17
  clear hbl
  go_enter Tryz.func29, Tryz.ntmps29
  go_wp2_with fail
  go_ret
  exact ⟨rfl, hB⟩
set_option maxRecDepth 100000 in
set_option maxHeartbeats 4000000 in
theorem light_no2 {w : World} {x : Sx} {a0 a1 a2 a3 a4 : Option Addr} {n0 n1 n2 n3 n4 k0 k1 k2 k3 k4 : Nat} (t0 : decide ((10 : Int) < (n1 : Int)) = false) (t1 : decide ((10 : Int) < (n2 : Int)) = false) (t2 : decide ((2 : Int) < (n3 : Int)) = true) :
    Calls Tryz.prog 29 #[.agg (stC x (.slice a0 n0 k0) (.slice a1 n1 k1) (.slice a2 n2 k2) (.slice a3 n3 k3) (.slice a4 n4 k4))] w fun e w' => e = .returned (.bool false) ∧ Below w.heap.size w w' := by
  have hB := (Below.refl w.heap.size w).alloc (Nat.le_refl _) (.cells (stC x (.slice a0 n0 k0) (.slice a1 n1 k1) (.slice a2 n2 k2) (.slice a3 n3 k3) (.slice a4 n4 k4)) 31)
  have hbl : (w.alloc (.cells (stC x (.slice a0 n0 k0) (.slice a1 n1 k1) (.slice a2 n2 k2) (.slice a3 n3 k3) (.slice a4 n4 k4)) 31)).heap[w.heap.size]? = some (.cells (stC x (.slice a0 n0 k0) (.slice a1 n1 k1) (.slice a2 n2 k2) (.slice a3 n3 k3) (.slice a4 n4 k4)) 31 (0, 0)) := blk_new w _
  obtain ⟨c0, c1, c2, c3, c4, c5, c6, c7, c8, c9, c10, c11, c12, c13, c14, c15, c16, c17⟩ := st18 hbl
  clear c0 c1 c2 c3 c4 c5 c6 c7 c8 c9 c14 c15 c16
  have u10 := blk_frozen0 hbl 10
  have u11 := blk_frozen0 hbl 11
  have u12 := blk_frozen0 hbl 12
  have u13 := blk_frozen0 hbl 13
  have u17 := blk_frozen0 hbl 17
  clear hbl
  go_enter Tryz.func29, Tryz.ntmps29
  go_wp2_with fail
  go_ret
  exact ⟨rfl, hB⟩
set_option maxRecDepth 100000 in
set_option maxHeartbeats 4000000 in
theorem light_no3 {w : World} {x : Sx} {a0 a1 a2 a3 a4 : Option Addr} {n0 n1 n2 n3 n4 k0 k1 k2 k3 k4 : Nat} (t0 : decide ((10 : Int) < (n1 : Int)) = false) (t1 : decide ((10 : Int) < (n2 : Int)) = false) (t2 : decide ((2 : Int) < (n3 : Int)) = false) (t3 : decide ((10 : Int) < (n0 : Int)) = true) :
    Calls Tryz.prog 29 #[.agg (stC x (.slice a0 n0 k0) (.slice a1 n1 k1) (.slice a2 n2 k2) (.slice a3 n3 k3) (.slice a4 n4 k4))] w fun e w' => e = .returned (.bool false) ∧ Below w.heap.size w w' := by
  have hB := (Below.refl w.heap.size w).alloc (Nat.le_refl _) (.cells (stC x (.slice a0 n0 k0) (.slice a1 n1 k1) (.slice a2 n2 k2) (.slice a3 n3 k3) (.slice a4 n4 k4)) 31)
  have hbl : (w.alloc (.cells (stC x (.slice a0 n0 k0) (.slice a1 n1 k1) (.slice a2 n2 k2) (.slice a3 n3 k3) (.slice a4 n4 k4)) 31)).heap[w.heap.size]? = some (.cells (stC x (.slice a0 n0 k0) (.slice a1 n1 k1) (.slice a2 n2 k2) (.slice a3 n3 k3) (.slice a4 n4 k4)) 31 (0, 0)) := blk_new w _
  obtain ⟨c0, c1, c2, c3, c4, c5, c6, c7, c8, c9, c10, c11, c12, c13, c14, c15, c16, c17⟩ := st18 hbl
  clear c0 c1 c2 c3 c4 c5 c6 c7 c8 c9 c14 c15 c16
  have u10 := blk_frozen0 hbl 10
  have u11 := blk_frozen0 hbl 11
  have u12 := blk_frozen0 hbl 12
  have u13 := blk_frozen0 hbl 13
  have u17 := blk_frozen0 hbl 17
  clear hbl
  go_enter Tryz.func29, Tryz.ntmps29
  go_wp2_with fail
  go_ret
  exact ⟨rfl, hB⟩
set_option maxRecDepth 100000 in
set_option maxHeartbeats 4000000 in
theorem light_no4 {w : World} {x : Sx} {a0 a1 a2 a3 a4 : Option Addr} {n0 n1 n2 n3 n4 k0 k1 k2 k3 k4 : Nat} (t0 : decide ((10 : Int) < (n1 : Int)) = false) (t1 : decide ((10 : Int) < (n2 : Int)) = false) (t2 : decide ((2 : Int) < (n3 : Int)) = false) (t3 : decide ((10 : Int) < (n0 : Int)) = false) (t4 : decide ((8 : Int) < (n4 : Int)) = true) :
    Calls Tryz.prog 29 #[.agg (stC x (.slice a0 n0 k0) (.slice a1 n1 k1) (.slice a2 n2 k2) (.slice a3 n3 k3) (.slice a4 n4 k4))] w fun e w' => e = .returned (.bool false) ∧ Below w.heap.size w w' := by
  have hB := (Below.refl w.heap.size w).alloc (Nat.le_refl _) (.cells (stC x (.slice a0 n0 k0) (.slice a1 n1 k1) (.slice a2 n2 k2) (.slice a3 n3 k3) (.slice a4 n4 k4)) 31)
  have hbl : (w.alloc (.cells (stC x (.slice a0 n0 k0) (.slice a1 n1 k1) (.slice a2 n2 k2) (.slice a3 n3 k3) (.slice a4 n4 k4)) 31)).heap[w.heap.size]? = some (.cells (stC x (.slice a0 n0 k0) (.slice a1 n1 k1) (.slice a2 n2 k2) (.slice a3 n3 k3) (.slice a4 n4 k4)) 31 (0, 0)) := blk_new w _
  obtain ⟨c0, c1, c2, c3, c4, c5, c6, c7, c8, c9, c10, c11, c12, c13, c14, c15, c16, c17⟩ := st18 hbl
  clear c0 c1 c2 c3 c4 c5 c6 c7 c8 c9 c14 c15 c16
  have u10 := blk_frozen0 hbl 10
  have u11 := blk_frozen0 hbl 11
  have u12 := blk_frozen0 hbl 12
  have u13 := blk_frozen0 hbl 13
  have u17 := blk_frozen0 hbl 17
  clear hbl
  go_enter Tryz.func29, Tryz.ntmps29
  go_wp2_with fail
  go_ret
  exact ⟨rfl, hB⟩
set_option maxRecDepth 100000 in
set_option maxHeartbeats 4000000 in
theorem light_yes {w : World} {x : Sx} {a0 a1 a2 a3 a4 : Option Addr} {n0 n1 n2 n3 n4 k0 k1 k2 k3 k4 : Nat} (t0 : decide ((10 : Int) < (n1 : Int)) = false) (t1 : decide ((10 : Int) < (n2 : Int)) = false) (t2 : decide ((2 : Int) < (n3 : Int)) = false) (t3 : decide ((10 : Int) < (n0 : Int)) = false) (t4 : decide ((8 : Int) < (n4 : Int)) = false) {b : Bool} (hc : ∀ w', Below w.heap.size w w' → Calls Tryz.prog 46 #[.slice a4 n4 k4, .func (.func 47) #[] #[]] w' fun e w'' => e = .returned (.bool b) ∧ Below w'.heap.size w' w'') :
    Calls Tryz.prog 29 #[.agg (stC x (.slice a0 n0 k0) (.slice a1 n1 k1) (.slice a2 n2 k2) (.slice a3 n3 k3) (.slice a4 n4 k4))] w fun e w' => e = .returned (.bool (!b)) ∧ Below w.heap.size w w' := by
  have hB := (Below.refl w.heap.size w).alloc (Nat.le_refl _) (.cells (stC x (.slice a0 n0 k0) (.slice a1 n1 k1) (.slice a2 n2 k2) (.slice a3 n3 k3) (.slice a4 n4 k4)) 31)
  have hbl : (w.alloc (.cells (stC x (.slice a0 n0 k0) (.slice a1 n1 k1) (.slice a2 n2 k2) (.slice a3 n3 k3) (.slice a4 n4 k4)) 31)).heap[w.heap.size]? = some (.cells (stC x (.slice a0 n0 k0) (.slice a1 n1 k1) (.slice a2 n2 k2) (.slice a3 n3 k3) (.slice a4 n4 k4)) 31 (0, 0)) := blk_new w _
  obtain ⟨c0, c1, c2, c3, c4, c5, c6, c7, c8, c9, c10, c11, c12, c13, c14, c15, c16, c17⟩ := st18 hbl
  clear c0 c1 c2 c3 c4 c5 c6 c7 c8 c9 c14 c15 c16
  have u10 := blk_frozen0 hbl 10
  have u11 := blk_frozen0 hbl 11
  have u12 := blk_frozen0 hbl 12
  have u13 := blk_frozen0 hbl 13
  have u17 := blk_frozen0 hbl 17
  clear hbl
  have h1 := hc _ hB
  clear hc
  go_enter Tryz.func29, Tryz.ntmps29
  go_wp2_with fail
  refine h1.mono ?_; rintro e w2 ⟨rfl, hb2⟩
  go_wp2_with fail
  go_ret
  exact ⟨rfl, hB.trans (hb2.mono hB.size)⟩

set_option maxRecDepth 100000 in
set_option maxHeartbeats 4000000 in
theorem idx_any {w : World} {u : Value} {L : List Pw} {g : Pw → Bool} (hl : L.length ≤ 100000) (hr : Rd w u L.length (flatW L))
    (hf : ∀ q ∈ L, ∀ w', Below w.heap.size w w' → Calls Tryz.prog 47 #[.agg q.arr] w' fun e w'' => e = .returned (.bool (g q)) ∧ Below w'.heap.size w' w'') :
    Calls Tryz.prog 94 #[u, .func (.func 47) #[] #[]] w fun e w' => ((∃ k : Nat, e = .returned (.int .i64 k) ∧ L.any g = true) ∨ (e = .returned (.int .i64 (-1)) ∧ L.any g = false)) ∧ Below w.heap.size w w' := by
  obtain ⟨a, cap, rfl, hx0⟩ := hr
  go_enter Tryz.func94, Tryz.ntmps94
  go_wp2_with fail
  go_loopw [8] (fun i wr => ∃ j : Nat, i = .int .i64 j ∧ j ≤ L.length ∧ Below w.heap.size w wr ∧ Hid ((L.take j).any g = false)) (fun i _ => L.length - (intOf i).toNat)
  case atStart => exact ⟨0, rfl, Nat.zero_le _, Below.refl _ _, rfl⟩
  case round =>
    obtain ⟨j, rfl, hj, hBr, HA⟩ := hrel
    have hsz := hBr.size
    by_cases hjl : j < L.length
    · have p0 : (j : Int) < (L.length : Int) := by omega
      have p1 : (0 : Int) ≤ (j : Int) := by omega
      have HJ := Lib.hid (show j + 1 ≤ L.length from hjl)
      obtain ⟨ga, o, rfl, hx⟩ := hx0 (by omega)
      obtain ⟨q, hq⟩ : ∃ q, L[j]? = some q := ⟨_, List.getElem?_eq_getElem hjl⟩
      have HQ := Lib.hid hq
      have hR : wr.rangeAt ga (o + j * 18) q.arr.toList := fun i v hv => by
        have hi : i < 18 := by have := (List.getElem?_eq_some_iff.1 hv).1; simp [Pw.arr] at this; omega
        have := hx (j * 18 + i) v (by rw [flatW_at hq i hi]; exact hv)
        rw [Nat.add_assoc]
        exact blk_cellB hBr this
      have hc := hf q (List.mem_of_getElem? hq) _ hBr
      have HT : Hid ((L.take (j + 1)).any g = g q) := by
        obtain ⟨hj2, rfl⟩ := List.getElem?_eq_some_iff.1 hq
        show _ = _
        rw [List.take_succ_eq_append_getElem hj2, List.any_append, HA.out]; simp
      clear hq hx
      cases hg : g q with
      | false =>
        rw [hg] at hc HT
        have HG := Lib.hid hg
        clear hg
        obtain ⟨x, tc, c, s, wv, pv⟩ := q
        go_wp2_with (refine wpl_ldm rfl _ rfl rfl rfl hR ?_)
        refine hc.mono ?_; rintro e w2 ⟨rfl, hb2⟩
        have hB2 := hBr.trans (hb2.mono hsz)
        go_wp2_with fail
        go_roundw
        case rel => exact ⟨j + 1, by go_num, HJ.out, hB2, HT⟩
        case measure => have hjj := HJ.out; simp [intOf]; omega
      | true =>
        rw [hg] at hc HT
        have HY : Hid (L.any g = true) := List.any_eq_true.2 ⟨q, List.mem_of_getElem? HQ.out, hg⟩
        clear hg
        obtain ⟨x, tc, c, s, wv, pv⟩ := q
        go_wp2_with (refine wpl_ldm rfl _ rfl rfl rfl hR ?_)
        refine hc.mono ?_; rintro e w2 ⟨rfl, hb2⟩
        have hB2 := hBr.trans (hb2.mono hsz)
        go_wp2_with fail
        go_ret
        exact ⟨Or.inl ⟨j, rfl, HY.out⟩, hB2⟩
    · have hje : j = L.length := by omega
      subst hje
      have HA2 : Hid (L.any g = false) := by show _ = _; have := HA.out; rwa [List.take_length] at this
      clear HA
      go_wp2_with fail
      go_ret
      exact ⟨Or.inr ⟨rfl, HA2.out⟩, hBr⟩
set_option maxRecDepth 100000 in
set_option maxHeartbeats 4000000 in
theorem cfn_any {w : World} {u : Value} {L : List Pw} {g : Pw → Bool} (hl : L.length ≤ 100000) (hr : Rd w u L.length (flatW L))
    (hf : ∀ q ∈ L, ∀ w', Below w.heap.size w w' → Calls Tryz.prog 47 #[.agg q.arr] w' fun e w'' => e = .returned (.bool (g q)) ∧ Below w'.heap.size w' w'') :
    Calls Tryz.prog 46 #[u, .func (.func 47) #[] #[]] w fun e w' => e = .returned (.bool (L.any g)) ∧ Below w.heap.size w w' := by
  have hi := idx_any hl hr hf
  clear hr hf
  obtain ⟨r, hr⟩ : ∃ r, L.any g = r := ⟨_, rfl⟩
  rw [hr] at hi ⊢
  clear hr
  go_enter Tryz.func46, Tryz.ntmps46
  go_wp2_with fail
  refine hi.mono ?_; rintro e w2 ⟨⟨k, rfl, rfl⟩ | ⟨rfl, rfl⟩, hb2⟩
  · have p1 : (0 : Int) ≤ (k : Int) := by omega
    go_wp2_with fail
    go_ret
    exact ⟨rfl, hb2⟩
  · go_wp2_with fail
    go_ret
    exact ⟨rfl, hb2⟩
set_option maxRecDepth 100000 in
set_option maxHeartbeats 4000000 in
theorem light1_yes {w : World} {x : Sx} {tc c s wv : Value} {a4 : Option Addr} {n4 k4 : Nat}  (_t : decide ((0 : Int) < (n4 : Int)) = true) (_t2 : decide (0 < n4) = true) (t3 : 0 < n4) :
    Calls Tryz.prog 47 #[.agg (stC x tc c s wv (.slice a4 n4 k4))] w fun e w' => e = .returned (.bool true) ∧ Below w.heap.size w w' := by
  have hB := (Below.refl w.heap.size w).alloc (Nat.le_refl _) (.cells (stC x tc c s wv (.slice a4 n4 k4)) 31)
  have hbl : (w.alloc (.cells (stC x tc c s wv (.slice a4 n4 k4)) 31)).heap[w.heap.size]? = some (.cells (stC x tc c s wv (.slice a4 n4 k4)) 31 (0, 0)) := blk_new w _
  obtain ⟨c0, c1, c2, c3, c4, c5, c6, c7, c8, c9, c10, c11, c12, c13, c14, c15, c16, c17⟩ := st18 hbl
  clear c0 c1 c2 c3 c4 c5 c6 c7 c8 c9 c10 c11 c12 c13 c14 c15 c16
  have u17 := blk_frozen0 hbl 17
  go_enter Tryz.func47, Tryz.ntmps47
  go_wp2_with fail
  go_ret
  exact ⟨rfl, hB⟩
set_option maxRecDepth 100000 in
set_option maxHeartbeats 4000000 in
theorem light1_no {w : World} {x : Sx} {tc c s wv : Value} {a4 : Option Addr} {n4 k4 : Nat} {b : Bool} (hc : ∀ w', Below w.heap.size w w' → Calls Tryz.prog 29 #[.agg (stC x tc c s wv (.slice a4 n4 k4))] w' fun e w'' => e = .returned (.bool b) ∧ Below w'.heap.size w' w'') (hn : n4 = 0) :
    Calls Tryz.prog 47 #[.agg (stC x tc c s wv (.slice a4 n4 k4))] w fun e w' => e = .returned (.bool (!b)) ∧ Below w.heap.size w w' := by
  have hB := (Below.refl w.heap.size w).alloc (Nat.le_refl _) (.cells (stC x tc c s wv (.slice a4 n4 k4)) 31)
  have hbl : (w.alloc (.cells (stC x tc c s wv (.slice a4 n4 k4)) 31)).heap[w.heap.size]? = some (.cells (stC x tc c s wv (.slice a4 n4 k4)) 31 (0, 0)) := blk_new w _
  obtain ⟨c0, c1, c2, c3, c4, c5, c6, c7, c8, c9, c10, c11, c12, c13, c14, c15, c16, c17⟩ := st18 hbl
  clear c0 c1 c2 c3 c4 c5 c6 c7 c8 c9 c10 c11 c12 c13 c14 c15 c16
  have u17 := blk_frozen0 hbl 17
  have h1 := hc _ hB
  clear hc
  subst hn
  go_enter Tryz.func47, Tryz.ntmps47
  go_wp2_with (refine wpl_stgd (by go_simp) _ rfl rfl rfl hbl ?_)
  refine h1.mono ?_; rintro e w2 ⟨rfl, hb2⟩
  go_wp2_with fail
  go_ret
  exact ⟨rfl, hB.trans (hb2.mono hB.size)⟩

theorem light_of {w : World} {x : Sx} {tc c s wv pv : Value} {n : Nat} {ys : List Value} {b : Bool} (hin : StIn w x tc c s wv) (hp : Rd w pv n ys)
    (hc : lightX x = true → n ≤ 8 → ∀ w', Below w.heap.size w w' → Calls Tryz.prog 46 #[pv, .func (.func 47) #[] #[]] w' fun e w'' => e = .returned (.bool b) ∧ Below w'.heap.size w' w'') :
    Calls Tryz.prog 29 #[.agg (stC x tc c s wv pv)] w fun e w' => e = .returned (.bool (lightX x && decide (n ≤ 8) && !b)) ∧ Below w.heap.size w w' := by
  obtain ⟨⟨a0, k0, rfl, _⟩, ⟨a1, k1, rfl, _⟩, ⟨a2, k2, rfl, _⟩, ⟨a3, k3, rfl, _⟩⟩ := hin
  obtain ⟨a4, k4, rfl, _⟩ := hp
  unfold lightX at hc ⊢
  have no : ¬ (x.cols.length ≤ 10 ∧ x.sets.length ≤ 10 ∧ x.wher.length ≤ 2 ∧ x.tcols.length ≤ 10) ∨ ¬ n ≤ 8 → (decide (x.cols.length ≤ 10 ∧ x.sets.length ≤ 10 ∧ x.wher.length ≤ 2 ∧ x.tcols.length ≤ 10) && decide (n ≤ 8) && !b) = false := by
    rintro (h | h)
    · rw [decide_eq_false h]; rfl
    · rw [decide_eq_false h, Bool.and_false, Bool.false_and]
  by_cases h0 : 10 < x.cols.length
  · rw [no (Or.inl (by omega))]
    exact light_no0 (decide_eq_true (by omega))
  have f0 : decide ((10 : Int) < (x.cols.length : Int)) = false := decide_eq_false (by omega)
  by_cases h1 : 10 < x.sets.length
  · rw [no (Or.inl (by omega))]
    exact light_no1 f0 (decide_eq_true (by omega))
  have f1 : decide ((10 : Int) < (x.sets.length : Int)) = false := decide_eq_false (by omega)
  by_cases h2 : 2 < x.wher.length
  · rw [no (Or.inl (by omega))]
    exact light_no2 f0 f1 (decide_eq_true (by omega))
  have f2 : decide ((2 : Int) < (x.wher.length : Int)) = false := decide_eq_false (by omega)
  by_cases h3 : 10 < x.tcols.length
  · rw [no (Or.inl (by omega))]
    exact light_no3 f0 f1 f2 (decide_eq_true (by omega))
  have f3 : decide ((10 : Int) < (x.tcols.length : Int)) = false := decide_eq_false (by omega)
  by_cases h4 : 8 < n
  · rw [no (Or.inr (by omega))]
    exact light_no4 f0 f1 f2 f3 (decide_eq_true (by omega))
  have f4 : decide ((8 : Int) < (n : Int)) = false := decide_eq_false (by omega)
  have hy : x.cols.length ≤ 10 ∧ x.sets.length ≤ 10 ∧ x.wher.length ≤ 2 ∧ x.tcols.length ≤ 10 := by omega
  rw [decide_eq_true hy, decide_eq_true (show n ≤ 8 by omega)]
  exact light_yes f0 f1 f2 f3 f4 (hc (decide_eq_true hy) (by omega))
theorem all_any : ∀ L : List Pw, L.all (lightX ∘ Pw.x) = !(L.any fun q => !lightX q.x)
  | [] => rfl
  | q :: l => by rw [List.all_cons, List.any_cons, Bool.not_or, Bool.not_not, all_any l]; rfl
theorem light0_any {w : World} {p : Pw} (h : StIn w p.x p.tc p.c p.s p.wv) (hp : Rd w p.pv 0 []) :
    Calls Tryz.prog 29 #[.agg p.arr] w fun e w' => e = .returned (.bool (lightX p.x)) ∧ Below w.heap.size w w' := by
  have := light_of (b := false) h hp (fun _ _ w' hb => cfn_any (L := []) (g := fun _ => false) (by decide) (hp.below hb) (fun q hq => absurd hq (by simp)))
  simp only [Bool.not_false, Bool.and_true, Nat.zero_le, decide_true] at this
  exact this
theorem light1_any {w : World} {p : Pw} {n : Nat} {ys : List Value} (h : StIn w p.x p.tc p.c p.s p.wv) (hp : Rd w p.pv n ys) (hn : n = 0 → ys = []) :
    Calls Tryz.prog 47 #[.agg p.arr] w fun e w' => e = .returned (.bool (decide (0 < n) || !lightX p.x)) ∧ Below w.heap.size w w' := by
  obtain ⟨x, tc, c, s, wv, pv⟩ := p
  by_cases h0 : 0 < n
  · obtain ⟨a4, k4, rfl, _⟩ := hp
    rw [decide_eq_true h0]
    exact light1_yes (decide_eq_true (by omega)) (decide_eq_true h0) h0
  · have e : n = 0 := by omega
    subst e
    have hy := hn rfl
    subst hy
    have hp' := hp
    obtain ⟨a4, k4, rfl, _⟩ := hp'
    rw [decide_eq_false h0, Bool.false_or]
    exact light1_no (b := lightX x) (fun w' hb => light0_any (p := ⟨x, tc, c, s, wv, .slice a4 0 k4⟩) (h.below hb) (hp.below hb)) rfl
theorem light_any {w : World} {p : Pw} {L : List Pw} (h : StIn w p.x p.tc p.c p.s p.wv) (hp : Rd w p.pv L.length (flatW L)) (hq : ∀ q ∈ L, StIn w q.x q.tc q.c q.s q.wv ∧ Rd w q.pv 0 []) :
    Calls Tryz.prog 29 #[.agg p.arr] w fun e w' => e = .returned (.bool (lightS ⟨p.x, L.map Pw.x⟩)) ∧ Below w.heap.size w w' := by
  have hb : lightS ⟨p.x, L.map Pw.x⟩ = (lightX p.x && decide (L.length ≤ 8) && !(L.any fun q => !lightX q.x)) := by
    unfold lightS
    simp only [List.length_map, List.all_map]
    congr 1
    exact all_any L
  rw [hb]
  refine light_of h hp (fun _ hn w' hb => cfn_any (by omega) (hp.below hb) (fun q hq' w'' hb' => ?_))
  have := light1_any (p := q) (w := w'') ((hq q hq').1.below (hb.trans (hb'.mono hb.size))) ((hq q hq').2.below (hb.trans (hb'.mono hb.size))) (fun _ => rfl)
  simp only [Nat.lt_irrefl, decide_false, Bool.false_or] at this
  exact this
end Go.Proofs.YtfbgdjcnlnfoaaaGreatDoor

namespace Go.Proofs.YtfbgdjcnlnfoaaaGreatDoor
open Go.RowKit
open Cle

theorem tmOK_of {t : Tm} (h : termOK t) : tmOK t := by
  rcases h with ⟨h1, _, h3, h4⟩ | ⟨h1, h2, h3, h4⟩
  · exact ⟨by rw [h1]; exact ⟨by decide, by decide⟩, by rw [h4]; exact ⟨by decide, by decide⟩, by omega⟩
  · refine ⟨by rw [h1]; exact ⟨by decide, by decide⟩, ⟨by omega, by omega⟩, ?_⟩
    rw [h2]; exact Nat.zero_le _
theorem prsOK_of {L : List Pr} {n : Nat} (hn : n ≤ 100) (h : ∀ p ∈ L, pairOK p) (hl : L.length ≤ n) : prsOK L :=
  ⟨by omega, fun q hq => ⟨tmOK_of (h q hq).2, by have := (h q hq).1.2.2.1; omega⟩⟩
theorem prsOK_nil : prsOK [] := ⟨by decide, by simp⟩
theorem nil90 {α : Type} {P : α → Prop} : ([] : List α).length ≤ 90 ∧ ∀ q ∈ ([] : List α), P q := ⟨Nat.zero_le _, fun _ h => nomatch h⟩
theorem I64_zero : I64 0 := ⟨by decide, by decide⟩
theorem I64_of {n : Int} (h : countOK n) : I64 n := ⟨by have := h.1; omega, by have := h.2; omega⟩
theorem usingOK_of {b : Bool} {stamp ttl : Int} (h : usingOK b stamp ttl) : I64 stamp ∧ I64 ttl := by
  refine ⟨?_, ?_⟩
  · rcases h.1 with rfl | h1
    · exact I64_zero
    · exact I64_of h1
  · rcases h.2 with rfl | h1
    · exact I64_zero
    · exact I64_of h1.2
theorem nm_small {s : ByteArray} (h : nameOK s) : s.size ≤ 1000000 := by have := h.2.2.1; omega
theorem cols_of {l : List ByteArray} {most : Nat} (hm : most ≤ 90) (h : colsOK most l) : l.length ≤ 90 ∧ ∀ q ∈ l, q.size ≤ 1000000 := ⟨by have := h.2.2; omega, fun q hq => nm_small (h.1 q hq)⟩
theorem b0_small (n : Nat) : (⟨#[]⟩ : ByteArray).size ≤ n := Nat.zero_le _
theorem zip_mem : ∀ {c : List ByteArray} {v : List Tm} {p : Pr}, p ∈ List.zipWith Pr.mk c v → p.name ∈ c ∧ p.t ∈ v
  | [], _, _, h => absurd h (by simp)
  | _ :: _, [], _, h => absurd h (by simp)
  | a :: c, b :: v, p, h => by
    rw [List.zipWith_cons_cons] at h
    rcases List.mem_cons.1 h with rfl | h
    · exact ⟨List.mem_cons_self .., List.mem_cons_self ..⟩
    · obtain ⟨h1, h2⟩ := zip_mem h
      exact ⟨List.mem_cons_of_mem _ h1, List.mem_cons_of_mem _ h2⟩
theorem Cle.GC.st {x : Sx} {L : List To} (h : GC x L) : StOK x := by
  cases h with
  | insert o c v a b h =>
    obtain ⟨h1, h2, h3, h4, h5, h6⟩ := h
    obtain ⟨u1, u2⟩ := usingOK_of h6
    exact ⟨b0_small _, nm_small h1, b0_small _, b0_small _, b0_small _, nil90, nil90, prsOK_of (n := 10) (by decide) (fun p hp => ⟨h3.1 _ (zip_mem hp).1, h5 _ (zip_mem hp).2⟩) (by show (List.zipWith Pr.mk c v).length ≤ 10; rw [List.length_zipWith]; have := h3.2.2; omega), prsOK_nil, Nat.zero_le _, u1, u2, I64_zero⟩
  | update o a b c v h =>
    obtain ⟨h1, h2, ⟨h3, h4, h5, h6⟩, h7, h8⟩ := h
    obtain ⟨u1, u2⟩ := usingOK_of h2
    exact ⟨b0_small _, nm_small h1, b0_small _, b0_small _, b0_small _, nil90, nil90, prsOK_of (n := 8) (by decide) h4 h6, prsOK_of (n := 2) (by decide) h7 (by show v.length ≤ 2; omega), by show v.length ≤ 90; omega, u1, u2, I64_zero⟩
  | remove o a b c h =>
    obtain ⟨h1, h2, h3, h7, h8⟩ := h
    obtain ⟨u1, u2⟩ := usingOK_of h3
    exact ⟨b0_small _, nm_small h2, b0_small _, b0_small _, b0_small _, nil90, cols_of (by decide) h1, prsOK_nil, prsOK_of (n := 2) (by decide) h7 (by show c.length ≤ 2; omega), by show c.length ≤ 90; omega, u1, I64_zero, I64_zero⟩
theorem Cle.GP.st {x : Sx} {L : List To} (h : GP x L) : StOK x := by
  cases h with
  | ask o c v a h =>
    obtain ⟨h1, h2, ⟨h7, h8⟩, h9⟩ := h
    refine ⟨b0_small _, nm_small h2, b0_small _, b0_small _, b0_small _, nil90, cols_of (by decide) h1, prsOK_nil, prsOK_of (n := 2) (by decide) h7 (by show v.length ≤ 2; omega), by show v.length ≤ 90; omega, I64_zero, I64_zero, ?_⟩
    rcases h9 with rfl | h9
    · exact I64_zero
    · exact I64_of h9
  | view o c v a p q h =>
    obtain ⟨h1, h2, h3, h4, h5, h6⟩ := h
    have hz : tmOK Tm.zero := ⟨I64_zero, I64_zero, b0_small _⟩
    refine ⟨nm_small h1, nm_small h3, nm_small h4, b0_small _, b0_small _, nil90, cols_of (by decide) h2, prsOK_nil, ⟨(show (2 : Nat) ≤ 100 by decide), ?_⟩, (show (2 : Nat) ≤ 90 by decide), I64_zero, I64_zero, I64_zero⟩
    intro r hr
    rcases List.mem_cons.1 hr with rfl | hr
    · exact ⟨hz, nm_small h5⟩
    · rcases List.mem_cons.1 hr with rfl | hr
      · exact ⟨hz, nm_small h6⟩
      · cases hr
  | index o c v h => exact ⟨nm_small h.1, nm_small h.2.1, nm_small h.2.2, b0_small _, b0_small _, nil90, nil90, prsOK_nil, prsOK_nil, Nat.zero_le _, I64_zero, I64_zero, I64_zero⟩
  | drop o h => exact ⟨nm_small h, b0_small _, b0_small _, b0_small _, b0_small _, nil90, nil90, prsOK_nil, prsOK_nil, Nat.zero_le _, I64_zero, I64_zero, I64_zero⟩
  | table o c v a h =>
    obtain ⟨p, q, D, hp, hq, e0, _, ok⟩ := table_canon h
    rw [e0]
    have hn := ok.2.1
    have hl := ok.2.2.2.1
    exact ⟨nm_small ok.1, b0_small _, b0_small _, nm_small (hn p (List.mem_cons_self ..)).1, nm_small (hn q (List.mem_cons_of_mem _ (List.mem_cons_self ..))).1, ⟨by show D.length ≤ 90; simp at hl; omega, fun r hr => nm_small (hn r (List.mem_cons_of_mem _ (List.mem_cons_of_mem _ hr))).1⟩, nil90, prsOK_nil, prsOK_nil, Nat.zero_le _, I64_zero, I64_zero, I64_zero⟩
theorem zero_st (k : Int) : StOK { Sx.zero with kind := k } := ⟨b0_small _, b0_small _, b0_small _, b0_small _, b0_small _, nil90, nil90, prsOK_nil, prsOK_nil, Nat.zero_le _, I64_zero, I64_zero, I64_zero⟩
theorem Cle.GB.st {l : List Sx} {L : List To} (h : GB l L) : ∀ y ∈ l, StOK y := by
  induction h with
  | nil => simp
  | cons hx _ ih =>
    intro y hy
    rcases List.mem_cons.1 hy with rfl | hy
    · exact hx.st
    · exact ih y hy
theorem Cle.GN.st {nd : Tx.Nd} {L : List To} (h : GN nd L) : StOK (ndS nd).x ∧ (∀ y ∈ (ndS nd).parts, StOK y) ∧ (ndS nd).parts.length ≤ 8 := by
  cases h with
  | plain h => exact ⟨h.st, (fun _ h => nomatch h), Nat.zero_le _⟩
  | change h => exact ⟨h.st, (fun _ h => nomatch h), Nat.zero_le _⟩
  | batch h h1 h2 => exact ⟨zero_st 9, h.st, h2⟩
def NdIn (w : World) (base : Nat) (nd : Tx.Nd) (v : Value) : Prop :=
  match nd with
  | .plain x => ∃ tc c s wv, v = .iface 124 (.agg (stC x tc c s wv vnil)) ∧ StRows w base x tc c s wv
  | .change x => ∃ tc c s wv, v = .iface 156 (.agg (stC x tc c s wv vnil)) ∧ StRows w base x tc c s wv
  | .batch l => ∃ (L : List Pv) (a : Option Addr) (cap : Nat), L.map Pv.x = l ∧ v = .iface 161 (.agg #[.slice a L.length cap]) ∧ w.ownsRow base 71 1 (.slice a L.length cap) L.length (L.map Pv.val) ∧ PvRows w base L
theorem GaveNd_ex {K : PK} {w : World} {nd : Tx.Nd} {σ : Ps} {e : Ending} {w' : World} (h : GaveNd K w nd σ e w') : ∃ v, e = .returned v ∧ Did K w σ w' ∧ NdIn w' w.heap.size nd v := by
  cases nd with
  | plain x => obtain ⟨tc, c, s, wv, rfl, hd, hr⟩ := h; exact ⟨_, rfl, hd, tc, c, s, wv, rfl, hr⟩
  | change x => obtain ⟨tc, c, s, wv, rfl, hd, hr⟩ := h; exact ⟨_, rfl, hd, tc, c, s, wv, rfl, hr⟩
  | batch l => obtain ⟨L, a, cap, hL, rfl, hd, hr, hp⟩ := h; exact ⟨_, rfl, hd, L, a, cap, hL, rfl, hr, hp⟩
theorem NdIn.map {w w' : World} {base : Nat} {nd : Tx.Nd} {v : Value} (h : NdIn w base nd v) (f : ∀ (e : TypeId) (size n : Nat) (u : Value) (xs : List Value), w.ownsRow base e size u n xs → w'.ownsRow base e size u n xs) : NdIn w' base nd v := by
  cases nd with
  | plain x => obtain ⟨tc, c, s, wv, hv, hr⟩ := h; exact ⟨tc, c, s, wv, hv, hr.map fun _ _ _ _ _ _ hq => f _ _ _ _ _ hq⟩
  | change x => obtain ⟨tc, c, s, wv, hv, hr⟩ := h; exact ⟨tc, c, s, wv, hv, hr.map fun _ _ _ _ _ _ hq => f _ _ _ _ _ hq⟩
  | batch l => obtain ⟨L, a, cap, hL, hv, hr, hp⟩ := h; exact ⟨L, a, cap, hL, hv, f _ _ _ _ _ hr, hp.map fun _ _ _ _ _ _ hq => f _ _ _ _ _ hq⟩
theorem NdIn.did {K : PK} {σ : Ps} {w w' : World} {base : Nat} {nd : Tx.Nd} {v : Value} (h : NdIn w base nd v) (hd : Did K w σ w') (hb : K.L ≤ base) : NdIn w' base nd v := h.map fun _ _ _ _ _ hr => hd.row hr hb
theorem NdIn.below {w w' : World} {base : Nat} {nd : Tx.Nd} {v : Value} (h : NdIn w base nd v) (hb : Below w.heap.size w w') : NdIn w' base nd v := h.map fun _ _ _ _ _ hr => row_below hr hb
structure HasS (w : World) (base : Nat) (p : Pw) (L : List Pw) (z : Stt) : Prop where
  x : p.x = z.x
  parts : L.map Pw.x = z.parts
  rows : StRows w base p.x p.tc p.c p.s p.wv
  row : w.ownsRow base 31 18 p.pv L.length (flatW L)
  each : ∀ q ∈ L, StRows w base q.x q.tc q.c q.s q.wv ∧ q.pv = vnil
theorem StRows.rd {w : World} {base : Nat} {x : Sx} {tc c s wv : Value} (h : StRows w base x tc c s wv) : StIn w x tc c s wv := ⟨Rd.own h.1, Rd.own h.2.1, Rd.own h.2.2.1, Rd.own h.2.2.2⟩
theorem Rd_nil (w : World) : Rd w vnil 0 [] := ⟨none, 0, rfl, fun h => absurd h (by decide)⟩
end Go.Proofs.YtfbgdjcnlnfoaaaGreatDoor

namespace Go.Proofs.YtfbgdjcnlnfoaaaGreatDoor
open Go.RowKit
open Cle

structure WdS (w : World) (p : Pw) (L : List Pw) : Prop where
  st : StIn w p.x p.tc p.c p.s p.wv
  pv : Rd w p.pv L.length (flatW L)
  each : ∀ q ∈ L, StIn w q.x q.tc q.c q.s q.wv ∧ Rd w q.pv 0 []
theorem WdS.below {w w' : World} {p : Pw} {L : List Pw} (h : WdS w p L) (hb : Below w.heap.size w w') : WdS w' p L :=
  ⟨h.st.below hb, h.pv.below hb, fun q hq => ⟨(h.each q hq).1.below hb, (h.each q hq).2.below hb⟩⟩
theorem rd_vnil (w : World) : Rd w vnil 0 [] := ⟨none, 0, rfl, fun h => absurd h (by omega)⟩
theorem HasS.wd {w : World} {base : Nat} {p : Pw} {L : List Pw} {z : Stt} (h : HasS w base p L z) : WdS w p L :=
  ⟨h.rows.rd, Rd.own h.row, fun q hq => ⟨(h.each q hq).1.rd, by rw [(h.each q hq).2]; exact rd_vnil w⟩⟩
theorem HasS.z {w : World} {base : Nat} {p : Pw} {L : List Pw} {z : Stt} (h : HasS w base p L z) : (⟨p.x, L.map Pw.x⟩ : Stt) = z := by rw [h.x, h.parts]
def SzS (p : Pw) (L : List Pw) : Prop := StOK p.x ∧ ∀ q ∈ L, StOK q.x
theorem Rd.one {w : World} {u : Value} {n : Nat} {xs : List Value} (h : Rd w u n xs) : u.oneCell' = true := by
  obtain ⟨_, _, rfl, _⟩ := h
  rfl
theorem WdS.one {w : World} {p : Pw} {L : List Pw} (h : WdS w p L) : p.arr.toList.all (·.oneCell') = true := h.st.one h.pv.one
theorem WdS.pw {w : World} {p : Pw} {L : List Pw} (h : WdS w p L) (hs : SzS p L) : PwIn w p ∧ ∀ q ∈ L, PwIn w q ∧ Rd w q.pv 0 [] :=
  ⟨⟨hs.1, h.st, h.pv.one⟩, fun q hq => ⟨⟨hs.2 q hq, (h.each q hq).1, (h.each q hq).2.one⟩, (h.each q hq).2⟩⟩
theorem wlight_any {w : World} {p : Pw} {L : List Pw} (h : WdS w p L) :
    Calls Tryz.prog 29 #[.agg p.arr] w fun e w' => e = .returned (.bool (lightS ⟨p.x, L.map Pw.x⟩)) ∧ Below w.heap.size w w' := light_any h.st h.pv h.each
theorem wtext_any {w : World} {p : Pw} {L : List Pw} (hG : Gp w) (h : WdS w p L) (hs : SzS p L) (hl : L.length ≤ 100) :
    Calls Tryz.prog 30 #[.agg p.arr] w fun e w' => e = .returned (.string (textS ⟨p.x, L.map Pw.x⟩)) ∧ Below w.heap.size w w' :=
  gtext_any hG (h.pw hs).1 fun _ => ⟨hl, h.pv, (h.pw hs).2⟩
def SmX (x : Sx) : Prop := x.tcols.length ≤ 100000 ∧ x.cols.length ≤ 100000 ∧ x.sets.length ≤ 100000 ∧ x.wher.length ≤ 100000
def SmS (z : Stt) : Prop := SmX z.x ∧ z.parts.length ≤ 100000 ∧ ∀ y ∈ z.parts, SmX y
theorem light_sm {x : Sx} (h : lightX x = true) : SmX x := by
  have h := of_decide_eq_true h
  unfold SmX
  omega
theorem light_sizes {z : Stt} (h : lightS z = true) : lightX z.x = true ∧ z.parts.length ≤ 8 ∧ ∀ y ∈ z.parts, lightX y = true := by
  unfold lightS at h
  simp only [Bool.and_eq_true, decide_eq_true_eq, List.all_eq_true] at h
  exact ⟨h.1.1, h.1.2, h.2⟩
theorem sm_light {z : Stt} (h : lightX z.x = true ∧ z.parts.length ≤ 8 ∧ ∀ y ∈ z.parts, lightX y = true) : SmS z :=
  ⟨light_sm h.1, by omega, fun y hy => light_sm (h.2.2 y hy)⟩
theorem sm_may {z : Stt} (h : May z) : SmS z := sm_light (light_sizes (may_lightS h))
theorem may_sz {p : Pw} {L : List Pw} (h : May ⟨p.x, L.map Pw.x⟩) : SzS p L := by
  obtain ⟨nd, l, hG, he, _⟩ := h
  have hs := hG.st
  rw [← he] at hs
  exact ⟨hs.1, fun q hq => hs.2.1 q.x (List.mem_map.2 ⟨q, hq, rfl⟩)⟩
end Go.Proofs.YtfbgdjcnlnfoaaaGreatDoor

namespace Go.Proofs.YtfbgdjcnlnfoaaaGreatDoor
open Go.RowKit
open Cle

theorem keep_blk {w w' : World} {b : Nat} {o : Obj} (hb : Below w.heap.size w w') (h : w.heap[b]? = some o) : w'.heap[b]? = some o := by
  rw [hb.block _ (blk_lt h)]; exact h
theorem alloc_blk {w : World} {b : Nat} {o : Obj} (h : w.heap[b]? = some o) (o' : Obj) : (w.alloc o').heap[b]? = some o :=
  keep_blk ((Below.refl w.heap.size w).alloc (Nat.le_refl _) o') h
theorem flat_range {w wr : World} {L : List Pw} {g o j : Nat} {q : Pw} (hx : ∀ k v, (flatW L)[k]? = some v → w.cell? ⟨g, o + k, none⟩ = some v) (hq : L[j]? = some q) (hB : Below w.heap.size w wr) : wr.rangeAt g (o + j * 18) q.arr.toList := fun i v hv => by
  have hi : i < 18 := by have := (List.getElem?_eq_some_iff.1 hv).1; simp [Pw.arr] at this; omega
  have := hx (j * 18 + i) v (by rw [flatW_at hq i hi]; exact hv)
  rw [Nat.add_assoc]
  exact blk_cellB hB this
set_option maxRecDepth 100000 in
set_option maxHeartbeats 8000000 in
theorem eqf_any {w : World} {u v : Value} {L M : List Pw} (hu : Rd w u L.length (flatW L)) (hv : Rd w v M.length (flatW M)) (hl : L.length ≤ 100000) (_hm : M.length ≤ 100000)
    (h1 : ∀ p ∈ L, p.arr.toList.all (·.oneCell') = true) (h2 : ∀ p ∈ M, p.arr.toList.all (·.oneCell') = true)
    (hf : ∀ p ∈ L, ∀ q ∈ M, ∀ w', Below w.heap.size w w' → Calls Tryz.prog 31 #[.agg p.arr, .agg q.arr] w' fun e w'' => ∃ b : Bool, e = .returned (.bool b) ∧ (b = true ↔ p.x = q.x) ∧ Below w'.heap.size w' w'') :
    Calls Tryz.prog 65 #[u, v, .func (.func 31) #[] #[]] w fun e w' => ∃ b : Bool, e = .returned (.bool b) ∧ (b = true ↔ L.map Pw.x = M.map Pw.x) ∧ Below w.heap.size w w' := by
  obtain ⟨a1, k1, rfl, hx0⟩ := hu
  obtain ⟨a2, k2, rfl, hy0⟩ := hv
  by_cases hlen : L.length = M.length
  · have HL := Lib.hid hlen
    obtain ⟨n, hn⟩ : ∃ n, L.length = n := ⟨_, rfl⟩
    have hn2 : M.length = n := by omega
    have HN := Lib.hid hn
    have HN2 := Lib.hid hn2
    rw [hn] at hx0 hl ⊢
    rw [hn2] at hy0 ⊢
    clear hlen hn hn2 _hm
    have t0 : ((n : Int) != (n : Int)) = false := by simp
    go_enter Tryz.func65, Tryz.ntmps65
    go_wp2_with fail
    go_loopw [17] (fun i wr => ∃ j : Nat, i = .int .i64 j ∧ j ≤ n ∧ Below w.heap.size w wr ∧ Hid (∀ k, k < j → (L.map Pw.x)[k]? = (M.map Pw.x)[k]?)) (fun i _ => n - (intOf i).toNat)
    case atStart => exact ⟨0, rfl, Nat.zero_le _, Below.refl _ _, fun k hk => absurd hk (by omega)⟩
    case round =>
      obtain ⟨j, rfl, hj, hBr, HA⟩ := hrel
      have hsz := hBr.size
      by_cases hjl : j < n
      · have p0 : (j : Int) < (n : Int) := by omega
        have p1 : (0 : Int) ≤ (j : Int) := by omega
        have HJ := Lib.hid (show j + 1 ≤ n from hjl)
        obtain ⟨g1, o1, rfl, hx⟩ := hx0 (by omega)
        obtain ⟨g2, o2, rfl, hy⟩ := hy0 (by omega)
        obtain ⟨q, hq⟩ : ∃ q, L[j]? = some q := ⟨_, List.getElem?_eq_getElem (by have := HN.out; omega)⟩
        obtain ⟨r, hr⟩ : ∃ q, M[j]? = some q := ⟨_, List.getElem?_eq_getElem (by have := HN2.out; omega)⟩
        have hq1 : (L.map Pw.x)[j]? = some q.x := by rw [List.getElem?_map, hq]; rfl
        have hr1 : (M.map Pw.x)[j]? = some r.x := by rw [List.getElem?_map, hr]; rfl
        have hone := h1 q (List.mem_of_getElem? hq)
        have hone2 := h2 r (List.mem_of_getElem? hr)
        have hR := flat_range hx hq hBr
        have hB1 := hBr.alloc hsz (.cells q.arr 31)
        have hR2 := flat_range hy hr hB1
        have hB2 := hB1.alloc hB1.size (.cells r.arr 31)
        have hbl1 : ((wr.alloc (.cells q.arr 31)).alloc (.cells r.arr 31)).heap[wr.heap.size]? = some (.cells q.arr 31 (0, 0)) := alloc_blk (blk_new wr _) _
        have hbl2 : ((wr.alloc (.cells q.arr 31)).alloc (.cells r.arr 31)).heap[wr.heap.size + 1]? = some (.cells r.arr 31 (0, 0)) := by rw [← sz_alloc wr (.cells q.arr 31)]; exact blk_new _ _
        have hc := hf q (List.mem_of_getElem? hq) r (List.mem_of_getElem? hr) _ hB2
        have HT : Hid (q.x = r.x → ∀ k, k < j + 1 → (L.map Pw.x)[k]? = (M.map Pw.x)[k]?) := fun he => pre_step hq1 hr1 HA.out he
        have HF : Hid (¬ q.x = r.x → L.map Pw.x ≠ M.map Pw.x) := fun he => pre_ne hq1 hr1 he
        clear hq hr hq1 hr1 hx hy hx0 hy0 hf h1 h2
        obtain ⟨x, tc, c, s, wv, pv⟩ := q
        obtain ⟨x', tc', c', s', wv', pv'⟩ := r
        go_wp2_with (first | refine wpl_ldm rfl _ rfl rfl rfl hR ?_ | refine wpl_ldm rfl _ rfl rfl rfl hR2 ?_ | refine wpl_sto2 rfl _ _ rfl rfl rfl rfl rfl hone ?_ | refine wpl_sto2 (b := wr.heap.size + 1) rfl _ _ rfl (sz_alloc _ _).symm rfl rfl rfl hone2 ?_ | refine wpl_st rfl _ rfl rfl rfl hbl1 ?_ | refine wpl_st rfl _ rfl rfl rfl hbl2 ?_)
        refine hc.mono ?_; rintro e w2 ⟨b, rfl, hb, hb2⟩
        have hB3 := hB2.trans (hb2.mono hB2.size)
        cases b with
        | true =>
          have HT2 := Lib.hid (HT.out (hb.1 rfl))
          clear hb hc
          go_wp2_with fail
          go_roundw
          case rel => exact ⟨j + 1, by go_num, HJ.out, hB3, HT2⟩
          case measure => have hjj := HJ.out; simp [intOf]; omega
        | false =>
          have HF2 := Lib.hid (HF.out (fun h => absurd (hb.2 h) (by decide)))
          clear hb hc
          go_wp2_with fail
          go_ret
          exact ⟨false, rfl, by simpa using HF2.out, hB3⟩
      · have hje : j = n := by omega
        subst hje
        have HT : Hid (L.map Pw.x = M.map Pw.x) := getD_ext (by rw [List.length_map, List.length_map]; exact HL.out) (by rw [List.length_map, HN.out]; exact HA.out)
        clear HA hf
        go_wp2_with fail
        go_ret
        exact ⟨true, rfl, by simpa using HT.out, hBr⟩
  · have t0 : ((L.length : Int) != (M.length : Int)) = true := by rw [bne_iff_ne]; omega
    have HT : Hid (L.map Pw.x ≠ M.map Pw.x) := fun h => hlen (by have := congrArg List.length h; simpa using this)
    clear hlen hf
    go_enter Tryz.func65, Tryz.ntmps65
    go_wp2_with fail
    go_ret
    exact ⟨false, rfl, by simpa using HT.out, Below.refl _ _⟩
end Go.Proofs.YtfbgdjcnlnfoaaaGreatDoor

