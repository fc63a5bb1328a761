/- Parts of the proof, joined: PrsX ChkA. -/
import Derived.Test.YtfbgdjcnlnfoaaaGreatDoorB12i
import Derived.Test.YtfbgdjcnlnfoaaaGreatDoorB13a
import Derived.Test.YtfbgdjcnlnfoaaaGreatDoorB13b
import Derived.Test.YtfbgdjcnlnfoaaaGreatDoorB13c
namespace Go.Proofs.YtfbgdjcnlnfoaaaGreatDoor
open Go.RowKit
open Cle

theorem parse_any (s : ByteArray) (w : World) (hG : Gp w) : Calls Tryz.prog 18 #[.string s] w (GaveP w s) := by
  by_cases he : (lexL s).2.2 = 0
  · by_cases h1 : (Tx.may (⟨(lexL s).1, (pts s).length⟩ : Tx) (Tx.stF (⟨(lexL s).1, (pts s).length⟩ : Tx) ((lexL s).1.length + 2) ⟨0, none⟩).2 (⟨#[59]⟩ : ByteArray)).i < (lexL s).1.length
    · exact parse_ok1 hG he h1
    · by_cases h2 : (Tx.may (⟨(lexL s).1, (pts s).length⟩ : Tx) (Tx.stF (⟨(lexL s).1, (pts s).length⟩ : Tx) ((lexL s).1.length + 2) ⟨0, none⟩).2 (⟨#[59]⟩ : ByteArray)).bad = none
      · cases h3 : (Tx.stF (⟨(lexL s).1, (pts s).length⟩ : Tx) ((lexL s).1.length + 2) ⟨0, none⟩).1 with
        | plain x => exact parse_ok3 hG he ⟨h1, h2, x, h3⟩
        | change x => exact parse_ok4 hG he ⟨h1, h2, x, h3⟩
        | batch l => exact parse_ok5 hG he ⟨h1, h2, l, h3⟩
      · exact parse_ok2 hG he ⟨h1, h2⟩
  · exact parse_bad hG he
end Go.Proofs.YtfbgdjcnlnfoaaaGreatDoor

namespace Go.Proofs.YtfbgdjcnlnfoaaaGreatDoor
open Go.RowKit
open Cle

set_option maxRecDepth 100000 in
set_option maxHeartbeats 4000000 in
theorem check_heavy {w : World} {p : Pw} {L : List Pw} (h : WdS w p L) (hl : lightS ⟨p.x, L.map Pw.x⟩ = false) :
    Calls Tryz.prog 16 #[.agg p.arr] w fun e w' => e = .returned (.bool false) ∧ Below w.heap.size w w' := by
  have hB1 := (Below.refl w.heap.size w).alloc (Nat.le_refl _) (.cells p.arr 31)
  have hbl : (w.alloc (.cells p.arr 31)).heap[w.heap.size]? = some (.cells p.arr 31 (0, 0)) := blk_new w _
  have hc := wlight_any (h.below hB1)
  rw [hl] at hc
  clear h hl
  obtain ⟨x, tc, c, s, wv, pv⟩ := p
  go_enter Tryz.func16, Tryz.ntmps16
  go_wp2_with (refine wpl_st rfl _ rfl rfl rfl hbl ?_)
  refine hc.mono ?_; rintro e w2 ⟨rfl, hb2⟩
  go_wp2_with fail
  go_ret
  exact ⟨rfl, hB1.trans (hb2.mono hB1.size)⟩
set_option maxRecDepth 100000 in
set_option maxHeartbeats 8000000 in
theorem check_light {w : World} {p : Pw} {L : List Pw} (hG : Gp w) (h : WdS w p L) (hs : SzS p L) (hl : lightS ⟨p.x, L.map Pw.x⟩ = true) :
    Calls Tryz.prog 16 #[.agg p.arr] w fun e w' => ∃ b : Bool, e = .returned (.bool b) ∧ (b = true ↔ May ⟨p.x, L.map Pw.x⟩) ∧ Below w.heap.size w w' := by
  have hB1 := (Below.refl w.heap.size w).alloc (Nat.le_refl _) (.cells p.arr 31)
  have hbl : (w.alloc (.cells p.arr 31)).heap[w.heap.size]? = some (.cells p.arr 31 (0, 0)) := blk_new w _
  have hc := wlight_any (h.below hB1)
  rw [hl] at hc
  have hLg := light_sizes hl
  have hL8 : L.length ≤ 100 := by have := hLg.2.1; simp at this; omega
  have HT : Hid (∀ w', Below w.heap.size w w' → Calls Tryz.prog 30 #[.agg p.arr] w' fun e w'' => e = .returned (.string (textS ⟨p.x, L.map Pw.x⟩)) ∧ Below w'.heap.size w' w'') := fun w' hb => wtext_any (hG.below hb) (h.below hb) hs hL8
  have HP : Hid (∀ w', Below w.heap.size w w' → Calls Tryz.prog 18 #[.string (textS ⟨p.x, L.map Pw.x⟩)] w' (GaveP w' (textS ⟨p.x, L.map Pw.x⟩))) := fun w' hb => parse_any _ w' (hG.below hb)
  have HM := Lib.hid (may_iff (z := ⟨p.x, L.map Pw.x⟩))
  have HS : Hid (∀ w', Below w.heap.size w w' → WdS w' p L) := fun w' hb => h.below hb
  obtain ⟨t, ht⟩ : ∃ t, textS ⟨p.x, L.map Pw.x⟩ = t := ⟨_, rfl⟩
  rw [ht] at HT HP HM
  clear h hl hs ht hG hL8
  have HG2 := Lib.hid hLg
  clear hLg
  unfold GaveP at HP
  obtain ⟨⟨pz, pa, pe⟩, hp⟩ : ∃ r, parseL t = r := ⟨_, rfl⟩
  rw [hp] at HP HM
  have HZ : Hid (pe = 0 → May pz) := fun he => by
    have he' : pe = 0 := he
    subst he'
    exact parseL_may hp
  clear hp
  obtain ⟨x, tc, c, s, wv, pv⟩ := p
  go_enter Tryz.func16, Tryz.ntmps16
  go_wp2_with (refine wpl_st rfl _ rfl rfl rfl hbl ?_)
  refine hc.mono ?_; rintro e w2 ⟨rfl, hb2⟩
  have hB2 := hB1.trans (hb2.mono hB1.size)
  have hbl2 := keep_blk hb2 hbl
  have h2 := HT.out w2 hB2
  go_wp2_with (refine wpl_st rfl _ rfl rfl rfl hbl2 ?_)
  refine h2.mono ?_; rintro e w3 ⟨rfl, hb3⟩
  have hB3 := hB2.trans (hb3.mono hB2.size)
  have hbl3 := keep_blk hb3 hbl2
  have h3 := HP.out w3 hB3
  go_wp2_with fail
  refine h3.mono ?_; rintro e w4 ⟨⟨qx, qtc, qc, qs, qwv, qpv⟩, M, rfl, hb4, hS⟩
  have hB4 := hB3.trans (hb4.mono hB3.size)
  have hbl4 := keep_blk hb4 hbl3
  have hq1 := hS.wd.one
  have hB5 := hB4.alloc hB4.size (.cells (stC qx qtc qc qs qwv qpv) 31)
  have hbl5 := alloc_blk hbl4 (.cells (stC qx qtc qc qs qwv qpv) 31)
  have hbq : (w4.alloc (.cells (stC qx qtc qc qs qwv qpv) 31)).heap[w4.heap.size]? = some (.cells (stC qx qtc qc qs qwv qpv) 31 (0, 0)) := blk_new w4 _
  have HSz := Lib.hid hS.z
  cases hz : (pe == 0) with
  | false =>
    have HE : Hid (¬ pe = 0) := by
      intro h
      have h' : pe = 0 := h
      rw [h'] at hz
      exact absurd hz (by decide)
    clear hS hc h2 h3
    go_wp2_with (refine wpl_sto2 rfl _ _ rfl rfl rfl rfl rfl hq1 ?_)
    go_ret
    exact ⟨false, rfl, ⟨fun h => absurd h (by decide), fun h => absurd (HM.out.1 h).1 HE.out⟩, hB5⟩
  | true =>
    have HE : Hid (pe = 0) := eq_of_beq hz
    have h5 := stsame_any (w := w4.alloc (.cells (stC qx qtc qc qs qwv qpv) 31)) (HS.out _ hB5) (hS.wd.below ((Below.refl w4.heap.size w4).alloc (Nat.le_refl _) _)) (sm_light HG2.out) (by rw [hS.z]; exact sm_may (HZ.out HE.out))
    clear hS hc h2 h3
    go_wp2_with (first | refine wpl_sto2 rfl _ _ rfl rfl rfl rfl rfl hq1 ?_ | refine wpl_stgd (by go_simp) _ rfl rfl rfl hbl5 ?_ | refine wpl_stgd (by go_simp) _ rfl rfl rfl hbq ?_)
    refine h5.mono ?_; rintro e w6 ⟨b, rfl, hb, hb6⟩
    go_wp2_with fail
    go_ret
    refine ⟨b, rfl, ?_, hB5.trans (hb6.mono hB5.size)⟩
    rw [hb, HSz.out]
    exact ⟨fun h => HM.out.2 ⟨HE.out, h⟩, fun h => (HM.out.1 h).2⟩
theorem check_any {w : World} {p : Pw} {L : List Pw} (hG : Gp w) (h : WdS w p L) (hs : SzS p L) :
    Calls Tryz.prog 16 #[.agg p.arr] w fun e w' => ∃ b : Bool, e = .returned (.bool b) ∧ (b = true ↔ May ⟨p.x, L.map Pw.x⟩) ∧ Below w.heap.size w w' := by
  cases hl : lightS ⟨p.x, L.map Pw.x⟩ with
  | true => exact check_light hG h hs hl
  | false =>
    refine (check_heavy h hl).mono ?_
    rintro e w' ⟨rfl, hb⟩
    refine ⟨false, rfl, ⟨fun h => absurd h (by decide), fun h => ?_⟩, hb⟩
    have := may_lightS h
    rw [hl] at this
    exact absurd this (by decide)
end Go.Proofs.YtfbgdjcnlnfoaaaGreatDoor

