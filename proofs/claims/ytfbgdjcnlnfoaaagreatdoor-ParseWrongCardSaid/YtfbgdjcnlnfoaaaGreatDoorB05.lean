/- Parts of the proof, joined: PrsL PrsM PlainPJ PrsN PrsO. -/
import Derived.Test.YtfbgdjcnlnfoaaaGreatDoorB03
import Derived.Test.YtfbgdjcnlnfoaaaGreatDoorB04
namespace Go.Proofs.YtfbgdjcnlnfoaaaGreatDoor
open Go.RowKit
open Cle

def vF (X : Tx) : Nat → Ps → List Pr → List Pr × Ps
  | 0, σ, Z => (Z, σ)
  | n + 1, σ, Z => let r := X.name (X.must σ [(⟨#[44]⟩ : ByteArray)]); vF X n r.2 (Z ++ [⟨r.1, Tm.zero⟩])

set_option maxRecDepth 100000 in
set_option maxHeartbeats 4000000 in
theorem view_any {K : PK} {w : World} {σ : Ps} (h : PQ K w σ) :
    Calls Tryz.prog 88 #[.pointer (some ⟨K.b, 0, none⟩)] w (GaveSt K w 124 (K.X.view σ).1 (K.X.view σ).2) := by
  have hle := h.le
  have hD0 := Did.refl h
  obtain ⟨σ1, hq1⟩ : ∃ r, K.X.must σ [(⟨#[118, 105, 101, 119]⟩ : ByteArray)] = r := ⟨_, rfl⟩
  obtain ⟨⟨x, σ2⟩, hq2⟩ : ∃ r, K.X.name σ1 = r := ⟨_, rfl⟩
  obtain ⟨σ3, hq3⟩ : ∃ r, K.X.must σ2 [(⟨#[97, 115]⟩ : ByteArray), (⟨#[115, 101, 108, 101, 99, 116]⟩ : ByteArray)] = r := ⟨_, rfl⟩
  obtain ⟨⟨c, σ4⟩, hq4⟩ : ∃ r, K.X.some_ σ3 = r := ⟨_, rfl⟩
  obtain ⟨σ5, hq5⟩ : ∃ r, K.X.must σ4 [(⟨#[102, 114, 111, 109]⟩ : ByteArray)] = r := ⟨_, rfl⟩
  obtain ⟨⟨o, σ6⟩, hq6⟩ : ∃ r, K.X.name σ5 = r := ⟨_, rfl⟩
  obtain ⟨σ7, hq7⟩ : ∃ r, K.X.must σ6 [(⟨#[119, 104, 101, 114, 101]⟩ : ByteArray)] = r := ⟨_, rfl⟩
  obtain ⟨⟨nm, σ8⟩, hq8⟩ : ∃ r, K.X.name σ7 = r := ⟨_, rfl⟩
  obtain ⟨σ9, hq9⟩ : ∃ r, K.X.must σ8 [(⟨#[105, 115]⟩ : ByteArray), (⟨#[110, 111, 116]⟩ : ByteArray), (⟨#[110, 117, 108, 108]⟩ : ByteArray), (⟨#[112, 114, 105, 109, 97, 114, 121]⟩ : ByteArray), (⟨#[107, 101, 121]⟩ : ByteArray), (⟨#[40]⟩ : ByteArray)] = r := ⟨_, rfl⟩
  obtain ⟨⟨k1, σ10⟩, hq10⟩ : ∃ r, K.X.one σ9 [nm] ⟨#[]⟩ = r := ⟨_, rfl⟩
  obtain ⟨⟨Zf, σf⟩, hR⟩ : ∃ r, vF K.X 2 σ10 [] = r := ⟨_, rfl⟩
  obtain ⟨σz, hz⟩ : ∃ r, K.X.must σf [(⟨#[41]⟩ : ByteArray)] = r := ⟨_, rfl⟩
  have HE : Hid (K.X.view σ = ({ Sx.zero with kind := 2, name := x, cols := c, of_ := o, on := nm, wher := Zf }, σz)) := by
    show _ = _
    have h2 := hR
    simp only [vF, List.nil_append, List.cons_append] at h2
    have h3 := congrArg Prod.fst h2
    have h4 := congrArg Prod.snd h2
    simp only at h3 h4
    unfold Tx.view
    simp only [hq1, hq2, hq3, hq4, hq5, hq6, hq7, hq8, hq9, hq10, h3, h4, hz]
  go_enter Tryz.func88, Tryz.ntmps88
  have hm1 := must1 hD0.1 (⟨#[118, 105, 101, 119]⟩ : ByteArray)
  rw [hq1] at hm1
  try simp only [sz_alloc, sz_set] at hm1
  go_wp2_with fail
  refine hm1.mono ?_; rintro e w1 ⟨rfl, hd1⟩
  have hD1 := hD0.trans hd1
  have hm2 := name_any hD1.1
  rw [hq2] at hm2
  try simp only at hm2
  go_wp2_with fail
  refine hm2.mono ?_; rintro e w2 ⟨rfl, hd2⟩
  have hD2 := hD1.trans hd2
  have hB3 := build_kn 2 x
  have hLx : K.L ≤ w2.heap.size := Nat.le_trans hle hD2.size
  have hbx : w.heap.size ≤ w2.heap.size := hD2.size
  have hblk3 : (w2.alloc (.cells (stC { Sx.zero with kind := 2, name := x } vnil vnil vnil vnil vnil) 31)).heap[w2.heap.size]? = some (.cells (stC { Sx.zero with kind := 2, name := x } vnil vnil vnil vnil vnil) 31 (0, 0)) := blk_new w2 _
  have hD3 := hD2.alloc (.cells (stC { Sx.zero with kind := 2, name := x } vnil vnil vnil vnil vnil) 31)
  have hm4 := must2 hD3.1 (⟨#[97, 115]⟩ : ByteArray) (⟨#[115, 101, 108, 101, 99, 116]⟩ : ByteArray)
  rw [hq3] at hm4
  try simp only [sz_alloc] at hm4
  go_wp2_with (refine wpl_sto rfl _ _ rfl rfl rfl rfl rfl ?_)
  refine hm4.mono ?_; rintro e w4 ⟨rfl, hd4⟩
  have hD4 := hD3.trans hd4
  have hblk4 := hd4.blk hblk3 hLx
  have hm5 := some_any hD4.1
  rw [hq4] at hm5
  try simp only at hm5
  go_wp2_with fail
  refine hm5.mono ?_; rintro e w5 ⟨ac, cc, rfl, hd5, hr5⟩
  have hD5 := hD4.trans hd5
  have hblk5 := hd5.blk hblk4 hLx
  have hz5 := hD4.size
  try simp only [sz_alloc, sz_set] at hz5 hr5
  replace hr5 := ownsRow_mono hr5 hz5
  have tt5 := (st18 hblk5).2.2.2.2.2.2.2.2.2.2.2.1
  have uu5 := blk_frozen0 hblk5 11
  have hD6 := hD5.own hbx 11 (.slice ac c.length cc)
  have hblk6 := put_cols hblk5 (.slice ac c.length cc)
  have hr_c6 := row_set hr5 hblk5 (by decide) 11 (.slice ac c.length cc)
  have hm7 := must1 hD6.1 (⟨#[102, 114, 111, 109]⟩ : ByteArray)
  rw [hq5] at hm7
  try simp only [sz_set] at hm7
  go_wp2_with fail
  refine hm7.mono ?_; rintro e w7 ⟨rfl, hd7⟩
  have hD7 := hD6.trans hd7
  have hblk7 := hd7.blk hblk6 hLx
  have hr_c7 := hd7.row hr_c6 hle
  have hm8 := name_any hD7.1
  rw [hq6] at hm8
  try simp only at hm8
  go_wp2_with fail
  refine hm8.mono ?_; rintro e w8 ⟨rfl, hd8⟩
  have hD8 := hD7.trans hd8
  have hblk8 := hd8.blk hblk7 hLx
  have hr_c8 := hd8.row hr_c7 hle
  have tt8 := (st18 hblk8).2.2.1
  have uu8 := blk_frozen0 hblk8 2
  have hD9 := hD8.own hbx 2 (.string o)
  have hblk9 := put_of hblk8 o
  have hr_c9 := row_set hr_c8 hblk8 (by decide) 2 (.string o)
  have hm10 := must1 hD9.1 (⟨#[119, 104, 101, 114, 101]⟩ : ByteArray)
  rw [hq7] at hm10
  try simp only [sz_set] at hm10
  go_wp2_with fail
  refine hm10.mono ?_; rintro e w10 ⟨rfl, hd10⟩
  have hD10 := hD9.trans hd10
  have hblk10 := hd10.blk hblk9 hLx
  have hr_c10 := hd10.row hr_c9 hle
  have hm11 := name_any hD10.1
  rw [hq8] at hm11
  try simp only at hm11
  go_wp2_with fail
  refine hm11.mono ?_; rintro e w11 ⟨rfl, hd11⟩
  have hD11 := hD10.trans hd11
  have hblk11 := hd11.blk hblk10 hLx
  have hr_c11 := hd11.row hr_c10 hle
  have tt11 := (st18 hblk11).2.2.2.1
  have uu11 := blk_frozen0 hblk11 3
  have hD12 := hD11.own hbx 3 (.string nm)
  have hblk12 := put_on hblk11 nm
  have hr_c12 := row_set hr_c11 hblk11 (by decide) 3 (.string nm)
  have hm13 := must6 hD12.1 (⟨#[105, 115]⟩ : ByteArray) (⟨#[110, 111, 116]⟩ : ByteArray) (⟨#[110, 117, 108, 108]⟩ : ByteArray) (⟨#[112, 114, 105, 109, 97, 114, 121]⟩ : ByteArray) (⟨#[107, 101, 121]⟩ : ByteArray) (⟨#[40]⟩ : ByteArray)
  rw [hq9] at hm13
  try simp only [sz_set] at hm13
  go_wp2_with fail
  refine hm13.mono ?_; rintro e w13 ⟨rfl, hd13⟩
  have hD13 := hD12.trans hd13
  have hblk13 := hd13.blk hblk12 hLx
  have hr_c13 := hd13.row hr_c12 hle
  have y14 := (st18 hblk13).2.2.2.1
  have ho14 := row_lit w13 [.string nm] 9 1 1 w.heap.size rfl (by decide) hD13.size
  have hDo14 := hD13.alloc (.cells #[.string nm] 9)
  have hblko14 := blk_alloc hblk13 (.cells #[.string nm] 9)
  have hro14 := hr_c13.alloc (.cells #[.string nm] 9)
  have hm14 := one_any hDo14.1 (l := [nm]) ho14 hle (by simp) ⟨#[]⟩
  rw [hq10] at hm14
  go_wp2_with fail
  refine hm14.mono ?_; rintro e w14 ⟨rfl, hd14⟩
  have hD14 := hDo14.trans hd14
  have hblk14 := hd14.blk hblko14 hLx
  have hr_c14 := hd14.row hro14 hle
  go_wp2_with fail
  go_loopw [36] (fun i wr => ∃ (j : Nat) (Z : List Pr) (a3 : Option Addr) (c3 : Nat) (σ2 : Ps), i = .int .i64 j ∧ j ≤ 2 ∧ Did K w σ2 wr ∧ wr.heap[w2.heap.size]? = some (.cells (stC { Sx.zero with kind := 2, name := x, of_ := o, on := nm } vnil (.slice ac c.length cc) vnil (.slice a3 Z.length c3) vnil) 31 (0, 0)) ∧ wr.ownsRow w.heap.size 61 4 (.slice a3 Z.length c3) Z.length (flatR Z) ∧ wr.ownsRow w.heap.size 9 1 (.slice ac c.length cc) c.length (c.map Value.string) ∧ Hid (vF K.X (2 - j) σ2 Z = (Zf, σf)) ∧ Z.length ≤ j) (fun i _ => 2 - (intOf i).toNat)
  case atStart => exact ⟨0, [], none, 0, σ10, rfl, by omega, hD14, hblk14, World.ownsRow_nil _ _ _ _, hr_c14, hR, Nat.le_refl _⟩
  case round =>
    obtain ⟨j, Z, a3, c3, σ2, rfl, hj, hD, hb, hs, hnr, HR, hZl⟩ := hrel
    have hsz := hD.size
    by_cases hjl : j < 2
    · have p0 : (j : Int) < 2 := by omega
      have p1 : (0 : Int) ≤ (j : Int) := by omega
      obtain ⟨σ3, h3e⟩ : ∃ r, K.X.must σ2 [(⟨#[44]⟩ : ByteArray)] = r := ⟨_, rfl⟩
      obtain ⟨⟨y, σ4⟩, hy⟩ : ∃ r, K.X.name σ3 = r := ⟨_, rfl⟩
      have HR2 : Hid (vF K.X (2 - (j + 1)) σ4 (Z ++ [⟨y, Tm.zero⟩]) = (Zf, σf)) := by
        have h := HR.out
        rw [show 2 - j = (2 - (j + 1)) + 1 by omega, vF] at h
        simp only [h3e, hy] at h
        exact Lib.hid h
      have hm22 := must1 hD.1 (⟨#[44]⟩ : ByteArray)
      rw [h3e] at hm22
      go_wp2_with fail
      refine hm22.mono ?_; rintro e w22 ⟨rfl, hd22⟩
      have hD22 := hD.trans hd22
      have hb22 := hd22.blk hb hLx
      have hs22 := hd22.row hs hle
      have hn22 := hd22.row hnr hle
      have y22 := (st18 hb22).2.2.2.2.2.2.2.2.2.2.2.2.2.1
      have z22 := blk_lt hb22
      go_wp2_with fail
      go_region_law (first | (refine step_app Tryz.eltP rfl _ _ rfl w.heap.size _ _ _ rfl (hs30.alloc _) _ _ [.string y, .int .i64 0, .string ⟨#[]⟩, .int .i64 0] rfl rfl (fun j u hj => by rw [add_at, Nat.zero_add]; exact cells_last _ _ _ j u hj) (by intro u hu; simp at hu; rcases hu with rfl | rfl | rfl | rfl <;> rfl) (by omega) (by simp; omega) ?_; intro g3 cap3 w3 h3 hg3 hn3 hl3; have hb3 : w3.heap[w2.heap.size]? = some (.cells (stC { Sx.zero with kind := 2, name := x, of_ := o, on := nm } vnil (.slice ac c.length cc) vnil (.slice a3 Z.length c3) vnil) 31 (0, 0)) := (hg3.block _ (blk_lt (blk_alloc hb30 _)) (fun e => row_nblk hs30 hb30 (by decide) e.symm)).trans (blk_alloc hb30 _); have y3 := (st18 hb3).2.2.2.2.2.2.2.2.2.2.2.2.2.1; have u3 := blk_frozen0 hb3 13) | (go_simp; go_at_call 86; have hnn := name_any (K := K) (σ := σ3) (hD22.drewN 1).1; rw [hy] at hnn; refine hnn.mono ?_; rintro e w30 ⟨rfl, hd30⟩; have hb30 := hd30.blk hb22 hLx; have hs30 := hd30.row hs22 hle; have hn30 := hd30.row hn22 hle; have hD30 := (hD22.drewN 1).trans hd30; have y30 := (st18 hb30).2.2.2.2.2.2.2.2.2.2.2.2.2.1; have u30 := blk_frozen0 hb30 13; have z30 := blk_lt hb30; have hs30z := hD30.size))
      all_goals
        have hg4 : (w30.alloc (.cells #[.string y, .int .i64 0, .string ⟨#[]⟩, .int .i64 0] 61)).grownBy w3 (Value.slice a3 Z.length c3).ownBlock := ⟨hg3.os, hg3.tape, hg3.output, hg3.size, hg3.block⟩
        have hD4 := ((hD30.alloc _).grown hg4 (fun g hg2 => (hs30.lt g hg2).1)).own hbx 13 (.slice (some ⟨g3, 0, none⟩) (Z.length + 1) cap3)
        have hb4 := put_wher hb3 (.slice (some ⟨g3, 0, none⟩) (Z.length + 1) cap3)
        have hs4 := row_set h3 hb3 (by decide) 13 (.slice (some ⟨g3, 0, none⟩) (Z.length + 1) cap3)
        have hn4 := row_set ((rows_apart hs30 hn30 (by decide)).keep (hn30.alloc _) hg4) hb3 (by decide) 13 (.slice (some ⟨g3, 0, none⟩) (Z.length + 1) cap3)
        go_wp2_with fail
        go_roundw
        case rel =>
          refine ⟨j + 1, Z ++ [⟨y, Tm.zero⟩], some ⟨g3, 0, none⟩, cap3, σ4, by go_num, by omega, hD4, by rw [List.length_append]; exact hb4, ?_, hn4, HR2, by rw [List.length_append]; show Z.length + 1 ≤ _; omega⟩
          rw [List.length_append, flatR_snoc]; exact hs4
        case measure => simp [intOf]; omega
    · have hje : j = 2 := by omega
      subst hje
      have HR2 : (Z, σ2) = (Zf, σf) := HR.out
      cases HR2
      have hm40 := must1 hD.1 (⟨#[41]⟩ : ByteArray)
      rw [hz] at hm40
      go_wp2_with fail
      refine hm40.mono ?_; rintro e w40 ⟨rfl, hd40⟩
      have hb40 := hd40.blk hb hLx
      have hBx := build_pl
      have hMx := mki_pl
      go_wp2_with (refine wpl_st rfl _ rfl rfl rfl hb40 ?_)
      go_ret
      rw [HE.out]
      exact ⟨vnil, _, vnil, _, rfl, hD.trans hd40, World.ownsRow_nil _ _ _ _, hd40.row hnr hle, World.ownsRow_nil _ _ _ _, hd40.row hs hle⟩

end Go.Proofs.YtfbgdjcnlnfoaaaGreatDoor

namespace Go.Proofs.YtfbgdjcnlnfoaaaGreatDoor
open Go.RowKit
open Cle

theorem contains_big {w : World} {base : Nat} {v : Value} {l : List ByteArray} (hown : w.ownsRow base 9 1 v l.length (l.map Value.string)) (hl : l.length ≤ 200000) (x : ByteArray) :
    Calls Tryz.prog 164 #[v, .string x] w fun e w' => e = .returned (.bool (inB x l)) ∧ w' = w := by
  obtain ⟨a, cap, rfl, hr⟩ := row_read hown
  by_cases h0 : 0 < l.length
  · obtain ⟨g, rfl, _, _, hc⟩ := hr h0
    have := Tryz.slices_Contains_string g 0 l.length cap l x w (Nat.le_refl _) (by omega) (fun j hj => by
      rw [Nat.zero_add, List.getD_eq_getElem?_getD, List.getElem?_eq_getElem hj]
      exact hc j _ (by rw [List.getElem?_map, List.getElem?_eq_getElem hj]; rfl))
    rw [List.take_length, containsS_inB] at this
    exact this
  · have hl0 : l = [] := List.eq_nil_of_length_eq_zero (by omega)
    subst hl0
    exact Tryz.slices_Contains_string_empty a cap x w

set_option maxRecDepth 100000 in
set_option maxHeartbeats 1000000 in
theorem one_big {K : PK} {w : World} {σ : Ps} (h : PQ K w σ) {base : Nat} {v : Value} {l : List ByteArray} (hown : w.ownsRow base 9 1 v l.length (l.map Value.string)) (hb : K.L ≤ base) (hl : l.length ≤ 200000) (but : ByteArray) :
    Calls Tryz.prog 136 #[.pointer (some ⟨K.b, 0, none⟩), v, .string but] w (Gave K w (.string (K.X.one σ l but).1) (K.X.one σ l but).2) := by
  have hD := Did.refl h
  have ha := here_any h
  obtain ⟨a0, cap0, rfl, _⟩ := row_read hown
  obtain ⟨⟨x, σ2⟩, hx⟩ : ∃ r, K.X.name σ = r := ⟨_, rfl⟩
  have HE : Hid (K.X.one σ l but = (x, if !inB x l || bEq x but then σ2.wrong (K.X.here σ) else σ2)) := by show _ = _; unfold Tx.one; simp only [hx]
  generalize K.X.here σ = at0 at *
  have e1 := bytes_eq x but
  cases hc : inB x l <;> cases hq : bEq x but
  all_goals
    rw [hc, hq] at HE
    rw [hq] at e1
    go_enter Tryz.func136, Tryz.ntmps136
    go_wp2_with fail
    refine ha.mono ?_; rintro e w1 ⟨rfl, m, rfl⟩
    replace hD := hD.drewN m
    have hnm := name_any hD.1
    rw [hx] at hnm
    go_wp2_with fail
    refine hnm.mono ?_; rintro e w3 ⟨rfl, hd3⟩
    replace hD := hD.trans hd3
    have hcon := contains_big (hD.row hown hb) hl x
    rw [hc] at hcon
    go_wp2_with fail
    refine hcon.mono ?_; rintro e w4 ⟨rfl, rfl⟩
    have hw2 := wrong_any hD.1 at0
    go_wp2_with fail
    first
      | (refine hw2.mono ?_; rintro e w5 ⟨rfl, hd5⟩
         go_wp2_with fail
         go_ret
         rw [HE.out]
         exact ⟨rfl, hD.trans hd5⟩)
      | (go_ret
         rw [HE.out]
         exact ⟨rfl, hD⟩)


theorem Tryz.eltC : Elt Tryz.prog 24 23 (.agg #[.string ⟨#[]⟩, .int .i64 0]) 2 24 := elt_of Tryz.underlying24 (by kernel_rfl) rfl (by decide)
theorem flatC_snoc (l : List Cl) (p : Cl) : flatC (l ++ [p]) = flatC l ++ clCells p := by simp [flatC]
theorem wrong_none {σ : Ps} {a : Nat} (h : (σ.wrong a).bad = none) : σ.bad = none := by
  unfold Ps.wrong at h
  cases hb : σ.bad with
  | none => rfl
  | some b => rw [hb] at h; rw [hb] at h; exact h
theorem fail_some {X : Tx} {σ : Ps} : (X.fail σ).bad ≠ none := by
  unfold Tx.fail Ps.wrong
  cases hb : σ.bad with
  | none => simp
  | some b => rw [hb]; simp
theorem must1_none {X : Tx} {σ : Ps} {s : ByteArray} (h : (X.must σ [s]).bad = none) : σ.bad = none := by
  replace h : (X.must1 σ s).bad = none := h
  unfold Tx.must1 at h
  split at h
  · exact h
  · exact absurd h fail_some
theorem kind_i (X : Tx) (σ : Ps) : σ.i ≤ (X.kind σ).2.i := by
  unfold Tx.kind
  split
  · show σ.i ≤ σ.i + 1; omega
  · exact must1_i X σ _
theorem kind_none {X : Tx} {σ : Ps} (h : (X.kind σ).2.bad = none) : σ.bad = none := by
  unfold Tx.kind at h
  split at h
  · exact h
  · exact must1_none h
theorem name_on {X : Tx} {σ : Ps} (h : (X.name σ).2.bad = none) : σ.bad = none ∧ σ.i < X.T.length ∧ (X.name σ).2.i = σ.i + 1 := by
  unfold Tx.name at h ⊢
  split at h
  · rename_i t hx
    split at h
    · exact absurd h fail_some
    · rename_i hr
      obtain ⟨h1, h2⟩ := next_lt (X := X) (σ := σ) (k := 1) (by rw [hx]; rfl)
      simp only [hr]
      exact ⟨h2, h1, rfl⟩
  · exact absurd h fail_some
theorem column_on {X : Tx} {σ : Ps} {l : List ByteArray} {most : Nat} (h : (X.column σ l most).2.bad = none) : σ.i < X.T.length ∧ σ.i + 1 ≤ (X.column σ l most).2.i := by
  unfold Tx.column at h ⊢
  have e : ∀ (b : Bool) (τ : Ps) (a : Nat), (if b = true then τ.wrong a else τ).bad = none → τ.bad = none := by
    intro b τ a hh
    cases b
    · exact hh
    · exact wrong_none hh
  have h1 := e _ _ _ h
  have ei : ∀ (b : Bool) (τ : Ps) (a : Nat), (if b = true then τ.wrong a else τ).i = τ.i := by intro b τ a; cases b <;> simp [wrong_i]
  simp only [ei]
  obtain ⟨h2, h3, h4⟩ := name_on h1
  have es : (if most ≤ l.length then σ.wrong (X.here σ) else σ).i = σ.i := by split <;> simp [wrong_i]
  rw [es] at h3 h4
  exact ⟨h3, by omega⟩
theorem flatC_at : ∀ (l : List Cl) (k j : Nat) (h : k < l.length) (_ : j < 2), (flatC l)[k * 2 + j]? = (clCells l[k])[j]?
  | p :: l, 0, j, _, hj => by
    simp only [flatC, List.flatMap_cons, Nat.zero_mul, Nat.zero_add, List.getElem_cons_zero]
    rw [List.getElem?_append_left (by simp [clCells]; omega)]
  | p :: l, k + 1, j, h, hj => by
    have := flatC_at l k j (by simp at h; omega) hj
    simp only [flatC, List.flatMap_cons, List.getElem_cons_succ] at this ⊢
    rw [List.getElem?_append_right (by simp [clCells]; omega)]
    have e : (k + 1) * 2 + j - (clCells p).length = k * 2 + j := by simp [clCells]; omega
    rw [e]; exact this
theorem place_snoc (pk ck : ByteArray) (C : List Cl) (x : Sx) (j : Nat) (h : j < C.length) : (C.take (j + 1)).foldl (fun x c => Tx.place x pk ck c) x = Tx.place ((C.take j).foldl (fun x c => Tx.place x pk ck c) x) pk ck C[j] := by
  rw [List.take_succ_eq_append_getElem h, List.foldl_append]; rfl
theorem place_snoc' (pk ck : ByteArray) (C : List Cl) (x : Sx) (j : Nat) (h : j < C.length) {q : Cl} (hq : C[j] = q) : (C.take (j + 1)).foldl (fun x c => Tx.place x pk ck c) x = Tx.place ((C.take j).foldl (fun x c => Tx.place x pk ck c) x) pk ck q := by rw [← hq]; exact place_snoc pk ck C x j h
theorem cells_last2 (w : World) (o : Obj) (L : List Value) (t : TypeId) : ∀ j u, L[j]? = some u → ((w.alloc o).alloc (.cells L.toArray t)).cell? ⟨w.heap.size + 1, j, none⟩ = some u := by
  intro j u hj
  have := cells_last (w.alloc o) L t j u hj
  rw [sz_alloc] at this
  exact this
theorem less1 {T i j : Nat} (h1 : i < T) (h2 : i + 1 ≤ j) : T - j + 1 < T - i + 1 := by omega
theorem less2 {T i j n : Nat} (h : T - i < n + 1) (h1 : i < T) (h2 : i + 1 ≤ j) : T - j < n := by omega
def okM (K : PK) (w : World) : Nat := match w.cell? ⟨K.b, 3, none⟩ with | some (.int _ v) => if v < 0 then K.X.T.length - psI K w + 1 else 0 | _ => 0
theorem okM_none {K : PK} {w : World} {σ : Ps} (h : PQ K w σ) (hb : σ.bad = none) : okM K w = K.X.T.length - σ.i + 1 := by
  obtain ⟨_, _, _, _, _, c3, _⟩ := h.cells
  have hi := psI_eq h
  unfold okM; rw [c3]
  have : σ.badI = -1 := by unfold Ps.badI; rw [hb]
  rw [this, hi]; rfl
theorem okM_some {K : PK} {w : World} {σ : Ps} (h : PQ K w σ) (hb : σ.bad ≠ none) : okM K w = 0 := by
  obtain ⟨_, _, _, _, _, c3, _⟩ := h.cells
  unfold okM; rw [c3]
  cases hx : σ.bad with
  | none => exact absurd hx hb
  | some a =>
    have : σ.badI = (a : Int) := by unfold Ps.badI; rw [hx]
    rw [this]
    simp

set_option maxRecDepth 100000 in
set_option maxHeartbeats 4000000 in
theorem table_any {K : PK} {w : World} {σ : Ps} (h : PQ K w σ) :
    Calls Tryz.prog 87 #[.pointer (some ⟨K.b, 0, none⟩)] w (GaveSt K w 124 (K.X.table σ).1 (K.X.table σ).2) := by
  have hle := h.le
  have hD0 := Did.refl h
  obtain ⟨⟨x, σ1⟩, hq1⟩ : ∃ r, K.X.name σ = r := ⟨_, rfl⟩
  obtain ⟨σ2, hq2⟩ : ∃ r, K.X.must σ1 [(⟨#[40]⟩ : ByteArray)] = r := ⟨_, rfl⟩
  obtain ⟨⟨lf, Cf, σf⟩, hR⟩ : ∃ r, K.X.tableF (K.X.T.length + 1) σ2 [] [] = r := ⟨_, rfl⟩
  obtain ⟨σa, ha⟩ : ∃ r, K.X.must σf [(⟨#[107, 101, 121]⟩ : ByteArray), (⟨#[40]⟩ : ByteArray)] = r := ⟨_, rfl⟩
  obtain ⟨⟨pk, σb⟩, hpb⟩ : ∃ r, K.X.one σa lf ⟨#[]⟩ = r := ⟨_, rfl⟩
  obtain ⟨σc, hc0⟩ : ∃ r, K.X.must σb [(⟨#[44]⟩ : ByteArray)] = r := ⟨_, rfl⟩
  obtain ⟨⟨ck, σd⟩, hcd⟩ : ∃ r, K.X.one σc lf pk = r := ⟨_, rfl⟩
  obtain ⟨σe, he⟩ : ∃ r, K.X.must σd [(⟨#[41]⟩ : ByteArray), (⟨#[41]⟩ : ByteArray)] = r := ⟨_, rfl⟩
  have HE : Hid (K.X.table σ = (Cf.foldl (fun x c => Tx.place x pk ck c) { Sx.zero with kind := 1, name := x, tname := x }, σe)) := by show _ = _; unfold Tx.table; simp only [hq1, hq2, hR, ha, hpb, hc0, hcd, he]
  have HT := Lib.hid K.hT
  go_enter Tryz.func87, Tryz.ntmps87
  have hm1 := name_any hD0.1
  rw [hq1] at hm1
  try simp only at hm1
  go_wp2_with fail
  refine hm1.mono ?_; rintro e w1 ⟨rfl, hd1⟩
  have hD1 := hD0.trans hd1
  have hB2 := build_kn 1 x
  have hLx : K.L ≤ w1.heap.size := Nat.le_trans hle hD1.size
  have hbx : w.heap.size ≤ w1.heap.size := hD1.size
  have hblk2 : (w1.alloc (.cells (stC { Sx.zero with kind := 1, name := x, tname := x } vnil vnil vnil vnil vnil) 31)).heap[w1.heap.size]? = some (.cells (stC { Sx.zero with kind := 1, name := x, tname := x } vnil vnil vnil vnil vnil) 31 (0, 0)) := blk_new w1 _
  have hD2 := hD1.alloc (.cells (stC { Sx.zero with kind := 1, name := x, tname := x } vnil vnil vnil vnil vnil) 31)
  have hm3 := must1 hD2.1 (⟨#[40]⟩ : ByteArray)
  rw [hq2] at hm3
  try simp only [sz_alloc] at hm3
  go_wp2_with (refine wpl_sto rfl _ _ rfl rfl rfl rfl rfl ?_)
  refine hm3.mono ?_; rintro e w3 ⟨rfl, hd3⟩
  have hD3 := hD2.trans hd3
  have hblk3 := hd3.blk hblk2 hLx
  go_wp2_with fail
  go_loopw [4, 5] (fun names cols wr => ∃ (l : List ByteArray) (a : Option Addr) (c : Nat) (C : List Cl) (a3 : Option Addr) (c3 : Nat) (σ2 : Ps) (n : Nat), names = .slice a l.length c ∧ cols = .slice a3 C.length c3 ∧ Did K w σ2 wr ∧ wr.heap[w1.heap.size]? = some (.cells (stC { Sx.zero with kind := 1, name := x, tname := x } vnil vnil vnil vnil vnil) 31 (0, 0)) ∧ wr.ownsRow w.heap.size 23 2 (.slice a3 C.length c3) C.length (flatC C) ∧ wr.ownsRow w.heap.size 9 1 (.slice a l.length c) l.length (l.map Value.string) ∧ Hid (K.X.tableF n σ2 l C = (lf, Cf, σf)) ∧ (σ2.bad = none → K.X.T.length - σ2.i < n) ∧ l.length + n ≤ K.X.T.length + 1 ∧ Hid (C.length = l.length)) (fun _ _ wr => okM K wr)
  case atStart => exact ⟨[], none, 0, [], none, 0, σ2, K.X.T.length + 1, rfl, rfl, hD3, hblk3, World.ownsRow_nil _ _ _ _, World.ownsRow_nil _ _ _ _, hR, fun _ => by omega, by simp, rfl⟩
  case round =>
    obtain ⟨l, a, c, C, a3, c3, σ2, n, rfl, rfl, hD, hb, hs, hnr, HR, hn, hln, hZl⟩ := hrel
    have hT := HT.out
    have hsz := hD.size
    cases hbad : σ2.bad with
    | some bd =>
      have hok := pok_b hD.1 (v := false) (by rw [hbad]; rfl)
      have HR2 : (l, C, σ2) = (lf, Cf, σf) := by
        have h := HR.out
        cases n with
        | zero => exact h
        | succ n => rw [Tx.tableF, hbad] at h; exact h
      cases HR2
      go_wp2_with fail
      refine hok.mono ?_; rintro e w20 ⟨rfl, m20, rfl⟩
      have hd20 := (Did.refl hD.1).drewN m20
      have hD20 := hD.trans hd20
      have hb20 := hd20.blk hb hLx
      have hs20 := hd20.row hs hle
      have hn20 := hd20.row hnr hle
      have hm31 := must2 hD20.1 (⟨#[107, 101, 121]⟩ : ByteArray) (⟨#[40]⟩ : ByteArray)
      rw [ha] at hm31
      go_wp2_with fail
      refine hm31.mono ?_; rintro e w31 ⟨rfl, hd31⟩
      have hD31 := hD20.trans hd31
      have hb31 := hd31.blk hb20 hLx
      have hs31 := hd31.row hs20 hle
      have hn31 := hd31.row hn20 hle
      have hm32 := one_big hD31.1 hn31 hle (by omega) ⟨#[]⟩
      rw [hpb] at hm32
      go_wp2_with fail
      refine hm32.mono ?_; rintro e w32 ⟨rfl, hd32⟩
      have hD32 := hD31.trans hd32
      have hb32 := hd32.blk hb31 hLx
      have hs32 := hd32.row hs31 hle
      have hn32 := hd32.row hn31 hle
      have hm33 := must1 hD32.1 (⟨#[44]⟩ : ByteArray)
      rw [hc0] at hm33
      go_wp2_with fail
      refine hm33.mono ?_; rintro e w33 ⟨rfl, hd33⟩
      have hD33 := hD32.trans hd33
      have hb33 := hd33.blk hb32 hLx
      have hs33 := hd33.row hs32 hle
      have hn33 := hd33.row hn32 hle
      have hm34 := one_big hD33.1 hn33 hle (by omega) pk
      rw [hcd] at hm34
      go_wp2_with fail
      refine hm34.mono ?_; rintro e w34 ⟨rfl, hd34⟩
      have hD34 := hD33.trans hd34
      have hb34 := hd34.blk hb33 hLx
      have hs34 := hd34.row hs33 hle
      have hn34 := hd34.row hn33 hle
      have hm35 := must2 hD34.1 (⟨#[41]⟩ : ByteArray) (⟨#[41]⟩ : ByteArray)
      rw [he] at hm35
      go_wp2_with fail
      refine hm35.mono ?_; rintro e w35 ⟨rfl, hd35⟩
      have hD35 := hD34.trans hd35
      have hb35 := hd35.blk hb34 hLx
      have hs35 := hd35.row hs34 hle
      have hn35 := hd35.row hn34 hle
      have hCb : Cf.length ≤ 200000 := by have := hZl.out; omega
      have HZ0 := Lib.hid hs35
      go_wp2_with fail
      go_loopw [9, 63, 77, 83] (fun _ i _ _ wr => ∃ (j : Nat) (X : Sx) (a4 : Option Addr) (c4 : Nat), i = .int .i64 j ∧ j ≤ Cf.length ∧ Did K w σe wr ∧ wr.heap[w1.heap.size]? = some (.cells (stC X (.slice a4 X.tcols.length c4) vnil vnil vnil vnil) 31 (0, 0)) ∧ wr.ownsRow w.heap.size 23 2 (.slice a4 X.tcols.length c4) X.tcols.length (flatC X.tcols) ∧ wr.ownsRow w.heap.size 23 2 (.slice a3 Cf.length c3) Cf.length (flatC Cf) ∧ Apart (.slice a4 X.tcols.length c4) (.slice a3 Cf.length c3) ∧ Hid (X = (Cf.take j).foldl (fun x c => Tx.place x pk ck c) { Sx.zero with kind := 1, name := x, tname := x }) ∧ X.cols = [] ∧ X.sets = [] ∧ X.wher = [] ∧ X.tcols.length ≤ j) (fun _ i _ _ _ => Cf.length - (intOf i).toNat)
      case atStart => exact ⟨0, _, none, 0, rfl, by omega, hD35, hb35, World.ownsRow_nil _ _ _ _, hs35, apart_nil, rfl, rfl, rfl, rfl, Nat.le_refl _⟩
      case round =>
        obtain ⟨j, X, a4, c4, rfl, hj, hDr, hBr, hSr, hCr, hap, HX, hx1, hx2, hx3, hxl⟩ := hrel
        have hsz := hDr.size
        by_cases hjl : j < Cf.length
        · have p0 : (j : Int) < (Cf.length : Int) := by omega
          have HJ := Lib.hid (show j + 1 ≤ Cf.length from hjl)
          have p1 : (0 : Int) ≤ (j : Int) := by omega
          obtain ⟨_, _, hsl, hgx⟩ := row_read hCr
          cases hsl
          obtain ⟨gc, rfl, _, _, _⟩ := hgx (by omega)
          have k0 := ownsRow_cell hCr (j * 2) (.string Cf[j].name) (by have := flatC_at Cf j 0 hjl (by omega); rw [Nat.add_zero] at this; rw [this]; rfl)
          have k1 := ownsRow_cell hCr (j * 2 + 1) (.int .i64 Cf[j].ty) (by rw [flatC_at Cf j 1 hjl (by omega)]; rfl)
          obtain ⟨q, hq⟩ : ∃ q, Cf[j] = q := ⟨_, rfl⟩
          have HX2 := Lib.hid (place_snoc' pk ck Cf { Sx.zero with kind := 1, name := x, tname := x } j hjl hq)
          rw [hq] at k0 k1
          clear hq
          obtain ⟨nm, ty⟩ := q
          have e1 := bytes_eq nm pk
          have e2 := bytes_eq nm ck
          have z0 := blk_lt hBr
          have z1 := cell_lt k0
          cases q1 : bEq nm pk with
          | true =>
            rw [q1] at e1
            have y6 := (st18 hBr).2.2.2.2.2.2.1
            have y7 := (st18 hBr).2.2.2.2.2.2.2.1
            have u6 := blk_frozen0 hBr 6
            have u7 := blk_frozen0 hBr 7
            have hb6 : (wr.setCell ⟨w1.heap.size, 6, none⟩ (.string nm)).heap[w1.heap.size]? = some (.cells (stC { X with part := ⟨nm, X.part.ty⟩ } (.slice a4 X.tcols.length c4) vnil vnil vnil vnil) 31 (0, 0)) := by rw [blk_set hBr 6 _]; rfl
            have hb7 : ((wr.setCell ⟨w1.heap.size, 6, none⟩ (.string nm)).setCell ⟨w1.heap.size, 7, none⟩ (.int .i64 ty)).heap[w1.heap.size]? = some (.cells (stC { X with part := ⟨nm, ty⟩ } (.slice a4 X.tcols.length c4) vnil vnil vnil vnil) 31 (0, 0)) := by rw [blk_set hb6 7 _]; rfl
            go_wp2_with fail
            go_roundw
            case rel => exact ⟨j + 1, { X with part := ⟨nm, ty⟩ }, a4, c4, by go_num, HJ.out, ((hDr.own hbx 6 _).own hbx 7 _).alloc _, blk_alloc hb7 _, (row_set (row_set hSr hBr (by decide) 6 _) hb6 (by decide) 7 _).alloc _, (row_set (row_set hCr hBr (by decide) 6 _) hb6 (by decide) 7 _).alloc _, hap, (by show _ = _; rw [HX2.out, ← HX.out]; unfold Tx.place; rw [if_pos q1]), hx1, hx2, hx3, by show X.tcols.length ≤ _; omega⟩
            case measure => have hjj := HJ.out; simp [intOf]; omega
          | false =>
            rw [q1] at e1
            cases q2 : bEq nm ck with
            | true =>
              rw [q2] at e2
              have y8 := (st18 hBr).2.2.2.2.2.2.2.2.1
              have y9 := (st18 hBr).2.2.2.2.2.2.2.2.2.1
              have u8 := blk_frozen0 hBr 8
              have u9 := blk_frozen0 hBr 9
              have hb6 : (wr.setCell ⟨w1.heap.size, 8, none⟩ (.string nm)).heap[w1.heap.size]? = some (.cells (stC { X with clus := ⟨nm, X.clus.ty⟩ } (.slice a4 X.tcols.length c4) vnil vnil vnil vnil) 31 (0, 0)) := by rw [blk_set hBr 8 _]; rfl
              have hb7 : ((wr.setCell ⟨w1.heap.size, 8, none⟩ (.string nm)).setCell ⟨w1.heap.size, 9, none⟩ (.int .i64 ty)).heap[w1.heap.size]? = some (.cells (stC { X with clus := ⟨nm, ty⟩ } (.slice a4 X.tcols.length c4) vnil vnil vnil vnil) 31 (0, 0)) := by rw [blk_set hb6 9 _]; rfl
              go_wp2_with fail
              go_roundw
              case rel => exact ⟨j + 1, { X with clus := ⟨nm, ty⟩ }, a4, c4, by go_num, HJ.out, ((hDr.own hbx 8 _).own hbx 9 _).alloc _, blk_alloc hb7 _, (row_set (row_set hSr hBr (by decide) 8 _) hb6 (by decide) 9 _).alloc _, (row_set (row_set hCr hBr (by decide) 8 _) hb6 (by decide) 9 _).alloc _, hap, (by show _ = _; rw [HX2.out, ← HX.out]; unfold Tx.place; rw [if_neg (by rw [q1]; decide), if_pos q2]), hx1, hx2, hx3, by show X.tcols.length ≤ _; omega⟩
              case measure => have hjj := HJ.out; simp [intOf]; omega
            | false =>
              rw [q2] at e2
              have y10 := (st18 hBr).2.2.2.2.2.2.2.2.2.2.1
              have u10 := blk_frozen0 hBr 10
              go_wp2_with (at_builtin; refine app1 Tryz.eltC rfl _ _ rfl w.heap.size _ _ _ rfl ((hSr.alloc _).alloc _) _ _ [.string nm, .int .i64 ty] rfl rfl (cells_last2 _ _ _ _) (by intro u hu; simp at hu; rcases hu with rfl | rfl <;> rfl) (by have := HJ.out; omega) (by simp; omega) ?_; intro a5 c5 w5 h5 hg5 hn5; have hb5 : w5.heap[w1.heap.size]? = some (.cells (stC X (.slice a4 X.tcols.length c4) vnil vnil vnil vnil) 31 (0, 0)) := (hg5.block _ (blk_lt (blk_alloc (blk_alloc hBr _) _)) (fun e => row_nblk hSr hBr (by decide) e.symm)).trans (blk_alloc (blk_alloc hBr _) _); have y5 := (st18 hb5).2.2.2.2.2.2.2.2.2.2.1; have u5 := blk_frozen0 hb5 10)
              have hD5 := (((hDr.alloc (.cells #[.string nm, .int .i64 ty] 23)).alloc (.cells #[.string nm, .int .i64 ty] 23)).grown hg5 (fun g hg2 => (hSr.lt g hg2).1)).own hbx 10 (.slice a5 (X.tcols.length + 1) c5)
              have hb6 := put_tc hb5 (.slice a5 (X.tcols.length + 1) c5)
              have hS6 := row_set h5 hb5 (by decide) 10 (.slice a5 (X.tcols.length + 1) c5)
              have hC6 := row_set (hap.keep ((hCr.alloc _).alloc _) hg5) hb5 (by decide) 10 (.slice a5 (X.tcols.length + 1) c5)
              have hap6 := hap.near hn5 ((hCr.alloc _).alloc _)
              go_wp2_with fail
              go_roundw
              case rel =>
                refine ⟨j + 1, { X with tcols := X.tcols ++ [⟨nm, ty⟩] }, a5, c5, by go_num, HJ.out, hD5, by rw [List.length_append]; exact hb6, ?_, hC6, by rw [List.length_append]; exact hap6, (by show _ = _; rw [HX2.out, ← HX.out]; unfold Tx.place; rw [if_neg (by rw [q1]; decide), if_neg (by rw [q2]; decide)]), hx1, hx2, hx3, by rw [List.length_append]; show X.tcols.length + 1 ≤ _; omega⟩
                rw [List.length_append, flatC_snoc]; exact hS6
              case measure => have hjj := HJ.out; simp [intOf]; omega
        · have hje : j = Cf.length := by omega
          subst hje
          rw [List.take_length] at HX
          have hBx := build_pl
          have hMx := mki_pl
          go_wp2_with (refine wpl_st rfl _ rfl rfl rfl hBr ?_)
          go_ret
          rw [HE.out, ← HX.out]
          refine ⟨_, vnil, vnil, vnil, rfl, hDr, hSr, ?_, ?_, ?_⟩
          · rw [hx1]; exact World.ownsRow_nil _ _ _ _
          · rw [hx2]; exact World.ownsRow_nil _ _ _ _
          · rw [hx3]; exact World.ownsRow_nil _ _ _ _
    | none =>
      have hok := pok_b hD.1 (v := true) (by rw [hbad]; rfl)
      have hnn := hn hbad
      clear hn
      obtain ⟨n, rfl⟩ : ∃ m, n = m + 1 := ⟨n - 1, by omega⟩
      cases hsp : K.X.sees σ2 (⟨#[112, 114, 105, 109, 97, 114, 121]⟩ : ByteArray) with
      | true =>
        have HR2 : (l, C, σ2.step) = (lf, Cf, σf) := by
          have h := HR.out
          rw [Tx.tableF, hbad, hsp] at h; exact h
        cases HR2
        go_wp2_with fail
        refine hok.mono ?_; rintro e w19 ⟨rfl, m19, rfl⟩
        have hD19 := hD.drewN m19
        have hmay := may_any hD19.1 (⟨#[112, 114, 105, 109, 97, 114, 121]⟩ : ByteArray)
        unfold Tx.may at hmay
        rw [hsp, if_pos rfl] at hmay
        go_wp2_with fail
        refine hmay.mono ?_; rintro e w20 ⟨rfl, hd20'⟩
        have hd20 := ((Did.refl hD.1).drewN m19).trans hd20'
        have hD20 := hD.trans hd20
        have hb20 := hd20.blk hb hLx
        have hs20 := hd20.row hs hle
        have hn20 := hd20.row hnr hle
        have hm31 := must2 hD20.1 (⟨#[107, 101, 121]⟩ : ByteArray) (⟨#[40]⟩ : ByteArray)
        rw [ha] at hm31
        go_wp2_with fail
        refine hm31.mono ?_; rintro e w31 ⟨rfl, hd31⟩
        have hD31 := hD20.trans hd31
        have hb31 := hd31.blk hb20 hLx
        have hs31 := hd31.row hs20 hle
        have hn31 := hd31.row hn20 hle
        have hm32 := one_big hD31.1 hn31 hle (by omega) ⟨#[]⟩
        rw [hpb] at hm32
        go_wp2_with fail
        refine hm32.mono ?_; rintro e w32 ⟨rfl, hd32⟩
        have hD32 := hD31.trans hd32
        have hb32 := hd32.blk hb31 hLx
        have hs32 := hd32.row hs31 hle
        have hn32 := hd32.row hn31 hle
        have hm33 := must1 hD32.1 (⟨#[44]⟩ : ByteArray)
        rw [hc0] at hm33
        go_wp2_with fail
        refine hm33.mono ?_; rintro e w33 ⟨rfl, hd33⟩
        have hD33 := hD32.trans hd33
        have hb33 := hd33.blk hb32 hLx
        have hs33 := hd33.row hs32 hle
        have hn33 := hd33.row hn32 hle
        have hm34 := one_big hD33.1 hn33 hle (by omega) pk
        rw [hcd] at hm34
        go_wp2_with fail
        refine hm34.mono ?_; rintro e w34 ⟨rfl, hd34⟩
        have hD34 := hD33.trans hd34
        have hb34 := hd34.blk hb33 hLx
        have hs34 := hd34.row hs33 hle
        have hn34 := hd34.row hn33 hle
        have hm35 := must2 hD34.1 (⟨#[41]⟩ : ByteArray) (⟨#[41]⟩ : ByteArray)
        rw [he] at hm35
        go_wp2_with fail
        refine hm35.mono ?_; rintro e w35 ⟨rfl, hd35⟩
        have hD35 := hD34.trans hd35
        have hb35 := hd35.blk hb34 hLx
        have hs35 := hd35.row hs34 hle
        have hn35 := hd35.row hn34 hle
        have hCb : Cf.length ≤ 200000 := by have := hZl.out; omega
        have HZ0 := Lib.hid hs35
        go_wp2_with fail
        go_loopw [9, 63, 77, 83] (fun _ i _ _ wr => ∃ (j : Nat) (X : Sx) (a4 : Option Addr) (c4 : Nat), i = .int .i64 j ∧ j ≤ Cf.length ∧ Did K w σe wr ∧ wr.heap[w1.heap.size]? = some (.cells (stC X (.slice a4 X.tcols.length c4) vnil vnil vnil vnil) 31 (0, 0)) ∧ wr.ownsRow w.heap.size 23 2 (.slice a4 X.tcols.length c4) X.tcols.length (flatC X.tcols) ∧ wr.ownsRow w.heap.size 23 2 (.slice a3 Cf.length c3) Cf.length (flatC Cf) ∧ Apart (.slice a4 X.tcols.length c4) (.slice a3 Cf.length c3) ∧ Hid (X = (Cf.take j).foldl (fun x c => Tx.place x pk ck c) { Sx.zero with kind := 1, name := x, tname := x }) ∧ X.cols = [] ∧ X.sets = [] ∧ X.wher = [] ∧ X.tcols.length ≤ j) (fun _ i _ _ _ => Cf.length - (intOf i).toNat)
        case atStart => exact ⟨0, _, none, 0, rfl, by omega, hD35, hb35, World.ownsRow_nil _ _ _ _, hs35, apart_nil, rfl, rfl, rfl, rfl, Nat.le_refl _⟩
        case round =>
          obtain ⟨j, X, a4, c4, rfl, hj, hDr, hBr, hSr, hCr, hap, HX, hx1, hx2, hx3, hxl⟩ := hrel
          have hsz := hDr.size
          by_cases hjl : j < Cf.length
          · have p0 : (j : Int) < (Cf.length : Int) := by omega
            have HJ := Lib.hid (show j + 1 ≤ Cf.length from hjl)
            have p1 : (0 : Int) ≤ (j : Int) := by omega
            obtain ⟨_, _, hsl, hgx⟩ := row_read hCr
            cases hsl
            obtain ⟨gc, rfl, _, _, _⟩ := hgx (by omega)
            have k0 := ownsRow_cell hCr (j * 2) (.string Cf[j].name) (by have := flatC_at Cf j 0 hjl (by omega); rw [Nat.add_zero] at this; rw [this]; rfl)
            have k1 := ownsRow_cell hCr (j * 2 + 1) (.int .i64 Cf[j].ty) (by rw [flatC_at Cf j 1 hjl (by omega)]; rfl)
            obtain ⟨q, hq⟩ : ∃ q, Cf[j] = q := ⟨_, rfl⟩
            have HX2 := Lib.hid (place_snoc' pk ck Cf { Sx.zero with kind := 1, name := x, tname := x } j hjl hq)
            rw [hq] at k0 k1
            clear hq
            obtain ⟨nm, ty⟩ := q
            have e1 := bytes_eq nm pk
            have e2 := bytes_eq nm ck
            have z0 := blk_lt hBr
            have z1 := cell_lt k0
            cases q1 : bEq nm pk with
            | true =>
              rw [q1] at e1
              have y6 := (st18 hBr).2.2.2.2.2.2.1
              have y7 := (st18 hBr).2.2.2.2.2.2.2.1
              have u6 := blk_frozen0 hBr 6
              have u7 := blk_frozen0 hBr 7
              have hb6 : (wr.setCell ⟨w1.heap.size, 6, none⟩ (.string nm)).heap[w1.heap.size]? = some (.cells (stC { X with part := ⟨nm, X.part.ty⟩ } (.slice a4 X.tcols.length c4) vnil vnil vnil vnil) 31 (0, 0)) := by rw [blk_set hBr 6 _]; rfl
              have hb7 : ((wr.setCell ⟨w1.heap.size, 6, none⟩ (.string nm)).setCell ⟨w1.heap.size, 7, none⟩ (.int .i64 ty)).heap[w1.heap.size]? = some (.cells (stC { X with part := ⟨nm, ty⟩ } (.slice a4 X.tcols.length c4) vnil vnil vnil vnil) 31 (0, 0)) := by rw [blk_set hb6 7 _]; rfl
              go_wp2_with fail
              go_roundw
              case rel => exact ⟨j + 1, { X with part := ⟨nm, ty⟩ }, a4, c4, by go_num, HJ.out, ((hDr.own hbx 6 _).own hbx 7 _).alloc _, blk_alloc hb7 _, (row_set (row_set hSr hBr (by decide) 6 _) hb6 (by decide) 7 _).alloc _, (row_set (row_set hCr hBr (by decide) 6 _) hb6 (by decide) 7 _).alloc _, hap, (by show _ = _; rw [HX2.out, ← HX.out]; unfold Tx.place; rw [if_pos q1]), hx1, hx2, hx3, by show X.tcols.length ≤ _; omega⟩
              case measure => have hjj := HJ.out; simp [intOf]; omega
            | false =>
              rw [q1] at e1
              cases q2 : bEq nm ck with
              | true =>
                rw [q2] at e2
                have y8 := (st18 hBr).2.2.2.2.2.2.2.2.1
                have y9 := (st18 hBr).2.2.2.2.2.2.2.2.2.1
                have u8 := blk_frozen0 hBr 8
                have u9 := blk_frozen0 hBr 9
                have hb6 : (wr.setCell ⟨w1.heap.size, 8, none⟩ (.string nm)).heap[w1.heap.size]? = some (.cells (stC { X with clus := ⟨nm, X.clus.ty⟩ } (.slice a4 X.tcols.length c4) vnil vnil vnil vnil) 31 (0, 0)) := by rw [blk_set hBr 8 _]; rfl
                have hb7 : ((wr.setCell ⟨w1.heap.size, 8, none⟩ (.string nm)).setCell ⟨w1.heap.size, 9, none⟩ (.int .i64 ty)).heap[w1.heap.size]? = some (.cells (stC { X with clus := ⟨nm, ty⟩ } (.slice a4 X.tcols.length c4) vnil vnil vnil vnil) 31 (0, 0)) := by rw [blk_set hb6 9 _]; rfl
                go_wp2_with fail
                go_roundw
                case rel => exact ⟨j + 1, { X with clus := ⟨nm, ty⟩ }, a4, c4, by go_num, HJ.out, ((hDr.own hbx 8 _).own hbx 9 _).alloc _, blk_alloc hb7 _, (row_set (row_set hSr hBr (by decide) 8 _) hb6 (by decide) 9 _).alloc _, (row_set (row_set hCr hBr (by decide) 8 _) hb6 (by decide) 9 _).alloc _, hap, (by show _ = _; rw [HX2.out, ← HX.out]; unfold Tx.place; rw [if_neg (by rw [q1]; decide), if_pos q2]), hx1, hx2, hx3, by show X.tcols.length ≤ _; omega⟩
                case measure => have hjj := HJ.out; simp [intOf]; omega
              | false =>
                rw [q2] at e2
                have y10 := (st18 hBr).2.2.2.2.2.2.2.2.2.2.1
                have u10 := blk_frozen0 hBr 10
                go_wp2_with (at_builtin; refine app1 Tryz.eltC rfl _ _ rfl w.heap.size _ _ _ rfl ((hSr.alloc _).alloc _) _ _ [.string nm, .int .i64 ty] rfl rfl (cells_last2 _ _ _ _) (by intro u hu; simp at hu; rcases hu with rfl | rfl <;> rfl) (by have := HJ.out; omega) (by simp; omega) ?_; intro a5 c5 w5 h5 hg5 hn5; have hb5 : w5.heap[w1.heap.size]? = some (.cells (stC X (.slice a4 X.tcols.length c4) vnil vnil vnil vnil) 31 (0, 0)) := (hg5.block _ (blk_lt (blk_alloc (blk_alloc hBr _) _)) (fun e => row_nblk hSr hBr (by decide) e.symm)).trans (blk_alloc (blk_alloc hBr _) _); have y5 := (st18 hb5).2.2.2.2.2.2.2.2.2.2.1; have u5 := blk_frozen0 hb5 10)
                have hD5 := (((hDr.alloc (.cells #[.string nm, .int .i64 ty] 23)).alloc (.cells #[.string nm, .int .i64 ty] 23)).grown hg5 (fun g hg2 => (hSr.lt g hg2).1)).own hbx 10 (.slice a5 (X.tcols.length + 1) c5)
                have hb6 := put_tc hb5 (.slice a5 (X.tcols.length + 1) c5)
                have hS6 := row_set h5 hb5 (by decide) 10 (.slice a5 (X.tcols.length + 1) c5)
                have hC6 := row_set (hap.keep ((hCr.alloc _).alloc _) hg5) hb5 (by decide) 10 (.slice a5 (X.tcols.length + 1) c5)
                have hap6 := hap.near hn5 ((hCr.alloc _).alloc _)
                go_wp2_with fail
                go_roundw
                case rel =>
                  refine ⟨j + 1, { X with tcols := X.tcols ++ [⟨nm, ty⟩] }, a5, c5, by go_num, HJ.out, hD5, by rw [List.length_append]; exact hb6, ?_, hC6, by rw [List.length_append]; exact hap6, (by show _ = _; rw [HX2.out, ← HX.out]; unfold Tx.place; rw [if_neg (by rw [q1]; decide), if_neg (by rw [q2]; decide)]), hx1, hx2, hx3, by rw [List.length_append]; show X.tcols.length + 1 ≤ _; omega⟩
                  rw [List.length_append, flatC_snoc]; exact hS6
                case measure => have hjj := HJ.out; simp [intOf]; omega
          · have hje : j = Cf.length := by omega
            subst hje
            rw [List.take_length] at HX
            have hBx := build_pl
            have hMx := mki_pl
            go_wp2_with (refine wpl_st rfl _ rfl rfl rfl hBr ?_)
            go_ret
            rw [HE.out, ← HX.out]
            refine ⟨_, vnil, vnil, vnil, rfl, hDr, hSr, ?_, ?_, ?_⟩
            · rw [hx1]; exact World.ownsRow_nil _ _ _ _
            · rw [hx2]; exact World.ownsRow_nil _ _ _ _
            · rw [hx3]; exact World.ownsRow_nil _ _ _ _
      | false =>
        have hm0 := okM_none hD.1 hbad
        obtain ⟨nm, hnm⟩ := column_last K.X σ2 l 10
        have hon := fun h => column_on (X := K.X) (σ := σ2) (l := l) (most := 10) h
        obtain ⟨⟨l3, σ3⟩, hc3⟩ : ∃ r, K.X.column σ2 l 10 = r := ⟨_, rfl⟩
        rw [hc3] at hnm hon
        replace hnm : l3 = l ++ [nm] := hnm
        replace hon : σ3.bad = none → σ2.i < K.X.T.length ∧ σ2.i + 1 ≤ σ3.i := hon
        subst hnm
        have hi3 := kind_i K.X σ3
        have hk3 := fun h => kind_none (X := K.X) (σ := σ3) h
        obtain ⟨⟨ty, σ4⟩, hv4⟩ : ∃ r, K.X.kind σ3 = r := ⟨_, rfl⟩
        rw [hv4] at hi3 hk3
        replace hi3 : σ3.i ≤ σ4.i := hi3
        replace hk3 : σ4.bad = none → σ3.bad = none := hk3
        have hi4 := must1_i K.X σ4 (⟨#[44]⟩ : ByteArray)
        have hk4 := fun h => must1_none (X := K.X) (σ := σ4) (s := (⟨#[44]⟩ : ByteArray)) h
        obtain ⟨σ5, h5⟩ : ∃ r, K.X.must σ4 [(⟨#[44]⟩ : ByteArray)] = r := ⟨_, rfl⟩
        rw [h5] at hi4 hk4
        have HG : Hid (σ5.bad = none → σ2.i < K.X.T.length ∧ σ2.i + 1 ≤ σ5.i) := fun hb5 => ⟨(hon (hk3 (hk4 hb5))).1, Nat.le_trans (hon (hk3 (hk4 hb5))).2 (Nat.le_trans hi3 hi4)⟩
        clear hon hk3 hk4 hi3 hi4
        have HR2 : Hid (K.X.tableF n σ5 (l ++ [nm]) (C ++ [⟨nm, ty⟩]) = (lf, Cf, σf)) := by
          have h := HR.out
          rw [Tx.tableF, hbad, hsp] at h
          simp only [hc3, hv4, h5, last_get] at h
          exact Lib.hid h
        have hcol := fun w1 (hD1 : Did K w σ2 w1) hr1 => column_any hD1 w.heap.size (Nat.le_refl _) hD1.size (.slice a l.length c) l 10 hr1 (by omega) (by omega)
        rw [hc3] at hcol
        go_wp2_with fail
        refine hok.mono ?_; rintro e w19 ⟨rfl, m19, rfl⟩
        have hD19 := hD.drewN m19
        have hmay := may_any hD19.1 (⟨#[112, 114, 105, 109, 97, 114, 121]⟩ : ByteArray)
        unfold Tx.may at hmay
        rw [hsp, if_neg (by decide)] at hmay
        go_wp2_with fail
        refine hmay.mono ?_; rintro e w20 ⟨rfl, hd20⟩
        have hd20' := ((Did.refl hD.1).drewN m19).trans hd20
        have hD20 := hD.trans hd20'
        have hb20 := hd20'.blk hb hLx
        have hs20 := hd20'.row hs hle
        have hn20 := hd20'.row hnr hle
        have hcc := hcol _ hD20 hn20
        go_wp2_with fail
        refine hcc.mono ?_; rintro e w21 ⟨a2, c2, rfl, hD21, hn21, hel⟩
        have hb21 := hel.1 _ _ hLx (row_nblk hn20 hb20 (by decide)) hb20
        have hs21 := hel.row (rows_apart hn20 hs20 (by decide)) hs20 hle
        obtain ⟨_, _, hsl, hgn⟩ := row_read hn21
        cases hsl
        obtain ⟨gn, rfl, _, hgnl, _⟩ := hgn (by omega)
        have k21 := ownsRow_cell hn21 l.length (.string nm) (by simp)
        have p3 : IntKind.i64.wrap (l.length : Int) = (l.length : Int) := IntWalk.i64_in _ (by omega)
        have p1 : (0 : Int) ≤ (l.length : Int) := by omega
        have p2' : (l.length : Int) < (l.length : Int) + 1 := by omega
        have hZb : C.length ≤ 100001 := by have := hZl.out; omega
        go_wp2_with fail
        go_region_law (first | (refine step_app Tryz.eltC rfl _ _ rfl w.heap.size _ _ _ rfl (hs30.alloc _) _ _ [.string nm, .int .i64 ty] rfl rfl (fun j u hj => by rw [add_at, Nat.zero_add]; exact cells_last _ _ _ j u hj) (by intro u hu; simp at hu; rcases hu with rfl | rfl <;> rfl) (by omega) (by simp; omega) ?_; intro g3 cap3 w3 h3 hg3 hn3 hl3) | (go_simp; go_at_call 135; have hkk := kind_any (K := K) (σ := σ3) (hD21.drewN 1).1; rw [hv4] at hkk; refine hkk.mono ?_; rintro e w30 ⟨rfl, hd30⟩; have hb30 := hd30.blk hb21 hLx; have hs30 := hd30.row hs21 hle; have hn30 := hd30.row hn21 hle; have hD30 := (hD21.drewN 1).trans hd30; have k30 := ownsRow_cell hn30 l.length (.string nm) (by simp); have zz30 := cell_lt k30; have hs30z := hD30.size))
        all_goals
          have hg4 : (w30.alloc (.cells #[.string nm, .int .i64 ty] 23)).grownBy w3 (Value.slice a3 C.length c3).ownBlock := ⟨hg3.os, hg3.tape, hg3.output, hg3.size, hg3.block⟩
          have hD4 := (hD30.alloc (.cells #[.string nm, .int .i64 ty] 23)).grown hg4 (fun g hg2 => (hs30.lt g hg2).1)
          have hb4 : w3.heap[w1.heap.size]? = some (.cells (stC { Sx.zero with kind := 1, name := x, tname := x } vnil vnil vnil vnil vnil) 31 (0, 0)) := (hg4.block _ (blk_lt (blk_alloc hb30 _)) (fun e => row_nblk hs30 hb30 (by decide) e.symm)).trans (blk_alloc hb30 _)
          have hn4 := (rows_apart hs30 hn30 (by decide)).keep (hn30.alloc _) hg4
          have hm6 := must1 hD4.1 (⟨#[44]⟩ : ByteArray)
          rw [h5] at hm6
          go_wp2_with fail
          refine hm6.mono ?_; rintro e w6 ⟨rfl, hd6⟩
          have hD6 := hD4.trans hd6
          have hb6 := hd6.blk hb4 hLx
          have hs6 := hd6.row h3 hle
          have hn6 := hd6.row hn4 hle
          have hmm : okM K w6 < okM K wr := by
            rw [hm0]
            by_cases hb5 : σ5.bad = none
            · rw [okM_none hD6.1 hb5]
              exact less1 (HG.out hb5).1 (HG.out hb5).2
            · rw [okM_some hD6.1 hb5]; exact Nat.succ_pos _
          go_wp2_with fail
          go_roundw
          case rel =>
            refine ⟨l ++ [nm], some ⟨gn, 0, none⟩, c2, C ++ [⟨nm, ty⟩], some ⟨g3, 0, none⟩, cap3, σ5, n, by rw [List.length_append]; rfl, by rw [List.length_append]; rfl, hD6, hb6, ?_, ?_, HR2, (fun hb5 => less2 hnn (HG.out hb5).1 (HG.out hb5).2), by rw [List.length_append]; show l.length + 1 + n ≤ _; omega, by show _ = _; rw [List.length_append, List.length_append, hZl.out]; rfl⟩
            · rw [List.length_append, flatC_snoc]; exact hs6
            · rw [List.length_append]; exact hn6
          case measure => exact hmm

end Go.Proofs.YtfbgdjcnlnfoaaaGreatDoor

namespace Go.Proofs.YtfbgdjcnlnfoaaaGreatDoor
namespace Cle

def Le (σ σ' : Ps) : Prop := σ.i ≤ σ'.i ∧ (σ'.bad = none → σ.bad = none)
theorem Le.refl (σ : Ps) : Le σ σ := ⟨Nat.le_refl _, id⟩
theorem Le.trans {σ σ1 σ2 : Ps} (h : Le σ σ1) (h' : Le σ1 σ2) : Le σ σ2 := ⟨Nat.le_trans h.1 h'.1, fun hb => h.2 (h'.2 hb)⟩
theorem le_wrong (σ : Ps) (a : Nat) : Le σ (σ.wrong a) := by
  unfold Ps.wrong
  cases hb : σ.bad with
  | none => exact ⟨Nat.le_refl _, fun _ => hb⟩
  | some b => exact Le.refl σ
theorem le_step (σ : Ps) : Le σ σ.step := ⟨Nat.le_succ _, id⟩
theorem le_if {c : Prop} [Decidable c] {σ σ1 σ2 : Ps} (h1 : Le σ σ1) (h2 : Le σ σ2) : Le σ (if c then σ1 else σ2) := by
  split
  · exact h1
  · exact h2
section
variable (X : Tx)
theorem fail_le (σ : Ps) : Le σ (X.fail σ) := le_wrong _ _
theorem must1_le (σ : Ps) (s : ByteArray) : Le σ (X.must1 σ s) := le_if (le_step _) (fail_le X _)
theorem must_le : ∀ (l : List ByteArray) (σ : Ps), Le σ (X.must σ l)
  | [], σ => Le.refl σ
  | s :: l, σ => (must1_le X σ s).trans (must_le l (X.must1 σ s))
theorem name_le (σ : Ps) : Le σ (X.name σ).2 := by
  unfold Tx.name
  split
  · split
    · exact fail_le X _
    · exact le_step _
  · exact fail_le X _
theorem value_le (σ : Ps) : Le σ (X.value σ).2 := by
  unfold Tx.value
  split
  · exact le_step _
  · split
    · exact le_step _
    · exact fail_le X _
theorem count_le (σ : Ps) : Le σ (X.count σ).2 := (value_le X σ).trans (le_if (le_wrong _ _) (Le.refl _))
theorem column_le (σ : Ps) (l : List ByteArray) (most : Nat) : Le σ (X.column σ l most).2 := by
  unfold Tx.column
  have h1 : Le σ (if most ≤ l.length then σ.wrong (X.here σ) else σ) := le_if (le_wrong _ _) (Le.refl _)
  exact (h1.trans (name_le X _)).trans (le_if (le_wrong _ _) (Le.refl _))
theorem columnsF_le (most : Nat) : ∀ n σ l, Le σ (X.columnsF most n σ l).2
  | 0, σ, l => Le.refl σ
  | n + 1, σ, l => by
    rw [Tx.columnsF]
    split
    · exact ((le_step σ).trans (column_le X _ _ _)).trans (columnsF_le most n _ _)
    · exact Le.refl σ
theorem columns_le (σ : Ps) (most : Nat) : Le σ (X.columns σ most).2 := (column_le X σ [] most).trans (columnsF_le X most _ _ _)
theorem some_le (σ : Ps) : Le σ (X.some_ σ).2 := by
  unfold Tx.some_
  split
  · exact le_step _
  · exact columns_le X _ _
theorem equal_le (σ : Ps) : Le σ (X.equal σ).2 := ((name_le X σ).trans (must_le X _ _)).trans (value_le X _)
theorem wher_le (σ : Ps) (b : Bool) : Le σ (X.wher σ b).2 := by
  have h0 := (must_le X [(⟨#[119, 104, 101, 114, 101]⟩ : ByteArray)] σ).trans (equal_le X _)
  unfold Tx.wher
  simp only
  split
  · exact (h0.trans (must_le X _ _)).trans (equal_le X _)
  · split
    · exact (h0.trans (le_step _)).trans (equal_le X _)
    · exact h0
theorem using_le (σ : Ps) (b : Bool) (x : Sx) : Le σ (X.using_ σ b x).2 := by
  unfold Tx.using_
  split
  · simp only
    split
    · exact ((le_step σ).trans (le_step _)).trans (count_le X _)
    · have h0 := ((le_step σ).trans (must_le X [(⟨#[116, 105, 109, 101, 115, 116, 97, 109, 112]⟩ : ByteArray)] _)).trans (count_le X _)
      split
      · exact ((h0.trans (le_step _)).trans (must_le X _ _)).trans (count_le X _)
      · exact h0
  · exact Le.refl σ
theorem one_le (σ : Ps) (l : List ByteArray) (but : ByteArray) : Le σ (X.one σ l but).2 := (name_le X σ).trans (le_if (le_wrong _ _) (Le.refl _))
theorem kind_le (σ : Ps) : Le σ (X.kind σ).2 := by
  unfold Tx.kind
  split
  · exact le_step _
  · exact must_le X _ _
theorem tableF_le : ∀ n σ l C, Le σ (X.tableF n σ l C).2.2
  | 0, σ, l, C => Le.refl σ
  | n + 1, σ, l, C => by
    rw [Tx.tableF]
    split
    · exact Le.refl σ
    · split
      · exact le_step σ
      · exact (((column_le X σ l 10).trans (kind_le X _)).trans (must_le X _ _)).trans (tableF_le n _ _ _)
theorem table_le (σ : Ps) : Le σ (X.table σ).2 :=
  (((((((name_le X σ).trans (must_le X _ _)).trans (tableF_le X _ _ _ _)).trans (must_le X _ _)).trans (one_le X _ _ _)).trans (must_le X _ _)).trans (one_le X _ _ _)).trans (must_le X _ _)
theorem view_le (σ : Ps) : Le σ (X.view σ).2 :=
  ((((((((((((((must_le X _ σ).trans (name_le X _)).trans (must_le X _ _)).trans (some_le X _)).trans (must_le X _ _)).trans (name_le X _)).trans (must_le X _ _)).trans (name_le X _)).trans (must_le X _ _)).trans (one_le X _ _ _)).trans (must_le X _ _)).trans (name_le X _)).trans (must_le X _ _)).trans (name_le X _)).trans (must_le X _ _)
theorem index_le (σ : Ps) : Le σ (X.index σ).2 :=
  ((((((must_le X _ σ).trans (name_le X _)).trans (must_le X _ _)).trans (name_le X _)).trans (must_le X _ _)).trans (name_le X _)).trans (must_le X _ _)
theorem valuesF_le : ∀ n σ l, Le σ (X.valuesF n σ l).2
  | 0, σ, l => Le.refl σ
  | n + 1, σ, l => by
    rw [Tx.valuesF]
    split
    · exact ((le_step σ).trans (value_le X _)).trans (valuesF_le n _ _)
    · exact Le.refl σ
theorem insert_le (σ : Ps) : Le σ (X.insert σ).2 :=
  (((((((((must_le X _ σ).trans (name_le X _)).trans (must_le X _ _)).trans (columns_le X _ _)).trans (must_le X _ _)).trans (value_le X _)).trans (valuesF_le X _ _ _)).trans (le_if (fail_le X _) (Le.refl _))).trans (must_le X _ _)).trans (using_le X _ _ _)
theorem setsF_le : ∀ n σ l Z, Le σ (X.setsF n σ l Z).2
  | 0, σ, l, Z => Le.refl σ
  | n + 1, σ, l, Z => by
    have h0 := ((column_le X σ l 8).trans (must_le X [(⟨#[61]⟩ : ByteArray)] _)).trans (value_le X _)
    rw [Tx.setsF]
    try simp only
    split
    · exact (h0.trans (le_step _)).trans (setsF_le n _ _ _)
    · exact h0
theorem update_le (σ : Ps) : Le σ (X.update σ).2 :=
  ((((name_le X σ).trans (using_le X _ _ _)).trans (must_le X _ _)).trans (setsF_le X _ _ _ _)).trans (wher_le X _ _)
theorem remove_le (σ : Ps) : Le σ (X.remove σ).2 := by
  unfold Tx.remove
  have h0 : Le σ (if X.sees σ (⟨#[102, 114, 111, 109]⟩ : ByteArray) = true then ([], σ) else X.columns σ 8).2 := by
    split
    · exact Le.refl σ
    · exact columns_le X _ _
  exact (((h0.trans (must_le X _ _)).trans (name_le X _)).trans (using_le X _ _ _)).trans (wher_le X _ _)
theorem ask_le (σ : Ps) : Le σ (X.ask σ).2 := by
  have h0 := (((some_le X σ).trans (must_le X [(⟨#[102, 114, 111, 109]⟩ : ByteArray)] _)).trans (name_le X _)).trans (wher_le X _ false)
  unfold Tx.ask
  simp only
  split
  · exact (h0.trans (le_step _)).trans (count_le X _)
  · exact h0
theorem manyF_le {st : Ps → Tx.Nd × Ps} (hst : ∀ σ, Le σ (st σ).2) : ∀ n σ l, Le σ (X.manyF st n σ l).2
  | 0, σ, l => Le.refl σ
  | n + 1, σ, l => by
    rw [Tx.manyF]
    split
    · exact Le.refl σ
    · split
      · exact le_step σ
      · simp only
        have h1 : Le σ (st (if 8 ≤ l.length then σ.wrong (X.here σ) else σ)).2 := (le_if (le_wrong _ _) (Le.refl _)).trans (hst _)
        split
        · exact (h1.trans (must_le X _ _)).trans (manyF_le hst n _ _)
        · exact ⟨h1.1, fun h => absurd h (by simp)⟩
theorem stF_le : ∀ n σ, Le σ (X.stF n σ).2
  | 0, σ => Le.refl σ
  | n + 1, σ => by
    rw [Tx.stF]
    split
    · exact (le_step σ).trans (insert_le X _)
    split
    · exact (le_step σ).trans (update_le X _)
    split
    · exact (le_step σ).trans (remove_le X _)
    split
    · exact (le_step σ).trans (ask_le X _)
    split
    · exact (((le_step σ).trans (must_le X _ _)).trans (manyF_le X (stF_le n) _ _ _)).trans (must_le X _ _)
    split
    · exact (le_step σ).trans (name_le X _)
    split
    · split
      · exact ((le_step σ).trans (le_step _)).trans (table_le X _)
      split
      · exact ((le_step σ).trans (le_step _)).trans (view_le X _)
      · exact (le_step σ).trans (index_le X _)
    · exact fail_le X _
end
end Cle
end Go.Proofs.YtfbgdjcnlnfoaaaGreatDoor

namespace Go.Proofs.YtfbgdjcnlnfoaaaGreatDoor
open Go.RowKit
open Cle

structure Pv where
  x : Sx
  tc : Value
  c : Value
  s : Value
  wv : Value
def Pv.arr (p : Pv) : Array Value := stC p.x p.tc p.c p.s p.wv vnil
def Pv.val (p : Pv) : Value := .iface 156 (.agg p.arr)
def PvRows (w : World) (base : Nat) (l : List Pv) : Prop := ∀ p ∈ l, StRows w base p.x p.tc p.c p.s p.wv
def GaveNd (K : PK) (w : World) (nd : Tx.Nd) (σ : Ps) : Ending → World → Prop :=
  match nd with
  | .plain x => GaveSt K w 124 x σ
  | .change x => GaveSt K w 156 x σ
  | .batch l => fun e w' => ∃ (L : List Pv) (a : Option Addr) (cap : Nat), L.map Pv.x = l ∧ e = .returned (.iface 161 (.agg #[.slice a L.length cap])) ∧ Did K w σ w' ∧ w'.ownsRow w.heap.size 71 1 (.slice a L.length cap) L.length (L.map Pv.val) ∧ PvRows w' w.heap.size L
theorem StRows.map {w w' : World} {base : Nat} {x : Sx} {tc c s wv : Value} (h : StRows w base x tc c s wv) (f : ∀ (e : TypeId) (size n : Nat) (u : Value) (xs : List Value), (e = 23 ∨ e = 9 ∨ e = 61) → w.ownsRow base e size u n xs → w'.ownsRow base e size u n xs) : StRows w' base x tc c s wv :=
  ⟨f _ _ _ _ _ (.inl rfl) h.1, f _ _ _ _ _ (.inr (.inl rfl)) h.2.1, f _ _ _ _ _ (.inr (.inr rfl)) h.2.2.1, f _ _ _ _ _ (.inr (.inr rfl)) h.2.2.2⟩
theorem StRows.mono {w : World} {base base' : Nat} {x : Sx} {tc c s wv : Value} (h : StRows w base x tc c s wv) (hb : base' ≤ base) : StRows w base' x tc c s wv :=
  ⟨ownsRow_mono h.1 hb, ownsRow_mono h.2.1 hb, ownsRow_mono h.2.2.1 hb, ownsRow_mono h.2.2.2 hb⟩
theorem PvRows.map {w w' : World} {base : Nat} {L : List Pv} (h : PvRows w base L) (f : ∀ (e : TypeId) (size n : Nat) (u : Value) (xs : List Value), (e = 23 ∨ e = 9 ∨ e = 61) → w.ownsRow base e size u n xs → w'.ownsRow base e size u n xs) : PvRows w' base L := fun p hp => (h p hp).map f
theorem PvRows.did {K : PK} {σ : Ps} {w w' : World} {base : Nat} {L : List Pv} (h : PvRows w base L) (hd : Did K w σ w') (hb : K.L ≤ base) : PvRows w' base L := h.map fun _ _ _ _ _ _ hr => hd.row hr hb
theorem PvRows.alloc {w : World} {base : Nat} {L : List Pv} (h : PvRows w base L) (o : Obj) : PvRows (w.alloc o) base L := h.map fun _ _ _ _ _ _ hr => hr.alloc o
theorem ne_three {T e : TypeId} (hT : T ≠ 23 ∧ T ≠ 9 ∧ T ≠ 61) (he : e = 23 ∨ e = 9 ∨ e = 61) : T ≠ e := by
  rcases he with rfl | rfl | rfl
  · exact hT.1
  · exact hT.2.1
  · exact hT.2.2
theorem PvRows.set {w : World} {base bx : Nat} {C : Array Value} {T : TypeId} {fr : Nat × Nat} {L : List Pv} (h : PvRows w base L) (hx : w.heap[bx]? = some (.cells C T fr)) (hT : T ≠ 23 ∧ T ≠ 9 ∧ T ≠ 61) (o : Nat) (v : Value) : PvRows (w.setCell ⟨bx, o, none⟩ v) base L :=
  h.map fun _ _ _ _ _ he hr => row_set hr hx (fun e2 => ne_three hT he e2.symm) o v
theorem PvRows.snoc {w : World} {base : Nat} {L : List Pv} (h : PvRows w base L) {p : Pv} (hp : StRows w base p.x p.tc p.c p.s p.wv) : PvRows w base (L ++ [p]) := by
  intro q hq
  rcases List.mem_append.1 hq with hq | hq
  · exact h q hq
  · rw [List.mem_singleton.1 hq]; exact hp
theorem Tryz.eltN : Elt Tryz.prog 159 71 .nilIface 1 16 := elt_of Tryz.underlying159 (by kernel_rfl) rfl (by decide)
theorem ta_yes (V : Array Value) (w : World) : (Instr.typeAssert (.iface 156 (.agg V)) 71 156 true).run Tryz.prog w = .ok (.tuple #[.agg V, .bool true]) w := by kernel_rfl
theorem ta_pl (V : Array Value) (w : World) : (Instr.typeAssert (.iface 124 (.agg V)) 71 156 true).run Tryz.prog w = .ok (.tuple #[.agg #[.int .i64 0, .string ⟨#[]⟩, .string ⟨#[]⟩, .string ⟨#[]⟩, .string ⟨#[]⟩, .int .i64 0, .string ⟨#[]⟩, .int .i64 0, .string ⟨#[]⟩, .int .i64 0, .slice none 0 0, .slice none 0 0, .slice none 0 0, .slice none 0 0, .int .i64 0, .int .i64 0, .int .i64 0, .slice none 0 0], .bool false]) w := by kernel_rfl
theorem ta_ba (V : Array Value) (w : World) : (Instr.typeAssert (.iface 161 (.agg V)) 71 156 true).run Tryz.prog w = .ok (.tuple #[.agg #[.int .i64 0, .string ⟨#[]⟩, .string ⟨#[]⟩, .string ⟨#[]⟩, .string ⟨#[]⟩, .int .i64 0, .string ⟨#[]⟩, .int .i64 0, .string ⟨#[]⟩, .int .i64 0, .slice none 0 0, .slice none 0 0, .slice none 0 0, .slice none 0 0, .int .i64 0, .int .i64 0, .int .i64 0, .slice none 0 0], .bool false]) w := by kernel_rfl
end Go.Proofs.YtfbgdjcnlnfoaaaGreatDoor

namespace Go.Proofs.YtfbgdjcnlnfoaaaGreatDoor
open Go.RowKit
open Cle

def manyM (K : PK) (bx : Nat) (w : World) : Nat := match w.cell? ⟨K.b, 3, none⟩, w.cell? ⟨bx, 0, none⟩ with | some (.int _ v), some (.slice _ n _) => if v < 0 then 11 - n else 0 | _, _ => 0
theorem manyM_none {K : PK} {w : World} {σ : Ps} {bx n cap : Nat} {a : Option Addr} (h : PQ K w σ) (hb : σ.bad = none) (hx : w.heap[bx]? = some (.cells #[.slice a n cap] 161 (0, 0))) : manyM K bx w = 11 - n := by
  obtain ⟨_, _, _, _, _, c3, _⟩ := h.cells
  unfold manyM; rw [c3, blk_cell hx]
  have : σ.badI = -1 := by unfold Ps.badI; rw [hb]
  rw [this]; rfl
theorem manyM_some {K : PK} {w : World} {σ : Ps} {bx n cap : Nat} {a : Option Addr} (h : PQ K w σ) (hb : σ.bad ≠ none) (hx : w.heap[bx]? = some (.cells #[.slice a n cap] 161 (0, 0))) : manyM K bx w = 0 := by
  obtain ⟨_, _, _, _, _, c3, _⟩ := h.cells
  unfold manyM; rw [c3, blk_cell hx]
  cases hq : σ.bad with
  | none => exact absurd hq hb
  | some a =>
    have : σ.badI = (a : Int) := by unfold Ps.badI; rw [hq]
    rw [this]
    show (if (a : Int) < 0 then 11 - n else 0) = 0
    rw [if_neg (by omega)]
theorem many_bad {X : Tx} {st : Ps → Tx.Nd × Ps} {σ : Ps} (h : σ.bad ≠ none) (n : Nat) (l : List Sx) : X.manyF st n σ l = (l, σ) := by
  cases n with
  | zero => rfl
  | succ n =>
    rw [Tx.manyF]
    cases hb : σ.bad with
    | none => exact absurd hb h
    | some a => simp
def manyR (X : Tx) (st : Ps → Tx.Nd × Ps) (m : Nat) (l : List Sx) (a : Nat) (nd : Tx.Nd) (σ4 : Ps) : List Sx × Ps := match nd with | .change x => X.manyF st m (X.must σ4 [(⟨#[59]⟩ : ByteArray)]) (l ++ [x]) | _ => (l, ⟨σ4.i, some a⟩)
theorem many_round {X : Tx} {st : Ps → Tx.Nd × Ps} {σ σ3 σ4 : Ps} {nd : Tx.Nd} {l : List Sx} {m : Nat} (hb : σ.bad = none) (hs : (!l.isEmpty && X.sees σ (⟨#[97, 112, 112, 108, 121]⟩ : ByteArray)) = false) (h3 : (if 8 ≤ l.length then σ.wrong (X.here σ) else σ) = σ3) (h4 : st σ3 = (nd, σ4)) :
    X.manyF st (m + 1) σ l = manyR X st m l (X.here σ) nd σ4 := by
  rw [Tx.manyF, hb, hs]
  simp only [Option.isSome_none, Bool.false_eq_true, if_false]
  rw [h3, h4]
  rfl
theorem many_end {X : Tx} {st : Ps → Tx.Nd × Ps} {σ : Ps} {l : List Sx} {m : Nat} (hb : σ.bad = none) (hl : l ≠ []) (hs : X.sees σ (⟨#[97, 112, 112, 108, 121]⟩ : ByteArray) = true) : X.manyF st (m + 1) σ l = (l, σ.step) := by
  have he : l.isEmpty = false := by cases l with | nil => exact absurd rfl hl | cons a l => rfl
  rw [Tx.manyF, hb, he, hs]
  rfl
theorem less9 {a m : Nat} (h : a + (m + 1) = 10) (h8 : a ≤ 8) : a + 1 + m = 10 ∧ a + 1 ≤ 9 := by omega
theorem less11 {a : Nat} (h8 : a ≤ 8) : 11 - (a + 1) < 11 - a ∧ 0 < 11 - a := by omega
theorem wpl_stc {ops : Array Oper} {rest : List Oper} {op : Oper} {a : Act} {w : World} {Q : Exit → Act → World → Prop} {V : Array Value} (hgd : op.guard = none) (x y : Operand) (ho : op.op = .store 156 x y)
    (hx : a.eval x = .pointer (some ⟨w.heap.size, 0, none⟩)) (hy : a.eval y = .agg V) (hV : V.size = 18) (h1' : V.toList.all (·.oneCell') = true) (h : wpList Tryz.prog ops Q rest (a.put op.dst undef) (w.alloc (.cells V 156))) :
    wpList Tryz.prog ops Q (op :: rest) a (w.alloc (.cells #[.int .i64 0, .string ⟨#[]⟩, .string ⟨#[]⟩, .string ⟨#[]⟩, .string ⟨#[]⟩, .int .i64 0, .string ⟨#[]⟩, .int .i64 0, .string ⟨#[]⟩, .int .i64 0, .slice none 0 0, .slice none 0 0, .slice none 0 0, .slice none 0 0, .int .i64 0, .int .i64 0, .int .i64 0, .slice none 0 0] 156)) := by
  have hsz : (Tryz.prog.info? 156).map (·.size) = some 18 := by kernel_rfl
  have h1 : V.all (·.oneCell') = true := by rw [← Array.all_toList]; exact h1'
  refine wpList_plain hgd fun K hK => ?_
  unfold Oper.wp execOp
  have : (Instr.storeAt 156 (.pointer (some ⟨w.heap.size, 0, none⟩)) (.agg V)).run Tryz.prog (w.alloc (.cells #[.int .i64 0, .string ⟨#[]⟩, .string ⟨#[]⟩, .string ⟨#[]⟩, .string ⟨#[]⟩, .int .i64 0, .string ⟨#[]⟩, .int .i64 0, .string ⟨#[]⟩, .int .i64 0, .slice none 0 0, .slice none 0 0, .slice none 0 0, .slice none 0 0, .int .i64 0, .int .i64 0, .int .i64 0, .slice none 0 0] 156)) = .ok () (w.alloc (.cells V 156)) :=
    run_storeAt_new w _ _ V (by rw [hV]; exact hsz) (by rw [hV]; rfl) h1
  simp only [ho, hx, hy, Sem.run_bind, this, Result.andThen_ok, Sem.run_pure]
  exact hK _ _ h
set_option maxRecDepth 100000 in
set_option maxHeartbeats 8000000 in
theorem many_any {K : PK} {n : Nat} (hst : ∀ {w : World} {σ : Ps}, PQ K w σ → K.X.T.length - σ.i < n → Calls Tryz.prog 37 #[.pointer (some ⟨K.b, 0, none⟩)] w (GaveNd K w (K.X.stF n σ).1 (K.X.stF n σ).2))
    {w : World} {σ : Ps} (h : PQ K w σ) (hlt : K.X.T.length - σ.i < n) :
    Calls Tryz.prog 85 #[.pointer (some ⟨K.b, 0, none⟩)] w (GaveNd K w (.batch (K.X.many (K.X.stF n) σ).1) (K.X.many (K.X.stF n) σ).2) := by
  have hle := h.le
  have hD0 := Did.refl h
  obtain ⟨σ1, h1⟩ : ∃ r, K.X.must σ [(⟨#[98, 97, 116, 99, 104]⟩ : ByteArray)] = r := ⟨_, rfl⟩
  have hLe1 : Le σ σ1 := by rw [← h1]; exact must_le K.X _ _
  obtain ⟨⟨lf, σf⟩, hR⟩ : ∃ r, K.X.manyF (K.X.stF n) 10 σ1 [] = r := ⟨_, rfl⟩
  obtain ⟨σe, he⟩ : ∃ r, K.X.must σf [(⟨#[98, 97, 116, 99, 104]⟩ : ByteArray)] = r := ⟨_, rfl⟩
  have HE : Hid (K.X.many (K.X.stF n) σ = (lf, σe)) := by show _ = _; unfold Tx.many; simp only [h1, hR, he]
  have hm1 := must1 hD0.1 (⟨#[98, 97, 116, 99, 104]⟩ : ByteArray)
  rw [h1] at hm1
  have HLT := Lib.hid (Nat.lt_of_le_of_lt (Nat.sub_le_sub_left hLe1.1 K.X.T.length) hlt)
  clear hLe1 hlt
  have HT := Lib.hid K.hT
  have HS := fun (w : World) (σ' : Ps) (hw : PQ K w σ') (hl : Le σ1 σ') => hst hw (Nat.lt_of_le_of_lt (Nat.sub_le_sub_left hl.1 K.X.T.length) HLT.out)
  clear hst
  go_enter Tryz.func85, Tryz.ntmps85
  go_wp2_with fail
  refine hm1.mono ?_; rintro e w1 ⟨rfl, hd1⟩
  have hD1 := hD0.trans hd1
  have hLx : K.L ≤ w1.heap.size := Nat.le_trans hle hD1.size
  have hbx : w.heap.size ≤ w1.heap.size := hD1.size
  have hb1 : (w1.alloc (.cells #[vnil] 161)).heap[w1.heap.size]? = some (.cells #[vnil] 161 (0, 0)) := blk_new w1 _
  have hD2 := hD1.alloc (.cells #[vnil] 161)
  go_wp2_with fail
  go_loopw [] (fun wr => ∃ (L : List Pv) (a : Option Addr) (cap : Nat) (σ2 : Ps) (m : Nat), Did K w σ2 wr ∧ wr.heap[w1.heap.size]? = some (.cells #[.slice a L.length cap] 161 (0, 0)) ∧ wr.ownsRow w.heap.size 71 1 (.slice a L.length cap) L.length (L.map Pv.val) ∧ PvRows wr w.heap.size L ∧ Hid (K.X.manyF (K.X.stF n) m σ2 (L.map Pv.x) = (lf, σf)) ∧ L.length + m = 10 ∧ (9 ≤ L.length → σ2.bad ≠ none) ∧ L.length ≤ 9 ∧ Hid (Le σ1 σ2)) (fun wr => manyM K w1.heap.size wr)
  case atStart => exact ⟨[], none, 0, σ1, 10, hD2, hb1, World.ownsRow_nil _ _ _ _, (fun p hp => absurd hp (by simp)), hR, rfl, (fun h => absurd h (by decide)), by decide, Le.refl _⟩
  case round =>
    obtain ⟨L, a, cap, σ2, m, hD, hb, hr, hp, HR, hm, h9, hl9, HL⟩ := hrel
    have hsz := hD.size
    cases hbad : σ2.bad with
    | some bd =>
      have hok := pok_b hD.1 (v := false) (by rw [hbad]; rfl)
      have HR2 : (L.map Pv.x, σ2) = (lf, σf) := by rw [← HR.out, many_bad (by rw [hbad]; simp)]
      cases HR2
      go_wp2_with fail
      refine hok.mono ?_; rintro e w20 ⟨rfl, m20, rfl⟩
      have hd20 := (Did.refl hD.1).drewN m20
      have hD20 := hD.trans hd20
      have hb20 := hd20.blk hb hLx
      have hr20 := hd20.row hr hle
      have hp20 := hp.did hd20 hle
      have hmz := must1 hD20.1 (⟨#[98, 97, 116, 99, 104]⟩ : ByteArray)
      rw [he] at hmz
      try simp only [sz_alloc, sz_set] at hmz
      go_wp2_with fail
      refine hmz.mono ?_; rintro e w40 ⟨rfl, hd40⟩
      have hb40 := hd40.blk hb20 hLx
      have c40 : w40.cell? ⟨w1.heap.size, 0, none⟩ = some (.slice a L.length cap) := by rw [blk_cell hb40]; rfl
      go_wp2_with fail
      go_ret
      rw [HE.out]
      exact ⟨L, a, cap, rfl, rfl, hD20.trans hd40, hd40.row hr20 hle, hp20.did hd40 hle⟩
    | none =>
      have hok := pok_b hD.1 (v := true) (by rw [hbad]; rfl)
      have hl8 : L.length ≤ 8 := by
        rcases Nat.lt_or_ge L.length 9 with h | h
        · exact Nat.le_of_lt_succ h
        · exact absurd hbad (h9 h)
      clear h9 hl9
      obtain ⟨m, rfl⟩ : ∃ k, m = k + 1 := ⟨m - 1, by omega⟩
      have hM := manyM_none hD.1 hbad hb
      have hh9 := less9 hm hl8
      have hh11 := less11 hl8
      have HM := Lib.hid hm
      clear hm
      have c0 : wr.cell? ⟨w1.heap.size, 0, none⟩ = some (.slice a L.length cap) := by rw [blk_cell hb]; rfl
      by_cases hlz : L.length = 0
      · have hsf : (!(L.map Pv.x).isEmpty && K.X.sees σ2 (⟨#[97, 112, 112, 108, 121]⟩ : ByteArray)) = false := by rw [List.length_eq_zero_iff.1 hlz]; rfl
        have hful : ¬ 8 ≤ L.length := by omega
        have p0' : ((L.length : Int) == 0) = true := by rw [beq_iff_eq]; omega
        clear hlz
        go_wp2_with fail
        refine hok.mono ?_; rintro e w19 ⟨rfl, m19, rfl⟩
        have c1 : (wr.drewN m19).cell? ⟨w1.heap.size, 0, none⟩ = some (.slice a L.length cap) := c0
        have hd20 := (Did.refl hD.1).drewN m19
        have hD20 := hD.trans hd20
        have hb20 := hd20.blk hb hLx
        have hr20 := hd20.row hr hle
        have hp20 := hp.did hd20 hle
        generalize wr.drewN m19 = w20 at *
        have hat := here_any hD20.1
        go_wp2_with fail
        refine hat.mono ?_; rintro e w21 ⟨rfl, m21, rfl⟩
        have hd21 := (Did.refl hD20.1).drewN m21
        have hD21 := hD20.trans hd21
        have hb21 := hd21.blk hb20 hLx
        have hr21 := hd21.row hr20 hle
        have hp21 := hp20.did hd21 hle
        have c21 : (w20.drewN m21).cell? ⟨w1.heap.size, 0, none⟩ = some (.slice a L.length cap) := by rw [blk_cell hb21]; rfl
        have q8 : (L.length : Int) < 8 := by omega
        have hD22 := hD21
        have hb22 := hb21
        have hr22 := hr21
        have hp22 := hp21
        have hif : (if 8 ≤ (L.map Pv.x).length then σ2.wrong (K.X.here σ2) else σ2) = σ2 := by rw [if_neg (by rw [List.length_map]; exact hful)]
        have hLe3 : Le σ1 σ2 := HL.out
        have h9' : 9 ≤ L.length + 1 → σ2.bad ≠ none := fun h => absurd (Nat.le_of_succ_le_succ h) hful
        have hsm := HS _ σ2 hD22.1 hLe3
        have hLe4 := stF_le K.X n σ2
        obtain ⟨⟨nd, σ4⟩, h4⟩ : ∃ r, K.X.stF n σ2 = r := ⟨_, rfl⟩
        rw [h4] at hsm hLe4
        have HRR : Hid (manyR K.X (K.X.stF n) m (L.map Pv.x) (K.X.here σ2) nd σ4 = (lf, σf)) := by
          have h := HR.out
          rw [many_round hbad hsf hif h4] at h
          exact Lib.hid h
        have HL4 : Hid (Le σ2 σ4) := hLe4
        have HL3 := Lib.hid hLe3
        have H9 := Lib.hid h9'
        clear hif hLe4 hLe3 h9'
        have hTA := ta_yes
        have hTP := ta_pl
        have hTB := ta_ba
        cases nd with
        | plain x =>
          replace hsm : Calls Tryz.prog 37 #[.pointer (some ⟨K.b, 0, none⟩)] _ (GaveSt K _ 124 x σ4) := hsm
          have HR2 : (L.map Pv.x, (⟨σ4.i, some (K.X.here σ2)⟩ : Ps)) = (lf, σf) := HRR.out
          cases HR2
          go_wp2_with fail
          refine hsm.mono ?_; rintro e w23 ⟨tc, c, s, wv, rfl, hd23, hs23⟩
          have hD23 := hD22.trans hd23
          have hb23 := hd23.blk hb22 hLx
          have hr23 := hd23.row hr22 hle
          have hp23 := hp22.did hd23 hle
          have hD24 := hD23.alloc (.cells #[.int .i64 0, .string ⟨#[]⟩, .string ⟨#[]⟩, .string ⟨#[]⟩, .string ⟨#[]⟩, .int .i64 0, .string ⟨#[]⟩, .int .i64 0, .string ⟨#[]⟩, .int .i64 0, .slice none 0 0, .slice none 0 0, .slice none 0 0, .slice none 0 0, .int .i64 0, .int .i64 0, .int .i64 0, .slice none 0 0] 156)
          have hb24 := blk_alloc hb23 (.cells #[.int .i64 0, .string ⟨#[]⟩, .string ⟨#[]⟩, .string ⟨#[]⟩, .string ⟨#[]⟩, .int .i64 0, .string ⟨#[]⟩, .int .i64 0, .string ⟨#[]⟩, .int .i64 0, .slice none 0 0, .slice none 0 0, .slice none 0 0, .slice none 0 0, .int .i64 0, .int .i64 0, .int .i64 0, .slice none 0 0] 156)
          have hr24 := hr23.alloc (.cells #[.int .i64 0, .string ⟨#[]⟩, .string ⟨#[]⟩, .string ⟨#[]⟩, .string ⟨#[]⟩, .int .i64 0, .string ⟨#[]⟩, .int .i64 0, .string ⟨#[]⟩, .int .i64 0, .slice none 0 0, .slice none 0 0, .slice none 0 0, .slice none 0 0, .int .i64 0, .int .i64 0, .int .i64 0, .slice none 0 0] 156)
          have hp24 := hp23.alloc (.cells #[.int .i64 0, .string ⟨#[]⟩, .string ⟨#[]⟩, .string ⟨#[]⟩, .string ⟨#[]⟩, .int .i64 0, .string ⟨#[]⟩, .int .i64 0, .string ⟨#[]⟩, .int .i64 0, .slice none 0 0, .slice none 0 0, .slice none 0 0, .slice none 0 0, .int .i64 0, .int .i64 0, .int .i64 0, .slice none 0 0] 156)
          obtain ⟨_, _, _, _, _, d3, _, f3, _⟩ := hD24.1.cells
          have zb := hD24.1.lt
          go_wp2_with (refine wpl_stc rfl _ _ rfl rfl rfl rfl rfl ?_)
          have hd20 := (Did.refl hD24.1).bad (K.X.here σ2)
          have hD20 := hD24.trans hd20
          have hb20 := hd20.blk hb24 hLx
          have hr20 := hd20.row hr24 hle
          have hp20 := hp24.did hd20 hle
          have hmz := must1 hD20.1 (⟨#[98, 97, 116, 99, 104]⟩ : ByteArray)
          rw [he] at hmz
          try simp only [sz_alloc, sz_set] at hmz
          go_wp2_with fail
          refine hmz.mono ?_; rintro e w40 ⟨rfl, hd40⟩
          have hb40 := hd40.blk hb20 hLx
          have c40 : w40.cell? ⟨w1.heap.size, 0, none⟩ = some (.slice a L.length cap) := by rw [blk_cell hb40]; rfl
          go_wp2_with fail
          go_ret
          rw [HE.out]
          exact ⟨L, a, cap, rfl, rfl, hD20.trans hd40, hd40.row hr20 hle, hp20.did hd40 hle⟩
        | batch l =>
          replace hsm : Calls Tryz.prog 37 #[.pointer (some ⟨K.b, 0, none⟩)] _ (GaveNd K _ (.batch l) σ4) := hsm
          have HR2 : (L.map Pv.x, (⟨σ4.i, some (K.X.here σ2)⟩ : Ps)) = (lf, σf) := HRR.out
          cases HR2
          go_wp2_with fail
          refine hsm.mono ?_; rintro e w23 ⟨L2, a2, cap2, _, rfl, hd23, hs23, _⟩
          have hD23 := hD22.trans hd23
          have hb23 := hd23.blk hb22 hLx
          have hr23 := hd23.row hr22 hle
          have hp23 := hp22.did hd23 hle
          have hD24 := hD23.alloc (.cells #[.int .i64 0, .string ⟨#[]⟩, .string ⟨#[]⟩, .string ⟨#[]⟩, .string ⟨#[]⟩, .int .i64 0, .string ⟨#[]⟩, .int .i64 0, .string ⟨#[]⟩, .int .i64 0, .slice none 0 0, .slice none 0 0, .slice none 0 0, .slice none 0 0, .int .i64 0, .int .i64 0, .int .i64 0, .slice none 0 0] 156)
          have hb24 := blk_alloc hb23 (.cells #[.int .i64 0, .string ⟨#[]⟩, .string ⟨#[]⟩, .string ⟨#[]⟩, .string ⟨#[]⟩, .int .i64 0, .string ⟨#[]⟩, .int .i64 0, .string ⟨#[]⟩, .int .i64 0, .slice none 0 0, .slice none 0 0, .slice none 0 0, .slice none 0 0, .int .i64 0, .int .i64 0, .int .i64 0, .slice none 0 0] 156)
          have hr24 := hr23.alloc (.cells #[.int .i64 0, .string ⟨#[]⟩, .string ⟨#[]⟩, .string ⟨#[]⟩, .string ⟨#[]⟩, .int .i64 0, .string ⟨#[]⟩, .int .i64 0, .string ⟨#[]⟩, .int .i64 0, .slice none 0 0, .slice none 0 0, .slice none 0 0, .slice none 0 0, .int .i64 0, .int .i64 0, .int .i64 0, .slice none 0 0] 156)
          have hp24 := hp23.alloc (.cells #[.int .i64 0, .string ⟨#[]⟩, .string ⟨#[]⟩, .string ⟨#[]⟩, .string ⟨#[]⟩, .int .i64 0, .string ⟨#[]⟩, .int .i64 0, .string ⟨#[]⟩, .int .i64 0, .slice none 0 0, .slice none 0 0, .slice none 0 0, .slice none 0 0, .int .i64 0, .int .i64 0, .int .i64 0, .slice none 0 0] 156)
          obtain ⟨_, _, _, _, _, d3, _, f3, _⟩ := hD24.1.cells
          have zb := hD24.1.lt
          go_wp2_with (refine wpl_stc rfl _ _ rfl rfl rfl rfl rfl ?_)
          have hd20 := (Did.refl hD24.1).bad (K.X.here σ2)
          have hD20 := hD24.trans hd20
          have hb20 := hd20.blk hb24 hLx
          have hr20 := hd20.row hr24 hle
          have hp20 := hp24.did hd20 hle
          have hmz := must1 hD20.1 (⟨#[98, 97, 116, 99, 104]⟩ : ByteArray)
          rw [he] at hmz
          try simp only [sz_alloc, sz_set] at hmz
          go_wp2_with fail
          refine hmz.mono ?_; rintro e w40 ⟨rfl, hd40⟩
          have hb40 := hd40.blk hb20 hLx
          have c40 : w40.cell? ⟨w1.heap.size, 0, none⟩ = some (.slice a L.length cap) := by rw [blk_cell hb40]; rfl
          go_wp2_with fail
          go_ret
          rw [HE.out]
          exact ⟨L, a, cap, rfl, rfl, hD20.trans hd40, hd40.row hr20 hle, hp20.did hd40 hle⟩
        | change x =>
          replace hsm : Calls Tryz.prog 37 #[.pointer (some ⟨K.b, 0, none⟩)] _ (GaveSt K _ 156 x σ4) := hsm
          obtain ⟨σ5, h5⟩ : ∃ r, K.X.must σ4 [(⟨#[59]⟩ : ByteArray)] = r := ⟨_, rfl⟩
          have hLe5 : Le σ4 σ5 := by rw [← h5]; exact must_le K.X _ _
          have HL5 := Lib.hid ((HL3.out.trans HL4.out).trans hLe5)
          have H9b : Hid (9 ≤ L.length + 1 → σ5.bad ≠ none) := fun h hb5 => H9.out h (HL4.out.2 (hLe5.2 hb5))
          clear hLe5
          have HR2 : Hid (K.X.manyF (K.X.stF n) m σ5 (L.map Pv.x ++ [x]) = (lf, σf)) := by have h := HRR.out; unfold manyR at h; simp only [h5] at h; exact Lib.hid h
          go_wp2_with fail
          refine hsm.mono ?_; rintro e w23 ⟨tc, c, s, wv, rfl, hd23, hs23⟩
          have hD23 := hD22.trans hd23
          obtain ⟨tcA, tcC, htc, _⟩ := row_read hs23.1
          obtain ⟨cA, cC, hc', _⟩ := row_read hs23.2.1
          obtain ⟨sA, sC, hs', _⟩ := row_read hs23.2.2.1
          obtain ⟨wA, wC, hw', _⟩ := row_read hs23.2.2.2
          have hone : (stC x tc c s wv vnil).toList.all (·.oneCell') = true := by rw [htc, hc', hs', hw']; rfl
          clear htc hc' hs' hw'
          have hb23 := hd23.blk hb22 hLx
          have hr23 := hd23.row hr22 hle
          have hp23 := (hp22.did hd23 hle).snoc (p := ⟨x, tc, c, s, wv⟩) (hs23.mono hD22.size)
          have hD24 := hD23.alloc (.cells (stC x tc c s wv vnil) 156)
          have hm25 := must1 hD24.1 (⟨#[59]⟩ : ByteArray)
          rw [h5] at hm25
          try simp only [sz_alloc] at hm25
          go_wp2_with (refine wpl_stc rfl _ _ rfl rfl rfl rfl hone ?_)
          refine hm25.mono ?_; rintro e w25 ⟨rfl, hd25⟩
          have hD25 := hD24.trans hd25
          have hb25 := hd25.blk (blk_alloc hb23 _) hLx
          have hr25 := hd25.row (hr23.alloc _) hle
          have hp25 := (hp23.alloc _).did hd25 hle
          have c25 : w25.cell? ⟨w1.heap.size, 0, none⟩ = some (.slice a L.length cap) := by rw [blk_cell hb25]; rfl
          have hh8 : L.length ≤ 8 := hl8
          go_wp2_with (at_builtin; refine app1 Tryz.eltN rfl _ _ rfl w.heap.size _ _ _ rfl (hr25.alloc _) _ _ [.iface 156 (.agg (stC x tc c s wv vnil))] rfl rfl (cells_last _ _ _) (by intro u hu; rw [List.mem_singleton.1 hu]; rfl) (by omega) (by have := hD25.size; simp; omega) ?_; intro a5 c5 w5 h5' hg5 hn5; have hb5 : w5.heap[w1.heap.size]? = some (.cells #[.slice a L.length cap] 161 (0, 0)) := (hg5.block _ (blk_lt (blk_alloc hb25 _)) (fun e => row_nblk hr25 hb25 (by decide) e.symm)).trans (blk_alloc hb25 _); have y5 : w5.cell? ⟨w1.heap.size, 0, none⟩ = some (.slice a L.length cap) := (by rw [blk_cell hb5]; rfl); have u5 := blk_frozen0 hb5 0)
          have hD5 := ((hD25.alloc (.cells #[.iface 156 (.agg (stC x tc c s wv vnil))] 71)).grown hg5 (fun g hg2 => (hr25.lt g hg2).1)).own hbx 0 (.slice a5 (L.length + 1) c5)
          have hb6 : (w5.setCell ⟨w1.heap.size, 0, none⟩ (.slice a5 (L.length + 1) c5)).heap[w1.heap.size]? = some (.cells #[.slice a5 (L.length + 1) c5] 161 (0, 0)) := by rw [blk_set hb5 0 _]; rfl
          have hr6 := row_set h5' hb5 (by decide) 0 (.slice a5 (L.length + 1) c5)
          have hp6 := ((hp25.alloc (.cells #[.iface 156 (.agg (stC x tc c s wv vnil))] 71)).map (fun _ _ _ _ _ he hq => (rows_apart (hr25.alloc _) hq (fun e2 => ne_three (T := 71) (by decide) he e2)).keep hq hg5)).set hb5 (by decide) 0 (.slice a5 (L.length + 1) c5)
          have hmm : manyM K w1.heap.size (w5.setCell ⟨w1.heap.size, 0, none⟩ (.slice a5 (L.length + 1) c5)) < manyM K w1.heap.size wr := by
            rw [hM]
            by_cases hq : σ5.bad = none
            · rw [manyM_none hD5.1 hq hb6]; exact hh11.1
            · rw [manyM_some hD5.1 hq hb6]; exact hh11.2
          go_wp2_with fail
          go_roundw
          case rel =>
            refine ⟨L ++ [⟨x, tc, c, s, wv⟩], a5, c5, σ5, m, hD5, by rw [List.length_append]; exact hb6, by rw [List.length_append, List.map_append]; exact hr6, hp6, by rw [List.map_append]; exact HR2, by rw [List.length_append]; exact hh9.1, by rw [List.length_append]; exact H9b.out, by rw [List.length_append]; exact hh9.2, HL5⟩
          case measure => exact hmm
      · have hLn : L.map Pv.x ≠ [] := by intro e; apply hlz; rw [← List.length_map (f := Pv.x), e]; rfl
        have p0' : ((L.length : Int) == 0) = false := by rw [beq_eq_false_iff_ne]; omega
        cases hse : K.X.sees σ2 (⟨#[97, 112, 112, 108, 121]⟩ : ByteArray) with
        | true =>
          have HR2 : (L.map Pv.x, σ2.step) = (lf, σf) := by rw [← HR.out, many_end hbad hLn hse]
          cases HR2
          go_wp2_with fail
          refine hok.mono ?_; rintro e w19 ⟨rfl, m19, rfl⟩
          have hD19 := hD.drewN m19
          have c1 : (wr.drewN m19).cell? ⟨w1.heap.size, 0, none⟩ = some (.slice a L.length cap) := c0
          have hmay := may_any hD19.1 (⟨#[97, 112, 112, 108, 121]⟩ : ByteArray)
          unfold Tx.may at hmay
          rw [hse, if_pos rfl] at hmay
          go_wp2_with fail
          refine hmay.mono ?_; rintro e w20 ⟨rfl, hd20'⟩
          have hd20 := ((Did.refl hD.1).drewN m19).trans hd20'
          have hD20 := hD.trans hd20
          have hb20 := hd20.blk hb hLx
          have hr20 := hd20.row hr hle
          have hp20 := hp.did hd20 hle
          have hmz := must1 hD20.1 (⟨#[98, 97, 116, 99, 104]⟩ : ByteArray)
          rw [he] at hmz
          try simp only [sz_alloc, sz_set] at hmz
          go_wp2_with fail
          refine hmz.mono ?_; rintro e w40 ⟨rfl, hd40⟩
          have hb40 := hd40.blk hb20 hLx
          have c40 : w40.cell? ⟨w1.heap.size, 0, none⟩ = some (.slice a L.length cap) := by rw [blk_cell hb40]; rfl
          go_wp2_with fail
          go_ret
          rw [HE.out]
          exact ⟨L, a, cap, rfl, rfl, hD20.trans hd40, hd40.row hr20 hle, hp20.did hd40 hle⟩
        | false =>
          have hsf : (!(L.map Pv.x).isEmpty && K.X.sees σ2 (⟨#[97, 112, 112, 108, 121]⟩ : ByteArray)) = false := by rw [hse, Bool.and_false]
          go_wp2_with fail
          refine hok.mono ?_; rintro e w19 ⟨rfl, m19, rfl⟩
          have hD19 := hD.drewN m19
          have c1 : (wr.drewN m19).cell? ⟨w1.heap.size, 0, none⟩ = some (.slice a L.length cap) := c0
          have hmay := may_any hD19.1 (⟨#[97, 112, 112, 108, 121]⟩ : ByteArray)
          unfold Tx.may at hmay
          rw [hse, if_neg (by decide)] at hmay
          go_wp2_with fail
          refine hmay.mono ?_; rintro e w20 ⟨rfl, hd20'⟩
          have hd20 := ((Did.refl hD.1).drewN m19).trans hd20'
          have hD20 := hD.trans hd20
          have hb20 := hd20.blk hb hLx
          have hr20 := hd20.row hr hle
          have hp20 := hp.did hd20 hle
          by_cases hful : 8 ≤ L.length
          · skip
            have hat := here_any hD20.1
            go_wp2_with fail
            refine hat.mono ?_; rintro e w21 ⟨rfl, m21, rfl⟩
            have hd21 := (Did.refl hD20.1).drewN m21
            have hD21 := hD20.trans hd21
            have hb21 := hd21.blk hb20 hLx
            have hr21 := hd21.row hr20 hle
            have hp21 := hp20.did hd21 hle
            have c21 : (w20.drewN m21).cell? ⟨w1.heap.size, 0, none⟩ = some (.slice a L.length cap) := by rw [blk_cell hb21]; rfl
            have q8 : (8 : Int) ≤ (L.length : Int) := by omega
            have hwr := wrong_any hD21.1 (K.X.here σ2)
            go_wp2_with fail
            refine hwr.mono ?_; rintro e w22 ⟨rfl, hd22⟩
            have hD22 := hD21.trans hd22
            have hb22 := hd22.blk hb21 hLx
            have hr22 := hd22.row hr21 hle
            have hp22 := hp21.did hd22 hle
            obtain ⟨σ3, h3⟩ : ∃ r, σ2.wrong (K.X.here σ2) = r := ⟨_, rfl⟩
            have hif : (if 8 ≤ (L.map Pv.x).length then σ2.wrong (K.X.here σ2) else σ2) = σ3 := by rw [if_pos (by rw [List.length_map]; exact hful)]; exact h3
            have hLe3 : Le σ1 σ3 := HL.out.trans (by rw [← h3]; exact le_wrong _ _)
            have h9' : 9 ≤ L.length + 1 → σ3.bad ≠ none := fun _ => by rw [← h3]; unfold Ps.wrong; rw [hbad]; simp
            rw [h3] at hD22
            have hsm := HS _ σ3 hD22.1 hLe3
            have hLe4 := stF_le K.X n σ3
            obtain ⟨⟨nd, σ4⟩, h4⟩ : ∃ r, K.X.stF n σ3 = r := ⟨_, rfl⟩
            rw [h4] at hsm hLe4
            have HRR : Hid (manyR K.X (K.X.stF n) m (L.map Pv.x) (K.X.here σ2) nd σ4 = (lf, σf)) := by
              have h := HR.out
              rw [many_round hbad hsf hif h4] at h
              exact Lib.hid h
            have HL4 : Hid (Le σ3 σ4) := hLe4
            have HL3 := Lib.hid hLe3
            have H9 := Lib.hid h9'
            clear hif hLe4 hLe3 h9'
            have hTA := ta_yes
            have hTP := ta_pl
            have hTB := ta_ba
            cases nd with
            | plain x =>
              replace hsm : Calls Tryz.prog 37 #[.pointer (some ⟨K.b, 0, none⟩)] _ (GaveSt K _ 124 x σ4) := hsm
              have HR2 : (L.map Pv.x, (⟨σ4.i, some (K.X.here σ2)⟩ : Ps)) = (lf, σf) := HRR.out
              cases HR2
              go_wp2_with fail
              refine hsm.mono ?_; rintro e w23 ⟨tc, c, s, wv, rfl, hd23, hs23⟩
              have hD23 := hD22.trans hd23
              have hb23 := hd23.blk hb22 hLx
              have hr23 := hd23.row hr22 hle
              have hp23 := hp22.did hd23 hle
              have hD24 := hD23.alloc (.cells #[.int .i64 0, .string ⟨#[]⟩, .string ⟨#[]⟩, .string ⟨#[]⟩, .string ⟨#[]⟩, .int .i64 0, .string ⟨#[]⟩, .int .i64 0, .string ⟨#[]⟩, .int .i64 0, .slice none 0 0, .slice none 0 0, .slice none 0 0, .slice none 0 0, .int .i64 0, .int .i64 0, .int .i64 0, .slice none 0 0] 156)
              have hb24 := blk_alloc hb23 (.cells #[.int .i64 0, .string ⟨#[]⟩, .string ⟨#[]⟩, .string ⟨#[]⟩, .string ⟨#[]⟩, .int .i64 0, .string ⟨#[]⟩, .int .i64 0, .string ⟨#[]⟩, .int .i64 0, .slice none 0 0, .slice none 0 0, .slice none 0 0, .slice none 0 0, .int .i64 0, .int .i64 0, .int .i64 0, .slice none 0 0] 156)
              have hr24 := hr23.alloc (.cells #[.int .i64 0, .string ⟨#[]⟩, .string ⟨#[]⟩, .string ⟨#[]⟩, .string ⟨#[]⟩, .int .i64 0, .string ⟨#[]⟩, .int .i64 0, .string ⟨#[]⟩, .int .i64 0, .slice none 0 0, .slice none 0 0, .slice none 0 0, .slice none 0 0, .int .i64 0, .int .i64 0, .int .i64 0, .slice none 0 0] 156)
              have hp24 := hp23.alloc (.cells #[.int .i64 0, .string ⟨#[]⟩, .string ⟨#[]⟩, .string ⟨#[]⟩, .string ⟨#[]⟩, .int .i64 0, .string ⟨#[]⟩, .int .i64 0, .string ⟨#[]⟩, .int .i64 0, .slice none 0 0, .slice none 0 0, .slice none 0 0, .slice none 0 0, .int .i64 0, .int .i64 0, .int .i64 0, .slice none 0 0] 156)
              obtain ⟨_, _, _, _, _, d3, _, f3, _⟩ := hD24.1.cells
              have zb := hD24.1.lt
              go_wp2_with (refine wpl_stc rfl _ _ rfl rfl rfl rfl rfl ?_)
              have hd20 := (Did.refl hD24.1).bad (K.X.here σ2)
              have hD20 := hD24.trans hd20
              have hb20 := hd20.blk hb24 hLx
              have hr20 := hd20.row hr24 hle
              have hp20 := hp24.did hd20 hle
              have hmz := must1 hD20.1 (⟨#[98, 97, 116, 99, 104]⟩ : ByteArray)
              rw [he] at hmz
              try simp only [sz_alloc, sz_set] at hmz
              go_wp2_with fail
              refine hmz.mono ?_; rintro e w40 ⟨rfl, hd40⟩
              have hb40 := hd40.blk hb20 hLx
              have c40 : w40.cell? ⟨w1.heap.size, 0, none⟩ = some (.slice a L.length cap) := by rw [blk_cell hb40]; rfl
              go_wp2_with fail
              go_ret
              rw [HE.out]
              exact ⟨L, a, cap, rfl, rfl, hD20.trans hd40, hd40.row hr20 hle, hp20.did hd40 hle⟩
            | batch l =>
              replace hsm : Calls Tryz.prog 37 #[.pointer (some ⟨K.b, 0, none⟩)] _ (GaveNd K _ (.batch l) σ4) := hsm
              have HR2 : (L.map Pv.x, (⟨σ4.i, some (K.X.here σ2)⟩ : Ps)) = (lf, σf) := HRR.out
              cases HR2
              go_wp2_with fail
              refine hsm.mono ?_; rintro e w23 ⟨L2, a2, cap2, _, rfl, hd23, hs23, _⟩
              have hD23 := hD22.trans hd23
              have hb23 := hd23.blk hb22 hLx
              have hr23 := hd23.row hr22 hle
              have hp23 := hp22.did hd23 hle
              have hD24 := hD23.alloc (.cells #[.int .i64 0, .string ⟨#[]⟩, .string ⟨#[]⟩, .string ⟨#[]⟩, .string ⟨#[]⟩, .int .i64 0, .string ⟨#[]⟩, .int .i64 0, .string ⟨#[]⟩, .int .i64 0, .slice none 0 0, .slice none 0 0, .slice none 0 0, .slice none 0 0, .int .i64 0, .int .i64 0, .int .i64 0, .slice none 0 0] 156)
              have hb24 := blk_alloc hb23 (.cells #[.int .i64 0, .string ⟨#[]⟩, .string ⟨#[]⟩, .string ⟨#[]⟩, .string ⟨#[]⟩, .int .i64 0, .string ⟨#[]⟩, .int .i64 0, .string ⟨#[]⟩, .int .i64 0, .slice none 0 0, .slice none 0 0, .slice none 0 0, .slice none 0 0, .int .i64 0, .int .i64 0, .int .i64 0, .slice none 0 0] 156)
              have hr24 := hr23.alloc (.cells #[.int .i64 0, .string ⟨#[]⟩, .string ⟨#[]⟩, .string ⟨#[]⟩, .string ⟨#[]⟩, .int .i64 0, .string ⟨#[]⟩, .int .i64 0, .string ⟨#[]⟩, .int .i64 0, .slice none 0 0, .slice none 0 0, .slice none 0 0, .slice none 0 0, .int .i64 0, .int .i64 0, .int .i64 0, .slice none 0 0] 156)
              have hp24 := hp23.alloc (.cells #[.int .i64 0, .string ⟨#[]⟩, .string ⟨#[]⟩, .string ⟨#[]⟩, .string ⟨#[]⟩, .int .i64 0, .string ⟨#[]⟩, .int .i64 0, .string ⟨#[]⟩, .int .i64 0, .slice none 0 0, .slice none 0 0, .slice none 0 0, .slice none 0 0, .int .i64 0, .int .i64 0, .int .i64 0, .slice none 0 0] 156)
              obtain ⟨_, _, _, _, _, d3, _, f3, _⟩ := hD24.1.cells
              have zb := hD24.1.lt
              go_wp2_with (refine wpl_stc rfl _ _ rfl rfl rfl rfl rfl ?_)
              have hd20 := (Did.refl hD24.1).bad (K.X.here σ2)
              have hD20 := hD24.trans hd20
              have hb20 := hd20.blk hb24 hLx
              have hr20 := hd20.row hr24 hle
              have hp20 := hp24.did hd20 hle
              have hmz := must1 hD20.1 (⟨#[98, 97, 116, 99, 104]⟩ : ByteArray)
              rw [he] at hmz
              try simp only [sz_alloc, sz_set] at hmz
              go_wp2_with fail
              refine hmz.mono ?_; rintro e w40 ⟨rfl, hd40⟩
              have hb40 := hd40.blk hb20 hLx
              have c40 : w40.cell? ⟨w1.heap.size, 0, none⟩ = some (.slice a L.length cap) := by rw [blk_cell hb40]; rfl
              go_wp2_with fail
              go_ret
              rw [HE.out]
              exact ⟨L, a, cap, rfl, rfl, hD20.trans hd40, hd40.row hr20 hle, hp20.did hd40 hle⟩
            | change x =>
              replace hsm : Calls Tryz.prog 37 #[.pointer (some ⟨K.b, 0, none⟩)] _ (GaveSt K _ 156 x σ4) := hsm
              obtain ⟨σ5, h5⟩ : ∃ r, K.X.must σ4 [(⟨#[59]⟩ : ByteArray)] = r := ⟨_, rfl⟩
              have hLe5 : Le σ4 σ5 := by rw [← h5]; exact must_le K.X _ _
              have HL5 := Lib.hid ((HL3.out.trans HL4.out).trans hLe5)
              have H9b : Hid (9 ≤ L.length + 1 → σ5.bad ≠ none) := fun h hb5 => H9.out h (HL4.out.2 (hLe5.2 hb5))
              clear hLe5
              have HR2 : Hid (K.X.manyF (K.X.stF n) m σ5 (L.map Pv.x ++ [x]) = (lf, σf)) := by have h := HRR.out; unfold manyR at h; simp only [h5] at h; exact Lib.hid h
              go_wp2_with fail
              refine hsm.mono ?_; rintro e w23 ⟨tc, c, s, wv, rfl, hd23, hs23⟩
              have hD23 := hD22.trans hd23
              obtain ⟨tcA, tcC, htc, _⟩ := row_read hs23.1
              obtain ⟨cA, cC, hc', _⟩ := row_read hs23.2.1
              obtain ⟨sA, sC, hs', _⟩ := row_read hs23.2.2.1
              obtain ⟨wA, wC, hw', _⟩ := row_read hs23.2.2.2
              have hone : (stC x tc c s wv vnil).toList.all (·.oneCell') = true := by rw [htc, hc', hs', hw']; rfl
              clear htc hc' hs' hw'
              have hb23 := hd23.blk hb22 hLx
              have hr23 := hd23.row hr22 hle
              have hp23 := (hp22.did hd23 hle).snoc (p := ⟨x, tc, c, s, wv⟩) (hs23.mono hD22.size)
              have hD24 := hD23.alloc (.cells (stC x tc c s wv vnil) 156)
              have hm25 := must1 hD24.1 (⟨#[59]⟩ : ByteArray)
              rw [h5] at hm25
              try simp only [sz_alloc] at hm25
              go_wp2_with (refine wpl_stc rfl _ _ rfl rfl rfl rfl hone ?_)
              refine hm25.mono ?_; rintro e w25 ⟨rfl, hd25⟩
              have hD25 := hD24.trans hd25
              have hb25 := hd25.blk (blk_alloc hb23 _) hLx
              have hr25 := hd25.row (hr23.alloc _) hle
              have hp25 := (hp23.alloc _).did hd25 hle
              have c25 : w25.cell? ⟨w1.heap.size, 0, none⟩ = some (.slice a L.length cap) := by rw [blk_cell hb25]; rfl
              have hh8 : L.length ≤ 8 := hl8
              go_wp2_with (at_builtin; refine app1 Tryz.eltN rfl _ _ rfl w.heap.size _ _ _ rfl (hr25.alloc _) _ _ [.iface 156 (.agg (stC x tc c s wv vnil))] rfl rfl (cells_last _ _ _) (by intro u hu; rw [List.mem_singleton.1 hu]; rfl) (by omega) (by have := hD25.size; simp; omega) ?_; intro a5 c5 w5 h5' hg5 hn5; have hb5 : w5.heap[w1.heap.size]? = some (.cells #[.slice a L.length cap] 161 (0, 0)) := (hg5.block _ (blk_lt (blk_alloc hb25 _)) (fun e => row_nblk hr25 hb25 (by decide) e.symm)).trans (blk_alloc hb25 _); have y5 : w5.cell? ⟨w1.heap.size, 0, none⟩ = some (.slice a L.length cap) := (by rw [blk_cell hb5]; rfl); have u5 := blk_frozen0 hb5 0)
              have hD5 := ((hD25.alloc (.cells #[.iface 156 (.agg (stC x tc c s wv vnil))] 71)).grown hg5 (fun g hg2 => (hr25.lt g hg2).1)).own hbx 0 (.slice a5 (L.length + 1) c5)
              have hb6 : (w5.setCell ⟨w1.heap.size, 0, none⟩ (.slice a5 (L.length + 1) c5)).heap[w1.heap.size]? = some (.cells #[.slice a5 (L.length + 1) c5] 161 (0, 0)) := by rw [blk_set hb5 0 _]; rfl
              have hr6 := row_set h5' hb5 (by decide) 0 (.slice a5 (L.length + 1) c5)
              have hp6 := ((hp25.alloc (.cells #[.iface 156 (.agg (stC x tc c s wv vnil))] 71)).map (fun _ _ _ _ _ he hq => (rows_apart (hr25.alloc _) hq (fun e2 => ne_three (T := 71) (by decide) he e2)).keep hq hg5)).set hb5 (by decide) 0 (.slice a5 (L.length + 1) c5)
              have hmm : manyM K w1.heap.size (w5.setCell ⟨w1.heap.size, 0, none⟩ (.slice a5 (L.length + 1) c5)) < manyM K w1.heap.size wr := by
                rw [hM]
                by_cases hq : σ5.bad = none
                · rw [manyM_none hD5.1 hq hb6]; exact hh11.1
                · rw [manyM_some hD5.1 hq hb6]; exact hh11.2
              go_wp2_with fail
              go_roundw
              case rel =>
                refine ⟨L ++ [⟨x, tc, c, s, wv⟩], a5, c5, σ5, m, hD5, by rw [List.length_append]; exact hb6, by rw [List.length_append, List.map_append]; exact hr6, hp6, by rw [List.map_append]; exact HR2, by rw [List.length_append]; exact hh9.1, by rw [List.length_append]; exact H9b.out, by rw [List.length_append]; exact hh9.2, HL5⟩
              case measure => exact hmm
          · skip
            have hat := here_any hD20.1
            go_wp2_with fail
            refine hat.mono ?_; rintro e w21 ⟨rfl, m21, rfl⟩
            have hd21 := (Did.refl hD20.1).drewN m21
            have hD21 := hD20.trans hd21
            have hb21 := hd21.blk hb20 hLx
            have hr21 := hd21.row hr20 hle
            have hp21 := hp20.did hd21 hle
            have c21 : (w20.drewN m21).cell? ⟨w1.heap.size, 0, none⟩ = some (.slice a L.length cap) := by rw [blk_cell hb21]; rfl
            have q8 : (L.length : Int) < 8 := by omega
            have hD22 := hD21
            have hb22 := hb21
            have hr22 := hr21
            have hp22 := hp21
            have hif : (if 8 ≤ (L.map Pv.x).length then σ2.wrong (K.X.here σ2) else σ2) = σ2 := by rw [if_neg (by rw [List.length_map]; exact hful)]
            have hLe3 : Le σ1 σ2 := HL.out
            have h9' : 9 ≤ L.length + 1 → σ2.bad ≠ none := fun h => absurd (Nat.le_of_succ_le_succ h) hful
            have hsm := HS _ σ2 hD22.1 hLe3
            have hLe4 := stF_le K.X n σ2
            obtain ⟨⟨nd, σ4⟩, h4⟩ : ∃ r, K.X.stF n σ2 = r := ⟨_, rfl⟩
            rw [h4] at hsm hLe4
            have HRR : Hid (manyR K.X (K.X.stF n) m (L.map Pv.x) (K.X.here σ2) nd σ4 = (lf, σf)) := by
              have h := HR.out
              rw [many_round hbad hsf hif h4] at h
              exact Lib.hid h
            have HL4 : Hid (Le σ2 σ4) := hLe4
            have HL3 := Lib.hid hLe3
            have H9 := Lib.hid h9'
            clear hif hLe4 hLe3 h9'
            have hTA := ta_yes
            have hTP := ta_pl
            have hTB := ta_ba
            cases nd with
            | plain x =>
              replace hsm : Calls Tryz.prog 37 #[.pointer (some ⟨K.b, 0, none⟩)] _ (GaveSt K _ 124 x σ4) := hsm
              have HR2 : (L.map Pv.x, (⟨σ4.i, some (K.X.here σ2)⟩ : Ps)) = (lf, σf) := HRR.out
              cases HR2
              go_wp2_with fail
              refine hsm.mono ?_; rintro e w23 ⟨tc, c, s, wv, rfl, hd23, hs23⟩
              have hD23 := hD22.trans hd23
              have hb23 := hd23.blk hb22 hLx
              have hr23 := hd23.row hr22 hle
              have hp23 := hp22.did hd23 hle
              have hD24 := hD23.alloc (.cells #[.int .i64 0, .string ⟨#[]⟩, .string ⟨#[]⟩, .string ⟨#[]⟩, .string ⟨#[]⟩, .int .i64 0, .string ⟨#[]⟩, .int .i64 0, .string ⟨#[]⟩, .int .i64 0, .slice none 0 0, .slice none 0 0, .slice none 0 0, .slice none 0 0, .int .i64 0, .int .i64 0, .int .i64 0, .slice none 0 0] 156)
              have hb24 := blk_alloc hb23 (.cells #[.int .i64 0, .string ⟨#[]⟩, .string ⟨#[]⟩, .string ⟨#[]⟩, .string ⟨#[]⟩, .int .i64 0, .string ⟨#[]⟩, .int .i64 0, .string ⟨#[]⟩, .int .i64 0, .slice none 0 0, .slice none 0 0, .slice none 0 0, .slice none 0 0, .int .i64 0, .int .i64 0, .int .i64 0, .slice none 0 0] 156)
              have hr24 := hr23.alloc (.cells #[.int .i64 0, .string ⟨#[]⟩, .string ⟨#[]⟩, .string ⟨#[]⟩, .string ⟨#[]⟩, .int .i64 0, .string ⟨#[]⟩, .int .i64 0, .string ⟨#[]⟩, .int .i64 0, .slice none 0 0, .slice none 0 0, .slice none 0 0, .slice none 0 0, .int .i64 0, .int .i64 0, .int .i64 0, .slice none 0 0] 156)
              have hp24 := hp23.alloc (.cells #[.int .i64 0, .string ⟨#[]⟩, .string ⟨#[]⟩, .string ⟨#[]⟩, .string ⟨#[]⟩, .int .i64 0, .string ⟨#[]⟩, .int .i64 0, .string ⟨#[]⟩, .int .i64 0, .slice none 0 0, .slice none 0 0, .slice none 0 0, .slice none 0 0, .int .i64 0, .int .i64 0, .int .i64 0, .slice none 0 0] 156)
              obtain ⟨_, _, _, _, _, d3, _, f3, _⟩ := hD24.1.cells
              have zb := hD24.1.lt
              go_wp2_with (refine wpl_stc rfl _ _ rfl rfl rfl rfl rfl ?_)
              have hd20 := (Did.refl hD24.1).bad (K.X.here σ2)
              have hD20 := hD24.trans hd20
              have hb20 := hd20.blk hb24 hLx
              have hr20 := hd20.row hr24 hle
              have hp20 := hp24.did hd20 hle
              have hmz := must1 hD20.1 (⟨#[98, 97, 116, 99, 104]⟩ : ByteArray)
              rw [he] at hmz
              try simp only [sz_alloc, sz_set] at hmz
              go_wp2_with fail
              refine hmz.mono ?_; rintro e w40 ⟨rfl, hd40⟩
              have hb40 := hd40.blk hb20 hLx
              have c40 : w40.cell? ⟨w1.heap.size, 0, none⟩ = some (.slice a L.length cap) := by rw [blk_cell hb40]; rfl
              go_wp2_with fail
              go_ret
              rw [HE.out]
              exact ⟨L, a, cap, rfl, rfl, hD20.trans hd40, hd40.row hr20 hle, hp20.did hd40 hle⟩
            | batch l =>
              replace hsm : Calls Tryz.prog 37 #[.pointer (some ⟨K.b, 0, none⟩)] _ (GaveNd K _ (.batch l) σ4) := hsm
              have HR2 : (L.map Pv.x, (⟨σ4.i, some (K.X.here σ2)⟩ : Ps)) = (lf, σf) := HRR.out
              cases HR2
              go_wp2_with fail
              refine hsm.mono ?_; rintro e w23 ⟨L2, a2, cap2, _, rfl, hd23, hs23, _⟩
              have hD23 := hD22.trans hd23
              have hb23 := hd23.blk hb22 hLx
              have hr23 := hd23.row hr22 hle
              have hp23 := hp22.did hd23 hle
              have hD24 := hD23.alloc (.cells #[.int .i64 0, .string ⟨#[]⟩, .string ⟨#[]⟩, .string ⟨#[]⟩, .string ⟨#[]⟩, .int .i64 0, .string ⟨#[]⟩, .int .i64 0, .string ⟨#[]⟩, .int .i64 0, .slice none 0 0, .slice none 0 0, .slice none 0 0, .slice none 0 0, .int .i64 0, .int .i64 0, .int .i64 0, .slice none 0 0] 156)
              have hb24 := blk_alloc hb23 (.cells #[.int .i64 0, .string ⟨#[]⟩, .string ⟨#[]⟩, .string ⟨#[]⟩, .string ⟨#[]⟩, .int .i64 0, .string ⟨#[]⟩, .int .i64 0, .string ⟨#[]⟩, .int .i64 0, .slice none 0 0, .slice none 0 0, .slice none 0 0, .slice none 0 0, .int .i64 0, .int .i64 0, .int .i64 0, .slice none 0 0] 156)
              have hr24 := hr23.alloc (.cells #[.int .i64 0, .string ⟨#[]⟩, .string ⟨#[]⟩, .string ⟨#[]⟩, .string ⟨#[]⟩, .int .i64 0, .string ⟨#[]⟩, .int .i64 0, .string ⟨#[]⟩, .int .i64 0, .slice none 0 0, .slice none 0 0, .slice none 0 0, .slice none 0 0, .int .i64 0, .int .i64 0, .int .i64 0, .slice none 0 0] 156)
              have hp24 := hp23.alloc (.cells #[.int .i64 0, .string ⟨#[]⟩, .string ⟨#[]⟩, .string ⟨#[]⟩, .string ⟨#[]⟩, .int .i64 0, .string ⟨#[]⟩, .int .i64 0, .string ⟨#[]⟩, .int .i64 0, .slice none 0 0, .slice none 0 0, .slice none 0 0, .slice none 0 0, .int .i64 0, .int .i64 0, .int .i64 0, .slice none 0 0] 156)
              obtain ⟨_, _, _, _, _, d3, _, f3, _⟩ := hD24.1.cells
              have zb := hD24.1.lt
              go_wp2_with (refine wpl_stc rfl _ _ rfl rfl rfl rfl rfl ?_)
              have hd20 := (Did.refl hD24.1).bad (K.X.here σ2)
              have hD20 := hD24.trans hd20
              have hb20 := hd20.blk hb24 hLx
              have hr20 := hd20.row hr24 hle
              have hp20 := hp24.did hd20 hle
              have hmz := must1 hD20.1 (⟨#[98, 97, 116, 99, 104]⟩ : ByteArray)
              rw [he] at hmz
              try simp only [sz_alloc, sz_set] at hmz
              go_wp2_with fail
              refine hmz.mono ?_; rintro e w40 ⟨rfl, hd40⟩
              have hb40 := hd40.blk hb20 hLx
              have c40 : w40.cell? ⟨w1.heap.size, 0, none⟩ = some (.slice a L.length cap) := by rw [blk_cell hb40]; rfl
              go_wp2_with fail
              go_ret
              rw [HE.out]
              exact ⟨L, a, cap, rfl, rfl, hD20.trans hd40, hd40.row hr20 hle, hp20.did hd40 hle⟩
            | change x =>
              replace hsm : Calls Tryz.prog 37 #[.pointer (some ⟨K.b, 0, none⟩)] _ (GaveSt K _ 156 x σ4) := hsm
              obtain ⟨σ5, h5⟩ : ∃ r, K.X.must σ4 [(⟨#[59]⟩ : ByteArray)] = r := ⟨_, rfl⟩
              have hLe5 : Le σ4 σ5 := by rw [← h5]; exact must_le K.X _ _
              have HL5 := Lib.hid ((HL3.out.trans HL4.out).trans hLe5)
              have H9b : Hid (9 ≤ L.length + 1 → σ5.bad ≠ none) := fun h hb5 => H9.out h (HL4.out.2 (hLe5.2 hb5))
              clear hLe5
              have HR2 : Hid (K.X.manyF (K.X.stF n) m σ5 (L.map Pv.x ++ [x]) = (lf, σf)) := by have h := HRR.out; unfold manyR at h; simp only [h5] at h; exact Lib.hid h
              go_wp2_with fail
              refine hsm.mono ?_; rintro e w23 ⟨tc, c, s, wv, rfl, hd23, hs23⟩
              have hD23 := hD22.trans hd23
              obtain ⟨tcA, tcC, htc, _⟩ := row_read hs23.1
              obtain ⟨cA, cC, hc', _⟩ := row_read hs23.2.1
              obtain ⟨sA, sC, hs', _⟩ := row_read hs23.2.2.1
              obtain ⟨wA, wC, hw', _⟩ := row_read hs23.2.2.2
              have hone : (stC x tc c s wv vnil).toList.all (·.oneCell') = true := by rw [htc, hc', hs', hw']; rfl
              clear htc hc' hs' hw'
              have hb23 := hd23.blk hb22 hLx
              have hr23 := hd23.row hr22 hle
              have hp23 := (hp22.did hd23 hle).snoc (p := ⟨x, tc, c, s, wv⟩) (hs23.mono hD22.size)
              have hD24 := hD23.alloc (.cells (stC x tc c s wv vnil) 156)
              have hm25 := must1 hD24.1 (⟨#[59]⟩ : ByteArray)
              rw [h5] at hm25
              try simp only [sz_alloc] at hm25
              go_wp2_with (refine wpl_stc rfl _ _ rfl rfl rfl rfl hone ?_)
              refine hm25.mono ?_; rintro e w25 ⟨rfl, hd25⟩
              have hD25 := hD24.trans hd25
              have hb25 := hd25.blk (blk_alloc hb23 _) hLx
              have hr25 := hd25.row (hr23.alloc _) hle
              have hp25 := (hp23.alloc _).did hd25 hle
              have c25 : w25.cell? ⟨w1.heap.size, 0, none⟩ = some (.slice a L.length cap) := by rw [blk_cell hb25]; rfl
              have hh8 : L.length ≤ 8 := hl8
              go_wp2_with (at_builtin; refine app1 Tryz.eltN rfl _ _ rfl w.heap.size _ _ _ rfl (hr25.alloc _) _ _ [.iface 156 (.agg (stC x tc c s wv vnil))] rfl rfl (cells_last _ _ _) (by intro u hu; rw [List.mem_singleton.1 hu]; rfl) (by omega) (by have := hD25.size; simp; omega) ?_; intro a5 c5 w5 h5' hg5 hn5; have hb5 : w5.heap[w1.heap.size]? = some (.cells #[.slice a L.length cap] 161 (0, 0)) := (hg5.block _ (blk_lt (blk_alloc hb25 _)) (fun e => row_nblk hr25 hb25 (by decide) e.symm)).trans (blk_alloc hb25 _); have y5 : w5.cell? ⟨w1.heap.size, 0, none⟩ = some (.slice a L.length cap) := (by rw [blk_cell hb5]; rfl); have u5 := blk_frozen0 hb5 0)
              have hD5 := ((hD25.alloc (.cells #[.iface 156 (.agg (stC x tc c s wv vnil))] 71)).grown hg5 (fun g hg2 => (hr25.lt g hg2).1)).own hbx 0 (.slice a5 (L.length + 1) c5)
              have hb6 : (w5.setCell ⟨w1.heap.size, 0, none⟩ (.slice a5 (L.length + 1) c5)).heap[w1.heap.size]? = some (.cells #[.slice a5 (L.length + 1) c5] 161 (0, 0)) := by rw [blk_set hb5 0 _]; rfl
              have hr6 := row_set h5' hb5 (by decide) 0 (.slice a5 (L.length + 1) c5)
              have hp6 := ((hp25.alloc (.cells #[.iface 156 (.agg (stC x tc c s wv vnil))] 71)).map (fun _ _ _ _ _ he hq => (rows_apart (hr25.alloc _) hq (fun e2 => ne_three (T := 71) (by decide) he e2)).keep hq hg5)).set hb5 (by decide) 0 (.slice a5 (L.length + 1) c5)
              have hmm : manyM K w1.heap.size (w5.setCell ⟨w1.heap.size, 0, none⟩ (.slice a5 (L.length + 1) c5)) < manyM K w1.heap.size wr := by
                rw [hM]
                by_cases hq : σ5.bad = none
                · rw [manyM_none hD5.1 hq hb6]; exact hh11.1
                · rw [manyM_some hD5.1 hq hb6]; exact hh11.2
              go_wp2_with fail
              go_roundw
              case rel =>
                refine ⟨L ++ [⟨x, tc, c, s, wv⟩], a5, c5, σ5, m, hD5, by rw [List.length_append]; exact hb6, by rw [List.length_append, List.map_append]; exact hr6, hp6, by rw [List.map_append]; exact HR2, by rw [List.length_append]; exact hh9.1, by rw [List.length_append]; exact H9b.out, by rw [List.length_append]; exact hh9.2, HL5⟩
              case measure => exact hmm
end Go.Proofs.YtfbgdjcnlnfoaaaGreatDoor

