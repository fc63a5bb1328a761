/- Parts of the proof, joined: PlainPO LawPB. -/
import Derived.Test.YtfbgdjcnlnfoaaaGreatDoorB09
import Derived.Test.YtfbgdjcnlnfoaaaGreatDoorB13e
namespace Go.Proofs.YtfbgdjcnlnfoaaaGreatDoor
namespace Cle

def batF : Nat → ByteArray
  | 0 => (⟨#[98, 101, 103, 105, 110, 32, 98, 97, 116, 99, 104, 32]⟩ : ByteArray)
  | k + 1 => batF k ++ (⟨#[100, 101, 108, 101, 116, 101, 32, 102, 114, 111, 109, 32, 116, 32, 119, 104, 101, 114, 101, 32, 112, 32, 61, 32, 39, 120, 39, 59, 32]⟩ : ByteArray)
def batB (k : Nat) : ByteArray := batF k ++ (⟨#[97, 112, 112, 108, 121, 32, 98, 97, 116, 99, 104]⟩ : ByteArray)
def batP (k : Nat) : Bool :=
  let r := parseL (batB k)
  if k = 0 ∨ 8 < k then decide (r.2 = (((12 + 29 * (if k = 0 then 0 else 8) : Nat) : Int), 3))
  else decide (r.2 = (0, 0)) && decide (r.1.x.kind = 9) && decide (r.1.parts.length = k) && r.1.parts.all fun y => decide (y.kind = 7) && decide (y.of_ = (⟨#[116]⟩ : ByteArray)) && decide (y.wher.length = 1)
theorem bat_0 : batP 0 = true := by decide +kernel
theorem bat_1 : batP 1 = true := by decide +kernel
theorem bat_2 : batP 2 = true := by decide +kernel
theorem bat_3 : batP 3 = true := by decide +kernel
theorem bat_4 : batP 4 = true := by decide +kernel
theorem bat_5 : batP 5 = true := by decide +kernel
theorem bat_6 : batP 6 = true := by decide +kernel
theorem bat_7 : batP 7 = true := by decide +kernel
theorem bat_8 : batP 8 = true := by decide +kernel
theorem bat_9 : batP 9 = true := by decide +kernel
theorem bat_10 : batP 10 = true := by decide +kernel
end Cle
end Go.Proofs.YtfbgdjcnlnfoaaaGreatDoor

namespace Go.Proofs.YtfbgdjcnlnfoaaaGreatDoor
open Go.RowKit
open Cle

theorem bat_any (k : Nat) (h : k < 11) : batP k = true := by
  have h : k = 0 ∨ k = 1 ∨ k = 2 ∨ k = 3 ∨ k = 4 ∨ k = 5 ∨ k = 6 ∨ k = 7 ∨ k = 8 ∨ k = 9 ∨ k = 10 := by omega
  rcases h with rfl | rfl | rfl | rfl | rfl | rfl | rfl | rfl | rfl | rfl | rfl
  · exact bat_0
  · exact bat_1
  · exact bat_2
  · exact bat_3
  · exact bat_4
  · exact bat_5
  · exact bat_6
  · exact bat_7
  · exact bat_8
  · exact bat_9
  · exact bat_10
theorem batF_size : ∀ k, (batF k).size = 12 + 29 * k
  | 0 => rfl
  | k + 1 => by
    rw [batF, ByteArray.size_append, batF_size k]
    show 12 + 29 * k + 29 = _
    omega
theorem bat_no {k : Nat} (h : k < 11) (hk : k = 0 ∨ 8 < k) : (parseL (batB k)).2 = (((12 + 29 * (if k = 0 then 0 else 8) : Nat) : Int), 3) := by
  have := bat_any k h
  unfold batP at this
  simp only at this
  rw [if_pos hk] at this
  exact of_decide_eq_true this
theorem bat_yes {k : Nat} (h : k < 11) (hk : ¬ (k = 0 ∨ 8 < k)) : (parseL (batB k)).2 = (0, 0) ∧ (parseL (batB k)).1.x.kind = 9 ∧ (parseL (batB k)).1.parts.length = k ∧ ∀ y ∈ (parseL (batB k)).1.parts, y.kind = 7 ∧ y.of_ = (⟨#[116]⟩ : ByteArray) ∧ y.wher.length = 1 := by
  have := bat_any k h
  unfold batP at this
  simp only at this
  rw [if_neg hk] at this
  simp only [Bool.and_eq_true, decide_eq_true_eq, List.all_eq_true] at this
  exact ⟨this.1.1.1, this.1.1.2, this.1.2, fun y hy => ⟨(this.2 y hy).1.1, (this.2 y hy).1.2, (this.2 y hy).2⟩⟩
def atK (j : Nat) : Int := if j ≤ 8 then 12 else 244
set_option maxRecDepth 100000 in
set_option maxHeartbeats 8000000 in
theorem parseBatches_law (n : Int) (w : World) (hG : Gp w) (hn0 : -9223372036854775808 ≤ n) (hn1 : n ≤ 9223372036854775807) :
    Calls Tryz.prog 7 #[.int .i64 n] w fun e w' => e = .returned (.bool true) ∧ Sp w w' := by
  have hpl := fun w => place_any n 11 w (by omega) (by omega) hn0 hn1
  obtain ⟨k, hk⟩ : ∃ k : Nat, n % 11 = k := ⟨(n % 11).toNat, by omega⟩
  have hkl : k < 11 := by omega
  rw [hk] at hpl
  have HG := Lib.hid hG
  clear hk hn0 hn1 hG
  go_enter Tryz.func7, Tryz.ntmps7
  go_wp2_with fail
  refine (hpl _).mono ?_; rintro e w1 ⟨rfl, rfl⟩
  go_wp2_with fail
  go_loopw [4, 5, 6] (fun s at_ i wr => ∃ j : Nat, i = .int .i64 j ∧ s = .string (batF j) ∧ at_ = .int .i64 (atK j) ∧ j ≤ k ∧ Hid (w = wr)) (fun _ _ i _ => 12 - (intOf i).toNat)
  case atStart => exact ⟨0, rfl, rfl, rfl, Nat.zero_le _, rfl⟩
  case round =>
    obtain ⟨j, rfl, rfl, rfl, hj, HW⟩ := hrel
    obtain rfl := HW.out
    clear HW
    by_cases hlt : j < k
    · have q1 : (j : Int) < (k : Int) := by omega
      obtain ⟨S, hS⟩ : ∃ S, batF j = S := ⟨_, rfl⟩
      have hsz := batF_size j
      rw [hS] at hsz ⊢
      have HS := Lib.hid hS
      have HSZ := Lib.hid hsz
      have hadd := add_str S (⟨#[100, 101, 108, 101, 116, 101, 32, 102, 114, 111, 109, 32, 116, 32, 119, 104, 101, 114, 101, 32, 112, 32, 61, 32, 39, 120, 39, 59, 32]⟩ : ByteArray) (by rw [hsz]; show _ + 29 ≤ _; omega)
      have HJ := Lib.hid (show j + 1 ≤ k from hlt)
      clear hS hsz
      by_cases h8 : j = 8
      · subst h8
        have hz : S.size = 244 := by rw [HSZ.out]
        have hz2 : ((S.size : Nat) : Int) = 244 := by rw [hz]; rfl
        go_wp2_with fail
        go_roundw
        case rel => exact ⟨9, by go_num, by rw [batF, HS.out], rfl, HJ.out, trivial⟩
        case measure => simp [intOf]
      · have q2 : ((j : Int) == 8) = false := beq_eq_false_iff_ne.2 (by omega)
        have HA : Hid (atK (j + 1) = atK j) := by
          show _ = _
          unfold atK
          by_cases h : j ≤ 8
          · rw [if_pos h, if_pos (by omega)]
          · rw [if_neg h, if_neg (by omega)]
        clear h8
        go_wp2_with fail
        go_roundw
        case rel => exact ⟨j + 1, by go_num, by rw [batF, HS.out], by rw [HA.out], HJ.out, trivial⟩
        case measure => have := HJ.out; simp [intOf]; omega
    · have hje : j = k := by omega
      subst hje
      have hadd := add_str (batF j) (⟨#[97, 112, 112, 108, 121, 32, 98, 97, 116, 99, 104]⟩ : ByteArray) (by rw [batF_size]; show _ + 11 ≤ _; omega)
      obtain ⟨A, hA⟩ : ∃ A, batF j ++ (⟨#[97, 112, 112, 108, 121, 32, 98, 97, 116, 99, 104]⟩ : ByteArray) = A := ⟨_, rfl⟩
      rw [hA] at hadd
      have hAB : batB j = A := hA
      obtain ⟨S, hS⟩ : ∃ S, batF j = S := ⟨_, rfl⟩
      rw [hS] at hadd ⊢
      clear hS hA hpl
      by_cases hno : j = 0 ∨ 8 < j
      · have hp := bat_no hkl hno
        rw [hAB] at hp
        have hat : (((12 + 29 * (if j = 0 then 0 else 8) : Nat)) : Int) = atK j := by
          unfold atK
          rcases hno with h | h
          · subst h; rfl
          · rw [if_neg (by omega), if_neg (by omega)]; rfl
        rw [hat] at hp
        have hp1 := parse_at HG.out (s := A) rfl (by rw [hp]) (by rw [hp])
        clear hp hat hAB
        obtain ⟨t, ht⟩ : ∃ t, atK j = t := ⟨_, rfl⟩
        rw [ht] at hp1 ⊢
        clear ht
        have hor : (((j : Int) == 0) = true) ∨ (((j : Int) == 0) = false ∧ (8 : Int) < (j : Int)) := by
          rcases hno with h | h
          · left; rw [h]; rfl
          · right; exact ⟨beq_eq_false_iff_ne.2 (by omega), by omega⟩
        clear hno
        rcases hor with g1 | ⟨g1, g2⟩
        all_goals
          go_wp2_with fail
          refine hp1.mono ?_; rintro en w2 ⟨x, tc, c, s, wv, pv, L, rfl, hb1, hS1⟩
          have hk1 := (Sp.refl HG.out).step hb1
          have hq1 := hS1.wd.one
          have hk2 := hk1.alloc (.cells (stC x tc c s wv pv) 31)
          have haw := awake14_any hk2.2
          clear hS1 hb1 hp1
          go_wp2_with (refine wpl_sto2 rfl _ _ rfl rfl rfl rfl rfl hq1 ?_)
          refine haw.mono ?_; rintro e w7 ⟨rfl, h7⟩
          go_wp2_with fail
          go_ret
          exact ⟨rfl, hk2.trans h7⟩
      · obtain ⟨b1, b2, b3, b4⟩ := bat_yes hkl hno
        rw [hAB] at b1 b2 b3 b4
        have g1 : ((j : Int) == 0) = false := beq_eq_false_iff_ne.2 (by omega)
        have g2 : ¬ (8 : Int) < (j : Int) := by omega
        have hp1 := parse_at HG.out (s := A) rfl (show (parseL A).2.1 = 0 by rw [b1]) (show (parseL A).2.2 = 0 by rw [b1])
        obtain ⟨z, hz⟩ : ∃ z, (parseL A).1 = z := ⟨_, rfl⟩
        rw [hz] at hp1 b2 b3 b4
        have B2 := Lib.hid b2
        have B3 := Lib.hid b3
        have B4 := Lib.hid b4
        obtain ⟨t, ht⟩ : ∃ t, atK j = t := ⟨_, rfl⟩
        rw [ht]
        clear b1 b2 b3 b4 hz hAB ht hno
        go_wp2_with fail
        refine hp1.mono ?_; rintro en w2 ⟨x, tc, c, s, wv, pv, L, rfl, hb1, hS1⟩
        have hk1 := (Sp.refl HG.out).step hb1
        have hq1 := hS1.wd.one
        have hk2 := hk1.alloc (.cells (stC x tc c s wv pv) 31)
        have hwd := hS1.wd.below ((Below.refl w2.heap.size w2).alloc (Nat.le_refl _) (.cells (stC x tc c s wv pv) 31))
        have hxk : x.kind = 9 := by rw [show x = z.x from hS1.x]; exact B2.out
        have hLj : L.length = j := by rw [← B3.out, ← hS1.parts, List.length_map]
        have HP : Hid (∀ q ∈ L, q.x.kind = 7 ∧ q.x.of_ = (⟨#[116]⟩ : ByteArray) ∧ q.x.wher.length = 1) := fun q hq => B4.out q.x (by rw [← hS1.parts]; exact List.mem_map.2 ⟨q, hq, rfl⟩)
        obtain ⟨ap, kp, hpv, hrd⟩ := hwd.pv
        have hpv' : pv = .slice ap L.length kp := hpv
        rw [hLj] at hpv' hrd
        subst hpv'
        have HRD := Lib.hid hrd
        have HEA := Lib.hid hwd.each
        have hbx := blk_new w2 (.cells (stC x tc c s wv (.slice ap j kp)) 31)
        have HLJ := Lib.hid hLj
        obtain ⟨d0, d1, d2, d3, d4, d5, d6, d7, d8, d9, d10, d11, d12, d13, d14, d15, d16, d17⟩ := st18 hbx
        rw [hxk] at d0
        obtain ⟨W, hW⟩ : ∃ W, w2.alloc (.cells (stC x tc c s wv (.slice ap j kp)) 31) = W := ⟨_, rfl⟩
        have HSP : Hid (Sp w W) := by rw [← hW]; exact hk2
        rw [hW] at d0 d17 HRD HEA
        clear hk1 hk2 hS1 hb1 hp1 hwd hxk hLj hpv hrd hbx d1 d2 d3 d4 d5 d6 d7 d8 d9 d10 d11 d12 d13 d14 d15 d16
        go_wp2_with (refine wpl_sto2 rfl _ _ rfl rfl rfl rfl rfl hq1 ?_)
        go_loopw [10] (fun i wr => ∃ i0 : Nat, i = .int .i64 i0 ∧ i0 ≤ j ∧ Hid (W = wr)) (fun i _ => 12 - (intOf i).toNat)
        case atStart => exact ⟨0, rfl, Nat.zero_le _, rfl⟩
        case round =>
          obtain ⟨i0, rfl, hi0, HW⟩ := hrel
          obtain rfl := HW.out
          clear HW
          by_cases hlt : i0 < j
          · have q3 : (i0 : Int) < (j : Int) := by omega
            have q4 : (0 : Int) ≤ (i0 : Int) := by omega
            obtain ⟨ga, o, hap, hx⟩ := HRD.out (by omega)
            have hap' : ap = some ⟨ga, o, none⟩ := hap
            subst hap'
            obtain ⟨q, hq⟩ : ∃ q, L[i0]? = some q := ⟨_, List.getElem?_eq_getElem (by have := HLJ.out; omega)⟩
            obtain ⟨p1, p2, p3⟩ := HP.out q (List.mem_of_getElem? hq)
            obtain ⟨aw, kw, hwv, _⟩ := (HEA.out q (List.mem_of_getElem? hq)).1.wv
            rw [p3] at hwv
            have e0 : W.cell? ⟨ga, o + i0 * 18, none⟩ = some (.int .i64 7) := hx (i0 * 18) (.int .i64 7) (by rw [← Nat.add_zero (i0 * 18), flatW_at hq 0 (by omega)]; show some (Value.int .i64 q.x.kind) = _; rw [p1])
            have e2 : W.cell? ⟨ga, o + i0 * 18 + 2, none⟩ = some (.string (⟨#[116]⟩ : ByteArray)) := by
              rw [Nat.add_assoc]
              exact hx (i0 * 18 + 2) _ (by rw [flatW_at hq 2 (by omega)]; show some (Value.string q.x.of_) = _; rw [p2])
            have e13 : W.cell? ⟨ga, o + i0 * 18 + 13, none⟩ = some (.slice aw 1 kw) := by
              rw [Nat.add_assoc]
              exact hx (i0 * 18 + 13) _ (by rw [flatW_at hq 13 (by omega)]; show some q.wv = _; rw [hwv])
            have HI := Lib.hid (show i0 + 1 ≤ j from hlt)
            clear hx hq p1 p2 p3 hwv hap HRD
            go_wp2_with fail
            go_roundw
            case rel => exact ⟨i0 + 1, by go_num, HI.out, trivial⟩
            case measure => have := HI.out; simp [intOf]; omega
          · have hje : i0 = j := by omega
            subst hje
            have haw := awake14_any HSP.out.2
            go_wp2_with fail
            refine haw.mono ?_; rintro e w7 ⟨rfl, h7⟩
            go_wp2_with fail
            go_ret
            exact ⟨rfl, HSP.out.trans h7⟩
end Go.Proofs.YtfbgdjcnlnfoaaaGreatDoor

