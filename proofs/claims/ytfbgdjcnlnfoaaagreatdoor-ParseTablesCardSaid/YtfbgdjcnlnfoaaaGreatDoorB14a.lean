/- Parts of the proof, joined: LawPC. -/
import Derived.BigQuiet
import Derived.Test.YtfbgdjcnlnfoaaaGreatDoorB13e
import Derived.Test.YtfbgdjcnlnfoaaaGreatDoorB13f
namespace Go.Proofs.YtfbgdjcnlnfoaaaGreatDoor
open Go.RowKit
open Cle

def let13 : ByteArray := (⟨#[97, 98, 99, 100, 101, 102, 103, 104, 105, 106, 107, 108, 109]⟩ : ByteArray)
theorem ltr_cut : ∀ v < 13, let13.extract v (v + 1) = ltr v := by decide +kernel
def typB (ty : Int) (i : Nat) : Bool := decide (bits .and .i64 (ty / 2 ^ (i % 8)) 1 = 1)
theorem and_bit (x : Int) : bits .and .i64 x 1 = 0 ∨ bits .and .i64 x 1 = 1 := by
  have e : bits .and .i64 x 1 = IntKind.i64.wrap (((BitVec.ofInt 64 x).toNat % 2 : Nat) : Int) := by
    show IntKind.i64.wrap ((BitVec.ofInt 64 x &&& BitVec.ofInt 64 1).toNat : Int) = _
    rw [BitVec.toNat_and, show (BitVec.ofInt 64 1).toNat = 1 from rfl, Nat.and_one_is_mod]
  rw [e]
  have h : (BitVec.ofInt 64 x).toNat % 2 = 0 ∨ (BitVec.ofInt 64 x).toNat % 2 = 1 := by omega
  rcases h with h | h <;> rw [h]
  · exact .inl rfl
  · exact .inr rfl
theorem typ_bit (ty : Int) (i : Nat) : bits .and .i64 (ty / 2 ^ (i % 8)) 1 = if typB ty i then 1 else 0 := by
  unfold typB
  rcases and_bit (ty / 2 ^ (i % 8)) with h | h <;> rw [h] <;> rfl
def atC (f : Nat → Bool) (j : Nat) : Int := if j ≤ 10 then 0 else ((bodyB f 10).size : Nat)
theorem idx2_0 (w : World) : (Instr.index 45 (.agg #[.string (⟨#[32, 116, 101, 120, 116, 44, 32]⟩ : ByteArray), .string (⟨#[32, 73, 78, 84, 44, 32]⟩ : ByteArray)]) (.int .i64 0)).run Tryz.prog w = .ok (.string (⟨#[32, 116, 101, 120, 116, 44, 32]⟩ : ByteArray)) w := by kernel_rfl
theorem idx2_1 (w : World) : (Instr.index 45 (.agg #[.string (⟨#[32, 116, 101, 120, 116, 44, 32]⟩ : ByteArray), .string (⟨#[32, 73, 78, 84, 44, 32]⟩ : ByteArray)]) (.int .i64 1)).run Tryz.prog w = .ok (.string (⟨#[32, 73, 78, 84, 44, 32]⟩ : ByteArray)) w := by kernel_rfl
theorem end_assoc (S : ByteArray) (a b : Nat) : S ++ (⟨#[112, 114, 105, 109, 97, 114, 121, 32, 107, 101, 121, 32, 40]⟩ : ByteArray) ++ ltr a ++ (⟨#[44, 32]⟩ : ByteArray) ++ ltr b ++ (⟨#[41, 41]⟩ : ByteArray) = S ++ endB a b := by
  unfold endB
  simp only [app_assoc]
set_option maxRecDepth 100000 in
set_option maxHeartbeats 8000000 in
theorem parseTables_law (n p k ty : Int) (w : World) (hG : Gp w) (hn0 : -9223372036854775808 ≤ n) (hn1 : n ≤ 9223372036854775807) (hp0 : -9223372036854775808 ≤ p) (hp1 : p ≤ 9223372036854775807) (hk0 : -9223372036854775808 ≤ k) (hk1 : k ≤ 9223372036854775807) (_ht0 : -9223372036854775808 ≤ ty) (_ht1 : ty ≤ 9223372036854775807) :
    Calls Tryz.prog 6 #[.int .i64 n, .int .i64 p, .int .i64 k, .int .i64 ty] w fun e w' => e = .returned (.bool true) ∧ Sp w w' := by
  have hpl := fun w => place_any n 10 w (by omega) (by omega) hn0 hn1
  obtain ⟨m0, hm0⟩ : ∃ m : Nat, n % 10 = m := ⟨(n % 10).toNat, by omega⟩
  have hml : m0 < 10 := by omega
  rw [hm0] at hpl
  have hpa := fun w => place_any p (2 + (m0 : Int)) w (by omega) (by omega) hp0 hp1
  obtain ⟨a, ha⟩ : ∃ a : Nat, p % (2 + (m0 : Int)) = a := ⟨(p % (2 + (m0 : Int))).toNat, by have := Int.emod_nonneg p (show 2 + (m0 : Int) ≠ 0 by omega); omega⟩
  have hal : a < 2 + m0 := by have := Int.emod_lt_of_pos p (show (0 : Int) < 2 + (m0 : Int) by omega); omega
  rw [ha] at hpa
  have hpk := fun w => place_any k (2 + (m0 : Int) - 1) w (by omega) (by omega) hk0 hk1
  obtain ⟨c, hc⟩ : ∃ c : Nat, k % (2 + (m0 : Int) - 1) = c := ⟨(k % (2 + (m0 : Int) - 1)).toNat, by have := Int.emod_nonneg k (show 2 + (m0 : Int) - 1 ≠ 0 by omega); omega⟩
  have hcl : c < 1 + m0 := by have := Int.emod_lt_of_pos k (show (0 : Int) < 2 + (m0 : Int) - 1 by omega); omega
  rw [hc] at hpk
  obtain ⟨b, hb⟩ : ∃ b : Nat, ((a : Int) + 1 + (c : Int)) % (2 + (m0 : Int)) = b := ⟨(((a : Int) + 1 + (c : Int)) % (2 + (m0 : Int))).toNat, by have := Int.emod_nonneg ((a : Int) + 1 + (c : Int)) (show 2 + (m0 : Int) ≠ 0 by omega); omega⟩
  have hbl : b < 2 + m0 := by have := Int.emod_lt_of_pos ((a : Int) + 1 + (c : Int)) (show (0 : Int) < 2 + (m0 : Int) by omega); omega
  have hab : a ≠ b := by
    intro h
    subst h
    have h1 := Int.emod_emod_of_dvd ((a : Int) + 1 + (c : Int)) (Int.dvd_refl (2 + (m0 : Int)))
    by_cases hlt : a + 1 + c < 2 + m0
    · rw [Int.emod_eq_of_lt (by omega) (by omega)] at hb; omega
    · rw [show (a : Int) + 1 + (c : Int) = ((a : Int) + 1 + c - (2 + m0)) + (2 + (m0 : Int)) * 1 by omega, Int.add_mul_emod_self_left, Int.emod_eq_of_lt (by omega) (by omega)] at hb
      omega
  have HG := Lib.hid hG
  clear hm0 ha hc hn0 hn1 hp0 hp1 hk0 hk1 hG
  have HAB := Lib.hid hab
  clear hab
  go_enter Tryz.func6, Tryz.ntmps6
  go_wp2_with fail
  refine (hpl _).mono ?_; rintro e w1 ⟨rfl, rfl⟩
  go_wp2_with fail
  refine (hpa _).mono ?_; rintro e w1 ⟨rfl, rfl⟩
  go_wp2_with fail
  refine (hpk _).mono ?_; rintro e w1 ⟨rfl, rfl⟩
  go_wp2_with fail
  rw [hb]
  clear hb
  go_loopw [13, 14, 15] (fun s at_ i wr => ∃ j : Nat, i = .int .i64 j ∧ s = .string (bodyB (typB ty) j) ∧ at_ = .int .i64 (atC (typB ty) j) ∧ j ≤ 2 + m0 ∧ Hid (Sp w wr)) (fun _ _ i _ => 12 - (intOf i).toNat)
  case atStart => exact ⟨0, rfl, rfl, rfl, Nat.zero_le _, Sp.refl HG.out⟩
  case round =>
    obtain ⟨j, rfl, rfl, rfl, hj, HW⟩ := hrel
    by_cases hlt : j < 2 + m0
    · have q1 : (j : Int) < 2 + (m0 : Int) := by omega
      obtain ⟨S, hS⟩ : ∃ S, bodyB (typB ty) j = S := ⟨_, rfl⟩
      have hsz := body_size (typB ty) j
      rw [hS] at hsz ⊢
      have hc := ltr_cut j (by omega)
      have HS := Lib.hid hS
      have HC := Lib.hid hc
      have a1 := add_str S (let13.extract j (j + 1)) (by rw [hc]; show _ + 1 ≤ _; omega)
      have hz : (S ++ let13.extract j (j + 1)).size = S.size + 1 := by rw [ByteArray.size_append, hc]; rfl
      have a2 := add_str (S ++ let13.extract j (j + 1)) (⟨#[32, 116, 101, 120, 116, 44, 32]⟩ : ByteArray) (by rw [hz]; show _ + 7 ≤ _; omega)
      have a3 := add_str (S ++ let13.extract j (j + 1)) (⟨#[32, 73, 78, 84, 44, 32]⟩ : ByteArray) (by rw [hz]; show _ + 6 ≤ _; omega)
      unfold let13 at a1 a2 a3
      have p2 : (j : Int) + 1 ≤ 13 := by omega
      have p3 : (j : Int) ≤ (j : Int) + 1 := by omega
      have p4 : (0 : Int) ≤ (j : Int) := by omega
      have HJ := Lib.hid hlt
      have hb := typ_bit ty j
      have HT : Hid (∀ c, typB ty j = c → S ++ ltr j ++ (if c then (⟨#[32, 73, 78, 84, 44, 32]⟩ : ByteArray) else (⟨#[32, 116, 101, 120, 116, 44, 32]⟩ : ByteArray)) = bodyB (typB ty) (j + 1)) := Lib.hid (by
        intro c hc
        rw [bodyB, hS, colB, hc, app_assoc])
      clear hS hz hc hlt
      by_cases h10 : j = 10
      · subst h10
        have HZ : Hid ((S.size : Int) = atC (typB ty) (10 + 1)) := by rw [← HS.out]; rfl
        simp only [Nat.reduceAdd] at a1 a2 a3
        cases hf : typB ty 10
        all_goals
          rw [hf, show (2 : Int) ^ (10 % 8) = 4 from rfl] at hb
          simp only [Bool.false_eq_true, if_true, if_false] at hb
          have HF := HT.out _ hf
          have HF2 := Lib.hid HF
          have hi0 := idx2_0
          have hi1 := idx2_1
          clear hf HF
          go_wp2_with fail
          go_quiet (fail)
          go_wp2_with fail
          go_roundw
          case rel => exact ⟨11, by go_num, by rw [← HF2.out, ← HC.out]; rfl, by rw [HZ.out], HJ.out, HW.out.step (Cle.below_drewN (Below.refl _ _) _)⟩
          case measure => simp [intOf]
      · have q2 : ((j : Int) == 10) = false := beq_eq_false_iff_ne.2 (by omega)
        have HA : Hid (atC (typB ty) (j + 1) = atC (typB ty) j) := by
          show _ = _
          unfold atC
          by_cases h : j ≤ 10
          · rw [if_pos h, if_pos (by omega)]
          · rw [if_neg h, if_neg (by omega)]
        clear h10
        cases hf : typB ty j
        all_goals
          rw [hf] at hb
          simp only [Bool.false_eq_true, if_true, if_false] at hb
          have HF := HT.out _ hf
          have HF2 := Lib.hid HF
          have hi0 := idx2_0
          have hi1 := idx2_1
          clear hf HF
          go_wp2_with fail
          go_quiet (fail)
          go_wp2_with fail
          go_roundw
          case rel => exact ⟨j + 1, by go_num, by rw [← HF2.out, ← HC.out]; rfl, by rw [HA.out], HJ.out, HW.out.step (Cle.below_drewN (Below.refl _ _) _)⟩
          case measure => have := HJ.out; simp [intOf]; omega
    · have hje : j = 2 + m0 := by omega
      subst hje
      have hsz := body_size (typB ty) (2 + m0)
      have hca := ltr_cut a (by omega)
      have hcb := ltr_cut b (by omega)
      have hend := end_assoc (bodyB (typB ty) (2 + m0)) a b
      obtain ⟨S, hS⟩ : ∃ S, bodyB (typB ty) (2 + m0) = S := ⟨_, rfl⟩
      have HSS := Lib.hid hS
      rw [hS] at hsz hend ⊢
      clear hS
      have z1 : (let13.extract a (a + 1)).size = 1 := by rw [hca]; rfl
      have z2 : (let13.extract b (b + 1)).size = 1 := by rw [hcb]; rfl
      rw [← hca, ← hcb] at hend
      obtain ⟨A1, e1⟩ : ∃ r, S ++ (⟨#[112, 114, 105, 109, 97, 114, 121, 32, 107, 101, 121, 32, 40]⟩ : ByteArray) = r := ⟨_, rfl⟩
      have hA1 := add_str S (⟨#[112, 114, 105, 109, 97, 114, 121, 32, 107, 101, 121, 32, 40]⟩ : ByteArray) (by show _ + 13 ≤ _; omega)
      rw [e1] at hA1 hend
      have y1 : A1.size ≤ 200 := by rw [← e1, ByteArray.size_append]; show _ + 13 ≤ _; omega
      obtain ⟨A2, e2⟩ : ∃ r, A1 ++ let13.extract a (a + 1) = r := ⟨_, rfl⟩
      have hA2 := add_str A1 (let13.extract a (a + 1)) (by omega)
      rw [e2] at hA2 hend
      have y2 : A2.size ≤ 201 := by rw [← e2, ByteArray.size_append]; omega
      obtain ⟨A3, e3⟩ : ∃ r, A2 ++ (⟨#[44, 32]⟩ : ByteArray) = r := ⟨_, rfl⟩
      have hA3 := add_str A2 (⟨#[44, 32]⟩ : ByteArray) (by show _ + 2 ≤ _; omega)
      rw [e3] at hA3 hend
      have y3 : A3.size ≤ 203 := by rw [← e3, ByteArray.size_append]; show _ + 2 ≤ _; omega
      obtain ⟨A4, e4⟩ : ∃ r, A3 ++ let13.extract b (b + 1) = r := ⟨_, rfl⟩
      have hA4 := add_str A3 (let13.extract b (b + 1)) (by omega)
      rw [e4] at hA4 hend
      have y4 : A4.size ≤ 204 := by rw [← e4, ByteArray.size_append]; omega
      obtain ⟨A, e5⟩ : ∃ r, A4 ++ (⟨#[41, 41]⟩ : ByteArray) = r := ⟨_, rfl⟩
      have hA5 := add_str A4 (⟨#[41, 41]⟩ : ByteArray) (by show _ + 2 ≤ _; omega)
      rw [e5] at hA5 hend
      unfold let13 at hA2 hA4
      clear e1 e2 e3 e4 e5 y1 y2 y3 y4 z1 z2
      have HB : Hid (A = bodyB (typB ty) (2 + m0) ++ endB a b) := Lib.hid (by rw [HSS.out]; exact hend)
      clear hend
      have HCA := Lib.hid hca
      have HCB := Lib.hid hcb
      clear hca hcb hpl hpa hpk
      have p1 : (a : Int) + 1 ≤ 13 := by omega
      have p2 : (a : Int) ≤ (a : Int) + 1 := by omega
      have p3 : (0 : Int) ≤ (a : Int) := by omega
      have p4 : (b : Int) + 1 ≤ 13 := by omega
      have p5 : (b : Int) ≤ (b : Int) + 1 := by omega
      have p6 : (0 : Int) ≤ (b : Int) := by omega
      have q1 : ¬ (2 + (m0 : Int) < 2 + (m0 : Int)) := by omega
      have cst : ((2 + m0 : Nat) : Int) = 2 + (m0 : Int) := by omega
      rw [cst]
      go_wp2_with fail
      go_quiet (fail)
      have HW2 : Hid (Sp w (wr.drewN nq)) := HW.out.step (Cle.below_drewN (Below.refl _ _) _)
      obtain ⟨w2, hw2⟩ : ∃ w2, wr.drewN nq = w2 := ⟨_, rfl⟩
      rw [hw2] at HW2 ⊢
      clear hw2 HW
      by_cases h9 : m0 = 9
      · subst h9
        have hpb := tables_bad (typB ty) hal hbl
        rw [← HB.out] at hpb
        have hp1 := parse_at HW2.out.2 (s := A) rfl (by rw [hpb]) (by rw [hpb])
        have hz : atC (typB ty) (2 + 9) = ((bodyB (typB ty) 10).size : Nat) := rfl
        rw [hz]
        obtain ⟨t, ht⟩ : ∃ t : Nat, (bodyB (typB ty) 10).size = t := ⟨_, rfl⟩
        rw [ht] at hp1 ⊢
        clear ht hz hpb
        go_wp2_with fail
        refine hp1.mono ?_; rintro en w3 ⟨x, tc, c, s, wv, pv, L, rfl, hb1, hS1⟩
        have hk1 := HW2.out.step hb1
        have hq1 := hS1.wd.one
        have hk2 := hk1.alloc (.cells (stC x tc c s wv pv) 31)
        have haw := awake14_any hk2.2
        clear hS1 hb1 hp1
        go_wp2_with (refine wpl_sto2 rfl _ _ rfl rfl rfl rfl rfl hq1 ?_)
        refine haw.mono ?_; rintro e w7 ⟨rfl, h7⟩
        go_wp2_with fail
        go_ret
        exact ⟨rfl, hk2.trans h7⟩
      · have hm10 : 2 + m0 ≤ 10 := by omega
        have hpo := tables_ok (typB ty) hm10 hal hbl HAB.out
        obtain ⟨tk1, tk2, tk3⟩ := tables_part (typB ty) hm10 hal hbl HAB.out
        have trs := tables_rest (typB ty) (show 2 + m0 ≤ 13 by omega) hal hbl HAB.out
        have trl := rest_len (typB ty) HAB.out (2 + m0) hal hbl
        rw [← HB.out] at hpo
        have hm := Lib.hid (may_of (s := A) (by rw [hpo]))
        rw [hpo] at hm
        have hp1 := parse_at HW2.out.2 (s := A) rfl (by rw [hpo]) (by rw [hpo])
        rw [hpo] at hp1
        obtain ⟨X, hX⟩ : ∃ X, tableX (⟨#[116]⟩ : ByteArray) (colsS (typB ty) (2 + m0)) (ltr a) (ltr b) = X := ⟨_, rfl⟩
        rw [hX] at hp1 hm tk1 tk2 tk3 trs
        obtain ⟨t, ht⟩ : ∃ t, atC (typB ty) (2 + m0) = t := ⟨_, rfl⟩
        rw [ht]
        have TK1 := Lib.hid tk1
        have TK2 := Lib.hid tk2
        have TK3 := Lib.hid tk3
        have TRS := Lib.hid trs
        have TRL := Lib.hid trl
        clear hX ht hpo tk1 tk2 tk3 trs trl HB HSS hsz
        have g1 : ¬ (10 : Int) < 2 + (m0 : Int) := by omega
        go_wp2_with fail
        refine hp1.mono ?_; rintro en w3 ⟨x, tc, c, s, wv, pv, L, rfl, hb1, hS1⟩
        have hk1 := HW2.out.step hb1
        have hq1 := hS1.wd.one
        have hk2 := hk1.alloc (.cells (stC x tc c s wv pv) 31)
        have hwd := hS1.wd.below ((Below.refl w3.heap.size w3).alloc (Nat.le_refl _) (.cells (stC x tc c s wv pv) 31))
        have hx : x = X := hS1.x
        have hM : May ⟨x, L.map Pw.x⟩ := by rw [show (⟨x, L.map Pw.x⟩ : Stt) = ⟨X, []⟩ from hS1.z]; exact hm.out
        have hxk : x.kind = 1 := by rw [hx]; exact TK1.out
        have hxp : x.part.name = ltr a := by rw [hx]; exact TK2.out
        have hxc : x.clus.name = ltr b := by rw [hx]; exact TK3.out
        have hxl : x.tcols.length = m0 := by rw [hx, TRS.out]; have := TRL.out; omega
        have HXT : Hid (x.tcols = restS (typB ty) a b (2 + m0)) := by rw [hx]; exact TRS.out
        obtain ⟨atc, ktc, htc, hrd⟩ := hwd.st.tc
        rw [hxl] at htc hrd
        have htc' : tc = .slice atc m0 ktc := htc
        subst htc'
        have hbx := blk_new w3 (.cells (stC x (.slice atc m0 ktc) c s wv pv) 31)
        obtain ⟨d0, d1, d2, d3, d4, d5, d6, d7, d8, d9, d10, d11, d12, d13, d14, d15, d16, d17⟩ := st18 hbx
        rw [hxk] at d0
        rw [hxp] at d6
        rw [hxc] at d8
        have hq9 : (2 + (m0 : Int) - 2) = (m0 : Int) := by omega
        have hca := HCA.out
        have hcb := HCB.out
        unfold let13 at hca hcb
        obtain ⟨W, hW⟩ : ∃ W, w3.alloc (.cells (stC x (.slice atc m0 ktc) c s wv pv) 31) = W := ⟨_, rfl⟩
        have HSP : Hid (Sp w W) := by rw [← hW]; exact hk2
        rw [hW] at d0 d6 d8 d10 hrd hwd hbx
        have HRD := Lib.hid hrd
        have HWD := Lib.hid hwd
        have HBX := Lib.hid hbx
        have HMAY := Lib.hid hM
        clear hk1 hk2 hS1 hb1 hp1 hwd hxk hxp hxc hxl hx hM htc hrd hbx d1 d2 d3 d4 d5 d7 d9 d11 d12 d13 d14 d15 d16 d17
        have hsa : ((ltr a).toList == (ltr a).toList) = true := tl_eq rfl
        have hsb : ((ltr b).toList == (ltr b).toList) = true := tl_eq rfl
        go_wp2_with (refine wpl_sto2 rfl _ _ rfl rfl rfl rfl rfl hq1 ?_)
        go_quiet (fail)
        go_wp2_with fail
        go_loopw [19, 20] (fun jj i wr => ∃ i0 : Nat, i = .int .i64 i0 ∧ jj = .int .i64 ((restS (typB ty) a b i0).length : Nat) ∧ i0 ≤ 2 + m0 ∧ Hid (Sp W wr)) (fun _ i _ => 12 - (intOf i).toNat)
        case atStart => exact ⟨0, rfl, rfl, Nat.zero_le _, (Sp.refl HSP.out.2).step (Cle.below_drewN (Below.refl _ _) _)⟩
        case round =>
          obtain ⟨i0, rfl, rfl, hi, HWR⟩ := hrel
          by_cases hlt : i0 < 2 + m0
          · have r1 : (i0 : Int) < 2 + (m0 : Int) := by omega
            have HI := Lib.hid hlt
            by_cases hia : i0 = a
            · have r2 : ((i0 : Int) == (a : Int)) = true := by rw [hia]; exact beq_self_eq_true _
              have HK := Lib.hid (rest_key (typB ty) (a := a) (b := b) (Or.inl hia))
              clear hia
              go_wp2_with fail
              go_roundw
              case rel => exact ⟨i0 + 1, by go_num, by rw [HK.out], HI.out, HWR⟩
              case measure => have := HI.out; simp [intOf]; omega
            · have r2 : ((i0 : Int) == (a : Int)) = false := beq_eq_false_iff_ne.2 (by omega)
              by_cases hib : i0 = b
              · have r3 : ((i0 : Int) == (b : Int)) = true := by rw [hib]; exact beq_self_eq_true _
                have HK := Lib.hid (rest_key (typB ty) (a := a) (b := b) (Or.inr hib))
                clear hia hib
                go_wp2_with fail
                go_roundw
                case rel => exact ⟨i0 + 1, by go_num, by rw [HK.out], HI.out, HWR⟩
                case measure => have := HI.out; simp [intOf]; omega
              · have r3 : ((i0 : Int) == (b : Int)) = false := beq_eq_false_iff_ne.2 (by omega)
                have HK := rest_col (typB ty) hia hib
                obtain ⟨r, hr⟩ := rest_pre (typB ty) a b (show i0 + 1 ≤ 2 + m0 from hlt)
                obtain ⟨jn, hjn⟩ : ∃ jn, (restS (typB ty) a b i0).length = jn := ⟨_, rfl⟩
                have hg : x.tcols[jn]? = some (colS (typB ty) i0) := by
                  rw [HXT.out, hr, HK, List.append_assoc, List.getElem?_append_right (by omega), hjn, Nat.sub_self]
                  rfl
                have hjm : jn < m0 := by
                  have h1 := TRL.out
                  rw [hr, HK, List.length_append, List.length_append, hjn] at h1
                  simp only [List.length_cons, List.length_nil] at h1
                  omega
                have hcol := ltr_cut i0 (by omega)
                have hbt := typ_bit ty i0
                have HK2 : Hid ((restS (typB ty) a b (i0 + 1)).length = jn + 1) := Lib.hid (by rw [HK, List.length_append, hjn]; rfl)
                obtain ⟨ga, o, hap, hxx⟩ := HRD.out (by omega)
                have hap' : atc = some ⟨ga, o, none⟩ := hap
                subst hap'
                have e0 : wr.cell? ⟨ga, o + jn * 2, none⟩ = some (.string (ltr i0)) := blk_cellB HWR.out.1 (hxx (jn * 2) _ (by have := flatC_at' hg 0 (by omega); rw [Nat.add_zero] at this; rw [this]; rfl))
                have e1 : wr.cell? ⟨ga, o + jn * 2 + 1, none⟩ = some (.int .i64 (colS (typB ty) i0).ty) := by
                  rw [Nat.add_assoc]
                  exact blk_cellB HWR.out.1 (hxx (jn * 2 + 1) _ (by rw [flatC_at' hg 1 (by omega)]; rfl))
                have e10 := blk_cellB HWR.out.1 d10
                rw [hjn]
                have s1 : (0 : Int) ≤ (jn : Int) := by omega
                have s2 : (jn : Int) < (m0 : Int) := by omega
                have HTY : Hid ((colS (typB ty) i0).ty = 1 + bits .and .i64 (ty / 2 ^ (i0 % 8)) 1) := Lib.hid (by
                  rw [hbt]; unfold colS; cases typB ty i0 <;> rfl)
                obtain ⟨tv, htv⟩ : ∃ tv, bits .and .i64 (ty / 2 ^ (i0 % 8)) 1 = tv := ⟨_, rfl⟩
                rw [HTY.out, htv] at e1
                have htv01 : tv = 0 ∨ tv = 1 := by rw [← htv]; exact and_bit _
                unfold let13 at hcol
                have p7 : (i0 : Int) + 1 ≤ 13 := by omega
                have p8 : (i0 : Int) ≤ (i0 : Int) + 1 := by omega
                have p9 : (0 : Int) ≤ (i0 : Int) := by omega
                have hsi : ((ltr i0).toList == (ltr i0).toList) = true := tl_eq rfl
                have f0 : (wr.alloc (.cells #[.string (ltr i0), .int .i64 (1 + tv)] 23)).cell? ⟨wr.heap.size, 0, none⟩ = some (.string (ltr i0)) := by rw [blk_cell (blk_new _ _)]; rfl
                have f1 : (wr.alloc (.cells #[.string (ltr i0), .int .i64 (1 + tv)] 23)).cell? ⟨wr.heap.size, 1, none⟩ = some (.int .i64 (1 + tv)) := by rw [blk_cell (blk_new _ _)]; rfl
                have HWX : Hid (Sp W (wr.alloc (.cells #[.string (ltr i0), .int .i64 (1 + tv)] 23))) := HWR.out.alloc _
                clear hia hib hjn hr HK hg hbt hxx hap HRD
                go_wp2_with fail
                obtain ⟨W2, hW2⟩ : ∃ W2, wr.alloc (.cells #[.string (ltr i0), .int .i64 (1 + tv)] 23) = W2 := ⟨_, rfl⟩
                rw [hW2] at f0 f1 HWX ⊢
                clear hW2
                go_quiet (fail)
                go_wp2_with fail
                go_roundw
                case rel => exact ⟨i0 + 1, by go_num, by rw [HK2.out]; go_num, HI.out, HWX.out.step (Cle.below_drewN (Below.refl _ _) _)⟩
                case measure => have := HI.out; simp [intOf]; omega
          · have hje : i0 = 2 + m0 := by omega
            subst hje
            have r1 : ¬ ((2 + (m0 : Int)) < 2 + (m0 : Int)) := by omega
            have cst2 : ((2 + m0 : Nat) : Int) = 2 + (m0 : Int) := by omega
            rw [cst2]
            have hbr := keep_blk HWR.out.1 HBX.out
            have hc := check_any (w := wr) (p := ⟨x, .slice atc m0 ktc, c, s, wv, pv⟩) (L := L) HWR.out.2 (HWD.out.below HWR.out.1) (may_sz HMAY.out)
            go_wp2_with (first | refine wpl_stgd (by go_simp) _ rfl rfl rfl hbr ?_)
            refine hc.mono ?_; rintro en w5 ⟨b5, rfl, hb5, hbl5⟩
            have hbt := hb5.2 HMAY.out
            subst hbt
            clear hb5
            have HW5 : Hid (Sp W w5) := HWR.out.step hbl5
            have haw := awake14_any HW5.out.2
            go_wp2_with fail
            refine haw.mono ?_; rintro e w7 ⟨rfl, h7⟩
            go_wp2_with fail
            go_ret
            exact ⟨rfl, HSP.out.trans (HW5.out.trans h7)⟩
end Go.Proofs.YtfbgdjcnlnfoaaaGreatDoor

