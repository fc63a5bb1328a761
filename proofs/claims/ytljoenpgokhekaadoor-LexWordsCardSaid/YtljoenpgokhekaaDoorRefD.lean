/- Walks: the reference of layer 1: Letter, Name, Fold, Quote, Unquote. -/
import Derived.Test.YtljoenpgokhekaaDoorRefC
import Derived.Test.YtljoenpgokhekaaDoorPlainE
namespace Go.Proofs.YtljoenpgokhekaaDoor
open Go.RowKit
open Cle

set_option maxHeartbeats 400000 in
theorem rletter_any (p : Pt) (w : World) (v : Value) (hv : v = .agg #[.int .i32 p.r, .int .i64 p.at_, .int .i64 p.n, .bool p.ok]) :
    Calls Tryd.prog 57 #[v] w fun e w' => e = .returned (.bool (letterB p.r && p.ok)) ∧ Below w.heap.size w w' := by
  subst hv
  obtain ⟨r, hr⟩ : ∃ r : Nat, p.r = r := ⟨_, rfl⟩
  rw [hr]
  obtain ⟨ok, hok⟩ : ∃ ok, p.ok = ok := ⟨_, rfl⟩
  rw [hok]
  clear hr hok
  cases ok
  all_goals
    go_enter Tryd.func57, Tryd.ntmps57
    go_wp2_with fail
  all_goals go_ret
  all_goals refine ⟨ret_bool ?_, (Below.refl _ _).alloc (Nat.le_refl _) _⟩
  all_goals (unfold letterB; rw [Bool.eq_iff_iff]; simp; try omega)

set_option maxHeartbeats 1000000 in
theorem rname_any (s : ByteArray) (w : World) (hs : s.size ≤ 1000000) :
    Calls Tryd.prog 39 #[.string s] w fun e w' => e = .returned (.bool (name s)) ∧ Below w.heap.size w w' := by
  have ha := all_any s w hs
  have hpl := pts_len s
  go_enter Tryd.func39, Tryd.ntmps39
  go_wp2_with fail
  refine ha.mono ?_
  rintro e w1 ⟨⟨v, rfl, hown⟩, hb⟩
  obtain ⟨a, cap, rfl, hr⟩ := row_read hown
  have Hr := Lib.hid hr
  clear ha hown hr
  go_wp2_with fail
  go_loopw [4] (fun v wr => ∃ k : Nat, k ≤ (pts s).length ∧ v = .int .i64 k ∧ Below w1.heap.size w1 wr ∧ Hid (name s = (((pts s).drop k).all Pt.named && (decide (s.size ≠ 0) && decide (s.size ≤ 100))))) (fun v _ => (pts s).length - (intOf v).toNat)
  case atStart => exact ⟨0, by omega, rfl, Below.refl _ _, rfl⟩
  case round =>
    obtain ⟨k, hk, rfl, hbr, HS⟩ := hrel
    by_cases hlt : k < (pts s).length
    · obtain ⟨g, rfl, _, hg, hc⟩ := Hr.out (by omega)
      have hcr := (bcell hbr).1
      have c0 : wr.cell? ⟨g, k * 4, none⟩ = some (.int .i32 (pts s)[k].r) := by
        rw [hcr _ _ hg]; exact hc _ _ (by have := flatP_at _ k 0 hlt (by omega); rw [Nat.add_zero] at this; rw [this]; rfl)
      have c1 : wr.cell? ⟨g, k * 4 + 1, none⟩ = some (.int .i64 (pts s)[k].at_) := by
        rw [hcr _ _ hg]; exact hc _ _ (by rw [flatP_at _ _ _ hlt (by omega)]; rfl)
      have c2 : wr.cell? ⟨g, k * 4 + 2, none⟩ = some (.int .i64 (pts s)[k].n) := by
        rw [hcr _ _ hg]; exact hc _ _ (by rw [flatP_at _ _ _ hlt (by omega)]; rfl)
      have c3 : wr.cell? ⟨g, k * 4 + 3, none⟩ = some (.bool (pts s)[k].ok) := by
        rw [hcr _ _ hg]; exact hc _ _ (by rw [flatP_at _ _ _ hlt (by omega)]; rfl)
      have HS2 : Hid (name s = (((letterB (pts s)[k].r && (pts s)[k].ok) || (digitB (pts s)[k].r && !decide (k = 0))) && ((pts s).drop (k + 1)).all Pt.named && (decide (s.size ≠ 0) && decide (s.size ≤ 100)))) := by
        show _ = _; rw [HS.out, List.drop_eq_getElem_cons hlt, List.all_cons, named_alt, pts_place s k hlt]
      have hl := fun w => rletter_any (pts s)[k] w _ rfl
      have hglt : g < wr.heap.size := Nat.lt_of_lt_of_le hg hbr.size
      obtain ⟨q, hq⟩ : ∃ q, (pts s)[k] = q := ⟨_, rfl⟩
      rw [hq] at c0 c1 c2 c3 HS2 hl
      clear hc HS hcr hq Hr
      cases hL : (letterB q.r && q.ok) <;> rcases Nat.eq_zero_or_pos k with hz | hz
      all_goals
        rw [hL] at HS2
        simp only [hL] at hl
        clear hL
      all_goals first
        | (have hzb : ((k : Int) == 0) = true := by rw [hz]; rfl
           have HZ : Hid (decide (k = 0) = true) := decide_eq_true hz
           clear hz)
        | (have hzb : ((k : Int) == 0) = false := beq_eq_false_iff_ne.2 (by omega)
           have HZ : Hid (decide (k = 0) = false) := decide_eq_false (by omega))
      all_goals
        go_wp2_with (go_at_call 57; refine (hl _).mono ?_; rintro e w2 ⟨rfl, hb2⟩; obtain ⟨hcc, _⟩ := bcell hb2; have c02 := (hcc _ (k * 4) hglt).trans c0; clear hcc c0 c1 c2 c3)
      all_goals first
        | (go_ret
           refine ⟨ret_bool ?_, hb.trans ((hbr.trans (hb2.mono hbr.size)).mono hb.size)⟩
           have hd : (digitB q.r && !decide (k = 0)) = false := by
             rw [HZ.out, Bool.eq_false_iff]; simp [digitB]; try omega
           rw [HS2.out, hd]; rfl)
        | (go_roundw
           case rel =>
             refine ⟨k + 1, by omega, by go_num, hbr.trans (hb2.mono hbr.size), ?_⟩
             show _ = _
             rw [HS2.out]
             first
               | (simp; done)
               | (have hd : (digitB q.r && !decide (k = 0)) = true := by
                    rw [HZ.out]; simp [digitB]; omega
                  rw [hd]; simp)
           case measure => simp [intOf]; omega)
    · have HF : Hid (name s = (decide (s.size ≠ 0) && decide (s.size ≤ 100))) := by show _ = _; rw [HS.out, List.drop_eq_nil_of_le (by omega)]; rfl
      clear HS
      go_wp2_with fail
      all_goals go_ret
      all_goals refine ⟨ret_bool ?_, hb.trans (hbr.mono hb.size)⟩
      all_goals (rw [HF.out, Bool.eq_iff_iff]; simp only [Bool.and_eq_true, decide_eq_true_eq, ne_eq, Bool.false_eq_true, false_iff]; try omega)

set_option maxHeartbeats 400000 in
theorem rquote_any (s : ByteArray) (w : World) (hs : s.size ≤ 1000000) :
    Calls Tryd.prog 38 #[.string s] w fun e w' => e = .returned (.string (quote s)) ∧ w = w' := by
  have Hl : Hid (s.data.toList.length = s.size) := by show _ = _; simp
  have HQ : Hid (quote s = ⟨(39 :: (s.data.toList.flatMap dbl ++ [39])).toArray⟩) := quote_dbl s
  go_enter Tryd.func38, Tryd.ntmps38
  go_wp2_with fail
  go_loop [3, 4] (fun q v => ∃ (k : Nat) (X : ByteArray), k ≤ s.size ∧ v = .int .i64 k ∧ q = .string X ∧ X.size ≤ 1 + 2 * k ∧ Hid (X = ⟨(39 :: (s.data.toList.take k).flatMap dbl).toArray⟩)) (fun _ v => s.size - (intOf v).toNat)
  case atStart => exact ⟨0, ⟨#[39]⟩, by omega, rfl, rfl, by decide, by show _ = _; simp⟩
  case round =>
    obtain ⟨k, X, hk, rfl, rfl, hX, HS⟩ := hrel
    by_cases hlt : k < s.size
    · have hlt2 : k < s.data.toList.length := by have := Hl.out; omega
      have hex : s.extract k (k + 1) = ⟨#[s[k]]⟩ := extract1 s k hlt
      have HT : Hid ((⟨(39 :: (s.data.toList.take (k + 1)).flatMap dbl).toArray⟩ : ByteArray) = ⟨(39 :: ((s.data.toList.take k).flatMap dbl ++ dbl s[k])).toArray⟩) := by
        show _ = _
        rw [List.take_succ_eq_append_getElem hlt2, List.flatMap_append, byte_get s k hlt]
        simp
      by_cases hq : s[k] = 39
      · have hq1 : ((s[k].toNat : Int) == 39) = true := by rw [hq]; rfl
        have HT2 : Hid (dbl s[k] = [39, 39]) := by show _ = _; rw [hq]; rfl
        have Hq := Lib.hid hq
        clear hq
        obtain ⟨c, hc⟩ : ∃ c, s[k] = c := ⟨_, rfl⟩
        rw [hc] at hex hq1 HT HT2 Hq
        go_wp2_with fail
        go_round
        case rel =>
          refine ⟨k + 1, _, by omega, by go_num, rfl, by simp only [ByteArray.size_append', ByteArray.size_mk', List.size_toArray, List.length_cons, List.length_nil]; omega, ?_⟩
          show _ = _
          rw [HT.out, HT2.out, HS.out]
          apply ByteArray.ext
          apply Array.ext'
          simp [Hq.out]
        case measure => simp [intOf]; omega
      · have hq1 : ((s[k].toNat : Int) == 39) = false := by
          have : s[k].toNat ≠ 39 := fun e => hq (UInt8.toNat_inj.1 e)
          exact beq_eq_false_iff_ne.2 (by omega)
        have HT2 : Hid (dbl s[k] = [s[k]]) := by show _ = _; unfold dbl; rw [if_neg hq]
        clear hq
        obtain ⟨c, hc⟩ : ∃ c, s[k] = c := ⟨_, rfl⟩
        rw [hc] at hex hq1 HT HT2
        go_wp2_with fail
        go_round
        case rel =>
          refine ⟨k + 1, _, by omega, by go_num, rfl, by simp only [ByteArray.size_append', ByteArray.size_mk', List.size_toArray, List.length_cons, List.length_nil]; omega, ?_⟩
          show _ = _
          rw [HT.out, HT2.out, HS.out]
          apply ByteArray.ext
          apply Array.ext'
          simp
        case measure => simp [intOf]; omega
    · have hk2 : k = s.size := by omega
      have HF : Hid (X = ⟨(39 :: s.data.toList.flatMap dbl).toArray⟩) := by
        show _ = _
        rw [HS.out, List.take_of_length_le (by have := Hl.out; omega)]
      clear hk2 HS
      go_wp2_with fail
      go_ret
      refine ⟨ret_str ?_, rfl⟩
      rw [HQ.out, HF.out]
      apply ByteArray.ext
      apply Array.ext'
      simp

end Go.Proofs.YtljoenpgokhekaaDoor
