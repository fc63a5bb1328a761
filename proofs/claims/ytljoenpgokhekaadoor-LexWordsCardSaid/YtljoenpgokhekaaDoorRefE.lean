/- Walks: the reference of layer 1: Fold, Unquote. -/
import Derived.Test.YtljoenpgokhekaaDoorRefD
namespace Go.Proofs.YtljoenpgokhekaaDoor
open Go.RowKit
open Cle

set_option maxRecDepth 100000 in
set_option maxHeartbeats 400000 in
theorem rfold_any (s : ByteArray) (w : World) (hs : s.size ≤ 1000000) :
    Calls Tryd.prog 37 #[.string s] w fun e w' => e = .returned (.string (fold s)) ∧ Below w.heap.size w w' := by
  have hconv := run_bytes_of_string (P := Tryd.prog) w 9 84 5 s Tryd.underlying9 Tryd.underlying84 Tryd.underlying5
  obtain ⟨cap, hcap⟩ : ∃ cap, grownCap w s.size 0 5 = cap := ⟨_, rfl⟩
  rw [hcap] at hconv
  have hce : s.size ≤ cap := by rw [← hcap]; exact grownCap_ge w s.size 0 5
  clear hcap
  obtain ⟨C, hC⟩ : ∃ C, bytesRow s cap = C := ⟨_, rfl⟩
  rw [hC] at hconv
  have hCs : s.size ≤ C.size := by rw [← hC]; simp [bytesRow]
  have HC : Hid (∀ j (hj : j < s.data.size), C[j]? = some (.int .u8 (s.data[j].toNat : Int))) := fun j hj => by rw [← hC]; exact bytesRow_at s cap j hj
  clear hC
  go_enter Tryd.func37, Tryd.ntmps37
  go_wp2
  go_loopw [4] (fun v wr => ∃ (k : Nat) (D : Array Value), k ≤ s.size ∧ v = .int .i64 k ∧ Below w.heap.size w wr ∧ wr.heap[w.heap.size]? = some (.cells D 5 (C.size, C.size + 1)) ∧ D.size = C.size ∧ Hid (∀ j (hj : j < s.data.size), D[j]? = some (.int .u8 (if j < k then ((lowB s.data[j]).toNat : Int) else (s.data[j].toNat : Int))))) (fun v _ => s.size - (intOf v).toNat)
  case atStart => exact ⟨0, C, by omega, rfl, ((Below.refl _ _).alloc (Nat.le_refl _) _).drew, blk_new w _, rfl, fun j hj => by rw [HC.out j hj]; simp⟩
  case round =>
    obtain ⟨k, D, hk, rfl, hbw, hblk, hDs, HD⟩ := hrel
    by_cases hlt : k < s.size
    · have hc0 : wr.cell? ⟨w.heap.size, k, none⟩ = some (.int .u8 (s.data[k].toNat : Int)) := by rw [blk_cell hblk, HD.out k hlt]; simp
      have hf0 : wr.frozen? ⟨w.heap.size, k, none⟩ = false := blk_frozen hblk k (by omega)
      have hlow := lowB_add s.data[k]
      obtain ⟨c, hc⟩ : ∃ c, s.data[k] = c := ⟨_, rfl⟩
      rw [hc] at hc0 hlow
      have hb := c.toNat_lt
      have HL : Hid ((lowB c).toNat = if 65 ≤ c.toNat ∧ c.toNat ≤ 90 then c.toNat + 32 else c.toNat) := hlow
      have HCe : Hid (s.data[k] = c) := hc
      clear hlow hc
      go_wp2
      all_goals (
        go_roundw
        case measure => simp [intOf]; omega)
      case rel =>
        refine ⟨k + 1, _, by omega, by go_num, hbw.setCell (by simp) _, blk_set hblk _ _, by simp [hDs], fun j hj => ?_⟩
        have h1 := HD.out j hj
        by_cases hjk : j = k
        · subst hjk
          rw [Array.getElem?_setIfInBounds_self_of_lt (by omega), if_pos (by omega), HCe.out, HL.out, if_pos ⟨by omega, by omega⟩]
          simp
        · rw [Array.getElem?_setIfInBounds_ne (Ne.symm hjk), h1]
          by_cases h2 : j < k
          · rw [if_pos h2, if_pos (by omega)]
          · rw [if_neg h2, if_neg (by omega)]
      all_goals
        refine ⟨k + 1, D, by omega, by go_num, hbw, hblk, hDs, fun j hj => ?_⟩
        have h1 := HD.out j hj
        by_cases hjk : j = k
        · subst hjk
          rw [h1, if_neg (by omega), if_pos (by omega), HCe.out, HL.out, if_neg (by omega)]
        · rw [h1]
          by_cases h2 : j < k
          · rw [if_pos h2, if_pos (by omega)]
          · rw [if_neg h2, if_neg (by omega)]
    · have hc0 : ∀ j (hj : j < (s.data.map lowB).toList.length), wr.cell? ((⟨w.heap.size, 0, none⟩ : Addr).add j) = some (.int .u8 ((s.data.map lowB).toList[j].toNat : Int)) := fun j hj => by
        simp at hj
        rw [add_at, Nat.zero_add]
        rw [blk_cell hblk, HD.out j hj, if_pos (by have : s.data.size = s.size := rfl; omega)]
        simp
      have hback := run_convert_bytes_back (P := Tryd.prog) wr 84 9 5 ⟨w.heap.size, 0, none⟩ cap (s.data.map lowB).toList Tryd.underlying84 Tryd.underlying5 Tryd.underlying9 hc0
      have hl : (s.data.map lowB).toList.length = s.size := by simp
      rw [hl] at hback
      clear hc0 hl
      go_wp2
      go_ret
      exact ⟨ret_str (by unfold fold; congr 1; apply Array.ext'; simp), hbw⟩

theorem runquote_none (s : ByteArray) (f : Int) (w : World) (_hs : s.size ≤ 1000000) (h : ¬ (0 ≤ f ∧ f < s.size ∧ s.data.toList[f.toNat]? = some 39)) :
    Calls Tryd.prog 34 #[.string s, .int .i64 f] w fun e w' => e = .returned (unqV (unquote s f)) ∧ w = w' := by
  have HE : Hid (unquote s f = none) := by show _ = _; unfold unquote; rw [if_neg h]
  have HH : Hid (¬ (0 ≤ f ∧ f < s.size ∧ s.data.toList[f.toNat]? = some 39)) := h
  clear h
  by_cases h1 : f < 0
  · go_enter Tryd.func34, Tryd.ntmps34
    go_wp2_with fail
    go_ret3
    exact ⟨by rw [HE.out]; rfl, rfl⟩
  · by_cases h2 : (s.size : Int) ≤ f
    · go_enter Tryd.func34, Tryd.ntmps34
      go_wp2_with fail
      go_ret3
      exact ⟨by rw [HE.out]; rfl, rfl⟩
    · obtain ⟨n, rfl⟩ := Int.eq_ofNat_of_zero_le (show 0 ≤ f by omega)
      have hn : n < s.size := by omega
      have hn2 : n < s.data.toList.length := by simp; exact hn
      have h3 : ((s[n].toNat : Int) != 39) = true := by
        have := HH.out
        rw [Int.toNat_natCast, List.getElem?_eq_getElem hn2] at this
        have h4 : ¬ s.data.toList[n] = 39 := fun e => this ⟨by omega, by omega, by rw [e]⟩
        have h5 : s[n] = s.data.toList[n] := by simp; rfl
        rw [h5]
        have : s.data.toList[n].toNat ≠ 39 := fun e => h4 (UInt8.toNat_inj.1 e)
        exact bne_iff_ne.2 (by omega)
      clear HH
      go_enter Tryd.func34, Tryd.ntmps34
      go_wp2_with fail
      go_ret3
      exact ⟨by rw [HE.out]; rfl, rfl⟩


set_option maxHeartbeats 1000000 in
theorem runquote_some (s : ByteArray) (n : Nat) (w : World) (hs : s.size ≤ 1000000) (hn : n < s.size) (h3 : s.data.toList[n]? = some 39) :
    Calls Tryd.prog 34 #[.string s, .int .i64 n] w fun e w' => e = .returned (unqV (unquote s n)) ∧ w = w' := by
  have hl : s.data.toList.length = s.size := by simp
  have HE : Hid (unquote s n = (unq (s.data.toList.drop (n + 1))).map fun x => (⟨x.1.toArray⟩, (n : Int) + 1 + x.2)) := by
    show _ = _; unfold unquote; rw [if_pos ⟨by omega, by omega, by rw [Int.toNat_natCast]; exact h3⟩]; rfl
  have h4 : ((s[n].toNat : Int) != 39) = false := by
    rw [List.getElem?_eq_getElem (by omega)] at h3
    rw [← byte_get s n hn (by omega), Option.some.inj h3]; rfl
  have Hl : Hid (s.data.toList.length = s.size) := hl
  clear h3 hl
  have h5 : decide (s.size ≤ n) = false := decide_eq_false (by omega)
  have h6 : decide ((n : Int) < 0) = false := decide_eq_false (by omega)
  go_enter Tryd.func34, Tryd.ntmps34
  go_wp2_with fail
  go_loop [7, 8] (fun q v => ∃ (k : Nat) (done : List UInt8) (X : ByteArray), v = .int .i64 k ∧ q = .string X ∧ n + 1 ≤ k ∧ k ≤ s.size ∧ X.size ≤ k ∧ Hid (X = ⟨done.toArray⟩) ∧ Hid (unq (s.data.toList.drop (n + 1)) = (unq (s.data.toList.drop k)).map fun x => (done ++ x.1, x.2 + (k - (n + 1))))) (fun _ v => s.size + 1 - (intOf v).toNat)
  case atStart => exact ⟨n + 1, [], ⟨#[]⟩, by go_num, rfl, by omega, by omega, by show 0 ≤ n + 1; omega, rfl, by show _ = _; simp⟩
  case round =>
    obtain ⟨k, done, X, rfl, rfl, hk1, hk2, hX, HX, HS⟩ := hrel
    by_cases hlt : k < s.size
    · have hlt2 : k < s.data.toList.length := by have := Hl.out; omega
      by_cases hq : s[k] = 39
      · have hq1 : ((s[k].toNat : Int) != 39) = false := by rw [hq]; rfl
        have Hq : Hid (s.data.toList[k] = 39) := by show _ = _; rw [byte_get s k hlt]; exact hq
        clear hq
        by_cases hend : (s.size : Int) ≤ (k : Int) + 1
        · have HF : Hid (unquote s n = some (⟨done.toArray⟩, (k : Int) + 1)) := by
            show _ = _
            rw [HE.out, HS.out, unq_end1 hlt2 Hq.out (by have := Hl.out; omega)]
            simp; omega
          go_wp2_with fail
          go_ret3
          exact ⟨by rw [HF.out, HX.out]; rfl, rfl⟩
        · have hend2 : k + 1 < s.size := by omega
          have hend3 : k + 1 < s.data.toList.length := by have := Hl.out; omega
          by_cases hq2 : s[k + 1] = 39
          · have hq21 : ((s[k + 1].toNat : Int) != 39) = false := by rw [hq2]; rfl
            have HF : Hid (unq (s.data.toList.drop (n + 1)) = (unq (s.data.toList.drop (k + 2))).map fun x => ((done ++ [39]) ++ x.1, x.2 + (k + 2 - (n + 1)))) := by
              show _ = _
              rw [HS.out, unq_two hlt2 Hq.out hend3 (by rw [byte_get s (k + 1) hend2]; exact hq2)]
              cases unq (s.data.toList.drop (k + 2)) with
              | none => rfl
              | some x => simp; omega
            clear hq2 HS
            go_wp2_with fail
            go_round
            case rel =>
              refine ⟨k + 2, done ++ [39], _, by go_num, rfl, by omega, by omega, by simp only [ByteArray.size_append', ByteArray.size_mk', List.size_toArray, List.length_cons, List.length_nil]; omega, ?_, HF⟩
              show _ = _
              rw [HX.out]
              apply ByteArray.ext
              apply Array.ext'
              simp
            case measure => simp [intOf]; omega
          · have hq21 : ((s[k + 1].toNat : Int) != 39) = true := by
              have : s[k + 1].toNat ≠ 39 := fun e => hq2 (UInt8.toNat_inj.1 e)
              exact bne_iff_ne.2 (by omega)
            have HF : Hid (unquote s n = some (⟨done.toArray⟩, (k : Int) + 1)) := by
              show _ = _
              rw [HE.out, HS.out, unq_end2 hlt2 Hq.out hend3 (by rw [byte_get s (k + 1) hend2]; exact hq2)]
              simp; omega
            clear hq2
            go_wp2_with fail
            go_ret3
            exact ⟨by rw [HF.out, HX.out]; rfl, rfl⟩
      · have hq1 : ((s[k].toNat : Int) != 39) = true := by
          have : s[k].toNat ≠ 39 := fun e => hq (UInt8.toNat_inj.1 e)
          exact bne_iff_ne.2 (by omega)
        have HF : Hid (unq (s.data.toList.drop (n + 1)) = (unq (s.data.toList.drop (k + 1))).map fun x => ((done ++ [s[k]]) ++ x.1, x.2 + (k + 1 - (n + 1)))) := by
          show _ = _
          rw [HS.out, unq_other hlt2 (by rw [byte_get s k hlt]; exact hq)]
          cases unq (s.data.toList.drop (k + 1)) with
          | none => rfl
          | some x => simp; exact ⟨rfl, by omega⟩
        have hex : s.extract k (k + 1) = ⟨#[s[k]]⟩ := extract1 s k hlt
        clear hq HS
        go_wp2_with fail
        go_round
        case rel =>
          refine ⟨k + 1, done ++ [s[k]], _, by go_num, rfl, by omega, by omega, by simp only [ByteArray.size_append', ByteArray.size_mk', List.size_toArray, List.length_cons, List.length_nil]; omega, ?_, HF⟩
          show _ = _
          rw [HX.out]
          apply ByteArray.ext
          apply Array.ext'
          simp
        case measure => simp [intOf]; omega
    · have HF : Hid (unquote s n = none) := by
        show _ = _
        rw [HE.out, HS.out, unq_nil (by have := Hl.out; omega)]
        rfl
      go_wp2_with fail
      go_ret3
      exact ⟨by rw [HF.out]; rfl, rfl⟩

theorem runquote_any (s : ByteArray) (f : Int) (w : World) (hs : s.size ≤ 1000000) :
    Calls Tryd.prog 34 #[.string s, .int .i64 f] w fun e w' => e = .returned (unqV (unquote s f)) ∧ w = w' := by
  by_cases h : 0 ≤ f ∧ f < s.size ∧ s.data.toList[f.toNat]? = some 39
  · obtain ⟨h1, h2, h3⟩ := h
    obtain ⟨n, rfl⟩ := Int.eq_ofNat_of_zero_le h1
    rw [Int.toNat_natCast] at h3
    exact runquote_some s n w hs (by omega) h3
  · exact runquote_none s f w hs h

end Go.Proofs.YtljoenpgokhekaaDoor
