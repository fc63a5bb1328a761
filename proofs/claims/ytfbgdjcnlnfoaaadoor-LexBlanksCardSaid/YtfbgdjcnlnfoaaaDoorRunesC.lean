/- Walks: runes.Quote, runes.Unquote. -/
import Derived.Test.YtfbgdjcnlnfoaaaDoorRunesB
import Derived.Test.YtfbgdjcnlnfoaaaDoorPlainC
import Derived.Lib.ReplaceLaws
namespace Go.Proofs.YtfbgdjcnlnfoaaaDoor
open Go.RowKit
open Cle

theorem unquote_none (s : ByteArray) (f : Int) (w : World) (_hs : s.size ≤ 1000000) (h : ¬ (0 ≤ f ∧ f < s.size ∧ s.data.toList[f.toNat]? = some 39)) :
    Calls Tryd.prog 21 #[.string s, .int .i64 f] w fun e w' => e = .returned (unqV (unquote s f)) ∧ Below w.heap.size w w' := by
  have HE : Hid (unquote s f = none) := by show _ = _; unfold unquote; rw [if_neg h]
  have HH : Hid (¬ (0 ≤ f ∧ f < s.size ∧ s.data.toList[f.toNat]? = some 39)) := h
  clear h
  by_cases h1 : f < 0
  · go_enter Tryd.func21, Tryd.ntmps21
    go_wp2_with fail
    go_ret3
    exact ⟨by rw [HE.out]; rfl, Below.refl _ _⟩
  · by_cases h2 : (s.size : Int) ≤ f
    · go_enter Tryd.func21, Tryd.ntmps21
      go_wp2_with fail
      go_ret3
      exact ⟨by rw [HE.out]; rfl, Below.refl _ _⟩
    · obtain ⟨n, rfl⟩ := Int.eq_ofNat_of_zero_le (show 0 ≤ f by omega)
      have hn : n < s.size := by omega
      have hn2 : n < s.data.toList.length := by simp; exact hn
      have h3 : ((s[n].toNat : Int) != 39) = true := by
        have := HH.out
        rw [Int.toNat_natCast, List.getElem?_eq_getElem hn2] at this
        have h4 : ¬ s.data.toList[n] = 39 := fun e => this ⟨by omega, by omega, by rw [e]⟩
        have h5 : s[n] = s.data.toList[n] := by simp; rfl
        rw [h5]
        have : s.data.toList[n].toNat ≠ 39 := fun e => h4 (UInt8.toNat_inj.1 e)
        exact bne_iff_ne.2 (by omega)
      clear HH
      go_enter Tryd.func21, Tryd.ntmps21
      go_wp2_with fail
      go_ret3
      exact ⟨by rw [HE.out]; rfl, Below.refl _ _⟩

theorem byte_get (s : ByteArray) (k : Nat) (_h : k < s.size) (h2 : k < s.data.toList.length) : s.data.toList[k] = s[k] := by simp; rfl
theorem byteCells_one1 (l : List UInt8) (c : UInt8) : Lib.byteCells l ++ [Value.int .u8 c.toNat] = Lib.byteCells (l ++ [c]) := by simp [Lib.byteCells]

set_option maxHeartbeats 1000000 in
theorem unquote_some (s : ByteArray) (n : Nat) (w : World) (hs : s.size ≤ 1000000) (hn : n < s.size) (h3 : s.data.toList[n]? = some 39) :
    Calls Tryd.prog 21 #[.string s, .int .i64 n] w fun e w' => e = .returned (unqV (unquote s n)) ∧ Below w.heap.size w w' := by
  have hl : s.data.toList.length = s.size := by simp
  have HE : Hid (unquote s n = (unq (s.data.toList.drop (n + 1))).map fun x => (⟨x.1.toArray⟩, (n : Int) + 1 + x.2)) := by
    show _ = _; unfold unquote; rw [if_pos ⟨by omega, by omega, by rw [Int.toNat_natCast]; exact h3⟩]; rfl
  have h4 : ((s[n].toNat : Int) != 39) = false := by
    rw [List.getElem?_eq_getElem (by omega)] at h3
    rw [← byte_get s n hn (by omega), Option.some.inj h3]; rfl
  have Hl : Hid (s.data.toList.length = s.size) := hl
  clear h3 hl
  have h5 : decide (s.size ≤ n) = false := decide_eq_false (by omega)
  have h6 : decide ((n : Int) < 0) = false := decide_eq_false (by omega)
  go_enter Tryd.func21, Tryd.ntmps21
  go_wp2_with fail
  go_loopw [8] (fun v wr => ∃ (k : Nat) (done : List UInt8), v = .int .i64 k ∧ n + 1 ≤ k ∧ k ≤ s.size ∧ Lib.IsBuilder 57 5 w.heap.size w.heap.size (Lib.byteCells done) wr ∧ Below w.heap.size w wr ∧ w.heap.size < wr.heap.size ∧ done.length ≤ k ∧ Hid (unq (s.data.toList.drop (n + 1)) = (unq (s.data.toList.drop k)).map fun x => (done ++ x.1, x.2 + (k - (n + 1))))) (fun v _ => s.size + 1 - (intOf v).toNat)
  case atStart => exact ⟨n + 1, [], by go_num, by omega, by omega, Lib.fresh_isBuilder _ _ w, (Below.refl _ _).alloc (Nat.le_refl _) _, by simp, by simp, by show _ = _; simp⟩
  case round =>
    obtain ⟨k, done, rfl, hk1, hk2, hB, hbw, hz, hd, HS⟩ := hrel
    have hbl : (Lib.byteCells done).length + 1 ≤ 140737488355328 := by rw [Lib.byteCells_length]; omega
    by_cases hlt : k < s.size
    · have hlt2 : k < s.data.toList.length := by have := Hl.out; omega
      by_cases hq : s[k] = 39
      · have hq1 : ((s[k].toNat : Int) == 39) = true := by rw [hq]; rfl
        have Hq : Hid (s.data.toList[k] = 39) := by show _ = _; rw [byte_get s k hlt]; exact hq
        clear hq
        by_cases hend : (s.size : Int) ≤ (k : Int) + 1
        · have HF : Hid (unquote s n = some (⟨done.toArray⟩, (k : Int) + 1)) := by
            show _ = _
            rw [HE.out, HS.out, unq_end1 hlt2 Hq.out (by have := Hl.out; omega)]
            simp; omega
          go_wp2_with (go_at_call 23; refine (Tryd.Builder_String_any _ _ done _ hB (by omega)).mono ?_; rintro e w' ⟨rfl, hb⟩)
          go_ret3
          exact ⟨by rw [HF.out]; rfl, hbw.trans hb⟩
        · have hend2 : k + 1 < s.size := by omega
          have hend3 : k + 1 < s.data.toList.length := by have := Hl.out; omega
          by_cases hq2 : s[k + 1] = 39
          · have hq21 : ((s[k + 1].toNat : Int) != 39) = false := by rw [hq2]; rfl
            have HF : Hid (unq (s.data.toList.drop (n + 1)) = (unq (s.data.toList.drop (k + 2))).map fun x => ((done ++ [39]) ++ x.1, x.2 + (k + 2 - (n + 1)))) := by
              show _ = _
              rw [HS.out, unq_two hlt2 Hq.out hend3 (by rw [byte_get s (k + 1) hend2]; exact hq2)]
              cases unq (s.data.toList.drop (k + 2)) with
              | none => rfl
              | some x => simp; omega
            have H2 : Hid (s[k + 1] = 39) := hq2
            clear hq2 HS
            go_wp2_with (go_at_call 24; refine (Tryd.Builder_WriteByte _ _ (Lib.byteCells done) _ _ hB hbl (by omega)).mono ?_; rintro e w' ⟨rfl, hB2, hb⟩)
            go_roundw
            case rel =>
              refine ⟨k + 2, done ++ [39], by go_num, by omega, by omega, ?_, hbw.trans hb, ?_, by simp; omega, HF⟩
              · have := hB2
                rw [byteCells_one1, H2.out] at this
                exact .inr this
              · exact Nat.lt_of_lt_of_le hz hb.size
            case measure => simp [intOf]; omega
          · have hq21 : ((s[k + 1].toNat : Int) != 39) = true := by
              have : s[k + 1].toNat ≠ 39 := fun e => hq2 (UInt8.toNat_inj.1 e)
              exact bne_iff_ne.2 (by omega)
            have HF : Hid (unquote s n = some (⟨done.toArray⟩, (k : Int) + 1)) := by
              show _ = _
              rw [HE.out, HS.out, unq_end2 hlt2 Hq.out hend3 (by rw [byte_get s (k + 1) hend2]; exact hq2)]
              simp; omega
            clear hq2
            go_wp2_with (go_at_call 23; refine (Tryd.Builder_String_any _ _ done _ hB (by omega)).mono ?_; rintro e w' ⟨rfl, hb⟩)
            go_ret3
            exact ⟨by rw [HF.out]; rfl, hbw.trans hb⟩
      · have hq1 : ((s[k].toNat : Int) == 39) = false := by
          have : s[k].toNat ≠ 39 := fun e => hq (UInt8.toNat_inj.1 e)
          exact beq_eq_false_iff_ne.2 (by omega)
        have HF : Hid (unq (s.data.toList.drop (n + 1)) = (unq (s.data.toList.drop (k + 1))).map fun x => ((done ++ [s[k]]) ++ x.1, x.2 + (k + 1 - (n + 1)))) := by
          show _ = _
          rw [HS.out, unq_other hlt2 (by rw [byte_get s k hlt]; exact hq)]
          cases unq (s.data.toList.drop (k + 1)) with
          | none => rfl
          | some x => simp; exact ⟨rfl, by omega⟩
        clear hq HS
        go_wp2_with (go_at_call 24; refine (Tryd.Builder_WriteByte _ _ (Lib.byteCells done) _ _ hB hbl (by omega)).mono ?_; rintro e w' ⟨rfl, hB2, hb⟩)
        go_roundw
        case rel =>
          refine ⟨k + 1, done ++ [s[k]], by go_num, by omega, by omega, ?_, hbw.trans hb, ?_, by simp; omega, HF⟩
          · have := hB2
            rw [byteCells_one1] at this
            exact .inr this
          · exact Nat.lt_of_lt_of_le hz hb.size
        case measure => simp [intOf]; omega
    · have HF : Hid (unquote s n = none) := by
        show _ = _
        rw [HE.out, HS.out, unq_nil (by have := Hl.out; omega)]
        rfl
      go_wp2_with fail
      go_ret3
      exact ⟨by rw [HF.out]; rfl, hbw⟩

theorem unquote_any (s : ByteArray) (f : Int) (w : World) (hs : s.size ≤ 1000000) :
    Calls Tryd.prog 21 #[.string s, .int .i64 f] w fun e w' => e = .returned (unqV (unquote s f)) ∧ Below w.heap.size w w' := by
  by_cases h : 0 ≤ f ∧ f < s.size ∧ s.data.toList[f.toNat]? = some 39
  · obtain ⟨h1, h2, h3⟩ := h
    obtain ⟨n, rfl⟩ := Int.eq_ofNat_of_zero_le h1
    rw [Int.toNat_natCast] at h3
    exact unquote_some s n w hs (by omega) h3
  · exact unquote_none s f w hs h

end Go.Proofs.YtfbgdjcnlnfoaaaDoor
