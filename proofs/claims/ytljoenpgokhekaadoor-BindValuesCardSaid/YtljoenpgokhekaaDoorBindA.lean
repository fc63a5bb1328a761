/- Walks: order.Int, order.GetInt. -/
import Derived.Test.YtljoenpgokhekaaDoorChecked
import Derived.Test.YtljoenpgokhekaaDoorPlainP
import Derived.Test.YtljoenpgokhekaaDoorKit
import Derived.Laws.Bits64b
namespace Go.Proofs.YtljoenpgokhekaaDoor
open Go.RowKit
open Cle

theorem u64_in (x : Int) (h0 : 0 ≤ x) (h1 : x < 18446744073709551616) : IntKind.u64.wrap x = x := by
  simp [IntKind.wrap, IntKind.bits, IntKind.signed]; omega
theorem mid_wrap (n : Nat) (h : n < 18446744073709551616) : wrap64 (IntKind.u64.wrap ((n : Int) - 9223372036854775808)) = (n : Int) - 9223372036854775808 := by
  simp [IntKind.wrap, IntKind.bits, IntKind.signed, wrap64]; omega
theorem xor_top (a : Nat) (h : a < 18446744073709551616) : a ^^^ 9223372036854775808 = (a + 9223372036854775808) % 18446744073709551616 := by
  have h1 := Nat.xor_div_two_pow (a := a) (b := 9223372036854775808) (n := 63)
  have h2 := Nat.xor_mod_two_pow (a := a) (b := 9223372036854775808) (n := 63)
  rw [show (9223372036854775808 : Nat) / 2 ^ 63 = 1 from rfl] at h1
  rw [show (9223372036854775808 : Nat) % 2 ^ 63 = 0 from rfl, Nat.xor_zero] at h2
  have h3 : a / 2 ^ 63 = 0 ∨ a / 2 ^ 63 = 1 := by omega
  rcases h3 with h3 | h3
  · rw [h3, show (0 ^^^ 1 : Nat) = 1 from rfl] at h1; omega
  · rw [h3, show (1 ^^^ 1 : Nat) = 0 from rfl] at h1; omega
theorem u64_xor_top (a : Nat) (h : a < 18446744073709551616) : bits .xor .u64 (a : Int) 9223372036854775808 = (((a + 9223372036854775808) % 18446744073709551616 : Nat) : Int) := by
  have := bits_xor_u64_nat a 9223372036854775808 h (by omega)
  rw [xor_top a h] at this
  exact this
theorem mid_wrap2 (n : Nat) (h : n < 18446744073709551616) : wrap64 (((n : Int) + 9223372036854775808) % 18446744073709551616) = (n : Int) - 9223372036854775808 := by
  simp [wrap64]; omega
theorem up_wrap2 (v : Int) : bits .xor .u64 (IntKind.u64.wrap v) 9223372036854775808 = (up v : Int) := by
  obtain ⟨n, hn⟩ : ∃ n : Nat, IntKind.u64.wrap v = n := ⟨(v % 18446744073709551616).toNat, by simp [IntKind.wrap, IntKind.bits, IntKind.signed]; omega⟩
  have hn2 : n < 18446744073709551616 := by simp [IntKind.wrap, IntKind.bits, IntKind.signed] at hn; omega
  rw [hn, u64_xor_top n hn2]
  simp [IntKind.wrap, IntKind.bits, IntKind.signed] at hn
  unfold up; omega
theorem up_wrap (v : Int) : IntKind.u64.wrap (IntKind.u64.wrap v + 9223372036854775808) = (up v : Int) := by
  simp [IntKind.wrap, IntKind.bits, IntKind.signed, up]; omega

set_option maxHeartbeats 400000 in
theorem getint_any (s : ByteArray) (w : World) (hs : s.size ≤ 1000000) :
    Calls Tryd.prog 43 #[.string s] w fun e w' => e = .returned (.tuple #[.int .i64 ((dec8 s).getD 0), .bool (dec8 s).isSome]) ∧ w' = w := by
  by_cases h8 : s.size = 8
  · have HE : Hid (dec8 s = some (((val s.data.toList 0 : Nat) : Int) - 9223372036854775808)) := by show _ = _; unfold dec8; rw [if_pos h8]
    go_enter Tryd.func43, Tryd.ntmps43
    go_wp2_with fail
    go_loopw [4, 9] (fun u v wr => w = wr ∧ ∃ (k n : Nat), k ≤ 8 ∧ v = .int .i64 k ∧ u = .int .u64 n ∧ n < 256 ^ k ∧ Hid (val s.data.toList 0 = val (s.data.toList.drop k) n)) (fun _ v _ => 8 - (intOf v).toNat)
    case atStart => exact ⟨rfl, 0, 0, by omega, rfl, rfl, by omega, rfl⟩
    case round =>
      obtain ⟨rfl, k, n, hk, rfl, rfl, hn, HV⟩ := hrel
      by_cases hlt : k < 8
      · have hb := s[k].toNat_lt
        have hp := pow256_le hlt
        have HN : Hid (n * 256 + s[k].toNat < 256 ^ (k + 1)) := by show _ < _; rw [Nat.pow_succ]; omega
        have HD := Lib.hid (val_drop s k n (by omega))
        obtain ⟨c, hc⟩ : ∃ c, s[k].toNat = c := ⟨_, rfl⟩
        rw [hc] at hb HN HD
        have ho : bits .or .u64 ((n * 256 : Nat) : Int) (c : Int) = ((n * 256 + c : Nat) : Int) := by rw [bits_or_u64_nat _ _ (by omega) (by omega), or_byte n c (by omega)]
        have hw1 : IntKind.u64.wrap ((n : Int) * 256) = ((n * 256 : Nat) : Int) := by rw [u64_in _ (by omega) (by omega)]; omega
        have hw2 : IntKind.u64.wrap (c : Int) = (c : Int) := u64_in _ (by omega) (by omega)
        clear hp
        go_wp2_with fail
        go_roundw
        case rel => exact ⟨trivial, k + 1, n * 256 + c, by omega, by go_num, by rw [show ((n : Int) * 256) = ((n * 256 : Nat) : Int) from by omega, ho], HN.out, by show _ = _; rw [HV.out, HD.out]⟩
        case measure => simp [intOf]; omega
      · have hk8 : k = 8 := by omega
        subst hk8
        have HF : Hid (dec8 s = some ((n : Int) - 9223372036854775808)) := by show _ = _; rw [HE.out, HV.out, val_end s 8 n (by omega)]
        go_wp2_with fail
        go_ret2
        exact ⟨by rw [HF.out, mid_wrap _ (by omega)]; rfl, rfl⟩
  · have HE : Hid (dec8 s = none) := by show _ = _; unfold dec8; rw [if_neg h8]
    have h8' : ((s.size : Int) != 8) = true := bne_iff_ne.2 (by omega)
    go_enter Tryd.func43, Tryd.ntmps43
    go_wp2_with fail
    go_ret2
    exact ⟨by rw [HE.out]; rfl, rfl⟩

set_option maxRecDepth 100000 in
set_option maxHeartbeats 400000 in
theorem int_any (v : Int) (w : World) :
    Calls Tryd.prog 41 #[.int .i64 v] w fun e w' => e = .returned (.string (enc8 v)) ∧ Below w.heap.size w w' := by
  have hmk : ∀ w : World, (Instr.makeSlice 84 (.int .i64 8) (.int .i64 8)).run Tryd.prog w = .ok (.slice (some ⟨w.heap.size, 0, none⟩) 8 8) (w.alloc (.cells #[.int .u8 0, .int .u8 0, .int .u8 0, .int .u8 0, .int .u8 0, .int .u8 0, .int .u8 0, .int .u8 0] 5)) := fun _ => by kernel_rfl
  have HU := Lib.hid (up_wrap v)
  go_enter Tryd.func41, Tryd.ntmps41
  go_wp2_with fail
  rw [HU.out]
  have hU : up v < 18446744073709551616 := by unfold up; omega
  obtain ⟨U, hUv⟩ : ∃ U, up v = U := ⟨_, rfl⟩
  have HE : Hid (enc8 v = ⟨(encL U).toArray⟩) := by show _ = _; unfold enc8; rw [hUv]
  rw [hUv] at hU ⊢
  clear hUv HU
  go_loopw [12] (fun v wr => ∃ (k : Nat) (D : Array Value), k ≤ 8 ∧ v = .int .i64 k ∧ Below w.heap.size w wr ∧ wr.heap[w.heap.size]? = some (.cells D 5 (0, 0)) ∧ D.size = 8 ∧ Hid (∀ j, j < k → D[j]? = some (.int .u8 (byt8 U j)))) (fun v _ => 8 - (intOf v).toNat)
  case atStart => exact ⟨0, _, by omega, rfl, (Below.refl _ _).alloc (Nat.le_refl _) _, blk_new w _, rfl, fun j h => absurd h (by omega)⟩
  case round =>
    obtain ⟨k, D, hk, rfl, hbw, hblk, hDs, HD⟩ := hrel
    by_cases hlt : k < 8
    · have c0 := blk_cell hblk k
      have f0 := blk_frozen0 hblk k
      rw [Array.getElem?_eq_getElem (by omega)] at c0
      go_wp2_with fail
      go_roundw
      case rel =>
        refine ⟨k + 1, _, by omega, by go_num, hbw.setCell (Nat.le_refl _) _, blk_set hblk _ _, by simp [hDs], fun j hj => ?_⟩
        by_cases hjk : j = k
        · subst hjk
          rw [Array.getElem?_setIfInBounds_self_of_lt (by omega)]
          congr 2
        · rw [Array.getElem?_setIfInBounds_ne (Ne.symm hjk)]
          exact HD.out j (by omega)
      case measure => simp [intOf]; omega
    · have hc0 : ∀ j (hj : j < (encL U).length), wr.cell? ((⟨w.heap.size, 0, none⟩ : Addr).add j) = some (.int .u8 ((encL U)[j].toNat : Int)) := fun j hj => by
        have hj8 : j < 8 := by simpa [encL] using hj
        rw [add_at, Nat.zero_add, blk_cell hblk, HD.out j (by omega)]
        simp only [encL, List.getElem_map, List.getElem_range, UInt8.toNat_ofNat']
        congr 3
        unfold byt8
        omega
      have hback := run_convert_bytes_back (P := Tryd.prog) wr 84 9 5 ⟨w.heap.size, 0, none⟩ 8 (encL U) Tryd.underlying84 Tryd.underlying5 Tryd.underlying9 hc0
      have hl : (encL U).length = 8 := by simp [encL]
      rw [hl] at hback
      clear hc0 hl
      go_wp2_with fail
      go_ret
      exact ⟨ret_str HE.out.symm, hbw⟩

set_option maxHeartbeats 400000 in
theorem rgetint_any (s : ByteArray) (w : World) (hs : s.size ≤ 1000000) :
    Calls Tryd.prog 44 #[.string s] w fun e w' => e = .returned (.tuple #[.int .i64 ((dec8 s).getD 0), .bool (dec8 s).isSome]) ∧ w' = w := by
  by_cases h8 : s.size = 8
  · have HE : Hid (dec8 s = some (((val s.data.toList 0 : Nat) : Int) - 9223372036854775808)) := by show _ = _; unfold dec8; rw [if_pos h8]
    go_enter Tryd.func44, Tryd.ntmps44
    go_wp2_with fail
    go_loopw [4, 5] (fun u v wr => w = wr ∧ ∃ (k n : Nat), k ≤ 8 ∧ v = .int .i64 k ∧ u = .int .u64 n ∧ n < 256 ^ k ∧ Hid (val s.data.toList 0 = val (s.data.toList.drop k) n)) (fun _ v _ => 8 - (intOf v).toNat)
    case atStart => exact ⟨rfl, 0, 0, by omega, rfl, rfl, by omega, rfl⟩
    case round =>
      obtain ⟨rfl, k, n, hk, rfl, rfl, hn, HV⟩ := hrel
      by_cases hlt : k < 8
      · have hb := s[k].toNat_lt
        have hp := pow256_le hlt
        have HN : Hid (n * 256 + s[k].toNat < 256 ^ (k + 1)) := by show _ < _; rw [Nat.pow_succ]; omega
        have HD := Lib.hid (val_drop s k n (by omega))
        obtain ⟨c, hc⟩ : ∃ c, s[k].toNat = c := ⟨_, rfl⟩
        rw [hc] at hb HN HD
        have ho : bits .or .u64 ((n * 256 : Nat) : Int) (c : Int) = ((n * 256 + c : Nat) : Int) := by rw [bits_or_u64_nat _ _ (by omega) (by omega), or_byte n c (by omega)]
        have hw1 : IntKind.u64.wrap ((n : Int) * 256) = ((n * 256 : Nat) : Int) := by rw [u64_in _ (by omega) (by omega)]; omega
        have hw2 : IntKind.u64.wrap (c : Int) = (c : Int) := u64_in _ (by omega) (by omega)
        clear hp
        go_wp2_with fail
        go_roundw
        case rel => exact ⟨trivial, k + 1, n * 256 + c, by omega, by go_num, by rw [show ((n : Int) * 256) = ((n * 256 : Nat) : Int) from by omega, ho], HN.out, by show _ = _; rw [HV.out, HD.out]⟩
        case measure => simp [intOf]; omega
      · have hk8 : k = 8 := by omega
        subst hk8
        have hn8 : n < 18446744073709551616 := by omega
        have HF : Hid (dec8 s = some ((n : Int) - 9223372036854775808)) := by show _ = _; rw [HE.out, HV.out, val_end s 8 n (by omega)]
        have hx := u64_xor_top n hn8
        go_wp2_with fail
        go_ret2
        exact ⟨by rw [HF.out, mid_wrap2 _ (by omega)]; rfl, rfl⟩
  · have HE : Hid (dec8 s = none) := by show _ = _; unfold dec8; rw [if_neg h8]
    have h8' : ((s.size : Int) != 8) = true := bne_iff_ne.2 (by omega)
    go_enter Tryd.func44, Tryd.ntmps44
    go_wp2_with fail
    go_ret2
    exact ⟨by rw [HE.out]; rfl, rfl⟩

set_option maxRecDepth 100000 in
set_option maxHeartbeats 400000 in
theorem rint_any (v : Int) (w : World) :
    Calls Tryd.prog 42 #[.int .i64 v] w fun e w' => e = .returned (.string (enc8 v)) ∧ Below w.heap.size w w' := by
  have HU := Lib.hid (up_wrap2 v)
  go_enter Tryd.func42, Tryd.ntmps42
  go_wp2_with fail
  rw [HU.out]
  have hU : up v < 18446744073709551616 := by unfold up; omega
  obtain ⟨U, hUv⟩ : ∃ U, up v = U := ⟨_, rfl⟩
  have HE : Hid (enc8 v = ⟨(encL U).toArray⟩) := by show _ = _; unfold enc8; rw [hUv]
  rw [hUv] at hU ⊢
  clear hUv HU
  go_loopw [4, 5] (fun x v wr => ∃ (k : Nat) (S : ByteArray), k ≤ 8 ∧ v = .int .i64 k ∧ x = .string S ∧ S.size = k ∧ Below w.heap.size w wr ∧ Hid (S = ⟨((encL U).drop (8 - k)).toArray⟩)) (fun _ v _ => 8 - (intOf v).toNat)
  case atStart => exact ⟨0, ⟨#[]⟩, by omega, rfl, rfl, rfl, Below.refl _ _, by show _ = _; simp [encL]⟩
  case round =>
    obtain ⟨k, S, hk, rfl, rfl, hS, hbw, HS⟩ := hrel
    by_cases hlt : k < 8
    · have hbyte : (((UInt8.ofNat (byt8 U (7 - k))).toNat : Nat) : Int) = (U : Int) / 2 ^ (8 * k) % 256 := by
        rw [UInt8.toNat_ofNat']
        unfold byt8
        rw [show 7 - (7 - k) = k by omega, Nat.mod_mod]
        push_cast
        rfl
      have hback := run_convert_bytes_back (P := Tryd.prog) (wr.alloc (.cells #[.int .u8 ((U : Int) / 2 ^ (8 * k) % 256)] 5)) 84 9 5 ⟨wr.heap.size, 0, none⟩ 1 [UInt8.ofNat (byt8 U (7 - k))] Tryd.underlying84 Tryd.underlying5 Tryd.underlying9 (fun j hj => by
        obtain rfl : j = 0 := by simpa using hj
        rw [add_at, blk_cell (blk_new wr _)]
        simp only [List.getElem_cons_zero, hbyte]
        rfl)
      have HS2 : Hid ((⟨[UInt8.ofNat (byt8 U (7 - k))].toArray⟩ : ByteArray) ++ S = ⟨((encL U).drop (8 - (k + 1))).toArray⟩) := by
        show _ = _
        have hl : 8 - (k + 1) < (encL U).length := by simp [encL]; omega
        rw [HS.out, List.drop_eq_getElem_cons hl]
        apply ByteArray.ext
        apply Array.ext'
        simp only [ByteArray.data_append, Array.toList_append, List.cons_append, List.nil_append]
        rw [show 8 - (k + 1) + 1 = 8 - k by omega]
        simp only [encL, List.getElem_map, List.getElem_range]
        rw [show 8 - (k + 1) = 7 - k by omega]
      have hsz : ((⟨[UInt8.ofNat (byt8 U (7 - k))].toArray⟩ : ByteArray) ++ S).size = k + 1 := by rw [ByteArray.size_append', hS]; simp [ByteArray.size]; omega
      rw [show ([UInt8.ofNat (byt8 U (7 - k))] : List UInt8).length = 1 from rfl] at hback
      have hB1 : (⟨[UInt8.ofNat (byt8 U (7 - k))].toArray⟩ : ByteArray).size = 1 := rfl
      generalize (⟨[UInt8.ofNat (byt8 U (7 - k))].toArray⟩ : ByteArray) = B at *
      clear hbyte
      go_wp2_with fail
      go_roundw
      case rel => exact ⟨k + 1, _, by omega, by go_num, rfl, hsz, hbw.alloc hbw.size _, HS2⟩
      case measure => simp [intOf]; omega
    · have hk8 : k = 8 := by omega
      subst hk8
      go_wp2_with fail
      go_ret
      exact ⟨ret_str (by rw [HS.out, HE.out]; simp), hbw⟩

end Go.Proofs.YtljoenpgokhekaaDoor
