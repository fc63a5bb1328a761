/- Walks: the laws of layer 1: RunesGo. -/
import Derived.Test.YtljoenpgokhekaaDoorLawF
namespace Go.Proofs.YtljoenpgokhekaaDoor
open Go.RowKit
open Cle

theorem pts_ext (s : ByteArray) (a : Nat) : (pts (s.extract a s.size)).length = (ptsAt s a).length := by
  have := ptsAt_sub s a s.size 0 (by omega)
  rw [Nat.add_zero] at this
  rw [this, List.length_map]; rfl
theorem at_ext (s : ByteArray) (a : Nat) (w : World) (hs : s.size ≤ 1000000) (b : Bool) (hb : decide (1 < (ptsAt s a).length) = b) : ∃ r p : Int, Calls Tryd.prog 30 #[.string (s.extract a s.size), .int .i64 1] w fun e w' => e = .returned (.tuple #[.int .i32 r, .int .i64 p, .bool b]) ∧ Below w.heap.size w w' := by
  have he : (s.extract a s.size).size ≤ 1000000 := by rw [ByteArray.size_extract]; omega
  have h := at_any (s.extract a s.size) 1 w he (by omega) (by omega)
  have hl := pts_ext s a
  unfold atO at h
  rw [if_pos (by decide)] at h
  by_cases h1 : 1 < (ptsAt s a).length
  · rw [decide_eq_true h1] at hb
    subst hb
    have h2 : (1 : Int).toNat < (pts (s.extract a s.size)).length := by rw [hl]; exact h1
    rw [List.getElem?_eq_getElem h2] at h
    exact ⟨_, _, h⟩
  · rw [decide_eq_false h1] at hb
    subst hb
    rw [List.getElem?_eq_none (by rw [hl]; show _ ≤ 1; omega)] at h
    exact ⟨_, _, h⟩

theorem extract3 (s : ByteArray) (a : Nat) (h : a + 3 ≤ s.size) : ((s.extract a (a + 3)).toList == [239, 191, 189]) = true ↔ (bY s a = 239 ∧ bY s (a + 1) = 191 ∧ bY s (a + 2) = 189) := by
  have hl : s.data.toList.length = s.size := by simp
  have e : (s.extract a (a + 3)).toList = [s[a]'(by omega), s[a + 1]'(by omega), s[a + 2]'(by omega)] := by
    rw [ByteArray.toList_eq, ByteArray.data_extract, Array.toList_extract, List.extract_eq_take_drop, List.drop_eq_getElem_cons (by omega), List.drop_eq_getElem_cons (by omega), List.drop_eq_getElem_cons (by omega)]
    rw [show a + 3 - a = 3 by omega]
    simp only [List.take_succ_cons, List.take_zero]
    rw [byte_get s a (by omega) (by omega), byte_get s (a + 1) (by omega) (by omega), byte_get s (a + 1 + 1) (by omega) (by omega)]
  rw [e, beq_iff_eq, ← bY_eq s a (by omega), ← bY_eq s (a + 1) (by omega), ← bY_eq s (a + 2) (by omega)]
  simp only [List.cons.injEq, and_true]
  have q : ∀ (c d : UInt8) (n : Nat), d.toNat = n → (c = d ↔ c.toNat = n) := fun c d n hn => ⟨fun h => by rw [h, hn], fun h => UInt8.toNat_inj.1 (by rw [h, hn])⟩
  rw [q _ 239 239 rfl, q _ 191 191 rfl, q _ 189 189 rfl]

set_option maxRecDepth 100000 in
set_option maxHeartbeats 400000 in
theorem runesGo_small (s : ByteArray) (w : World) (hG : Glob w) (hs : s.size ≤ 1500) :
    Calls Tryd.prog 11 #[.string s] w fun e w' => e = .returned (.bool true) ∧ St w w' := by
  have hGw := hG
  have HG : Hid (Glob w) := hG
  clear hG hGw
  have hl1 := pts_len s
  go_enter Tryd.func11, Tryd.ntmps11
  go_wp2_with fail
  go_loopw [3, 4] (fun n bad wr => ∃ (pos : Nat) (done : List Pt), wr.heap[w.heap.size]? = some (.stringIter s pos) ∧ Below w.heap.size w wr ∧ n = .int .i64 done.length ∧ bad = .bool (!(done.all Pt.ok)) ∧ Hid (pts s = done ++ ptsAt s pos) ∧ done.length ≤ pos ∧ pos ≤ s.size) (fun _ _ wr => s.size - wr.iterPos w.heap.size)
  case atStart => exact ⟨0, [], World.iter_heap w s 0, (Below.refl _ _).alloc (Nat.le_refl _) _, rfl, by simp, rfl, by simp, by omega⟩
  case round =>
    obtain ⟨pos, done, hit, hbw, rfl, rfl, HS, hk, hpos⟩ := hrel
    have hpos0 := iterPos_of hit
    by_cases hp : pos < s.size
    · have hnx : ∀ ty, (Instr.next (.pointer (some ⟨w.heap.size, 0, none⟩)) true ty).run Tryd.prog wr = _ := fun ty => Lib.run_next_any_at wr w.heap.size s pos ty hit hp
      have hwd := width_pos s pos hp
      have hwl := width_le s pos hp
      have hit2 := Lib.iterAt_heap wr w.heap.size s pos (pos + (Utf8.decode s pos).2) hit
      have hbw2 := Lib.below_iterAt hbw (k := w.heap.size) (Nat.le_refl _) s (pos + (Utf8.decode s pos).2)
      obtain ⟨W1, hW1⟩ : ∃ W1, W1 = wr.iterAt w.heap.size s (pos + (Utf8.decode s pos).2) := ⟨_, rfl⟩
      rw [← hW1] at hnx hit2 hbw2
      have hlt := blk_lt hit2
      clear hW1 hit hbw
      have hO : atO s done.length = some ⟨(Utf8.decode s pos).1, pos, (Utf8.decode s pos).2⟩ := by
        unfold atO
        rw [if_pos (by omega), Int.toNat_natCast, HS.out, List.getElem?_append_right (Nat.le_refl _), Nat.sub_self, ptsAt_step s pos hp]; rfl
      have a1 := at_any s done.length W1 (by omega) (by omega) (by omega)
      rw [hO] at a1
      simp only [atV] at a1
      obtain ⟨b, hb⟩ : ∃ b, decide (1 < (ptsAt s pos).length) = b := ⟨_, rfl⟩
      have a2 := fun w => at_ext s pos w (by omega) b hb
      have n2 := fun w => count_any (s.extract pos s.size) w (by rw [ByteArray.size_extract]; omega)
      rw [pts_ext s pos] at n2
      have hpl := ptsAt_len s s.size pos (by omega)
      have HS2 : Hid (pts s = (done ++ [⟨(Utf8.decode s pos).1, pos, (Utf8.decode s pos).2⟩]) ++ ptsAt s (pos + (Utf8.decode s pos).2)) := by
        show _ = _; rw [HS.out, ptsAt_step s pos hp]; simp
      have HO : Hid ((done ++ [(⟨(Utf8.decode s pos).1, pos, (Utf8.decode s pos).2⟩ : Pt)]).all Pt.ok = (done.all Pt.ok && (((Utf8.decode s pos).1 : Int) != 65533 || decide (1 < (Utf8.decode s pos).2)))) := by
        show _ = _; rw [List.all_append]; simp [Pt.ok]
      have HB := Lib.hid (bad_sign s pos)
      have Hb := Lib.hid hb
      clear hO hb HS
      have A1 := Lib.hid a1; have A2 := Lib.hid a2; have N2 := Lib.hid n2
      clear a1 a2 n2
      generalize (ptsAt s pos).length = L at *
      have hbL : (b == decide ((1 : Int) < (L : Int))) = true := by rw [← Hb.out, beq_iff_eq]; exact decide_eq_decide.2 (by omega)
      clear Hb
      have hdone : ∀ d, (done.all Pt.ok) = d → Hid ((done.all Pt.ok) = d) := fun _ h => h
      have hcases : ((Utf8.decode s pos).1 ≠ 65533) ∨ ((Utf8.decode s pos).1 = 65533 ∧ s.size < pos + 3) ∨ ((Utf8.decode s pos).1 = 65533 ∧ pos + 3 ≤ s.size) := by omega
      have hnn : Hid (((Utf8.decode s pos).1 : Int) ≠ 65533 → (((Utf8.decode s pos).1 : Int) != 65533) = true) := fun h => bne_iff_ne.2 h
      obtain ⟨r0, hr0⟩ : ∃ r0, (Utf8.decode s pos).1 = r0 := ⟨_, rfl⟩
      obtain ⟨n0, hn0⟩ : ∃ n0, (Utf8.decode s pos).2 = n0 := ⟨_, rfl⟩
      rw [hr0] at hnx A1 HS2 HO HB hcases hnn
      rw [hn0] at hwd hwl HS2 HO HB hit2
      clear hr0 hn0
      cases hD : done.all Pt.ok <;> rcases hcases with hc | ⟨hc, hc2⟩ | ⟨hc, hc2⟩
      all_goals
        have HD := hdone _ hD
        clear hdone
        rw [hD] at HO
        clear hD
      · have hc3 : ((r0 : Int) == 65533) = false := beq_eq_false_iff_ne.2 (by omega)
        have HN : Hid (((r0 : Int) != 65533) = true) := bne_iff_ne.2 (by omega)
        clear hc HB
        go_wp2_with fail
        refine A1.out.mono ?_; rintro e w1 ⟨rfl, hb1⟩
        go_wp2_with fail
        obtain ⟨r2, p2, h2⟩ := A2.out w1
        refine h2.mono ?_; rintro e w2 ⟨rfl, hb2⟩
        clear h2
        go_wp2_with fail
        refine (N2.out _).mono ?_; rintro e w3 ⟨rfl, hb3⟩
        have hz1 := hb1.size
        have hz2 := hb2.size
        go_wp2_with fail
        go_roundw
        case rel =>
          refine ⟨pos + n0, done ++ [⟨r0, pos, n0⟩], blk_below (blk_below (blk_below hit2 hb1 hlt) hb2 (by omega)) hb3 (by omega), hbw2.trans ((hb1.trans ((hb2.trans (hb3.mono hz2)).mono hz1)).mono (by omega)), by simp, ?_, HS2, by simp; omega, by omega⟩
          rw [HO.out]
          rw [Bool.false_and]; rfl
        case measure => rw [iterPos_of (blk_below (blk_below (blk_below hit2 hb1 hlt) hb2 (by omega)) hb3 (by omega)), hpos0]; omega
      · have hc3 : ((r0 : Int) == 65533) = true := by rw [hc]; rfl
        have HN : Hid (((r0 : Int) != 65533 || decide (1 < n0)) = false) := by
          show _ = _
          have h1 := HB.out hc
          rw [hc, decide_eq_false (by omega)]; rfl
        clear hc HB
        have hc4 : (s.size : Int) < (pos : Int) + 3 := by omega
        go_wp2_with fail
        refine A1.out.mono ?_; rintro e w1 ⟨rfl, hb1⟩
        go_wp2_with fail
        obtain ⟨r2, p2, h2⟩ := A2.out w1
        refine h2.mono ?_; rintro e w2 ⟨rfl, hb2⟩
        clear h2
        go_wp2_with fail
        refine (N2.out _).mono ?_; rintro e w3 ⟨rfl, hb3⟩
        have hz1 := hb1.size
        have hz2 := hb2.size
        go_wp2_with fail
        go_roundw
        case rel =>
          refine ⟨pos + n0, done ++ [⟨r0, pos, n0⟩], blk_below (blk_below (blk_below hit2 hb1 hlt) hb2 (by omega)) hb3 (by omega), hbw2.trans ((hb1.trans ((hb2.trans (hb3.mono hz2)).mono hz1)).mono (by omega)), by simp, ?_, HS2, by simp; omega, by omega⟩
          rw [HO.out]
          rw [Bool.false_and]; rfl
        case measure => rw [iterPos_of (blk_below (blk_below (blk_below hit2 hb1 hlt) hb2 (by omega)) hb3 (by omega)), hpos0]; omega
      · have hc3 : ((r0 : Int) == 65533) = true := by rw [hc]; rfl
        have HN := Lib.hid (HB.out hc)
        have HC := Lib.hid hc
        clear hc HB
        have hc4 : ¬ (s.size : Int) < (pos : Int) + 3 := by omega
        go_wp2_with fail
        refine A1.out.mono ?_; rintro e w1 ⟨rfl, hb1⟩
        go_wp2_with fail
        obtain ⟨r2, p2, h2⟩ := A2.out w1
        refine h2.mono ?_; rintro e w2 ⟨rfl, hb2⟩
        clear h2
        go_wp2_with fail
        refine (N2.out _).mono ?_; rintro e w3 ⟨rfl, hb3⟩
        have hz1 := hb1.size
        have hz2 := hb2.size
        go_wp2_with fail
        go_roundw
        case rel =>
          refine ⟨pos + n0, done ++ [⟨r0, pos, n0⟩], blk_below (blk_below (blk_below hit2 hb1 hlt) hb2 (by omega)) hb3 (by omega), hbw2.trans ((hb1.trans ((hb2.trans (hb3.mono hz2)).mono hz1)).mono (by omega)), by simp, ?_, HS2, by simp; omega, by omega⟩
          rw [HO.out]
          rw [Bool.false_and]; rfl
        case measure => rw [iterPos_of (blk_below (blk_below (blk_below hit2 hb1 hlt) hb2 (by omega)) hb3 (by omega)), hpos0]; omega
      · have hc3 : ((r0 : Int) == 65533) = false := beq_eq_false_iff_ne.2 (by omega)
        have HN : Hid (((r0 : Int) != 65533) = true) := bne_iff_ne.2 (by omega)
        clear hc HB
        go_wp2_with fail
        refine A1.out.mono ?_; rintro e w1 ⟨rfl, hb1⟩
        go_wp2_with fail
        obtain ⟨r2, p2, h2⟩ := A2.out w1
        refine h2.mono ?_; rintro e w2 ⟨rfl, hb2⟩
        clear h2
        go_wp2_with fail
        refine (N2.out _).mono ?_; rintro e w3 ⟨rfl, hb3⟩
        have hz1 := hb1.size
        have hz2 := hb2.size
        go_wp2_with fail
        go_roundw
        case rel =>
          refine ⟨pos + n0, done ++ [⟨r0, pos, n0⟩], blk_below (blk_below (blk_below hit2 hb1 hlt) hb2 (by omega)) hb3 (by omega), hbw2.trans ((hb1.trans ((hb2.trans (hb3.mono hz2)).mono hz1)).mono (by omega)), by simp, ?_, HS2, by simp; omega, by omega⟩
          rw [HO.out]
          rw [HN.out]; rfl
        case measure => rw [iterPos_of (blk_below (blk_below (blk_below hit2 hb1 hlt) hb2 (by omega)) hb3 (by omega)), hpos0]; omega
      · have hc3 : ((r0 : Int) == 65533) = true := by rw [hc]; rfl
        have HN : Hid (((r0 : Int) != 65533 || decide (1 < n0)) = false) := by
          show _ = _
          have h1 := HB.out hc
          rw [hc, decide_eq_false (by omega)]; rfl
        clear hc HB
        have hc4 : (s.size : Int) < (pos : Int) + 3 := by omega
        go_wp2_with fail
        refine A1.out.mono ?_; rintro e w1 ⟨rfl, hb1⟩
        go_wp2_with fail
        obtain ⟨r2, p2, h2⟩ := A2.out w1
        refine h2.mono ?_; rintro e w2 ⟨rfl, hb2⟩
        clear h2
        go_wp2_with fail
        refine (N2.out _).mono ?_; rintro e w3 ⟨rfl, hb3⟩
        have hz1 := hb1.size
        have hz2 := hb2.size
        go_wp2_with fail
        go_roundw
        case rel =>
          refine ⟨pos + n0, done ++ [⟨r0, pos, n0⟩], blk_below (blk_below (blk_below hit2 hb1 hlt) hb2 (by omega)) hb3 (by omega), hbw2.trans ((hb1.trans ((hb2.trans (hb3.mono hz2)).mono hz1)).mono (by omega)), by simp, ?_, HS2, by simp; omega, by omega⟩
          rw [HO.out]
          rw [HN.out]; rfl
        case measure => rw [iterPos_of (blk_below (blk_below (blk_below hit2 hb1 hlt) hb2 (by omega)) hb3 (by omega)), hpos0]; omega
      · have hc3 : ((r0 : Int) == 65533) = true := by rw [hc]; rfl
        have HN := Lib.hid (HB.out hc)
        have HC := Lib.hid hc
        clear hc HB
        have hc4 : ¬ (s.size : Int) < (pos : Int) + 3 := by omega
        go_wp2_with fail
        refine A1.out.mono ?_; rintro e w1 ⟨rfl, hb1⟩
        go_wp2_with fail
        obtain ⟨r2, p2, h2⟩ := A2.out w1
        refine h2.mono ?_; rintro e w2 ⟨rfl, hb2⟩
        clear h2
        go_wp2_with fail
        refine (N2.out _).mono ?_; rintro e w3 ⟨rfl, hb3⟩
        have hz1 := hb1.size
        have hz2 := hb2.size
        go_wp2_with fail
        go_roundw
        case rel =>
          refine ⟨pos + n0, done ++ [⟨r0, pos, n0⟩], blk_below (blk_below (blk_below hit2 hb1 hlt) hb2 (by omega)) hb3 (by omega), hbw2.trans ((hb1.trans ((hb2.trans (hb3.mono hz2)).mono hz1)).mono (by omega)), by simp, ?_, HS2, by simp; omega, by omega⟩
          refine congrArg Value.bool ?_
          rw [HO.out, HC.out, decide_eq_false (show ¬ (s.size : Int) < (pos : Int) + 3 by omega), Bool.false_or]
          by_cases h1 : 1 < n0
          · have h2 := HN.out.1 h1
            have h3 := (extract3 s pos hc2).2 h2.2
            rw [decide_eq_true h1]
            simpa using h3
          · have h3 : ((s.extract pos (pos + 3)).toList == [239, 191, 189]) = false := by
              rw [Bool.eq_false_iff]
              intro h4
              exact h1 (HN.out.2 ⟨hc2, (extract3 s pos hc2).1 h4⟩)
            rw [decide_eq_false h1]
            simpa using h3
        case measure => rw [iterPos_of (blk_below (blk_below (blk_below hit2 hb1 hlt) hb2 (by omega)) hb3 (by omega)), hpos0]; omega
    · have hnx : ∀ ty, (Instr.next (.pointer (some ⟨w.heap.size, 0, none⟩)) true ty).run Tryd.prog wr = _ := fun ty => Lib.run_next_end_at wr w.heap.size s pos ty hit hp
      have hE : pts s = done := by rw [HS.out, ptsAt_end s pos hp, List.append_nil]
      have N1 := Lib.hid (fun w => count_any s w (by omega))
      have V1 := Lib.hid (fun w hG => valid_any s w hG (by omega))
      have hV : valid s = done.all Pt.ok := by unfold valid; rw [hE]
      rw [hE] at N1
      rw [hV] at V1
      have hS : St w wr := ⟨hbw, HG.out.below hbw⟩
      clear hE hV HS hl1 hbw
      generalize done.length = L at *
      cases hD : done.all Pt.ok
      all_goals
        rw [hD] at V1
        clear hD
        go_wp2_with fail
        refine (N1.out _).mono ?_; rintro e w1 ⟨rfl, hb⟩; replace hS := hS.step hb; clear hb
        go_wp2_with fail
        refine (V1.out _ hS.2).mono ?_; rintro e w1 ⟨rfl, hb⟩; replace hS := hS.step hb; clear hb
        go_wp2_with fail
        refine (awake01_any _ hS.2).mono ?_; rintro e w' ⟨rfl, hb⟩; replace hS := hS.trans hb; clear hb
        go_wp2_with fail
        go_ret
        exact ⟨rfl, hS⟩

theorem runesGo_any (s : ByteArray) (w : World) (hG : Glob w) :
    Calls Tryd.prog 11 #[.string s] w fun e w' => e = .returned (.bool true) ∧ St w w' := by
  by_cases hsz : 1500 < s.size
  · have hS := St.refl hG
    clear hG
    go_enter Tryd.func11, Tryd.ntmps11
    go_wp2_with (go_at_call 25; refine (awake01_any _ hS.2).mono ?_; rintro e w' ⟨rfl, hb⟩; replace hS := hS.trans hb; clear hb)
    go_ret
    exact ⟨rfl, hS⟩
  · exact runesGo_small s w hG (by omega)

end Go.Proofs.YtljoenpgokhekaaDoor
