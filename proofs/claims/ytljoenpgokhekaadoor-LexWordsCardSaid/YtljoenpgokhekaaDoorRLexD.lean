/- Walks: the reference of layer 13: text, one, All. -/
import Derived.Test.YtljoenpgokhekaaDoorRLexC
import Derived.Test.YtljoenpgokhekaaDoorRefC
namespace Go.Proofs.YtljoenpgokhekaaDoor
open Go.RowKit
open Cle

theorem runq3_any (s : ByteArray) (f : Int) (w : World) (hs : s.size ≤ 1000000) :
    Calls Tryd.prog 34 #[.string s, .int .i64 f] w fun e w' => e = .returned (.tuple #[.string (unqS s f), .int .i64 (unqN s f), .bool (unqO s f)]) ∧ w' = w := by
  rw [← unqV_eq]; exact (runquote_any s f w hs).mono fun e w' h => ⟨h.1, h.2.symm⟩

theorem conv1 (c : Nat) (hc : c < 256) (W : World) (k : Nat) (h : W.cell? ⟨k, 0, none⟩ = some (.int .u8 c)) :
    (convert 84 9 (.slice (some ⟨k, 0, none⟩) 1 1)).run Tryd.prog W = .ok (.string ⟨#[UInt8.ofNat c]⟩) W := by
  have := run_convert_bytes_back (P := Tryd.prog) W 84 9 5 ⟨k, 0, none⟩ 1 [UInt8.ofNat c] Tryd.underlying84 Tryd.underlying5 Tryd.underlying9 (fun j hj => by
    obtain rfl : j = 0 := by simpa using hj
    rw [add_at, h]
    simp only [List.getElem_cons_zero, UInt8.toNat_ofNat']
    rw [Nat.mod_eq_of_lt (by omega)])
  exact this

set_option maxRecDepth 100000 in
set_option maxHeartbeats 2000000 in
theorem rtext_any {L : Nat} (w : World) (b : Nat) (s : ByteArray) (P : List Pt) (i : Nat) (h : SR L w b s P i) (hs : s.size ≤ 100000) (hOK : PtsOK s P) (hi : i < P.length) :
    Calls Tryd.prog 72 #[.pointer (some ⟨b, 0, none⟩)] w (RTP L w b s P (textO s P i)) := by
  have hS := RB.start h
  have hPl := hOK.1
  obtain ⟨a, cap, c0, c1, c2, f2, h2⟩ := hS.1.1.cells
  obtain ⟨g, rfl, hc⟩ := h2 (by omega)
  have c3 : (w.alloc (.cells #[.int .i64 0, .string ⟨#[]⟩, .int .i64 0, .int .i64 0] 41)).cell? ⟨g, i * 4 + 1, none⟩ = some (.int .i64 (byteAt s P i)) := by
    rw [hc _ _ (by rw [flatP_at P i 1 hi (by omega)]; rfl)]
    unfold byteAt; rw [List.getElem?_eq_getElem hi]
  have hlow := h.lt
  clear hc h2 h hOK
  have h4 : (0 : Int) ≤ (i : Int) := by omega
  have h5 : (i : Int) < (P.length : Int) := by omega
  have hu := Lib.hid (fun w => runq3_any s (byteAt s P i) w (by omega))
  have HT := Lib.hid (textO_eq s P i)
  have hU := unqS_size s (byteAt s P i)
  have hN := unqN_bd s (byteAt s P i)
  generalize unqS s (byteAt s P i) = U at *
  generalize unqN s (byteAt s P i) = N at *
  generalize unqO s (byteAt s P i) = O at *
  generalize byteAt s P i = at0 at *
  generalize hk0 : w.alloc (.cells #[.int .i64 0, .string ⟨#[]⟩, .int .i64 0, .int .i64 0] 41) = w0 at *
  go_enter Tryd.func72, Tryd.ntmps72
  go_wp2_with fail
  go_quiet ((go_at_call 34; with_reducible exact Calls.quiet_of_same (hu.out _)))
  replace hS := hS.drew nq
  generalize w0.drewN nq = w1 at *
  clear c0 c1 c2 c3 f2 hk0 hu
  obtain ⟨c2, f2, t0, t1, t2, t3, u0, u1, u2, u3⟩ := hS.cells
  go_wp2_with fail
  go_loopw [] (fun wr => ∃ k, RB L w wr b s P k ∧ Hid (textEnd P N i = textEnd P N k) ∧ k ≤ P.length) (fun wr => P.length - scanI wr b)
  case atStart => exact ⟨i, hS, rfl, by omega⟩
  case round =>
    clear hS c2 f2 t0 t1 t2 t3 u0 u1 u2 u3
    obtain ⟨k, hS, HE, hk⟩ := hrel
    have HK := Lib.hid hS.scan
    obtain ⟨a, cap, c0, c1, c2, f2, h2⟩ := hS.1.1.cells
    by_cases hlk : k < P.length
    · obtain ⟨g, rfl, hc⟩ := h2 (by omega)
      have c4 : wr.cell? ⟨g, k * 4 + 1, none⟩ = some (.int .i64 P[k].at_) := hc _ _ (by rw [flatP_at P k 1 hlk (by omega)]; rfl)
      have HP := Lib.hid (List.getElem?_eq_getElem hlk)
      have q5 : (k : Int) < (P.length : Int) := by omega
      have q6 : (0 : Int) ≤ (k : Int) := by omega
      have hd : decide ((k : Int) < (P.length : Int)) = true := decide_eq_true q5
      clear h2 hc
      generalize P[k] = p at *
      cases hq : decide ((p.at_ : Int) < N)
      case false =>
        have HF : Hid (textEnd P N i = k) := by show _ = _; rw [HE.out]; unfold textEnd; exact runTo_stop (by rw [HP.out]; exact hq)
        go_wp2_with fail
        go_quiet (fail)
        replace hS := hS.drew nq
        generalize wr.drewN nq = w2 at *
        clear c0 c1 c2 f2 c4 hd q5 q6 hq HP
        obtain ⟨c2, f2, t0, t1, t2, t3, u0, u1, u2, u3⟩ := hS.cells
        have hV := fun w => rvalid_any U w (by omega)
        cases O
        · have HZ : Hid ((false && (decide (U.size ≤ 100) && valid U)) = false) := rfl
          go_wp2_with fail
          obtain ⟨r0, r1, r2, r3, hR⟩ := hS.fin (.int .i64 3) (.string U) (.int .i64 0) (.int .i64 i) _ rfl
          refine bodyPost_ret (v := .tuple #[.agg #[.int .i64 3, .string U, .int .i64 0, .int .i64 i], .bool false]) (by simp [results, Tryd.results72, go_sem, r0, r1, r2, r3]) rfl ?_
          refine ⟨?_, ?_⟩
          · rw [HT.out, HZ.out]; rfl
          · rw [HT.out]; show RG L w _ b s P (textEnd P N i); rw [HF.out]; exact hR
        · by_cases hz : (U.size : Int) ≤ 100
          · have HZ : Hid ((true && (decide (U.size ≤ 100) && valid U)) = valid U) := by show _ = _; rw [decide_eq_true (by omega), Bool.true_and, Bool.true_and]
            go_wp2_with (go_at_call 35; refine (hV _).mono ?_; rintro e w3 ⟨rfl, hb⟩; replace hS := hS.below hb; clear hb; obtain ⟨c2, f2, t0, t1, t2, t3, u0, u1, u2, u3⟩ := hS.cells)
            obtain ⟨r0, r1, r2, r3, hR⟩ := hS.fin (.int .i64 3) (.string U) (.int .i64 0) (.int .i64 i) _ rfl
            refine bodyPost_ret (v := .tuple #[.agg #[.int .i64 3, .string U, .int .i64 0, .int .i64 i], .bool (valid U)]) (by simp [results, Tryd.results72, go_sem, r0, r1, r2, r3]) rfl ?_
            refine ⟨?_, ?_⟩
            · rw [HT.out, HZ.out]; rfl
            · rw [HT.out]; show RG L w _ b s P (textEnd P N i); rw [HF.out]; exact hR
          · have HZ : Hid ((true && (decide (U.size ≤ 100) && valid U)) = false) := by show _ = _; rw [decide_eq_false (by omega), Bool.false_and, Bool.and_false]
            go_wp2_with fail
            obtain ⟨r0, r1, r2, r3, hR⟩ := hS.fin (.int .i64 3) (.string U) (.int .i64 0) (.int .i64 i) _ rfl
            refine bodyPost_ret (v := .tuple #[.agg #[.int .i64 3, .string U, .int .i64 0, .int .i64 i], .bool false]) (by simp [results, Tryd.results72, go_sem, r0, r1, r2, r3]) rfl ?_
            refine ⟨?_, ?_⟩
            · rw [HT.out, HZ.out]; rfl
            · rw [HT.out]; show RG L w _ b s P (textEnd P N i); rw [HF.out]; exact hR
      case true =>
        have HX : Hid (textEnd P N i = textEnd P N (k + 1)) := by show _ = _; rw [HE.out]; unfold textEnd; exact runTo_go hlk (by rw [HP.out]; exact hq)
        go_wp2_with fail
        go_quiet (fail)
        replace hS := hS.drew nq
        generalize wr.drewN nq = w2 at *
        clear c0 c1 c2 f2 c4 hd q5 q6 hq HP
        obtain ⟨c2, f2, t0, t1, t2, t3, u0, u1, u2, u3⟩ := hS.cells
        go_wp2_with fail
        go_roundw
        case rel => exact ⟨k + 1, hS.set (k + 1) _ (by omega), HX, by omega⟩
        case measure => rw [HK.out, (hS.set (k + 1) _ (by omega)).scan]; omega
    · have HF : Hid (textEnd P N i = k) := by show _ = _; rw [HE.out]; unfold textEnd; exact runTo_end (by omega)
      have hd : decide ((k : Int) < (P.length : Int)) = false := decide_eq_false (by omega)
      go_wp2_with fail
      go_quiet (fail)
      replace hS := hS.drew nq
      generalize wr.drewN nq = w2 at *
      clear c0 c1 c2 f2 h2 hd
      obtain ⟨c2, f2, t0, t1, t2, t3, u0, u1, u2, u3⟩ := hS.cells
      have hV := fun w => rvalid_any U w (by omega)
      cases O
      · have HZ : Hid ((false && (decide (U.size ≤ 100) && valid U)) = false) := rfl
        go_wp2_with fail
        obtain ⟨r0, r1, r2, r3, hR⟩ := hS.fin (.int .i64 3) (.string U) (.int .i64 0) (.int .i64 i) _ rfl
        refine bodyPost_ret (v := .tuple #[.agg #[.int .i64 3, .string U, .int .i64 0, .int .i64 i], .bool false]) (by simp [results, Tryd.results72, go_sem, r0, r1, r2, r3]) rfl ?_
        refine ⟨?_, ?_⟩
        · rw [HT.out, HZ.out]; rfl
        · rw [HT.out]; show RG L w _ b s P (textEnd P N i); rw [HF.out]; exact hR
      · by_cases hz : (U.size : Int) ≤ 100
        · have HZ : Hid ((true && (decide (U.size ≤ 100) && valid U)) = valid U) := by show _ = _; rw [decide_eq_true (by omega), Bool.true_and, Bool.true_and]
          go_wp2_with (go_at_call 35; refine (hV _).mono ?_; rintro e w3 ⟨rfl, hb⟩; replace hS := hS.below hb; clear hb; obtain ⟨c2, f2, t0, t1, t2, t3, u0, u1, u2, u3⟩ := hS.cells)
          obtain ⟨r0, r1, r2, r3, hR⟩ := hS.fin (.int .i64 3) (.string U) (.int .i64 0) (.int .i64 i) _ rfl
          refine bodyPost_ret (v := .tuple #[.agg #[.int .i64 3, .string U, .int .i64 0, .int .i64 i], .bool (valid U)]) (by simp [results, Tryd.results72, go_sem, r0, r1, r2, r3]) rfl ?_
          refine ⟨?_, ?_⟩
          · rw [HT.out, HZ.out]; rfl
          · rw [HT.out]; show RG L w _ b s P (textEnd P N i); rw [HF.out]; exact hR
        · have HZ : Hid ((true && (decide (U.size ≤ 100) && valid U)) = false) := by show _ = _; rw [decide_eq_false (by omega), Bool.false_and, Bool.and_false]
          go_wp2_with fail
          obtain ⟨r0, r1, r2, r3, hR⟩ := hS.fin (.int .i64 3) (.string U) (.int .i64 0) (.int .i64 i) _ rfl
          refine bodyPost_ret (v := .tuple #[.agg #[.int .i64 3, .string U, .int .i64 0, .int .i64 i], .bool false]) (by simp [results, Tryd.results72, go_sem, r0, r1, r2, r3]) rfl ?_
          refine ⟨?_, ?_⟩
          · rw [HT.out, HZ.out]; rfl
          · rw [HT.out]; show RG L w _ b s P (textEnd P N i); rw [HF.out]; exact hR

set_option maxRecDepth 100000 in
set_option maxHeartbeats 2000000 in
theorem rone_any {L : Nat} (w : World) (b : Nat) (s : ByteArray) (P : List Pt) (i : Nat) (h : SR L w b s P i) (hs : s.size ≤ 100000) (hOK : PtsOK s P) (hi : i < P.length) :
    Calls Tryd.prog 51 #[.pointer (some ⟨b, 0, none⟩)] w (RTP L w b s P (tokO s P i)) := by
  have hS := RB.start h
  have hPl := hOK.1
  have HB : Hid (∀ wx, RB L w wx b s P i → SR L wx b s P i) := fun wx h => h.1.1
  clear h
  have hl := fun wx hx => rletf_b (L := L) (w := w) wx b s P i hx
  have hr := fun wx hx => rr_b (L := L) (w := w) wx b s P i hx (by omega) (by omega)
  have hdg := fun v hv => rdig_b P i v hv
  have H45 := Lib.hid (isB_z P i 45 (by decide))
  have H39 := Lib.hid (isB_z P i 39 (by decide))
  have HT0 : Hid (tokO s P i = if letB P i then wordO s P i else if digB P i || isB P i 45 then numberO P i else if isB P i 39 then textO s P i else if signB (rAt P i) then (⟨4, ⟨#[UInt8.ofNat (rAt P i).toNat]⟩, 0, i⟩, true, i + 1) else (⟨0, ⟨#[]⟩, 0, 0⟩, false, i)) := rfl
  have HSG : Hid (signB (rAt P i) = (rAt P i == 40 || rAt P i == 41 || rAt P i == 44 || rAt P i == 59 || rAt P i == 61 || rAt P i == 42)) := rfl
  obtain ⟨r, hrv⟩ : ∃ r, rAt P i = r := ⟨_, rfl⟩
  rw [hrv] at H45 H39 HT0 hdg hr HSG
  clear hrv
  go_enter Tryd.func51, Tryd.ntmps51
  go_wp2_with fail
  refine (hr _ hS).mono ?_; rintro e w1 ⟨rfl, hS⟩
  clear hr
  obtain ⟨c2, f2, t0, t1, t2, t3, u0, u1, u2, u3⟩ := hS.cells
  cases hL : letB P i
  case true =>
    rw [hL] at hl
    have HT : Hid (tokO s P i = wordO s P i) := by show _ = _; rw [HT0.out, hL]; rfl
    obtain ⟨⟨⟨K, S, N, A⟩, ok, nx⟩, hX⟩ : ∃ X, wordO s P i = X := ⟨_, rfl⟩
    have hc : ∀ wx, RB L w wx b s P i → Calls Tryd.prog 69 #[.pointer (some ⟨b, 0, none⟩)] wx fun e w' => e = .returned (.tuple #[.agg #[.int .i64 K, .string S, .int .i64 N, .int .i64 A], .bool ok]) ∧ RB L w w' b s P nx := fun wx hx => (rword_any wx b s P i (HB.out _ hx) hs hOK hi hL).mono fun e w' h => by
      rw [hX] at h
      exact ⟨h.1, rg_below hx h.2⟩
    rw [hX] at HT
    clear hL
    go_wp2_with (first
      | (go_at_call 68; refine (hl _ hS).mono ?_; rintro e w4 ⟨rfl, hS⟩; obtain ⟨c2, f2, t0, t1, t2, t3, u0, u1, u2, u3⟩ := hS.cells)
      | (go_at_call 69; refine (hc _ hS).mono ?_; rintro e w5 ⟨rfl, hS⟩; obtain ⟨c2, f2, t0, t1, t2, t3, u0, u1, u2, u3⟩ := hS.cells))
    obtain ⟨r0, r1, r2, r3, hR⟩ := hS.fin (.int .i64 K) (.string S) (.int .i64 N) (.int .i64 A) _ rfl
    refine bodyPost_ret (v := .tuple #[.agg #[.int .i64 K, .string S, .int .i64 N, .int .i64 A], .bool ok]) (by simp [results, Tryd.results51, go_sem, r0, r1, r2, r3]) rfl ?_
    rw [HT.out]; exact ⟨rfl, hR⟩

  case false =>
    rw [hL] at hl
    have HLq := Lib.hid hL
    clear hL
    cases hD : digB P i
    case true =>
      replace hdg := hdg true hD
      have HT : Hid (tokO s P i = numberO P i) := by show _ = _; rw [HT0.out, HLq.out, hD]; rfl
      clear hD
      obtain ⟨⟨⟨K, S, N, A⟩, ok, nx⟩, hX⟩ : ∃ X, numberO P i = X := ⟨_, rfl⟩
      have hc : ∀ wx, RB L w wx b s P i → Calls Tryd.prog 71 #[.pointer (some ⟨b, 0, none⟩)] wx fun e w' => e = .returned (.tuple #[.agg #[.int .i64 K, .string S, .int .i64 N, .int .i64 A], .bool ok]) ∧ RB L w w' b s P nx := fun wx hx => (rnumber_any wx b s P i (HB.out _ hx) hs hOK hi).mono fun e w' h => by
        rw [hX] at h
        exact ⟨h.1, rg_below hx h.2⟩
      rw [hX] at HT
      go_wp2_with (first
        | (go_at_call 68; refine (hl _ hS).mono ?_; rintro e w4 ⟨rfl, hS⟩; obtain ⟨c2, f2, t0, t1, t2, t3, u0, u1, u2, u3⟩ := hS.cells)
        | (go_at_call 70; refine (hdg _).mono ?_; rintro e w6 ⟨rfl, rfl⟩)
        | (go_at_call 71; refine (hc _ hS).mono ?_; rintro e w5 ⟨rfl, hS⟩; obtain ⟨c2, f2, t0, t1, t2, t3, u0, u1, u2, u3⟩ := hS.cells))
      obtain ⟨r0, r1, r2, r3, hR⟩ := hS.fin (.int .i64 K) (.string S) (.int .i64 N) (.int .i64 A) _ rfl
      refine bodyPost_ret (v := .tuple #[.agg #[.int .i64 K, .string S, .int .i64 N, .int .i64 A], .bool ok]) (by simp [results, Tryd.results51, go_sem, r0, r1, r2, r3]) rfl ?_
      rw [HT.out]; exact ⟨rfl, hR⟩

    case false =>
      replace hdg := hdg false hD
      have HD := Lib.hid hD
      clear hD
      cases q1 : (r == 45)
      case true =>
        have HT : Hid (tokO s P i = numberO P i) := by show _ = _; rw [HT0.out, HLq.out, HD.out, H45.out, q1]; rfl
        obtain ⟨⟨⟨K, S, N, A⟩, ok, nx⟩, hX⟩ : ∃ X, numberO P i = X := ⟨_, rfl⟩
        have hc : ∀ wx, RB L w wx b s P i → Calls Tryd.prog 71 #[.pointer (some ⟨b, 0, none⟩)] wx fun e w' => e = .returned (.tuple #[.agg #[.int .i64 K, .string S, .int .i64 N, .int .i64 A], .bool ok]) ∧ RB L w w' b s P nx := fun wx hx => (rnumber_any wx b s P i (HB.out _ hx) hs hOK hi).mono fun e w' h => by
          rw [hX] at h
          exact ⟨h.1, rg_below hx h.2⟩
        rw [hX] at HT
        go_wp2_with (first
          | (go_at_call 68; refine (hl _ hS).mono ?_; rintro e w4 ⟨rfl, hS⟩; obtain ⟨c2, f2, t0, t1, t2, t3, u0, u1, u2, u3⟩ := hS.cells)
          | (go_at_call 70; refine (hdg _).mono ?_; rintro e w6 ⟨rfl, rfl⟩)
          | (go_at_call 71; refine (hc _ hS).mono ?_; rintro e w5 ⟨rfl, hS⟩; obtain ⟨c2, f2, t0, t1, t2, t3, u0, u1, u2, u3⟩ := hS.cells))
        obtain ⟨r0, r1, r2, r3, hR⟩ := hS.fin (.int .i64 K) (.string S) (.int .i64 N) (.int .i64 A) _ rfl
        refine bodyPost_ret (v := .tuple #[.agg #[.int .i64 K, .string S, .int .i64 N, .int .i64 A], .bool ok]) (by simp [results, Tryd.results51, go_sem, r0, r1, r2, r3]) rfl ?_
        rw [HT.out]; exact ⟨rfl, hR⟩

      case false =>
        cases q2 : (r == 39)
        case true =>
          have HT : Hid (tokO s P i = textO s P i) := by show _ = _; rw [HT0.out, HLq.out, HD.out, H45.out, q1, H39.out, q2]; rfl
          obtain ⟨⟨⟨K, S, N, A⟩, ok, nx⟩, hX⟩ : ∃ X, textO s P i = X := ⟨_, rfl⟩
          have hc : ∀ wx, RB L w wx b s P i → Calls Tryd.prog 72 #[.pointer (some ⟨b, 0, none⟩)] wx fun e w' => e = .returned (.tuple #[.agg #[.int .i64 K, .string S, .int .i64 N, .int .i64 A], .bool ok]) ∧ RB L w w' b s P nx := fun wx hx => (rtext_any wx b s P i (HB.out _ hx) hs hOK hi).mono fun e w' h => by
            rw [hX] at h
            exact ⟨h.1, rg_below hx h.2⟩
          rw [hX] at HT
          go_wp2_with (first
            | (go_at_call 68; refine (hl _ hS).mono ?_; rintro e w4 ⟨rfl, hS⟩; obtain ⟨c2, f2, t0, t1, t2, t3, u0, u1, u2, u3⟩ := hS.cells)
            | (go_at_call 70; refine (hdg _).mono ?_; rintro e w6 ⟨rfl, rfl⟩)
            | (go_at_call 72; refine (hc _ hS).mono ?_; rintro e w5 ⟨rfl, hS⟩; obtain ⟨c2, f2, t0, t1, t2, t3, u0, u1, u2, u3⟩ := hS.cells))
          obtain ⟨r0, r1, r2, r3, hR⟩ := hS.fin (.int .i64 K) (.string S) (.int .i64 N) (.int .i64 A) _ rfl
          refine bodyPost_ret (v := .tuple #[.agg #[.int .i64 K, .string S, .int .i64 N, .int .i64 A], .bool ok]) (by simp [results, Tryd.results51, go_sem, r0, r1, r2, r3]) rfl ?_
          rw [HT.out]; exact ⟨rfl, hR⟩

        case false =>
          have HT1 : Hid (tokO s P i = if signB r then (⟨4, ⟨#[UInt8.ofNat r.toNat]⟩, 0, i⟩, true, i + 1) else (⟨0, ⟨#[]⟩, 0, 0⟩, false, i)) := by show _ = _; rw [HT0.out, HLq.out, HD.out, H45.out, q1, H39.out, q2]; rfl
          cases q3 : (r == 40 || r == 41 || r == 44 || r == 59 || r == 61 || r == 42)
          case false =>
            have HT : Hid (tokO s P i = (⟨0, ⟨#[]⟩, 0, 0⟩, false, i)) := by show _ = _; rw [HT1.out, HSG.out, q3]; rfl
            simp only [Bool.or_eq_false_iff] at q3
            obtain ⟨⟨⟨⟨⟨g1, g2⟩, g3⟩, g4⟩, g5⟩, g6⟩ := q3
            go_wp2_with (first
              | (go_at_call 68; refine (hl _ hS).mono ?_; rintro e w4 ⟨rfl, hS⟩; obtain ⟨c2, f2, t0, t1, t2, t3, u0, u1, u2, u3⟩ := hS.cells)
              | (go_at_call 70; refine (hdg _).mono ?_; rintro e w6 ⟨rfl, rfl⟩)
              | fail)
            obtain ⟨r0, r1, r2, r3, hR⟩ := hS.fin (.int .i64 0) (.string ⟨#[]⟩) (.int .i64 0) (.int .i64 0) _ rfl
            refine bodyPost_ret (v := .tuple #[.agg #[.int .i64 0, .string ⟨#[]⟩, .int .i64 0, .int .i64 0], .bool false]) (by simp [results, Tryd.results51, go_sem, r0, r1, r2, r3]) rfl ?_
            rw [HT.out]; exact ⟨rfl, hR⟩

          case true =>
            have HT : Hid (tokO s P i = (⟨4, ⟨#[UInt8.ofNat r.toNat]⟩, 0, i⟩, true, i + 1)) := by show _ = _; rw [HT1.out, HSG.out, q3]; rfl
            simp only [Bool.or_eq_true, beq_iff_eq] at q3
            clear HT1 HSG H45 H39 HT0 q1 q2
            rcases q3 with ((((q3 | q3) | q3) | q3) | q3) | q3
            · subst q3
              go_wp2_with (first
                | (go_at_call 68; refine (hl _ hS).mono ?_; rintro e w4 ⟨rfl, hS⟩; obtain ⟨c2, f2, t0, t1, t2, t3, u0, u1, u2, u3⟩ := hS.cells)
                | (go_at_call 70; refine (hdg _).mono ?_; rintro e w6 ⟨rfl, rfl⟩)
                | fail)
              have hcv := conv1 40 (by decide)
              have n1 := blk_lt hS.2.2; have n2 := hS.1.1.lt; have n3 : b < w.heap.size := Nat.lt_of_lt_of_le hS.1.1.2.1 hS.2.1
              go_region
              obtain ⟨r0, r1, r2, r3, hR⟩ := (hS.set (i + 1) ((i : Int) + 1) (by omega)).fin (.int .i64 4) (.string ⟨#[40]⟩) (.int .i64 0) (.int .i64 i) _ rfl
              replace hR := (hR.alloc (.cells #[.int .u8 40] 5)).drew 1
              go_wp2_with fail
              refine bodyPost_ret (v := .tuple #[.agg #[.int .i64 4, .string ⟨#[40]⟩, .int .i64 0, .int .i64 i], .bool true]) (by simp [results, Tryd.results51, go_sem, r0, r1, r2, r3, n1, n2, n3]) rfl ?_
              rw [HT.out]; exact ⟨rfl, hR⟩
            · subst q3
              go_wp2_with (first
                | (go_at_call 68; refine (hl _ hS).mono ?_; rintro e w4 ⟨rfl, hS⟩; obtain ⟨c2, f2, t0, t1, t2, t3, u0, u1, u2, u3⟩ := hS.cells)
                | (go_at_call 70; refine (hdg _).mono ?_; rintro e w6 ⟨rfl, rfl⟩)
                | fail)
              have hcv := conv1 41 (by decide)
              have n1 := blk_lt hS.2.2; have n2 := hS.1.1.lt; have n3 : b < w.heap.size := Nat.lt_of_lt_of_le hS.1.1.2.1 hS.2.1
              go_region
              obtain ⟨r0, r1, r2, r3, hR⟩ := (hS.set (i + 1) ((i : Int) + 1) (by omega)).fin (.int .i64 4) (.string ⟨#[41]⟩) (.int .i64 0) (.int .i64 i) _ rfl
              replace hR := (hR.alloc (.cells #[.int .u8 41] 5)).drew 1
              go_wp2_with fail
              refine bodyPost_ret (v := .tuple #[.agg #[.int .i64 4, .string ⟨#[41]⟩, .int .i64 0, .int .i64 i], .bool true]) (by simp [results, Tryd.results51, go_sem, r0, r1, r2, r3, n1, n2, n3]) rfl ?_
              rw [HT.out]; exact ⟨rfl, hR⟩
            · subst q3
              go_wp2_with (first
                | (go_at_call 68; refine (hl _ hS).mono ?_; rintro e w4 ⟨rfl, hS⟩; obtain ⟨c2, f2, t0, t1, t2, t3, u0, u1, u2, u3⟩ := hS.cells)
                | (go_at_call 70; refine (hdg _).mono ?_; rintro e w6 ⟨rfl, rfl⟩)
                | fail)
              have hcv := conv1 44 (by decide)
              have n1 := blk_lt hS.2.2; have n2 := hS.1.1.lt; have n3 : b < w.heap.size := Nat.lt_of_lt_of_le hS.1.1.2.1 hS.2.1
              go_region
              obtain ⟨r0, r1, r2, r3, hR⟩ := (hS.set (i + 1) ((i : Int) + 1) (by omega)).fin (.int .i64 4) (.string ⟨#[44]⟩) (.int .i64 0) (.int .i64 i) _ rfl
              replace hR := (hR.alloc (.cells #[.int .u8 44] 5)).drew 1
              go_wp2_with fail
              refine bodyPost_ret (v := .tuple #[.agg #[.int .i64 4, .string ⟨#[44]⟩, .int .i64 0, .int .i64 i], .bool true]) (by simp [results, Tryd.results51, go_sem, r0, r1, r2, r3, n1, n2, n3]) rfl ?_
              rw [HT.out]; exact ⟨rfl, hR⟩
            · subst q3
              go_wp2_with (first
                | (go_at_call 68; refine (hl _ hS).mono ?_; rintro e w4 ⟨rfl, hS⟩; obtain ⟨c2, f2, t0, t1, t2, t3, u0, u1, u2, u3⟩ := hS.cells)
                | (go_at_call 70; refine (hdg _).mono ?_; rintro e w6 ⟨rfl, rfl⟩)
                | fail)
              have hcv := conv1 59 (by decide)
              have n1 := blk_lt hS.2.2; have n2 := hS.1.1.lt; have n3 : b < w.heap.size := Nat.lt_of_lt_of_le hS.1.1.2.1 hS.2.1
              go_region
              obtain ⟨r0, r1, r2, r3, hR⟩ := (hS.set (i + 1) ((i : Int) + 1) (by omega)).fin (.int .i64 4) (.string ⟨#[59]⟩) (.int .i64 0) (.int .i64 i) _ rfl
              replace hR := (hR.alloc (.cells #[.int .u8 59] 5)).drew 1
              go_wp2_with fail
              refine bodyPost_ret (v := .tuple #[.agg #[.int .i64 4, .string ⟨#[59]⟩, .int .i64 0, .int .i64 i], .bool true]) (by simp [results, Tryd.results51, go_sem, r0, r1, r2, r3, n1, n2, n3]) rfl ?_
              rw [HT.out]; exact ⟨rfl, hR⟩
            · subst q3
              go_wp2_with (first
                | (go_at_call 68; refine (hl _ hS).mono ?_; rintro e w4 ⟨rfl, hS⟩; obtain ⟨c2, f2, t0, t1, t2, t3, u0, u1, u2, u3⟩ := hS.cells)
                | (go_at_call 70; refine (hdg _).mono ?_; rintro e w6 ⟨rfl, rfl⟩)
                | fail)
              have hcv := conv1 61 (by decide)
              have n1 := blk_lt hS.2.2; have n2 := hS.1.1.lt; have n3 : b < w.heap.size := Nat.lt_of_lt_of_le hS.1.1.2.1 hS.2.1
              go_region
              obtain ⟨r0, r1, r2, r3, hR⟩ := (hS.set (i + 1) ((i : Int) + 1) (by omega)).fin (.int .i64 4) (.string ⟨#[61]⟩) (.int .i64 0) (.int .i64 i) _ rfl
              replace hR := (hR.alloc (.cells #[.int .u8 61] 5)).drew 1
              go_wp2_with fail
              refine bodyPost_ret (v := .tuple #[.agg #[.int .i64 4, .string ⟨#[61]⟩, .int .i64 0, .int .i64 i], .bool true]) (by simp [results, Tryd.results51, go_sem, r0, r1, r2, r3, n1, n2, n3]) rfl ?_
              rw [HT.out]; exact ⟨rfl, hR⟩
            · subst q3
              go_wp2_with (first
                | (go_at_call 68; refine (hl _ hS).mono ?_; rintro e w4 ⟨rfl, hS⟩; obtain ⟨c2, f2, t0, t1, t2, t3, u0, u1, u2, u3⟩ := hS.cells)
                | (go_at_call 70; refine (hdg _).mono ?_; rintro e w6 ⟨rfl, rfl⟩)
                | fail)
              have hcv := conv1 42 (by decide)
              have n1 := blk_lt hS.2.2; have n2 := hS.1.1.lt; have n3 : b < w.heap.size := Nat.lt_of_lt_of_le hS.1.1.2.1 hS.2.1
              go_region
              obtain ⟨r0, r1, r2, r3, hR⟩ := (hS.set (i + 1) ((i : Int) + 1) (by omega)).fin (.int .i64 4) (.string ⟨#[42]⟩) (.int .i64 0) (.int .i64 i) _ rfl
              replace hR := (hR.alloc (.cells #[.int .u8 42] 5)).drew 1
              go_wp2_with fail
              refine bodyPost_ret (v := .tuple #[.agg #[.int .i64 4, .string ⟨#[42]⟩, .int .i64 0, .int .i64 i], .bool true]) (by simp [results, Tryd.results51, go_sem, r0, r1, r2, r3, n1, n2, n3]) rfl ?_
              rw [HT.out]; exact ⟨rfl, hR⟩

end Go.Proofs.YtljoenpgokhekaaDoor
