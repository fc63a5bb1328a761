/- Walks: the reference of layer 13: word, number. -/
import Derived.Test.YtljoenpgokhekaaDoorRLexB
namespace Go.Proofs.YtljoenpgokhekaaDoor
open Go.RowKit
open Cle

theorem rr_b {L : Nat} {w : World} (wr : World) (b : Nat) (s : ByteArray) (P : List Pt) (i : Nat) (h : RB L w wr b s P i) (hi : i ≤ 1000000) (hP : P.length ≤ 1000000) :
    Calls Tryd.prog 67 #[.pointer (some ⟨b, 0, none⟩), .int .i64 (0 : Nat)] wr fun e w' => e = .returned (.int .i32 (rAt P i)) ∧ RB L w w' b s P i :=
  (rr_any wr b s P i 0 h.1 hi (by omega) hP).mono fun e w' ⟨he, m, hm⟩ => ⟨by rw [he, Nat.add_zero], by rw [hm]; exact h.drew m⟩
theorem rg_below {L : Nat} {w wr w' : World} {b : Nat} {s : ByteArray} {P : List Pt} {i j : Nat} (h : RB L w wr b s P i) (hk : RG L wr w' b s P j) : RB L w w' b s P j := by
  have hb : w'.heap[w.heap.size]? = wr.heap[w.heap.size]? := hk.2.block _ (blk_lt h.2.2) (by have := h.1.1.2.1; have := h.2.1; intro e; cases e; omega)
  exact ⟨⟨hk.1, gb_trans h.1.2 hk.2⟩, h.2.1, by rw [hb]; exact h.2.2⟩
theorem rletf_b {L : Nat} {w : World} (wr : World) (b : Nat) (s : ByteArray) (P : List Pt) (i : Nat) (h : RB L w wr b s P i) :
    Calls Tryd.prog 68 #[.pointer (some ⟨b, 0, none⟩), .bool false] wr fun e w' => e = .returned (.bool (letB P i)) ∧ RB L w w' b s P i :=
  (rletf_any wr b s P i (RG.start h.1.1)).mono fun e w' ⟨he, hk⟩ => ⟨by rw [he]; simp, rg_below h hk⟩
theorem rlett_b {L : Nat} {w : World} (wr : World) (b : Nat) (s : ByteArray) (P : List Pt) (i : Nat) (h : RB L w wr b s P i) :
    Calls Tryd.prog 68 #[.pointer (some ⟨b, 0, none⟩), .bool true] wr fun e w' => e = .returned (.bool (letB P i || digB P i)) ∧ RB L w w' b s P i :=
  (rlett_any wr b s P i (RG.start h.1.1)).mono fun e w' ⟨he, hk⟩ => ⟨by rw [he]; simp, rg_below h hk⟩
theorem rfrom_b {L : Nat} {w : World} (wr : World) (b : Nat) (s : ByteArray) (P : List Pt) (i k : Nat) (h : RB L w wr b s P k) (hi : i < P.length) (hik : i ≤ k) (hOK : PtsOK s P) (hs : s.size ≤ 1000000) :
    Calls Tryd.prog 78 #[.pointer (some ⟨b, 0, none⟩), .int .i64 i] wr fun e w' => e = .returned (.string (s.extract (byteAt s P i) (byteAt s P k))) ∧ RB L w w' b s P k :=
  (rfrom_any wr b s P i k (RG.start h.1.1) hi hik hOK hs).mono fun e w' ⟨he, hk⟩ => ⟨he, rg_below h hk⟩
theorem rdig_b (P : List Pt) (i : Nat) (v : Bool) (hv : digB P i = v) (w : World) :
    Calls Tryd.prog 70 #[.int .i32 (rAt P i)] w fun e w' => e = .returned (.bool v) ∧ w' = w := by
  rw [← hv, digB_rAt]; exact rdig_any _ w
theorem RB.cells {L : Nat} {w wr : World} {b : Nat} {s : ByteArray} {P : List Pt} {i : Nat} (h : RB L w wr b s P i) :
    wr.cell? ⟨b, 2, none⟩ = some (.int .i64 i) ∧ wr.frozen? ⟨b, 2, none⟩ = false ∧
    wr.cell? ⟨w.heap.size, 0, none⟩ = some (.int .i64 0) ∧ wr.cell? ⟨w.heap.size, 1, none⟩ = some (.string ⟨#[]⟩) ∧ wr.cell? ⟨w.heap.size, 2, none⟩ = some (.int .i64 0) ∧ wr.cell? ⟨w.heap.size, 3, none⟩ = some (.int .i64 0) ∧
    wr.frozen? ⟨w.heap.size, 0, none⟩ = false ∧ wr.frozen? ⟨w.heap.size, 1, none⟩ = false ∧ wr.frozen? ⟨w.heap.size, 2, none⟩ = false ∧ wr.frozen? ⟨w.heap.size, 3, none⟩ = false := by
  obtain ⟨_, _, _, _, c2, f2, _⟩ := h.1.1.cells
  obtain ⟨t0, t1, t2, t3, u0, u1, u2, u3⟩ := tok_cells h.2.2
  exact ⟨c2, f2, t0, t1, t2, t3, u0, u1, u2, u3⟩

set_option maxRecDepth 100000 in
set_option maxHeartbeats 1000000 in
theorem rword_any {L : Nat} (w : World) (b : Nat) (s : ByteArray) (P : List Pt) (i : Nat) (h : SR L w b s P i) (hs : s.size ≤ 100000) (hOK : PtsOK s P) (hi : i < P.length) (hl : letB P i = true) :
    Calls Tryd.prog 69 #[.pointer (some ⟨b, 0, none⟩)] w (RTP L w b s P (wordO s P i)) := by
  have H0 := Lib.hid (RB.start h)
  have HOK := Lib.hid hOK
  have hPl := hOK.1
  have HLi := Lib.hid hl
  have lb := h.lt
  obtain ⟨_, _, _, _, c2, f2, _⟩ := h.cells
  clear h hOK hl
  go_enter Tryd.func69, Tryd.ntmps69
  go_wp2_with fail
  clear c2 f2 lb
  go_loopw [] (fun wr => ∃ k, RB L w wr b s P k ∧ Hid (wordEnd P i = runTo (fun k => letB P k || digB P k) P.length k) ∧ i ≤ k ∧ k ≤ P.length) (fun wr => P.length - scanI wr b)
  case atStart => exact ⟨i, H0.out, rfl, Nat.le_refl _, by omega⟩
  case round =>
    obtain ⟨k, hS, HE, hik, hk⟩ := hrel
    have HK := Lib.hid hS.scan
    obtain ⟨c2, f2, t0, t1, t2, t3, u0, u1, u2, u3⟩ := hS.cells
    by_cases hki : k = i
    · subst hki
      have hc := rletf_b _ b s P k hS
      rw [HLi.out] at hc
      have HX : Hid (wordEnd P k = runTo (fun k => letB P k || digB P k) P.length (k + 1)) := by show _ = _; rw [HE.out]; exact runTo_go hi (by rw [HLi.out]; rfl)
      go_wp2_with (go_at_call 68; refine hc.mono ?_; rintro e w3 ⟨rfl, hS⟩; obtain ⟨c2, f2, t0, t1, t2, t3, u0, u1, u2, u3⟩ := hS.cells)
      go_roundw
      case rel => exact ⟨k + 1, hS.set (k + 1) _ (by omega), HX, by omega, by omega⟩
      case measure => rw [HK.out, (hS.set (k + 1) _ (by omega)).scan]; omega
    · have hd : decide (i < k) = true := decide_eq_true (by omega)
      have hc := rlett_b _ b s P k hS
      cases hq : (letB P k || digB P k)
      case true =>
        rw [hq] at hc
        have hlt : k < P.length := by rw [Bool.or_eq_true] at hq; rcases hq with hq | hq; exact letB_lt hq; exact digB_lt hq
        have HX : Hid (wordEnd P i = runTo (fun k => letB P k || digB P k) P.length (k + 1)) := by show _ = _; rw [HE.out]; exact runTo_go hlt hq
        clear hq
        go_wp2_with (go_at_call 68; refine hc.mono ?_; rintro e w3 ⟨rfl, hS⟩; obtain ⟨c2, f2, t0, t1, t2, t3, u0, u1, u2, u3⟩ := hS.cells)
        go_roundw
        case rel => exact ⟨k + 1, hS.set (k + 1) _ (by omega), HX, by omega, by omega⟩
        case measure => rw [HK.out, (hS.set (k + 1) _ (by omega)).scan]; omega
      case false =>
        rw [hq] at hc
        have HF : Hid (wordEnd P i = k) := by show _ = _; rw [HE.out]; exact runTo_stop hq
        clear hq
        have HT : Hid (wordT s P i = s.extract (byteAt s P i) (byteAt s P k)) := by show _ = _; unfold wordT; rw [HF.out]
        have hfr := fun wx hx => rfrom_b (L := L) (w := w) wx b s P i k hx hi hik HOK.out (by omega)
        obtain ⟨X, hX⟩ : ∃ X, s.extract (byteAt s P i) (byteAt s P k) = X := ⟨_, rfl⟩
        have hXs : X.size ≤ 100000 := by rw [← hX, ByteArray.size_extract]; have := HOK.out.2.2 k; omega
        rw [hX] at hfr HT
        have hfo := fun wx => rfold_any X wx (by omega)
        clear hX
        go_wp2_with (first
          | (go_at_call 68; refine hc.mono ?_; rintro e w3 ⟨rfl, hS⟩; obtain ⟨c2, f2, t0, t1, t2, t3, u0, u1, u2, u3⟩ := hS.cells)
          | (go_at_call 78; refine (hfr _ hS).mono ?_; rintro e w4 ⟨rfl, hS⟩; obtain ⟨c2, f2, t0, t1, t2, t3, u0, u1, u2, u3⟩ := hS.cells)
          | (go_at_call 37; refine (hfo _).mono ?_; rintro e w4 ⟨rfl, hb⟩; replace hS := hS.below hb; clear hb; obtain ⟨c2, f2, t0, t1, t2, t3, u0, u1, u2, u3⟩ := hS.cells))
        obtain ⟨r0, r1, r2, r3, hR⟩ := hS.fin (.int .i64 1) (.string (fold X)) (.int .i64 0) (.int .i64 i) _ rfl
        refine bodyPost_ret (v := .tuple #[.agg #[.int .i64 1, .string (fold X), .int .i64 0, .int .i64 i], .bool (decide ((X.size : Int) ≤ 100))]) (by simp [results, Tryd.results69, go_sem, r0, r1, r2, r3]) rfl ?_
        refine ⟨?_, ?_⟩
        · unfold wordO tkV; rw [HT.out]; show _ = Ending.returned (.tuple #[_, .bool (decide (X.size ≤ 100))]); rw [show decide (X.size ≤ 100) = decide ((X.size : Int) ≤ 100) from decide_eq_decide.2 (by omega)]
        · show RG L w _ b s P (wordEnd P i); rw [HF.out]; exact hR

set_option maxRecDepth 1000000 in
set_option maxHeartbeats 2000000 in
theorem rnumber_any {L : Nat} (w : World) (b : Nat) (s : ByteArray) (P : List Pt) (i : Nat) (h : SR L w b s P i) (hs : s.size ≤ 100000) (hOK : PtsOK s P) (hi : i < P.length) :
    Calls Tryd.prog 71 #[.pointer (some ⟨b, 0, none⟩)] w (RTP L w b s P (numberO P i)) := by
  have hS := RB.start h
  have hPl := hOK.1
  have lb := h.lt
  obtain ⟨_, _, _, _, c2, f2, _⟩ := h.cells
  clear h hOK
  go_enter Tryd.func71, Tryd.ntmps71
  go_wp2_with fail
  refine (rr_b _ b s P i hS (by omega) (by omega)).mono ?_; rintro e w1 ⟨rfl, hS⟩
  clear c2 f2 lb
  obtain ⟨c2, f2, t0, t1, t2, t3, u0, u1, u2, u3⟩ := hS.cells
  have HI := Lib.hid (isB_z P i 45 (by decide))
  obtain ⟨r0, hr0⟩ : ∃ r0, rAt P i = r0 := ⟨_, rfl⟩
  rw [hr0] at HI ⊢
  clear hr0
  cases q : (r0 == 45)
  case true =>
    have HNS : Hid (numStart P i = i + 1) := by show _ = _; unfold numStart; rw [HI.out, show (r0 == 45) = true from q]; rfl
    have H45 : Hid (isB P i 45 = true) := by show _ = _; rw [HI.out]; exact q
    clear HI
    obtain ⟨d0, hd0⟩ : ∃ d0, digB P (i + 1) = d0 := ⟨_, rfl⟩
    have hdg := rdig_b P (i + 1) d0 hd0
    go_wp2_with (first
      | (go_at_call 67; refine (rr_b _ b s P (i + 1) (hS.set (i + 1) _ (by omega)) (by omega) (by omega)).mono ?_; rintro e w4 ⟨rfl, hS⟩; obtain ⟨c2, f2, t0, t1, t2, t3, u0, u1, u2, u3⟩ := hS.cells)
      | (go_at_call 70; refine (hdg _).mono ?_; rintro e w5 ⟨rfl, rfl⟩))
    go_loopw [6, 7] (fun a o wr => ∃ (k : Nat) (v : Int) (ok : Bool), RB L w wr b s P k ∧ a = .int .i64 v ∧ o = .bool ok ∧ Hid (numR P i = num P k v ok) ∧ k ≤ P.length ∧ 0 ≤ v ∧ v ≤ 1099511627776) (fun _ _ wr => P.length - scanI wr b)
    case atStart => exact ⟨i + 1, 0, d0, hS, rfl, rfl, by (show _ = _; unfold numR; rw [HNS.out, hd0]), by omega, by omega, by omega⟩
    case round =>
      clear hdg hd0 hS c2 f2 t0 t1 t2 t3 u0 u1 u2 u3
      obtain ⟨k, v, ok, hS, rfl, rfl, HV, hk, hv0, hv1⟩ := hrel
      have HK := Lib.hid hS.scan
      obtain ⟨c2, f2, t0, t1, t2, t3, u0, u1, u2, u3⟩ := hS.cells
      have hcr := fun wx hx => rr_b (L := L) (w := w) wx b s P k hx (by omega) (by omega)
      cases hD : digB P k
      case true =>
        have hlt := digB_lt hD
        have HX : Hid (numR P i = num P (k + 1) (min (v * 10 + (rAt P k - 48)) 1099511627776) (ok && decide (v * 10 + (rAt P k - 48) ≤ 1099511627776))) := by show _ = _; rw [HV.out]; exact num_go hD
        have hdg := rdig_b P k true hD
        have hr1 := digB_rAt P k
        rw [hD] at hr1
        obtain ⟨r, hr⟩ : ∃ r, rAt P k = r := ⟨_, rfl⟩
        rw [hr] at hdg HX hcr hr1
        replace hr1 : 48 ≤ r ∧ r ≤ 57 := by simpa using hr1.symm
        obtain ⟨hr1, hr2⟩ := hr1
        clear hr hD
        have hm : (10 : Int) * v = v * 10 := Int.mul_comm _ _
        cases ok
        all_goals
          go_wp2_with (first
            | (go_at_call 67; refine (hcr _ hS).mono ?_; rintro e w4 ⟨rfl, hS⟩; obtain ⟨c2, f2, t0, t1, t2, t3, u0, u1, u2, u3⟩ := hS.cells)
            | (go_at_call 70; refine (hdg _).mono ?_; rintro e w5 ⟨rfl, rfl⟩))
          go_roundw
          case rel => exact ⟨k + 1, _, _, hS.set (k + 1) _ (by omega), rfl, rfl, by simpa using HX, by omega, by omega, by omega⟩
          case measure => rw [HK.out, (hS.set (k + 1) _ (by omega)).scan]; omega
      case false =>
        have HX : Hid (numR P i = (v, ok, k)) := by show _ = _; rw [HV.out]; exact num_stop hD
        have hdg := rdig_b P k false hD
        have hcl := fun wx hx => rletf_b (L := L) (w := w) wx b s P k hx
        cases ok
        · clear hcl
          go_wp2_with (first
            | (go_at_call 67; refine (hcr _ hS).mono ?_; rintro e w4 ⟨rfl, hS⟩; obtain ⟨c2, f2, t0, t1, t2, t3, u0, u1, u2, u3⟩ := hS.cells)
            | (go_at_call 70; refine (hdg _).mono ?_; rintro e w5 ⟨rfl, rfl⟩))
          obtain ⟨r0, r1, r2, r3, hR⟩ := hS.fin (.int .i64 2) (.string ⟨#[]⟩) (.int .i64 (-v)) (.int .i64 i) _ rfl
          refine bodyPost_ret (v := .tuple #[.agg #[.int .i64 2, .string ⟨#[]⟩, .int .i64 (-v), .int .i64 i], .bool false]) (by simp [results, Tryd.results71, go_sem, r0, r1, r2, r3]) rfl ?_
          refine ⟨?_, ?_⟩
          · unfold numberO tkV; rw [H45.out, HX.out]; rfl
          · show RG L w _ b s P (numR P i).2.2; rw [HX.out]; exact hR
        · skip
          go_wp2_with (first
            | (go_at_call 67; refine (hcr _ hS).mono ?_; rintro e w4 ⟨rfl, hS⟩; obtain ⟨c2, f2, t0, t1, t2, t3, u0, u1, u2, u3⟩ := hS.cells)
            | (go_at_call 70; refine (hdg _).mono ?_; rintro e w5 ⟨rfl, rfl⟩)
            | (go_at_call 68; refine (hcl _ hS).mono ?_; rintro e w6 ⟨rfl, hS⟩; obtain ⟨c2, f2, t0, t1, t2, t3, u0, u1, u2, u3⟩ := hS.cells))
          obtain ⟨r0, r1, r2, r3, hR⟩ := hS.fin (.int .i64 2) (.string ⟨#[]⟩) (.int .i64 (-v)) (.int .i64 i) _ rfl
          refine bodyPost_ret (v := .tuple #[.agg #[.int .i64 2, .string ⟨#[]⟩, .int .i64 (-v), .int .i64 i], .bool (!letB P k)]) (by simp [results, Tryd.results71, go_sem, r0, r1, r2, r3]) rfl ?_
          refine ⟨?_, ?_⟩
          · unfold numberO tkV; rw [H45.out, HX.out]; rfl
          · show RG L w _ b s P (numR P i).2.2; rw [HX.out]; exact hR
  case false =>
    have HNS : Hid (numStart P i = i) := by show _ = _; unfold numStart; rw [HI.out, show (r0 == 45) = false from q]; rfl
    have H45 : Hid (isB P i 45 = false) := by show _ = _; rw [HI.out]; exact q
    clear HI
    obtain ⟨d0, hd0⟩ : ∃ d0, digB P (i) = d0 := ⟨_, rfl⟩
    have hdg := rdig_b P (i) d0 hd0
    go_wp2_with (first
      | (go_at_call 67; refine (rr_b _ b s P (i) (hS) (by omega) (by omega)).mono ?_; rintro e w4 ⟨rfl, hS⟩; obtain ⟨c2, f2, t0, t1, t2, t3, u0, u1, u2, u3⟩ := hS.cells)
      | (go_at_call 70; refine (hdg _).mono ?_; rintro e w5 ⟨rfl, rfl⟩))
    go_loopw [6, 7] (fun a o wr => ∃ (k : Nat) (v : Int) (ok : Bool), RB L w wr b s P k ∧ a = .int .i64 v ∧ o = .bool ok ∧ Hid (numR P i = num P k v ok) ∧ k ≤ P.length ∧ 0 ≤ v ∧ v ≤ 1099511627776) (fun _ _ wr => P.length - scanI wr b)
    case atStart => exact ⟨i, 0, d0, hS, rfl, rfl, by (show _ = _; unfold numR; rw [HNS.out, hd0]), by omega, by omega, by omega⟩
    case round =>
      clear hdg hd0 hS c2 f2 t0 t1 t2 t3 u0 u1 u2 u3
      obtain ⟨k, v, ok, hS, rfl, rfl, HV, hk, hv0, hv1⟩ := hrel
      have HK := Lib.hid hS.scan
      obtain ⟨c2, f2, t0, t1, t2, t3, u0, u1, u2, u3⟩ := hS.cells
      have hcr := fun wx hx => rr_b (L := L) (w := w) wx b s P k hx (by omega) (by omega)
      cases hD : digB P k
      case true =>
        have hlt := digB_lt hD
        have HX : Hid (numR P i = num P (k + 1) (min (v * 10 + (rAt P k - 48)) 1099511627776) (ok && decide (v * 10 + (rAt P k - 48) ≤ 1099511627776))) := by show _ = _; rw [HV.out]; exact num_go hD
        have hdg := rdig_b P k true hD
        have hr1 := digB_rAt P k
        rw [hD] at hr1
        obtain ⟨r, hr⟩ : ∃ r, rAt P k = r := ⟨_, rfl⟩
        rw [hr] at hdg HX hcr hr1
        replace hr1 : 48 ≤ r ∧ r ≤ 57 := by simpa using hr1.symm
        obtain ⟨hr1, hr2⟩ := hr1
        clear hr hD
        have hm : (10 : Int) * v = v * 10 := Int.mul_comm _ _
        cases ok
        all_goals
          go_wp2_with (first
            | (go_at_call 67; refine (hcr _ hS).mono ?_; rintro e w4 ⟨rfl, hS⟩; obtain ⟨c2, f2, t0, t1, t2, t3, u0, u1, u2, u3⟩ := hS.cells)
            | (go_at_call 70; refine (hdg _).mono ?_; rintro e w5 ⟨rfl, rfl⟩))
          go_roundw
          case rel => exact ⟨k + 1, _, _, hS.set (k + 1) _ (by omega), rfl, rfl, by simpa using HX, by omega, by omega, by omega⟩
          case measure => rw [HK.out, (hS.set (k + 1) _ (by omega)).scan]; omega
      case false =>
        have HX : Hid (numR P i = (v, ok, k)) := by show _ = _; rw [HV.out]; exact num_stop hD
        have hdg := rdig_b P k false hD
        have hcl := fun wx hx => rletf_b (L := L) (w := w) wx b s P k hx
        cases ok
        · clear hcl
          go_wp2_with (first
            | (go_at_call 67; refine (hcr _ hS).mono ?_; rintro e w4 ⟨rfl, hS⟩; obtain ⟨c2, f2, t0, t1, t2, t3, u0, u1, u2, u3⟩ := hS.cells)
            | (go_at_call 70; refine (hdg _).mono ?_; rintro e w5 ⟨rfl, rfl⟩))
          obtain ⟨r0, r1, r2, r3, hR⟩ := hS.fin (.int .i64 2) (.string ⟨#[]⟩) (.int .i64 v) (.int .i64 i) _ rfl
          refine bodyPost_ret (v := .tuple #[.agg #[.int .i64 2, .string ⟨#[]⟩, .int .i64 v, .int .i64 i], .bool false]) (by simp [results, Tryd.results71, go_sem, r0, r1, r2, r3]) rfl ?_
          refine ⟨?_, ?_⟩
          · unfold numberO tkV; rw [H45.out, HX.out]; rfl
          · show RG L w _ b s P (numR P i).2.2; rw [HX.out]; exact hR
        · skip
          go_wp2_with (first
            | (go_at_call 67; refine (hcr _ hS).mono ?_; rintro e w4 ⟨rfl, hS⟩; obtain ⟨c2, f2, t0, t1, t2, t3, u0, u1, u2, u3⟩ := hS.cells)
            | (go_at_call 70; refine (hdg _).mono ?_; rintro e w5 ⟨rfl, rfl⟩)
            | (go_at_call 68; refine (hcl _ hS).mono ?_; rintro e w6 ⟨rfl, hS⟩; obtain ⟨c2, f2, t0, t1, t2, t3, u0, u1, u2, u3⟩ := hS.cells))
          obtain ⟨r0, r1, r2, r3, hR⟩ := hS.fin (.int .i64 2) (.string ⟨#[]⟩) (.int .i64 v) (.int .i64 i) _ rfl
          refine bodyPost_ret (v := .tuple #[.agg #[.int .i64 2, .string ⟨#[]⟩, .int .i64 v, .int .i64 i], .bool (!letB P k)]) (by simp [results, Tryd.results71, go_sem, r0, r1, r2, r3]) rfl ?_
          refine ⟨?_, ?_⟩
          · unfold numberO tkV; rw [H45.out, HX.out]; rfl
          · show RG L w _ b s P (numR P i).2.2; rw [HX.out]; exact hR

end Go.Proofs.YtljoenpgokhekaaDoor
