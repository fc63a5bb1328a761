/- Walks: the reference of layer 13: r, letter, digit, blank, from. -/
import Derived.Test.YtljoenpgokhekaaDoorLexH
import Derived.Test.YtljoenpgokhekaaDoorRefE
import Derived.StillTailTactics
namespace Go.Proofs.YtljoenpgokhekaaDoor
open Go.RowKit
open Cle

abbrev SR := Scn 79 flatP
/-- A text under way of the reference, and what has been made since. -/
def RG (L : Nat) (w wr : World) (b : Nat) (s : ByteArray) (P : List Pt) (k : Nat) : Prop := SR L wr b s P k ∧ w.grownBy wr (some b)
section
variable {L : Nat} {w wr wi : World} {b : Nat} {s : ByteArray} {P : List Pt} {k : Nat}
theorem RG.drew (h : RG L w wr b s P k) (m : Nat) : RG L w (wr.drewN m) b s P k := ⟨h.1.heap rfl, gb_trans h.2 (gb_drewN _ _ _)⟩
theorem RG.set (h : RG L w wr b s P k) (j : Nat) (v : Int) (hv : v = j) : RG L w (wr.setCell ⟨b, 2, none⟩ (.int .i64 v)) b s P j := by subst hv; exact ⟨h.1.set j, gb_trans h.2 (gb_set _ _ _ _)⟩
theorem RG.below (h : RG L w wr b s P k) (hb : Below wr.heap.size wr wi) : RG L w wi b s P k := ⟨h.1.below hb, gb_trans h.2 (gb_below hb _)⟩
theorem RG.alloc (h : RG L w wr b s P k) (o : Obj) : RG L w (wr.alloc o) b s P k := h.below ((Below.refl _ _).alloc (Nat.le_refl _) _)
theorem RG.scan (h : RG L w wr b s P k) : scanI wr b = k := scanI_eq h.1
end
theorem drewN_drewN (w : World) (a b : Nat) : (w.drewN a).drewN b = w.drewN (a + b) := by
  simp [World.drewN, Nat.add_assoc]
theorem isB_z (P : List Pt) (i : Nat) (c : Int) (hc : 0 ≤ c) : isB P i c = (rAt P i == c) := by
  unfold isB rAt
  cases P[i]? with
  | none => show false = ((-1 : Int) == c); exact (beq_eq_false_iff_ne.2 (by omega)).symm
  | some p => rfl
theorem rAt_lt (P : List Pt) (i : Nat) : rAt P i = -1 ∨ ∃ h : i < P.length, rAt P i = P[i].r := by
  unfold rAt
  by_cases h : i < P.length
  · exact .inr ⟨h, by rw [List.getElem?_eq_getElem h]⟩
  · exact .inl (by rw [List.getElem?_eq_none (by omega)])
theorem digB_rAt (P : List Pt) (i : Nat) : digB P i = (decide (48 ≤ rAt P i) && decide (rAt P i ≤ 57)) := by
  unfold digB rAt
  cases P[i]? with
  | none => rfl
  | some p => simp only [digitB]

set_option maxRecDepth 100000 in
set_option maxHeartbeats 400000 in
theorem rr_any {L : Nat} {w : World} (wr : World) (b : Nat) (s : ByteArray) (P : List Pt) (i more : Nat) (h : RG L w wr b s P i) (hi : i ≤ 1000000) (hm : more ≤ 1) (hP : P.length ≤ 1000000) :
    Calls Tryd.prog 67 #[.pointer (some ⟨b, 0, none⟩), .int .i64 more] wr fun e w' => e = .returned (.int .i32 (rAt P (i + more))) ∧ ∃ m, w' = wr.drewN m := by
  obtain ⟨a, cap, c0, c1, c2, _, h2⟩ := h.1.cells
  have hw : IntKind.i64.wrap ((i : Int) + (more : Int)) = (i : Int) + (more : Int) := IntWalk.i64_in _ (by omega)
  have hn : ((i : Int) + (more : Int)).toNat = i + more := by omega
  have h0 : (0 : Int) ≤ (i : Int) + (more : Int) := by omega
  by_cases hlt : i + more < P.length
  · obtain ⟨g, rfl, hc⟩ := h2 (by omega)
    have c3 : wr.cell? ⟨g, (i + more) * 4, none⟩ = some (.int .i32 P[i + more].r) := hc _ _ (by have := flatP_at P (i + more) 0 hlt (by omega); rw [Nat.add_zero] at this; rw [this]; rfl)
    have HE : Hid (rAt P (i + more) = (P[i + more].r : Int)) := by show _ = _; unfold rAt; rw [List.getElem?_eq_getElem hlt]
    have h3 : (i : Int) + (more : Int) < (P.length : Int) := by omega
    have hd : decide ((P.length : Int) ≤ (i : Int) + (more : Int)) = false := decide_eq_false (by omega)
    clear hc h2 c0 h
    generalize P[i + more] = q at *
    go_enter Tryd.func67, Tryd.ntmps67
    go_wp2_with fail
    go_quiet (fail)
    go_wp2_with fail
    go_quiet (fail)
    go_wp2_with fail
    go_ret
    exact ⟨ret_int (by rw [HE.out]), _, drewN_drewN _ _ _⟩
  · have HE : Hid (rAt P (i + more) = -1) := by show _ = _; unfold rAt; rw [List.getElem?_eq_none (by omega)]
    have hd : decide ((P.length : Int) ≤ (i : Int) + (more : Int)) = true := decide_eq_true (by omega)
    clear h2 c0 h
    go_enter Tryd.func67, Tryd.ntmps67
    go_wp2_with fail
    go_quiet (fail)
    go_wp2_with fail
    go_ret
    exact ⟨ret_int (by rw [HE.out]), _, rfl⟩

theorem rr_g {L : Nat} {w : World} (wr : World) (b : Nat) (s : ByteArray) (P : List Pt) (i more : Nat) (h : RG L w wr b s P i) (hi : i ≤ 1000000) (hm : more ≤ 1) (hP : P.length ≤ 1000000) (v : Int) (hv : rAt P (i + more) = v) :
    Calls Tryd.prog 67 #[.pointer (some ⟨b, 0, none⟩), .int .i64 more] wr fun e w' => e = .returned (.int .i32 v) ∧ RG L w w' b s P i :=
  (rr_any wr b s P i more h hi hm hP).mono fun e w' ⟨he, m, hm⟩ => ⟨by rw [he, hv], by rw [hm]; exact h.drew m⟩

theorem rdig_any (r : Int) (w : World) :
    Calls Tryd.prog 70 #[.int .i32 r] w fun e w' => e = .returned (.bool (decide (48 ≤ r) && decide (r ≤ 57))) ∧ w' = w := by
  go_enter Tryd.func70, Tryd.ntmps70
  go_wp2_with fail
  all_goals go_ret
  all_goals exact ⟨ret_bool (by rw [Bool.eq_iff_iff]; simp; try omega), rfl⟩

set_option maxRecDepth 100000 in
set_option maxHeartbeats 1000000 in
theorem rlett_any {L : Nat} {w : World} (wr : World) (b : Nat) (s : ByteArray) (P : List Pt) (i : Nat) (h : RG L w wr b s P i) :
    Calls Tryd.prog 68 #[.pointer (some ⟨b, 0, none⟩), .bool true] wr fun e w' => e = .returned (.bool (letB P i || (true && digB P i))) ∧ RG L w w' b s P i := by
  obtain ⟨a, cap, c0, c1, c2, _, h2⟩ := h.1.cells
  have HR := Lib.hid (fun (w' : World) (hb : Below wr.heap.size wr w') => h.below hb)
  by_cases hlt : i < P.length
  · obtain ⟨g, rfl, hc⟩ := h2 (by omega)
    have hrow := flatP_at P i
    have c3 : wr.cell? ⟨g, i * 4, none⟩ = some (.int .i32 P[i].r) := hc _ _ (by have := hrow 0 hlt (by omega); rw [Nat.add_zero] at this; rw [this]; rfl)
    have c4 : wr.cell? ⟨g, i * 4 + 1, none⟩ = some (.int .i64 P[i].at_) := hc _ _ (by rw [hrow 1 hlt (by omega)]; rfl)
    have c5 : wr.cell? ⟨g, i * 4 + 2, none⟩ = some (.int .i64 P[i].n) := hc _ _ (by rw [hrow 2 hlt (by omega)]; rfl)
    have c6 : wr.cell? ⟨g, i * 4 + 3, none⟩ = some (.bool P[i].ok) := hc _ _ (by rw [hrow 3 hlt (by omega)]; rfl)
    have HE : Hid ((letB P i || (true && digB P i)) = ((P[i].ok && (letterB P[i].r || (decide (65 ≤ (P[i].r : Int)) && decide ((P[i].r : Int) ≤ 90)))) || (true && digitB P[i].r))) := by
      show _ = _; unfold letB digB; rw [List.getElem?_eq_getElem hlt]
    have HO : Hid (P[i].ok = true ∨ P[i].r = 65533) := by
      show _ ∨ _
      unfold Pt.ok
      by_cases e : P[i].r = 65533
      · exact .inr e
      · left; rw [Bool.or_eq_true]; left; exact bne_iff_ne.2 (by omega)
    have h3 : (i : Int) < (P.length : Int) := by omega
    have h4 : (0 : Int) ≤ (i : Int) := by omega
    have hd : decide ((P.length : Int) ≤ (i : Int)) = false := decide_eq_false (by omega)
    have lg := cell_lt c3
    have lb := cell_lt c1
    clear hc h2 c0 h hrow
    generalize P[i] = q at *
    have hL := fun w => rletter_any q w _ rfl
    obtain ⟨ok, hok⟩ : ∃ ok, q.ok = ok := ⟨_, rfl⟩
    obtain ⟨r, hr⟩ : ∃ r : Nat, q.r = r := ⟨_, rfl⟩
    rw [hok, hr] at HE HO hL
    rw [hok] at c6
    rw [hr] at c3
    clear hok hr
    cases hq : (letterB r && ok)
    · have hq2 : ∀ x y : Bool, ((ok && (letterB r || x)) || y) = ((ok && x) || y) := by intro x y; revert hq; cases letterB r <;> cases ok <;> simp
      rw [hq2] at HE
      have HE2 : Hid (((65 ≤ (r : Int) ∧ (r : Int) ≤ 90) → ok = true)) := fun h => HO.out.resolve_right (by omega)
      rw [hq] at hL
      go_enter Tryd.func68, Tryd.ntmps68
      go_wp2_with fail
      go_quiet (fail)
      have k1 := HR.out _ (below_drewN (Below.refl _ _) nq)
      have d1 : (wr.drewN nq).cell? ⟨b, 1, none⟩ = some (.slice (some ⟨g, 0, none⟩) P.length cap) := c1
      have d2 : (wr.drewN nq).cell? ⟨b, 2, none⟩ = some (.int .i64 i) := c2
      have d3 : (wr.drewN nq).cell? ⟨g, i * 4, none⟩ = some (.int .i32 r) := c3
      have d4 : (wr.drewN nq).cell? ⟨g, i * 4 + 1, none⟩ = some (.int .i64 q.at_) := c4
      have d5 : (wr.drewN nq).cell? ⟨g, i * 4 + 2, none⟩ = some (.int .i64 q.n) := c5
      have d6 : (wr.drewN nq).cell? ⟨g, i * 4 + 3, none⟩ = some (.bool ok) := c6
      have lg' : g < (wr.drewN nq).heap.size := lg
      have lb' : b < (wr.drewN nq).heap.size := lb
      clear c1 c2 c3 c4 c5 c6 lg lb HR
      generalize wr.drewN nq = w1 at *
      go_wp2_with fail
      go_region
      have hblk : ((w1.alloc (.cells #[.int .i32 r, .int .i64 q.at_, .int .i64 q.n, .bool ok] 94)).drew).heap[w1.heap.size]? = _ := blk_new w1 _
      have k2 : RG L w ((w1.alloc (.cells #[.int .i32 r, .int .i64 q.at_, .int .i64 q.n, .bool ok] 94)).drew) b s P i := (k1.alloc _).drew 1
      generalize ((w1.alloc (.cells #[.int .i32 r, .int .i64 q.at_, .int .i64 q.n, .bool ok] 94)).drew) = w2 at *
      clear d1 d2 d3 d4 d5 d6 lg' lb' k1
      obtain ⟨x0, x1, x2, x3, _, _, _, _⟩ := tok_cells hblk
      go_wp2_with (go_at_call 57; refine (hL _).mono ?_; rintro e w3 ⟨rfl, hb3⟩; obtain ⟨y0, y1, y2, y3, _, _, _, _⟩ := tok_cells (blk_below hblk hb3 (blk_lt hblk)); replace k2 := k2.below hb3)
      all_goals go_ret
      all_goals refine ⟨ret_bool ?_, k2⟩
      all_goals
        have h := HE.out
        try simp only [Bool.true_and, Bool.false_and, Bool.or_false] at h ⊢
        have h2 := HE2.out
        rw [h]
        cases ok <;> (rw [Bool.eq_iff_iff]; simp [digitB] at h2 ⊢; try omega)
    · have hq2 : ∀ x y : Bool, ((ok && (letterB r || x)) || y) = true := by intro x y; revert hq; cases letterB r <;> cases ok <;> simp
      rw [hq2] at HE
      rw [hq] at hL
      go_enter Tryd.func68, Tryd.ntmps68
      go_wp2_with fail
      go_quiet (fail)
      have k1 := HR.out _ (below_drewN (Below.refl _ _) nq)
      have d1 : (wr.drewN nq).cell? ⟨b, 1, none⟩ = some (.slice (some ⟨g, 0, none⟩) P.length cap) := c1
      have d2 : (wr.drewN nq).cell? ⟨b, 2, none⟩ = some (.int .i64 i) := c2
      have d3 : (wr.drewN nq).cell? ⟨g, i * 4, none⟩ = some (.int .i32 r) := c3
      have d4 : (wr.drewN nq).cell? ⟨g, i * 4 + 1, none⟩ = some (.int .i64 q.at_) := c4
      have d5 : (wr.drewN nq).cell? ⟨g, i * 4 + 2, none⟩ = some (.int .i64 q.n) := c5
      have d6 : (wr.drewN nq).cell? ⟨g, i * 4 + 3, none⟩ = some (.bool ok) := c6
      have lg' : g < (wr.drewN nq).heap.size := lg
      have lb' : b < (wr.drewN nq).heap.size := lb
      clear c1 c2 c3 c4 c5 c6 lg lb HR
      generalize wr.drewN nq = w1 at *
      go_wp2_with fail
      go_region
      have hblk : ((w1.alloc (.cells #[.int .i32 r, .int .i64 q.at_, .int .i64 q.n, .bool ok] 94)).drew).heap[w1.heap.size]? = _ := blk_new w1 _
      have k2 : RG L w ((w1.alloc (.cells #[.int .i32 r, .int .i64 q.at_, .int .i64 q.n, .bool ok] 94)).drew) b s P i := (k1.alloc _).drew 1
      generalize ((w1.alloc (.cells #[.int .i32 r, .int .i64 q.at_, .int .i64 q.n, .bool ok] 94)).drew) = w2 at *
      clear d1 d2 d3 d4 d5 d6 lg' lb' k1
      obtain ⟨x0, x1, x2, x3, _, _, _, _⟩ := tok_cells hblk
      go_wp2_with (go_at_call 57; refine (hL _).mono ?_; rintro e w3 ⟨rfl, hb3⟩; obtain ⟨y0, y1, y2, y3, _, _, _, _⟩ := tok_cells (blk_below hblk hb3 (blk_lt hblk)); replace k2 := k2.below hb3)
      all_goals go_ret
      all_goals refine ⟨ret_bool ?_, k2⟩
      all_goals
        have h := HE.out
        try simp only [Bool.true_and, Bool.false_and, Bool.or_false] at h ⊢
        rw [h]
  · have HE : Hid ((letB P i || (true && digB P i)) = false) := by show _ = _; unfold letB digB; rw [List.getElem?_eq_none (by omega)]; simp
    have hd : decide ((P.length : Int) ≤ (i : Int)) = true := decide_eq_true (by omega)
    clear h2 c0 h
    go_enter Tryd.func68, Tryd.ntmps68
    go_wp2_with fail
    go_quiet (fail)
    go_wp2_with fail
    go_ret
    exact ⟨ret_bool (by rw [HE.out]), HR.out _ (below_drewN (Below.refl _ _) _)⟩

set_option maxRecDepth 100000 in
set_option maxHeartbeats 1000000 in
theorem rletf_any {L : Nat} {w : World} (wr : World) (b : Nat) (s : ByteArray) (P : List Pt) (i : Nat) (h : RG L w wr b s P i) :
    Calls Tryd.prog 68 #[.pointer (some ⟨b, 0, none⟩), .bool false] wr fun e w' => e = .returned (.bool (letB P i || (false && digB P i))) ∧ RG L w w' b s P i := by
  obtain ⟨a, cap, c0, c1, c2, _, h2⟩ := h.1.cells
  have HR := Lib.hid (fun (w' : World) (hb : Below wr.heap.size wr w') => h.below hb)
  by_cases hlt : i < P.length
  · obtain ⟨g, rfl, hc⟩ := h2 (by omega)
    have hrow := flatP_at P i
    have c3 : wr.cell? ⟨g, i * 4, none⟩ = some (.int .i32 P[i].r) := hc _ _ (by have := hrow 0 hlt (by omega); rw [Nat.add_zero] at this; rw [this]; rfl)
    have c4 : wr.cell? ⟨g, i * 4 + 1, none⟩ = some (.int .i64 P[i].at_) := hc _ _ (by rw [hrow 1 hlt (by omega)]; rfl)
    have c5 : wr.cell? ⟨g, i * 4 + 2, none⟩ = some (.int .i64 P[i].n) := hc _ _ (by rw [hrow 2 hlt (by omega)]; rfl)
    have c6 : wr.cell? ⟨g, i * 4 + 3, none⟩ = some (.bool P[i].ok) := hc _ _ (by rw [hrow 3 hlt (by omega)]; rfl)
    have HE : Hid ((letB P i || (false && digB P i)) = ((P[i].ok && (letterB P[i].r || (decide (65 ≤ (P[i].r : Int)) && decide ((P[i].r : Int) ≤ 90)))) || (false && digitB P[i].r))) := by
      show _ = _; unfold letB digB; rw [List.getElem?_eq_getElem hlt]
    have HO : Hid (P[i].ok = true ∨ P[i].r = 65533) := by
      show _ ∨ _
      unfold Pt.ok
      by_cases e : P[i].r = 65533
      · exact .inr e
      · left; rw [Bool.or_eq_true]; left; exact bne_iff_ne.2 (by omega)
    have h3 : (i : Int) < (P.length : Int) := by omega
    have h4 : (0 : Int) ≤ (i : Int) := by omega
    have hd : decide ((P.length : Int) ≤ (i : Int)) = false := decide_eq_false (by omega)
    have lg := cell_lt c3
    have lb := cell_lt c1
    clear hc h2 c0 h hrow
    generalize P[i] = q at *
    have hL := fun w => rletter_any q w _ rfl
    obtain ⟨ok, hok⟩ : ∃ ok, q.ok = ok := ⟨_, rfl⟩
    obtain ⟨r, hr⟩ : ∃ r : Nat, q.r = r := ⟨_, rfl⟩
    rw [hok, hr] at HE HO hL
    rw [hok] at c6
    rw [hr] at c3
    clear hok hr
    cases hq : (letterB r && ok)
    · have hq2 : ∀ x y : Bool, ((ok && (letterB r || x)) || y) = ((ok && x) || y) := by intro x y; revert hq; cases letterB r <;> cases ok <;> simp
      rw [hq2] at HE
      have HE2 : Hid (((65 ≤ (r : Int) ∧ (r : Int) ≤ 90) → ok = true)) := fun h => HO.out.resolve_right (by omega)
      rw [hq] at hL
      go_enter Tryd.func68, Tryd.ntmps68
      go_wp2_with fail
      go_quiet (fail)
      have k1 := HR.out _ (below_drewN (Below.refl _ _) nq)
      have d1 : (wr.drewN nq).cell? ⟨b, 1, none⟩ = some (.slice (some ⟨g, 0, none⟩) P.length cap) := c1
      have d2 : (wr.drewN nq).cell? ⟨b, 2, none⟩ = some (.int .i64 i) := c2
      have d3 : (wr.drewN nq).cell? ⟨g, i * 4, none⟩ = some (.int .i32 r) := c3
      have d4 : (wr.drewN nq).cell? ⟨g, i * 4 + 1, none⟩ = some (.int .i64 q.at_) := c4
      have d5 : (wr.drewN nq).cell? ⟨g, i * 4 + 2, none⟩ = some (.int .i64 q.n) := c5
      have d6 : (wr.drewN nq).cell? ⟨g, i * 4 + 3, none⟩ = some (.bool ok) := c6
      have lg' : g < (wr.drewN nq).heap.size := lg
      have lb' : b < (wr.drewN nq).heap.size := lb
      clear c1 c2 c3 c4 c5 c6 lg lb HR
      generalize wr.drewN nq = w1 at *
      go_wp2_with fail
      go_region
      have hblk : ((w1.alloc (.cells #[.int .i32 r, .int .i64 q.at_, .int .i64 q.n, .bool ok] 94)).drew).heap[w1.heap.size]? = _ := blk_new w1 _
      have k2 : RG L w ((w1.alloc (.cells #[.int .i32 r, .int .i64 q.at_, .int .i64 q.n, .bool ok] 94)).drew) b s P i := (k1.alloc _).drew 1
      generalize ((w1.alloc (.cells #[.int .i32 r, .int .i64 q.at_, .int .i64 q.n, .bool ok] 94)).drew) = w2 at *
      clear d1 d2 d3 d4 d5 d6 lg' lb' k1
      obtain ⟨x0, x1, x2, x3, _, _, _, _⟩ := tok_cells hblk
      go_wp2_with (go_at_call 57; refine (hL _).mono ?_; rintro e w3 ⟨rfl, hb3⟩; obtain ⟨y0, y1, y2, y3, _, _, _, _⟩ := tok_cells (blk_below hblk hb3 (blk_lt hblk)); replace k2 := k2.below hb3)
      all_goals go_ret
      all_goals refine ⟨ret_bool ?_, k2⟩
      all_goals
        have h := HE.out
        try simp only [Bool.true_and, Bool.false_and, Bool.or_false] at h ⊢
        have h2 := HE2.out
        rw [h]
        cases ok <;> (rw [Bool.eq_iff_iff]; simp [digitB] at h2 ⊢; try omega)
    · have hq2 : ∀ x y : Bool, ((ok && (letterB r || x)) || y) = true := by intro x y; revert hq; cases letterB r <;> cases ok <;> simp
      rw [hq2] at HE
      rw [hq] at hL
      go_enter Tryd.func68, Tryd.ntmps68
      go_wp2_with fail
      go_quiet (fail)
      have k1 := HR.out _ (below_drewN (Below.refl _ _) nq)
      have d1 : (wr.drewN nq).cell? ⟨b, 1, none⟩ = some (.slice (some ⟨g, 0, none⟩) P.length cap) := c1
      have d2 : (wr.drewN nq).cell? ⟨b, 2, none⟩ = some (.int .i64 i) := c2
      have d3 : (wr.drewN nq).cell? ⟨g, i * 4, none⟩ = some (.int .i32 r) := c3
      have d4 : (wr.drewN nq).cell? ⟨g, i * 4 + 1, none⟩ = some (.int .i64 q.at_) := c4
      have d5 : (wr.drewN nq).cell? ⟨g, i * 4 + 2, none⟩ = some (.int .i64 q.n) := c5
      have d6 : (wr.drewN nq).cell? ⟨g, i * 4 + 3, none⟩ = some (.bool ok) := c6
      have lg' : g < (wr.drewN nq).heap.size := lg
      have lb' : b < (wr.drewN nq).heap.size := lb
      clear c1 c2 c3 c4 c5 c6 lg lb HR
      generalize wr.drewN nq = w1 at *
      go_wp2_with fail
      go_region
      have hblk : ((w1.alloc (.cells #[.int .i32 r, .int .i64 q.at_, .int .i64 q.n, .bool ok] 94)).drew).heap[w1.heap.size]? = _ := blk_new w1 _
      have k2 : RG L w ((w1.alloc (.cells #[.int .i32 r, .int .i64 q.at_, .int .i64 q.n, .bool ok] 94)).drew) b s P i := (k1.alloc _).drew 1
      generalize ((w1.alloc (.cells #[.int .i32 r, .int .i64 q.at_, .int .i64 q.n, .bool ok] 94)).drew) = w2 at *
      clear d1 d2 d3 d4 d5 d6 lg' lb' k1
      obtain ⟨x0, x1, x2, x3, _, _, _, _⟩ := tok_cells hblk
      go_wp2_with (go_at_call 57; refine (hL _).mono ?_; rintro e w3 ⟨rfl, hb3⟩; obtain ⟨y0, y1, y2, y3, _, _, _, _⟩ := tok_cells (blk_below hblk hb3 (blk_lt hblk)); replace k2 := k2.below hb3)
      all_goals go_ret
      all_goals refine ⟨ret_bool ?_, k2⟩
      all_goals
        have h := HE.out
        try simp only [Bool.true_and, Bool.false_and, Bool.or_false] at h ⊢
        rw [h]
  · have HE : Hid ((letB P i || (false && digB P i)) = false) := by show _ = _; unfold letB digB; rw [List.getElem?_eq_none (by omega)]; simp
    have hd : decide ((P.length : Int) ≤ (i : Int)) = true := decide_eq_true (by omega)
    clear h2 c0 h
    go_enter Tryd.func68, Tryd.ntmps68
    go_wp2_with fail
    go_quiet (fail)
    go_wp2_with fail
    go_ret
    exact ⟨ret_bool (by rw [HE.out]), HR.out _ (below_drewN (Below.refl _ _) _)⟩

set_option maxRecDepth 100000 in
set_option maxHeartbeats 400000 in
theorem rfrom_any {L : Nat} {w : World} (wr : World) (b : Nat) (s : ByteArray) (P : List Pt) (i k : Nat) (h : RG L w wr b s P k) (hi : i < P.length) (hik : i ≤ k) (hOK : PtsOK s P) (hs : s.size ≤ 1000000) :
    Calls Tryd.prog 78 #[.pointer (some ⟨b, 0, none⟩), .int .i64 i] wr fun e w' => e = .returned (.string (s.extract (byteAt s P i) (byteAt s P k))) ∧ RG L w w' b s P k := by
  obtain ⟨a, cap, c0, c1, c2, _, h2⟩ := h.1.cells
  obtain ⟨g, rfl, hc⟩ := h2 (by omega)
  have c3 : wr.cell? ⟨g, i * 4 + 1, none⟩ = some (.int .i64 P[i].at_) := hc _ _ (by rw [flatP_at P i 1 hi (by omega)]; rfl)
  have e1 : byteAt s P i = P[i].at_ := by unfold byteAt; rw [List.getElem?_eq_getElem hi]
  have HR := Lib.hid (fun (w' : World) (hb : Below wr.heap.size wr w') => h.below hb)
  have hm := hOK.2.1 i k hik
  have hl := hOK.2.2 k
  have h4 : (0 : Int) ≤ (i : Int) := by omega
  have h5 : (i : Int) < (P.length : Int) := by omega
  by_cases hlt : k < P.length
  · have c4 : wr.cell? ⟨g, k * 4 + 1, none⟩ = some (.int .i64 P[k].at_) := hc _ _ (by rw [flatP_at P k 1 hlt (by omega)]; rfl)
    have e2 : byteAt s P k = P[k].at_ := by unfold byteAt; rw [List.getElem?_eq_getElem hlt]
    have h3 : (k : Int) < (P.length : Int) := by omega
    have h6 : (0 : Int) ≤ (k : Int) := by omega
    have hd : decide ((k : Int) < (P.length : Int)) = true := decide_eq_true (by omega)
    clear h2 hc h hOK
    rw [e1, e2] at hm ⊢
    rw [e2] at hl
    clear e1 e2
    generalize P[i] = p at *
    generalize P[k] = q at *
    obtain ⟨x, hx⟩ : ∃ x, p.at_ = x := ⟨_, rfl⟩
    obtain ⟨y, hy⟩ : ∃ y, q.at_ = y := ⟨_, rfl⟩
    rw [hx] at hm c3 ⊢
    rw [hy] at hm hl c4 ⊢
    clear hx hy
    have h7 : (x : Int) ≤ (y : Int) := by omega
    have h8 : (y : Int) ≤ (s.size : Int) := by omega
    have h9 : (0 : Int) ≤ (x : Int) := by omega
    go_enter Tryd.func78, Tryd.ntmps78
    go_wp2_with fail
    go_quiet (fail)
    go_wp2_with fail
    go_quiet (fail)
    go_wp2_with fail
    go_quiet (fail)
    go_wp2_with fail
    go_ret
    exact ⟨rfl, HR.out _ (below_drewN (below_drewN (below_drewN (Below.refl _ _) _) _) _)⟩
  · have e2 : byteAt s P k = s.size := by unfold byteAt; rw [List.getElem?_eq_none (by omega)]
    have hd : decide ((k : Int) < (P.length : Int)) = false := decide_eq_false (by omega)
    clear h2 hc h hOK
    rw [e1, e2] at hm ⊢
    clear e1 e2
    generalize P[i] = p at *
    obtain ⟨x, hx⟩ : ∃ x, p.at_ = x := ⟨_, rfl⟩
    rw [hx] at hm c3 ⊢
    clear hx
    have h7 : (x : Int) ≤ (s.size : Int) := by omega
    have h9 : (0 : Int) ≤ (x : Int) := by omega
    go_enter Tryd.func78, Tryd.ntmps78
    go_wp2_with fail
    go_quiet (fail)
    go_wp2_with fail
    go_quiet (fail)
    go_wp2_with fail
    go_ret
    exact ⟨rfl, HR.out _ (below_drewN (below_drewN (Below.refl _ _) _) _)⟩

end Go.Proofs.YtljoenpgokhekaaDoor
