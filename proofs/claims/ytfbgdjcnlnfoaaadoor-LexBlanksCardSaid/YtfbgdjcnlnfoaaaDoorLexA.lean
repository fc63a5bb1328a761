/- Walks: lex's scanner: what its methods read. -/
import Derived.Test.YtfbgdjcnlnfoaaaDoorRunesC
import Derived.Test.YtfbgdjcnlnfoaaaDoorKitB
import Derived.Test.YtfbgdjcnlnfoaaaDoorPlainL
import Derived.Deep.QuietTactic
import Derived.BigQuiet
import Derived.Deep.RegionHeld3
namespace Go.Proofs.YtfbgdjcnlnfoaaaDoor
open Go.RowKit
open Cle

/-- A text under way: its block holds the text, its code points, the next one; all of it lies below L. -/
def Scn (T : TypeId) (flat : List Pt → List Value) (L : Nat) (w : World) (b : Nat) (s : ByteArray) (P : List Pt) (i : Nat) : Prop :=
  L ≤ w.heap.size ∧ b < L ∧ ∃ a cap, w.heap[b]? = some (.cells #[.string s, .slice a P.length cap, .int .i64 i] T (0, 0)) ∧
    (0 < P.length → ∃ g, a = some ⟨g, 0, none⟩ ∧ g ≠ b ∧ g < L ∧ ∀ j u, (flat P)[j]? = some u → w.cell? ⟨g, j, none⟩ = some u)

section
variable {T : TypeId} {flat : List Pt → List Value} {L : Nat} {w w' : World} {b : Nat} {s : ByteArray} {P : List Pt} {i : Nat}
theorem Scn.heap (h : Scn T flat L w b s P i) (hh : w'.heap = w.heap) : Scn T flat L w' b s P i := by
  obtain ⟨h0, h0', a, cap, h1, h2⟩ := h
  refine ⟨by rw [hh]; exact h0, h0', a, cap, by rw [hh]; exact h1, fun hp => ?_⟩
  obtain ⟨g, e1, e2, e3, e4⟩ := h2 hp
  refine ⟨g, e1, e2, e3, fun j u hj => ?_⟩
  rw [← e4 j u hj]
  unfold World.cell?
  rw [hh]
/-- What lies below L is as it was. -/
theorem Scn.keep (h : Scn T flat L w b s P i) (hs : w.heap.size ≤ w'.heap.size) (hb : ∀ k, k < L → w'.heap[k]? = w.heap[k]?) : Scn T flat L w' b s P i := by
  obtain ⟨h0, h0', a, cap, h1, h2⟩ := h
  refine ⟨Nat.le_trans h0 hs, h0', a, cap, by rw [hb b h0']; exact h1, fun hp => ?_⟩
  obtain ⟨g, e1, e2, e3, e4⟩ := h2 hp
  refine ⟨g, e1, e2, e3, fun j u hj => ?_⟩
  rw [← e4 j u hj]
  unfold World.cell?
  rw [hb g e3]
/-- Elsewhere memory may have been made, other blocks than these be as they were. -/
theorem Scn.below (h : Scn T flat L w b s P i) (hb : Below w.heap.size w w') : Scn T flat L w' b s P i :=
  h.keep hb.size (fun k hk => hb.block k (Nat.lt_of_lt_of_le hk h.1))
theorem Scn.lt (h : Scn T flat L w b s P i) : b < w.heap.size := Nat.lt_of_lt_of_le h.2.1 h.1
theorem Scn.le (h : Scn T flat L w b s P i) : L ≤ w.heap.size := h.1
/-- The next one set. -/
theorem Scn.set (h : Scn T flat L w b s P i) (j : Nat) : Scn T flat L (w.setCell ⟨b, 2, none⟩ (.int .i64 j)) b s P j := by
  obtain ⟨h0, h0', a, cap, h1, h2⟩ := h
  refine ⟨by simpa [World.setCell] using h0, h0', a, cap, blk_set h1 2 _, fun hp => ?_⟩
  obtain ⟨g, e1, e2, e3, e4⟩ := h2 hp
  refine ⟨g, e1, e2, e3, fun k u hj => ?_⟩
  rw [← e4 k u hj]
  unfold World.cell?
  rw [Below.heap_setCell _ _ _ _ e2]
/-- Another block written. -/
theorem Scn.setOther (h : Scn T flat L w b s P i) {g : Nat} (hg : L ≤ g) (o : Nat) (u : Value) : Scn T flat L (w.setCell ⟨g, o, none⟩ u) b s P i :=
  h.keep (by simp [World.setCell]) (fun k hk => Below.heap_setCell _ _ _ _ (by show k ≠ g; omega))
end

/-- Another block set, or one made. -/
theorem gb_trans {a b c : World} {r : Option Nat} (h : a.grownBy b r) (k : b.grownBy c r) : a.grownBy c r :=
  ⟨k.os.trans h.os, k.tape.trans h.tape, k.output.trans h.output, Nat.le_trans h.size k.size, fun i hi hr => (k.block i (Nat.lt_of_lt_of_le hi h.size) hr).trans (h.block i hi hr)⟩
theorem gb_refl (a : World) (r : Option Nat) : a.grownBy a r := ⟨rfl, rfl, rfl, Nat.le_refl _, fun _ _ _ => rfl⟩
theorem gb_drewN (a : World) (n : Nat) (r : Option Nat) : a.grownBy (a.drewN n) r := ⟨rfl, rfl, rfl, Nat.le_refl _, fun _ _ _ => rfl⟩
theorem gb_below {a b : World} (h : Below a.heap.size a b) (r : Option Nat) : a.grownBy b r := ⟨h.os, h.tape, h.output, h.size, fun i hi _ => h.block i hi⟩
theorem gb_set (a : World) (b : Nat) (o : Nat) (u : Value) : a.grownBy (a.setCell ⟨b, o, none⟩ u) (some b) :=
  ⟨rfl, rfl, rfl, by simp [World.setCell], fun i _ hr => Below.heap_setCell _ _ _ _ (fun e => hr (by rw [e]))⟩
theorem gb_to_below {a b : World} {B k : Nat} (h : a.grownBy b (some k)) (hB : B ≤ k) (hs : B ≤ a.heap.size) : Below B a b :=
  ⟨h.os, h.tape, h.output, h.size, fun i hi => h.block i (by omega) (fun e => by cases e; omega)⟩

def pntCells (p : Pt) : List Value := [.int .i32 p.r, .int .i64 p.at_, .bool p.ok]
def flatQ (l : List Pt) : List Value := l.flatMap pntCells
theorem flatQ_snoc (l : List Pt) (p : Pt) : flatQ l ++ pntCells p = flatQ (l ++ [p]) := by simp [flatQ]
theorem flatQ_at : ∀ (l : List Pt) (k j : Nat) (h : k < l.length) (_ : j < 3), (flatQ l)[k * 3 + j]? = (pntCells l[k])[j]?
  | p :: l, 0, j, _, hj => by
    simp only [flatQ, List.flatMap_cons, Nat.zero_mul, Nat.zero_add, List.getElem_cons_zero]
    rw [List.getElem?_append_left (by simp [pntCells]; omega)]
  | p :: l, k + 1, j, h, hj => by
    have := flatQ_at l k j (by simp at h; omega) hj
    simp only [flatQ, List.flatMap_cons, List.getElem_cons_succ] at this ⊢
    rw [List.getElem?_append_right (by simp [pntCells]; omega)]
    have e : (k + 1) * 3 + j - (pntCells p).length = k * 3 + j := by simp [pntCells]; omega
    rw [e]; exact this

abbrev SQ := Scn 36 flatQ

set_option maxHeartbeats 400000 in
theorem end_any {L : Nat} (w : World) (b : Nat) (s : ByteArray) (P : List Pt) (i : Nat) (h : SQ L w b s P i) :
    Calls Tryd.prog 9 #[.pointer (some ⟨b, 0, none⟩)] w fun e w' => e = .returned (.bool (decide (P.length ≤ i))) ∧ ∃ m, w' = w.drewN m := by
  obtain ⟨_, _, a, cap, h1, _⟩ := h
  have c1 : w.cell? ⟨b, 1, none⟩ = some (.slice a P.length cap) := by rw [blk_cell h1]; rfl
  have c2 : w.cell? ⟨b, 2, none⟩ = some (.int .i64 i) := by rw [blk_cell h1]; rfl
  clear h1
  go_enter Tryd.func9, Tryd.ntmps9
  go_wp2_with fail
  go_quiet (fail)
  go_wp2_with fail
  go_ret
  exact ⟨ret_bool (by simp), _, rfl⟩

theorem end_b {L : Nat} (w : World) (b : Nat) (s : ByteArray) (P : List Pt) (i : Nat) (h : SQ L w b s P i) (v : Bool) (hv : decide (P.length ≤ i) = v) :
    Calls Tryd.prog 9 #[.pointer (some ⟨b, 0, none⟩)] w fun e w' => e = .returned (.bool v) ∧ ∃ m, w' = w.drewN m := by
  rw [← hv]; exact end_any w b s P i h

/-- The cells that a scanner's reads want. -/
theorem Scn.cells {T : TypeId} {flat : List Pt → List Value} {L : Nat} {w : World} {b : Nat} {s : ByteArray} {P : List Pt} {i : Nat} (h : Scn T flat L w b s P i) :
    ∃ a cap, w.cell? ⟨b, 0, none⟩ = some (.string s) ∧ w.cell? ⟨b, 1, none⟩ = some (.slice a P.length cap) ∧ w.cell? ⟨b, 2, none⟩ = some (.int .i64 i) ∧ w.frozen? ⟨b, 2, none⟩ = false ∧
    (0 < P.length → ∃ g, a = some ⟨g, 0, none⟩ ∧ ∀ j u, (flat P)[j]? = some u → w.cell? ⟨g, j, none⟩ = some u) := by
  obtain ⟨_, _, a, cap, h1, h2⟩ := h
  refine ⟨a, cap, by rw [blk_cell h1]; rfl, by rw [blk_cell h1]; rfl, by rw [blk_cell h1]; rfl, blk_frozen0 h1 2, fun hp => ?_⟩
  obtain ⟨g, e1, _, _, e4⟩ := h2 hp
  exact ⟨g, e1, e4⟩

set_option maxHeartbeats 400000 in
theorem is_any {L : Nat} (w : World) (b : Nat) (s : ByteArray) (P : List Pt) (i more : Nat) (r : Int) (h : SQ L w b s P i) (hi : i ≤ 1000000) (hm : more ≤ 1) :
    Calls Tryd.prog 12 #[.pointer (some ⟨b, 0, none⟩), .int .i64 more, .int .i32 r] w fun e w' => e = .returned (.bool (isB P (i + more) r)) ∧ ∃ m, w' = w.drewN m := by
  obtain ⟨a, cap, c0, c1, c2, _, h2⟩ := h.cells
  have hw : IntKind.i64.wrap ((i : Int) + (more : Int)) = (i : Int) + (more : Int) := IntWalk.i64_in _ (by omega)
  have hn : ((i : Int) + (more : Int)).toNat = i + more := by omega
  have h0 : (0 : Int) ≤ (i : Int) + (more : Int) := by omega
  by_cases hlt : i + more < P.length
  · obtain ⟨g, rfl, hc⟩ := h2 (by omega)
    have c3 : w.cell? ⟨g, (i + more) * 3, none⟩ = some (.int .i32 P[i + more].r) := hc _ _ (by have := flatQ_at P (i + more) 0 hlt (by omega); rw [Nat.add_zero] at this; rw [this]; rfl)
    have HE : Hid (isB P (i + more) r = ((P[i + more].r : Int) == r)) := by show _ = _; unfold isB; rw [List.getElem?_eq_getElem hlt]
    have h3 : (i : Int) + (more : Int) < (P.length : Int) := by omega
    have hd : decide ((i : Int) + (more : Int) < (P.length : Int)) = true := decide_eq_true h3
    clear hc h2 c0
    generalize P[i + more] = q at *
    go_enter Tryd.func12, Tryd.ntmps12
    go_wp2_with fail
    go_quiet (fail)
    go_wp2_with fail
    go_ret
    exact ⟨ret_bool (by rw [HE.out]), _, rfl⟩
  · have HE : Hid (isB P (i + more) r = false) := by show _ = _; unfold isB; rw [List.getElem?_eq_none (by omega)]
    have hd : decide ((i : Int) + (more : Int) < (P.length : Int)) = false := decide_eq_false (by omega)
    clear h2 c0
    go_enter Tryd.func12, Tryd.ntmps12
    go_wp2_with fail
    go_quiet (fail)
    go_wp2_with fail
    go_ret
    exact ⟨ret_bool (by rw [HE.out]), _, rfl⟩

set_option maxHeartbeats 400000 in
theorem byteAt_any {L : Nat} (w : World) (b : Nat) (s : ByteArray) (P : List Pt) (i k : Nat) (h : SQ L w b s P i) :
    Calls Tryd.prog 19 #[.pointer (some ⟨b, 0, none⟩), .int .i64 k] w fun e w' => e = .returned (.int .i64 (byteAt s P k)) ∧ w' = w := by
  obtain ⟨a, cap, c0, c1, c2, _, h2⟩ := h.cells
  by_cases hlt : k < P.length
  · obtain ⟨g, rfl, hc⟩ := h2 (by omega)
    have c3 : w.cell? ⟨g, k * 3 + 1, none⟩ = some (.int .i64 P[k].at_) := hc _ _ (by rw [flatQ_at P k 1 hlt (by omega)]; rfl)
    have HE : Hid (byteAt s P k = P[k].at_) := by show _ = _; unfold byteAt; rw [List.getElem?_eq_getElem hlt]
    clear hc h2
    generalize P[k] = q at *
    go_enter Tryd.func19, Tryd.ntmps19
    go_wp2_with fail
    go_ret
    exact ⟨ret_int (by rw [HE.out]), rfl⟩
  · have HE : Hid (byteAt s P k = s.size) := by show _ = _; unfold byteAt; rw [List.getElem?_eq_none (by omega)]
    clear h2
    go_enter Tryd.func19, Tryd.ntmps19
    go_wp2_with fail
    go_ret
    exact ⟨ret_int (by rw [HE.out]), rfl⟩

set_option maxHeartbeats 800000 in
theorem let_any {L : Nat} (w : World) (b : Nat) (s : ByteArray) (P : List Pt) (i : Nat) (h : SQ L w b s P i) :
    Calls Tryd.prog 13 #[.pointer (some ⟨b, 0, none⟩)] w fun e w' => e = .returned (.bool (letB P i)) ∧ ∃ m, w' = w.drewN m := by
  obtain ⟨a, cap, c0, c1, c2, _, h2⟩ := h.cells
  by_cases hlt : i < P.length
  · obtain ⟨g, rfl, hc⟩ := h2 (by omega)
    have c3 : w.cell? ⟨g, i * 3 + 2, none⟩ = some (.bool P[i].ok) := hc _ _ (by rw [flatQ_at P i 2 hlt (by omega)]; rfl)
    have c4 : w.cell? ⟨g, i * 3, none⟩ = some (.int .i32 P[i].r) := hc _ _ (by have := flatQ_at P i 0 hlt (by omega); rw [Nat.add_zero] at this; rw [this]; rfl)
    have HE : Hid (letB P i = (P[i].ok && (letterB P[i].r || (decide (65 ≤ (P[i].r : Int)) && decide ((P[i].r : Int) ≤ 90))))) := by show _ = _; unfold letB; rw [List.getElem?_eq_getElem hlt]
    have he := Lib.hid (fun n => end_b (w.drewN n) b s P i (h.heap rfl) false (decide_eq_false (by omega)))
    have h3 : (i : Int) < (P.length : Int) := by omega
    have h4 : (0 : Int) ≤ (i : Int) := by omega
    clear hc h2 c0 h
    generalize P[i] = q at *
    obtain ⟨ok, hok⟩ : ∃ ok, q.ok = ok := ⟨_, rfl⟩
    obtain ⟨r, hr⟩ : ∃ r : Nat, q.r = r := ⟨_, rfl⟩
    rw [hok, hr] at HE
    rw [hok] at c3
    rw [hr] at c4
    clear hok hr
    cases ok
    · go_enter Tryd.func13, Tryd.ntmps13
      go_wp2_with fail
      go_quiet ((go_at_call 9; exact Calls.quiet_of (he.out _)))
      go_wp2_with fail
      go_ret
      exact ⟨ret_bool (by rw [HE.out]; rfl), _, rfl⟩
    · go_enter Tryd.func13, Tryd.ntmps13
      go_wp2_with fail
      go_quiet ((go_at_call 9; exact Calls.quiet_of (he.out _)))
      go_wp2_with fail
      go_quiet (fail)
      go_wp2_with fail
      all_goals go_ret
      all_goals refine ⟨ret_bool ?_, _, rfl⟩
      all_goals (rw [HE.out]; unfold letterB; rw [Bool.eq_iff_iff]; simp; try omega)
  · have HE : Hid (letB P i = false) := by show _ = _; unfold letB; rw [List.getElem?_eq_none (by omega)]
    have he := Lib.hid (fun n => end_b (w.drewN n) b s P i (h.heap rfl) true (decide_eq_true (by omega)))
    clear h2 c0 h
    go_enter Tryd.func13, Tryd.ntmps13
    go_wp2_with fail
    go_quiet ((go_at_call 9; exact Calls.quiet_of (he.out _)))
    go_wp2_with fail
    go_ret
    exact ⟨ret_bool (by rw [HE.out]), _, rfl⟩

set_option maxHeartbeats 800000 in
theorem dig_any {L : Nat} (w : World) (b : Nat) (s : ByteArray) (P : List Pt) (i : Nat) (h : SQ L w b s P i) :
    Calls Tryd.prog 15 #[.pointer (some ⟨b, 0, none⟩)] w fun e w' => e = .returned (.bool (digB P i)) ∧ ∃ m, w' = w.drewN m := by
  obtain ⟨a, cap, c0, c1, c2, _, h2⟩ := h.cells
  by_cases hlt : i < P.length
  · obtain ⟨g, rfl, hc⟩ := h2 (by omega)
    have c4 : w.cell? ⟨g, i * 3, none⟩ = some (.int .i32 P[i].r) := hc _ _ (by have := flatQ_at P i 0 hlt (by omega); rw [Nat.add_zero] at this; rw [this]; rfl)
    have HE : Hid (digB P i = digitB P[i].r) := by show _ = _; unfold digB; rw [List.getElem?_eq_getElem hlt]
    have he := Lib.hid (fun n => end_b (w.drewN n) b s P i (h.heap rfl) false (decide_eq_false (by omega)))
    have h3 : (i : Int) < (P.length : Int) := by omega
    have h4 : (0 : Int) ≤ (i : Int) := by omega
    clear hc h2 c0 h
    generalize P[i] = q at *
    obtain ⟨r, hr⟩ : ∃ r : Nat, q.r = r := ⟨_, rfl⟩
    rw [hr] at HE
    rw [hr] at c4
    clear hr
    by_cases h5 : 48 ≤ r
    · have h5d : decide ((48 : Int) ≤ (r : Int)) = true := decide_eq_true (by omega)
      go_enter Tryd.func15, Tryd.ntmps15
      go_wp2_with fail
      go_quiet ((go_at_call 9; exact Calls.quiet_of (he.out _)))
      go_wp2_with fail
      go_ret
      exact ⟨ret_bool (by rw [HE.out]; unfold digitB; rw [h5d]; simp), _, rfl⟩
    · have h5d : decide ((48 : Int) ≤ (r : Int)) = false := decide_eq_false (by omega)
      go_enter Tryd.func15, Tryd.ntmps15
      go_wp2_with fail
      go_quiet ((go_at_call 9; exact Calls.quiet_of (he.out _)))
      go_wp2_with fail
      go_ret
      exact ⟨ret_bool (by rw [HE.out]; unfold digitB; rw [h5d]; simp), _, rfl⟩
  · have HE : Hid (digB P i = false) := by show _ = _; unfold digB; rw [List.getElem?_eq_none (by omega)]
    have he := Lib.hid (fun n => end_b (w.drewN n) b s P i (h.heap rfl) true (decide_eq_true (by omega)))
    clear h2 c0 h
    go_enter Tryd.func15, Tryd.ntmps15
    go_wp2_with fail
    go_quiet ((go_at_call 9; exact Calls.quiet_of (he.out _)))
    go_wp2_with fail
    go_ret
    exact ⟨ret_bool (by rw [HE.out]), _, rfl⟩

end Go.Proofs.YtfbgdjcnlnfoaaaDoor
