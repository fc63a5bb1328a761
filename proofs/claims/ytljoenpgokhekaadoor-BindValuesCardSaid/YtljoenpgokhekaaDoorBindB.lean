/- Walks: bind.in, bind.of, bind.Value, bind.Term; the reference's Value, Term. -/
import Derived.Test.YtljoenpgokhekaaDoorBindA
import Derived.Test.YtljoenpgokhekaaDoorRefC
import Derived.Test.YtljoenpgokhekaaDoorRunesB
namespace Go.Proofs.YtljoenpgokhekaaDoor
open Go.RowKit
open Cle

def inB (n : Int) : Bool := decide (-1099511627776 ≤ n) && decide (n ≤ 1099511627776)
def txtB (s : ByteArray) : Bool := decide (s.size ≤ 100) && valid s
def ofV (ty : Int) (s : ByteArray) (n : Int) : Value := if ty = 1 ∧ txtB s = true then .iface 62 (.string s) else if ty = 2 ∧ inB n = true then .iface 64 (.int .i64 n) else .nilIface

theorem in_any (n : Int) (w : World) :
    Calls Tryd.prog 58 #[.int .i64 n] w fun e w' => e = .returned (.bool (inB n)) ∧ w' = w := by
  go_enter Tryd.func58, Tryd.ntmps58
  go_wp2_with fail
  all_goals go_ret
  all_goals exact ⟨ret_bool (by unfold inB; rw [Bool.eq_iff_iff]; simp; try omega), rfl⟩

theorem new3 {w w1 : World} {a b c : Value} {T : TypeId} (hb : Below (w.alloc (.cells #[a, b, c] T)).heap.size (w.alloc (.cells #[a, b, c] T)) w1) :
    w1.cell? ⟨w.heap.size, 0, none⟩ = some a ∧ w1.cell? ⟨w.heap.size, 1, none⟩ = some b ∧ w1.cell? ⟨w.heap.size, 2, none⟩ = some c ∧ Below w.heap.size w w1 := by
  have h := blk_below (blk_new w (.cells #[a, b, c] T)) hb (by simp)
  exact ⟨by rw [blk_cell h]; rfl, by rw [blk_cell h]; rfl, by rw [blk_cell h]; rfl, ((Below.refl _ _).alloc (Nat.le_refl _) _).trans (hb.mono (by simp))⟩

set_option maxRecDepth 100000 in
set_option maxHeartbeats 400000 in
theorem of_any (ty : Int) (s : ByteArray) (n : Int) (w : World) (hG : Glob w) (hs : s.size ≤ 1000000) :
    Calls Tryd.prog 40 #[.agg #[.int .i64 ty, .string s, .int .i64 n]] w fun e w' => e = .returned (ofV ty s n) ∧ Below w.heap.size w w' := by
  have hV := fun w1 h => valid_any s w1 h hs
  have hG1 := Lib.hid (fun (w1 : World) (h : Below w.heap.size w w1) => hG.below h)
  have hI := in_any n
  clear hG
  by_cases h1 : ty = 1
  · subst h1
    clear hI
    by_cases h2 : (s.size : Int) ≤ 100
    · cases h3 : valid s
      · have HE : Hid (ofV 1 s n = .nilIface) := by show _ = _; unfold ofV txtB; rw [h3]; simp
        rw [h3] at hV
        clear h3
        go_enter Tryd.func40, Tryd.ntmps40
        go_wp2_with (go_at_call 32; refine (hV _ (hG1.out _ ((Below.refl _ _).alloc (Nat.le_refl _) _))).mono ?_; rintro e w1 ⟨rfl, hb1⟩; obtain ⟨c0, c1, c2, hb2⟩ := new3 hb1)
        go_ret
        exact ⟨by rw [HE.out]; rfl, hb2⟩
      · have HE : Hid (ofV 1 s n = .iface 62 (.string s)) := by show _ = _; unfold ofV txtB; rw [h3, if_pos ⟨rfl, by simp; omega⟩]
        rw [h3] at hV
        clear h3
        go_enter Tryd.func40, Tryd.ntmps40
        go_wp2_with (go_at_call 32; refine (hV _ (hG1.out _ ((Below.refl _ _).alloc (Nat.le_refl _) _))).mono ?_; rintro e w1 ⟨rfl, hb1⟩; obtain ⟨c0, c1, c2, hb2⟩ := new3 hb1)
        go_ret
        exact ⟨by rw [HE.out]; rfl, hb2⟩
    · have HE : Hid (ofV 1 s n = .nilIface) := by show _ = _; unfold ofV txtB; rw [if_neg (by simp; omega), if_neg (by simp)]
      go_enter Tryd.func40, Tryd.ntmps40
      go_wp2_with fail
      go_ret
      exact ⟨by rw [HE.out]; rfl, (Below.refl _ _).alloc (Nat.le_refl _) _⟩
  · have h1d : (ty == 1) = false := beq_eq_false_iff_ne.2 h1
    clear hV
    by_cases h2 : ty = 2
    · subst h2
      cases h3 : inB n
      · have HE : Hid (ofV 2 s n = .nilIface) := by show _ = _; unfold ofV; rw [h3]; simp
        rw [h3] at hI
        clear h3
        go_enter Tryd.func40, Tryd.ntmps40
        go_wp2_with (go_at_call 58; refine (hI _).mono ?_; rintro e w1 ⟨rfl, rfl⟩)
        go_ret
        exact ⟨by rw [HE.out]; rfl, (Below.refl _ _).alloc (Nat.le_refl _) _⟩
      · have HE : Hid (ofV 2 s n = .iface 64 (.int .i64 n)) := by show _ = _; unfold ofV; rw [h3]; simp
        rw [h3] at hI
        clear h3
        go_enter Tryd.func40, Tryd.ntmps40
        go_wp2_with (go_at_call 58; refine (hI _).mono ?_; rintro e w1 ⟨rfl, rfl⟩)
        go_ret
        exact ⟨by rw [HE.out]; rfl, (Below.refl _ _).alloc (Nat.le_refl _) _⟩
    · have HE : Hid (ofV ty s n = .nilIface) := by show _ = _; unfold ofV; rw [if_neg (fun h => h1 h.1), if_neg (fun h => h2 h.1)]
      have h2d : (ty == 2) = false := beq_eq_false_iff_ne.2 h2
      go_enter Tryd.func40, Tryd.ntmps40
      go_wp2_with fail
      go_ret
      exact ⟨by rw [HE.out]; rfl, (Below.refl _ _).alloc (Nat.le_refl _) _⟩

def valF (cty ty : Int) (s : ByteArray) (n : Int) : ByteArray × Bool := if ty = 1 ∧ txtB s = true then (if cty = 1 then (s, true) else (⟨#[]⟩, false)) else if ty = 2 ∧ inB n = true then (if cty = 2 then (enc8 n, true) else (⟨#[]⟩, false)) else (⟨#[]⟩, false)
theorem new2 {w w1 : World} {a b : Value} {T : TypeId} (hb : Below (w.alloc (.cells #[a, b] T)).heap.size (w.alloc (.cells #[a, b] T)) w1) :
    w1.cell? ⟨w.heap.size, 0, none⟩ = some a ∧ w1.cell? ⟨w.heap.size, 1, none⟩ = some b ∧ Below w.heap.size w w1 := by
  have h := blk_below (blk_new w (.cells #[a, b] T)) hb (by simp)
  exact ⟨by rw [blk_cell h]; rfl, by rw [blk_cell h]; rfl, ((Below.refl _ _).alloc (Nat.le_refl _) _).trans (hb.mono (by simp))⟩
theorem new23 {w w1 : World} {a b x y z : Value} {T U : TypeId} (hb : Below ((w.alloc (.cells #[a, b] T)).alloc (.cells #[x, y, z] U)).heap.size ((w.alloc (.cells #[a, b] T)).alloc (.cells #[x, y, z] U)) w1) :
    w1.cell? ⟨w.heap.size, 0, none⟩ = some a ∧ w1.cell? ⟨w.heap.size, 1, none⟩ = some b ∧ Below w.heap.size w w1 := by
  obtain ⟨_, _, _, h⟩ := new3 hb
  exact new2 h
theorem ta_tt (s : ByteArray) (w : World) : (Instr.typeAssert (.iface 62 (.string s)) 20 62 true).run Tryd.prog w = .ok (.tuple #[.string s, .bool true]) w := by kernel_rfl
theorem ta_tw (s : ByteArray) (w : World) : (Instr.typeAssert (.iface 62 (.string s)) 20 64 true).run Tryd.prog w = .ok (.tuple #[.int .i64 0, .bool false]) w := by kernel_rfl
theorem ta_wt (n : Int) (w : World) : (Instr.typeAssert (.iface 64 (.int .i64 n)) 20 62 true).run Tryd.prog w = .ok (.tuple #[.string ⟨#[]⟩, .bool false]) w := by kernel_rfl
theorem ta_ww (n : Int) (w : World) : (Instr.typeAssert (.iface 64 (.int .i64 n)) 20 64 true).run Tryd.prog w = .ok (.tuple #[.int .i64 n, .bool true]) w := by kernel_rfl
theorem ta_nt (w : World) : (Instr.typeAssert (.nilIface) 20 62 true).run Tryd.prog w = .ok (.tuple #[.string ⟨#[]⟩, .bool false]) w := by kernel_rfl
theorem ta_nw (w : World) : (Instr.typeAssert (.nilIface) 20 64 true).run Tryd.prog w = .ok (.tuple #[.int .i64 0, .bool false]) w := by kernel_rfl
set_option maxRecDepth 100000 in
set_option maxHeartbeats 400000 in
theorem bval_any (nm : ByteArray) (cty ty : Int) (s : ByteArray) (n : Int) (w : World) (hG : Glob w) (hs : s.size ≤ 1000000) :
    Calls Tryd.prog 15 #[.agg #[.string nm, .int .i64 cty], .agg #[.int .i64 ty, .string s, .int .i64 n]] w fun e w' => e = .returned (.tuple #[.string (valF cty ty s n).1, .bool (valF cty ty s n).2]) ∧ Below w.heap.size w w' := by
  have ho := of_any ty s n _ (hG.below (((Below.refl w.heap.size w).alloc (Nat.le_refl _) (.cells #[.string nm, .int .i64 cty] 26)).alloc (by simp) (.cells #[.int .i64 ty, .string s, .int .i64 n] 23))) hs
  have hI := fun w => int_any n w
  have q1 := ta_tt s; have q2 := ta_tw s; have q3 := ta_wt n; have q4 := ta_ww n; have q5 := ta_nt; have q6 := ta_nw
  clear hG
  by_cases h1 : ty = 1 ∧ txtB s = true
  · have HV : Hid (valF cty ty s n = if cty = 1 then (s, true) else (⟨#[]⟩, false)) := by show _ = _; unfold valF; rw [if_pos h1]
    rw [show ofV ty s n = .iface 62 (.string s) from if_pos h1] at ho
    clear h1
    by_cases h2 : cty = 1
    · subst h2
      have HE : Hid (valF 1 ty s n = (s, true)) := by show _ = _; rw [HV.out]; rfl
      clear HV hI
      go_enter Tryd.func15, Tryd.ntmps15
      go_wp2_with (first | (go_at_call 40; refine ho.mono ?_; rintro e w1 ⟨rfl, hb1⟩; obtain ⟨c0, c1, hb2⟩ := new23 hb1))
      go_ret2
      exact ⟨by rw [HE.out]; rfl, hb2⟩
    · have h2d : (cty == 1) = false := beq_eq_false_iff_ne.2 h2
      have HE : Hid (valF cty ty s n = (⟨#[]⟩, false)) := by show _ = _; rw [HV.out, if_neg h2]
      clear HV hI h2
      go_enter Tryd.func15, Tryd.ntmps15
      go_wp2_with (first | (go_at_call 40; refine ho.mono ?_; rintro e w1 ⟨rfl, hb1⟩; obtain ⟨c0, c1, hb2⟩ := new23 hb1))
      go_ret2
      exact ⟨by rw [HE.out]; rfl, hb2⟩
  · by_cases h3 : ty = 2 ∧ inB n = true
    · have HV : Hid (valF cty ty s n = if cty = 2 then (enc8 n, true) else (⟨#[]⟩, false)) := by show _ = _; unfold valF; rw [if_neg h1, if_pos h3]
      rw [show ofV ty s n = .iface 64 (.int .i64 n) from by unfold ofV; rw [if_neg h1, if_pos h3]] at ho
      clear h1 h3
      by_cases h2 : cty = 2
      · subst h2
        have HE : Hid (valF 2 ty s n = (enc8 n, true)) := by show _ = _; rw [HV.out]; rfl
        clear HV
        go_enter Tryd.func15, Tryd.ntmps15
        go_wp2_with (first | (go_at_call 40; refine ho.mono ?_; rintro e w1 ⟨rfl, hb1⟩; obtain ⟨c0, c1, hb2⟩ := new23 hb1) | (go_at_call 41; refine (hI _).mono ?_; rintro e w3 ⟨rfl, hb3⟩))
        go_ret2
        exact ⟨by rw [HE.out]; rfl, hb2.trans (hb3.mono hb2.size)⟩
      · have h2d : (cty == 2) = false := beq_eq_false_iff_ne.2 h2
        have HE : Hid (valF cty ty s n = (⟨#[]⟩, false)) := by show _ = _; rw [HV.out, if_neg h2]
        clear HV hI h2
        go_enter Tryd.func15, Tryd.ntmps15
        go_wp2_with (first | (go_at_call 40; refine ho.mono ?_; rintro e w1 ⟨rfl, hb1⟩; obtain ⟨c0, c1, hb2⟩ := new23 hb1))
        go_ret2
        exact ⟨by rw [HE.out]; rfl, hb2⟩
    · have HE : Hid (valF cty ty s n = (⟨#[]⟩, false)) := by show _ = _; unfold valF; rw [if_neg h1, if_neg h3]
      rw [show ofV ty s n = .nilIface from by unfold ofV; rw [if_neg h1, if_neg h3]] at ho
      clear h1 h3 hI
      go_enter Tryd.func15, Tryd.ntmps15
      go_wp2_with (first | (go_at_call 40; refine ho.mono ?_; rintro e w1 ⟨rfl, hb1⟩; obtain ⟨c0, c1, hb2⟩ := new23 hb1))
      go_ret2
      exact ⟨by rw [HE.out]; rfl, hb2⟩

end Go.Proofs.YtljoenpgokhekaaDoor
