/- Walks: the reference's Value, Term; bind.Term. -/
import Derived.Test.YtljoenpgokhekaaDoorBindB
namespace Go.Proofs.YtljoenpgokhekaaDoor
open Go.RowKit
open Cle

theorem w_size1 (w : World) (o : Obj) : (w.alloc o).heap.size = w.heap.size + 1 := by simp

set_option maxRecDepth 100000 in
set_option maxHeartbeats 400000 in
theorem rval_any (nm : ByteArray) (cty ty : Int) (s : ByteArray) (n : Int) (w : World) (hs : s.size ≤ 1000000) :
    Calls Tryd.prog 16 #[.agg #[.string nm, .int .i64 cty], .agg #[.int .i64 ty, .string s, .int .i64 n]] w fun e w' => e = .returned (.tuple #[.string (valF cty ty s n).1, .bool (valF cty ty s n).2]) ∧ Below w.heap.size w w' := by
  have hV := fun w => rvalid_any s w hs
  have hI := fun w => rint_any n w
  by_cases h0 : cty = ty
  · subst h0
    by_cases h1 : cty = 1
    · subst h1
      clear hI
      by_cases h2 : (100 : Int) < s.size
      · have HE : Hid (valF 1 1 s n = (⟨#[]⟩, false)) := by show _ = _; unfold valF txtB; rw [if_neg (by simp; omega), if_neg (by simp)]
        clear hV
        go_enter Tryd.func16, Tryd.ntmps16
        go_wp2_with fail
        go_ret2
        exact ⟨by rw [HE.out]; rfl, ((Below.refl _ _).alloc (Nat.le_refl _) _).alloc (by simp) _⟩
      · cases h3 : valid s
        · have HE : Hid (valF 1 1 s n = (⟨#[]⟩, false)) := by show _ = _; unfold valF txtB; rw [h3, if_neg (by simp), if_neg (by simp)]
          rw [h3] at hV
          clear h3
          go_enter Tryd.func16, Tryd.ntmps16
          go_wp2_with (go_at_call 35; refine (hV _).mono ?_; rintro e w1 ⟨rfl, hb1⟩; obtain ⟨c0, c1, hb2⟩ := new23 hb1; obtain ⟨d0, d1, d2, _⟩ := new3 hb1; rw [w_size1] at d0 d1 d2)
          go_ret2
          exact ⟨by rw [HE.out]; rfl, hb2⟩
        · have HE : Hid (valF 1 1 s n = (s, true)) := by show _ = _; unfold valF txtB; rw [h3, if_pos ⟨rfl, by simp; omega⟩]; rfl
          rw [h3] at hV
          clear h3
          go_enter Tryd.func16, Tryd.ntmps16
          go_wp2_with (go_at_call 35; refine (hV _).mono ?_; rintro e w1 ⟨rfl, hb1⟩; obtain ⟨c0, c1, hb2⟩ := new23 hb1; obtain ⟨d0, d1, d2, _⟩ := new3 hb1; rw [w_size1] at d0 d1 d2)
          go_ret2
          exact ⟨by rw [HE.out]; rfl, hb2⟩
    · have h1d : (cty == 1) = false := beq_eq_false_iff_ne.2 h1
      clear hV
      by_cases h2 : cty = 2
      · subst h2
        by_cases h3 : (-1099511627776 : Int) ≤ n
        · by_cases h4 : n ≤ (1099511627776 : Int)
          · have HE : Hid (valF 2 2 s n = (enc8 n, true)) := by show _ = _; unfold valF inB; rw [if_neg (by simp), if_pos ⟨rfl, by simp; omega⟩]; rfl
            go_enter Tryd.func16, Tryd.ntmps16
            go_wp2_with (go_at_call 42; refine (hI _).mono ?_; rintro e w1 ⟨rfl, hb1⟩; obtain ⟨c0, c1, hb2⟩ := new23 hb1)
            go_ret2
            exact ⟨by rw [HE.out]; rfl, hb2⟩
          · have HE : Hid (valF 2 2 s n = (⟨#[]⟩, false)) := by show _ = _; unfold valF inB; rw [if_neg (by simp), if_neg (by simp; omega)]
            clear hI
            go_enter Tryd.func16, Tryd.ntmps16
            go_wp2_with fail
            go_ret2
            exact ⟨by rw [HE.out]; rfl, ((Below.refl _ _).alloc (Nat.le_refl _) _).alloc (by simp) _⟩
        · have HE : Hid (valF 2 2 s n = (⟨#[]⟩, false)) := by show _ = _; unfold valF inB; rw [if_neg (by simp), if_neg (by simp; omega)]
          clear hI
          go_enter Tryd.func16, Tryd.ntmps16
          go_wp2_with fail
          go_ret2
          exact ⟨by rw [HE.out]; rfl, ((Below.refl _ _).alloc (Nat.le_refl _) _).alloc (by simp) _⟩
      · have HE : Hid (valF cty cty s n = (⟨#[]⟩, false)) := by show _ = _; unfold valF; rw [if_neg (fun h => h1 h.1), if_neg (fun h => h2 h.1)]
        have h2d : (cty == 2) = false := beq_eq_false_iff_ne.2 h2
        clear hI
        go_enter Tryd.func16, Tryd.ntmps16
        go_wp2_with fail
        go_ret2
        exact ⟨by rw [HE.out]; rfl, ((Below.refl _ _).alloc (Nat.le_refl _) _).alloc (by simp) _⟩
  · have HE : Hid (valF cty ty s n = (⟨#[]⟩, false)) := by
      show _ = _
      unfold valF
      split
      · rename_i h; rw [if_neg (by rw [← h.1]; exact h0)]
      · split
        · rename_i h; rw [if_neg (by rw [← h.1]; exact h0)]
        · rfl
    have h0d : (cty != ty) = true := bne_iff_ne.2 h0
    clear hI hV
    go_enter Tryd.func16, Tryd.ntmps16
    go_wp2_with fail
    go_ret2
    exact ⟨by rw [HE.out]; rfl, ((Below.refl _ _).alloc (Nat.le_refl _) _).alloc (by simp) _⟩

/-- What a term's bytes are. -/
def trmF (cty : Int) (s : ByteArray) : Int × ByteArray × Int × Bool :=
  if cty = 1 then (if txtB s = true then (1, s, 0, true) else (0, ⟨#[]⟩, 0, false))
  else if cty = 2 ∧ (dec8 s).isSome = true ∧ inB ((dec8 s).getD 0) = true then (2, ⟨#[]⟩, (dec8 s).getD 0, true) else (0, ⟨#[]⟩, 0, false)
def trmV (x : Int × ByteArray × Int × Bool) : Value := .tuple #[.agg #[.int .i64 x.1, .string x.2.1, .int .i64 x.2.2.1], .bool x.2.2.2]
/-- A result's cell set, and read. -/
theorem set3 {w : World} {k : Nat} {a b c : Value} {T : TypeId} (h : w.heap[k]? = some (.cells #[a, b, c] T (0, 0))) (x y z : Value) (W : World) (hW : W = ((w.setCell ⟨k, 0, none⟩ x).setCell ⟨k, 1, none⟩ y).setCell ⟨k, 2, none⟩ z) :
    W.cell? ⟨k, 0, none⟩ = some x ∧ W.cell? ⟨k, 1, none⟩ = some y ∧ W.cell? ⟨k, 2, none⟩ = some z ∧ ∀ B w0, B ≤ k → Below B w0 w → Below B w0 W := by
  subst hW
  have h3 := blk_set (blk_set (blk_set h 0 x) 1 y) 2 z
  exact ⟨by rw [blk_cell h3]; rfl, by rw [blk_cell h3]; rfl, by rw [blk_cell h3]; rfl, fun B w0 hB hb => ((hb.setCell hB _).setCell hB _).setCell hB _⟩
theorem cells3 {w : World} {k : Nat} {a b c : Value} {T : TypeId} (h : w.heap[k]? = some (.cells #[a, b, c] T (0, 0))) :
    w.cell? ⟨k, 0, none⟩ = some a ∧ w.cell? ⟨k, 1, none⟩ = some b ∧ w.cell? ⟨k, 2, none⟩ = some c ∧ w.frozen? ⟨k, 0, none⟩ = false ∧ w.frozen? ⟨k, 1, none⟩ = false ∧ w.frozen? ⟨k, 2, none⟩ = false :=
  ⟨by rw [blk_cell h]; rfl, by rw [blk_cell h]; rfl, by rw [blk_cell h]; rfl, blk_frozen0 h 0, blk_frozen0 h 1, blk_frozen0 h 2⟩
theorem new23b (w : World) (o : Obj) (C : Array Value) (U : TypeId) : ((w.alloc o).alloc (.cells C U)).heap[w.heap.size + 1]? = some (.cells C U (0, 0)) := by
  have := blk_new (w.alloc o) (.cells C U)
  rwa [w_size1] at this
theorem new23f {w w1 : World} {a b : Value} {C : Array Value} {T U : TypeId} (hb : Below ((w.alloc (.cells #[a, b] T)).alloc (.cells C U)).heap.size ((w.alloc (.cells #[a, b] T)).alloc (.cells C U)) w1) :
    w1.cell? ⟨w.heap.size, 0, none⟩ = some a ∧ w1.cell? ⟨w.heap.size, 1, none⟩ = some b ∧ w1.heap[w.heap.size + 1]? = some (.cells C U (0, 0)) ∧ Below w.heap.size w w1 := by
  have h2 := blk_below (new23b w (.cells #[a, b] T) C U) hb (by simp)
  have h1 := new2 (w1 := w1) (((Below.refl (w.alloc (.cells #[a, b] T)).heap.size (w.alloc (.cells #[a, b] T))).alloc (Nat.le_refl _) (.cells C U)).trans (hb.mono (by simp)))
  exact ⟨h1.1, h1.2.1, h2, h1.2.2⟩

set_option maxRecDepth 100000 in
set_option maxHeartbeats 400000 in
theorem rtrm_any (nm : ByteArray) (cty : Int) (s : ByteArray) (w : World) (hs : s.size ≤ 1000000) :
    Calls Tryd.prog 18 #[.agg #[.string nm, .int .i64 cty], .string s] w fun e w' => e = .returned (trmV (trmF cty s)) ∧ Below w.heap.size w w' := by
  have hV := fun w => rvalid_any s w hs
  have hI := fun w => rgetint_any s w hs
  by_cases h1 : cty = 1
  · subst h1
    by_cases h2 : (s.size : Int) ≤ 100
    · cases h3 : valid s
      · have HE : Hid (trmF 1 s = (0, ⟨#[]⟩, 0, false)) := by show _ = _; unfold trmF txtB; rw [h3]; simp
        rw [h3] at hV
        clear h3
        go_enter Tryd.func18, Tryd.ntmps18
        go_wp2_with (first | (go_at_call 35; refine (hV _).mono ?_; rintro e w1 ⟨rfl, hb1⟩; obtain ⟨c0, c1, hblk, hb2⟩ := new23f hb1; obtain ⟨y0, y1, y2, u0, u1, u2⟩ := cells3 hblk) | (go_at_call 44; refine (hI _).mono ?_; rintro e w2 ⟨rfl, rfl⟩))
        obtain ⟨r0, r1, r2, hbl⟩ := set3 hblk (.int .i64 0) (.string ⟨#[]⟩) (.int .i64 0) _ rfl
        refine bodyPost_ret (v := .tuple #[.agg #[.int .i64 0, .string ⟨#[]⟩, .int .i64 0], .bool false]) (by simp [results, Tryd.results18, go_sem, r0, r1, r2]) rfl ?_
        first | exact ⟨by rw [HE.out]; rfl, hbl _ _ (by omega) hb2⟩ | exact ⟨by rw [HE.out]; rfl, ((Below.refl _ _).alloc (Nat.le_refl _) _).alloc (by simp) _⟩
      · have HE : Hid (trmF 1 s = (1, s, 0, true)) := by show _ = _; unfold trmF txtB; rw [h3, if_pos rfl, if_pos (by simp; omega)]
        rw [h3] at hV
        clear h3 hI
        go_enter Tryd.func18, Tryd.ntmps18
        go_wp2_with (first | (go_at_call 35; refine (hV _).mono ?_; rintro e w1 ⟨rfl, hb1⟩; obtain ⟨c0, c1, hblk, hb2⟩ := new23f hb1; obtain ⟨y0, y1, y2, u0, u1, u2⟩ := cells3 hblk) | (go_at_call 44; refine (hI _).mono ?_; rintro e w2 ⟨rfl, rfl⟩))
        obtain ⟨r0, r1, r2, hbl⟩ := set3 hblk (.int .i64 1) (.string s) (.int .i64 0) _ rfl
        refine bodyPost_ret (v := .tuple #[.agg #[.int .i64 1, .string s, .int .i64 0], .bool true]) (by simp [results, Tryd.results18, go_sem, r0, r1, r2]) rfl ?_
        first | exact ⟨by rw [HE.out]; rfl, hbl _ _ (by omega) hb2⟩ | exact ⟨by rw [HE.out]; rfl, ((Below.refl _ _).alloc (Nat.le_refl _) _).alloc (by simp) _⟩
    · have HE : Hid (trmF 1 s = (0, ⟨#[]⟩, 0, false)) := by show _ = _; unfold trmF txtB; rw [if_pos rfl, if_neg (by simp; omega)]
      clear hV
      go_enter Tryd.func18, Tryd.ntmps18
      go_wp2_with (go_at_call 44; refine (hI _).mono ?_; rintro e w2 ⟨rfl, rfl⟩)
      have hblk := new23b w (.cells #[.string nm, .int .i64 1] 26) #[.int .i64 0, .string ⟨#[]⟩, .int .i64 0] 23
      have hb2 : Below w.heap.size w ((w.alloc (.cells #[.string nm, .int .i64 1] 26)).alloc (.cells #[.int .i64 0, .string ⟨#[]⟩, .int .i64 0] 23)) := ((Below.refl _ _).alloc (Nat.le_refl _) _).alloc (by simp) _
      obtain ⟨r0, r1, r2, hbl⟩ := set3 hblk (.int .i64 0) (.string ⟨#[]⟩) (.int .i64 0) _ rfl
      refine bodyPost_ret (v := .tuple #[.agg #[.int .i64 0, .string ⟨#[]⟩, .int .i64 0], .bool false]) (by simp [results, Tryd.results18, go_sem, r0, r1, r2]) rfl ?_
      first | exact ⟨by rw [HE.out]; rfl, hbl _ _ (by omega) hb2⟩ | exact ⟨by rw [HE.out]; rfl, ((Below.refl _ _).alloc (Nat.le_refl _) _).alloc (by simp) _⟩
  · have h1d : (cty == 1) = false := beq_eq_false_iff_ne.2 h1
    clear hV
    by_cases h2 : cty = 2
    · subst h2
      cases hd : dec8 s with
      | none =>
        have HE : Hid (trmF 2 s = (0, ⟨#[]⟩, 0, false)) := by show _ = _; unfold trmF; rw [if_neg (by omega), hd, if_neg (by simp)]
        rw [hd] at hI
        simp only [Option.getD_none, Option.isSome_none] at hI
        clear hd
        go_enter Tryd.func18, Tryd.ntmps18
        go_wp2_with (go_at_call 44; refine (hI _).mono ?_; rintro e w2 ⟨rfl, rfl⟩)
        have hblk := new23b w (.cells #[.string nm, .int .i64 2] 26) #[.int .i64 0, .string ⟨#[]⟩, .int .i64 0] 23
        have hb2 : Below w.heap.size w ((w.alloc (.cells #[.string nm, .int .i64 2] 26)).alloc (.cells #[.int .i64 0, .string ⟨#[]⟩, .int .i64 0] 23)) := ((Below.refl _ _).alloc (Nat.le_refl _) _).alloc (by simp) _
        obtain ⟨r0, r1, r2, hbl⟩ := set3 hblk (.int .i64 0) (.string ⟨#[]⟩) (.int .i64 0) _ rfl
        refine bodyPost_ret (v := .tuple #[.agg #[.int .i64 0, .string ⟨#[]⟩, .int .i64 0], .bool false]) (by simp [results, Tryd.results18, go_sem, r0, r1, r2]) rfl ?_
        first | exact ⟨by rw [HE.out]; rfl, hbl _ _ (by omega) hb2⟩ | exact ⟨by rw [HE.out]; rfl, ((Below.refl _ _).alloc (Nat.le_refl _) _).alloc (by simp) _⟩
      | some n =>
        rw [hd] at hI
        simp only [Option.getD_some, Option.isSome_some] at hI
        by_cases h3 : (-1099511627776 : Int) ≤ n
        · by_cases h4 : n ≤ (1099511627776 : Int)
          · have HE : Hid (trmF 2 s = (2, ⟨#[]⟩, n, true)) := by show _ = _; unfold trmF inB; rw [if_neg (by omega), hd, if_pos ⟨rfl, rfl, by simp; omega⟩]; rfl
            clear hd
            go_enter Tryd.func18, Tryd.ntmps18
            go_wp2_with (go_at_call 44; refine (hI _).mono ?_; rintro e w2 ⟨rfl, rfl⟩)
            have hblk := new23b w (.cells #[.string nm, .int .i64 2] 26) #[.int .i64 0, .string ⟨#[]⟩, .int .i64 0] 23
            have hb2 : Below w.heap.size w ((w.alloc (.cells #[.string nm, .int .i64 2] 26)).alloc (.cells #[.int .i64 0, .string ⟨#[]⟩, .int .i64 0] 23)) := ((Below.refl _ _).alloc (Nat.le_refl _) _).alloc (by simp) _
            obtain ⟨r0, r1, r2, hbl⟩ := set3 hblk (.int .i64 2) (.string ⟨#[]⟩) (.int .i64 n) _ rfl
            refine bodyPost_ret (v := .tuple #[.agg #[.int .i64 2, .string ⟨#[]⟩, .int .i64 n], .bool true]) (by simp [results, Tryd.results18, go_sem, r0, r1, r2]) rfl ?_
            first | exact ⟨by rw [HE.out]; rfl, hbl _ _ (by omega) hb2⟩ | exact ⟨by rw [HE.out]; rfl, ((Below.refl _ _).alloc (Nat.le_refl _) _).alloc (by simp) _⟩
          · have HE : Hid (trmF 2 s = (0, ⟨#[]⟩, 0, false)) := by show _ = _; unfold trmF inB; rw [if_neg (by omega), hd, if_neg (by simp; omega)]
            clear hd
            go_enter Tryd.func18, Tryd.ntmps18
            go_wp2_with (go_at_call 44; refine (hI _).mono ?_; rintro e w2 ⟨rfl, rfl⟩)
            have hblk := new23b w (.cells #[.string nm, .int .i64 2] 26) #[.int .i64 0, .string ⟨#[]⟩, .int .i64 0] 23
            have hb2 : Below w.heap.size w ((w.alloc (.cells #[.string nm, .int .i64 2] 26)).alloc (.cells #[.int .i64 0, .string ⟨#[]⟩, .int .i64 0] 23)) := ((Below.refl _ _).alloc (Nat.le_refl _) _).alloc (by simp) _
            obtain ⟨r0, r1, r2, hbl⟩ := set3 hblk (.int .i64 0) (.string ⟨#[]⟩) (.int .i64 0) _ rfl
            refine bodyPost_ret (v := .tuple #[.agg #[.int .i64 0, .string ⟨#[]⟩, .int .i64 0], .bool false]) (by simp [results, Tryd.results18, go_sem, r0, r1, r2]) rfl ?_
            first | exact ⟨by rw [HE.out]; rfl, hbl _ _ (by omega) hb2⟩ | exact ⟨by rw [HE.out]; rfl, ((Below.refl _ _).alloc (Nat.le_refl _) _).alloc (by simp) _⟩
        · have HE : Hid (trmF 2 s = (0, ⟨#[]⟩, 0, false)) := by show _ = _; unfold trmF inB; rw [if_neg (by omega), hd, if_neg (by simp; omega)]
          clear hd
          go_enter Tryd.func18, Tryd.ntmps18
          go_wp2_with (go_at_call 44; refine (hI _).mono ?_; rintro e w2 ⟨rfl, rfl⟩)
          have hblk := new23b w (.cells #[.string nm, .int .i64 2] 26) #[.int .i64 0, .string ⟨#[]⟩, .int .i64 0] 23
          have hb2 : Below w.heap.size w ((w.alloc (.cells #[.string nm, .int .i64 2] 26)).alloc (.cells #[.int .i64 0, .string ⟨#[]⟩, .int .i64 0] 23)) := ((Below.refl _ _).alloc (Nat.le_refl _) _).alloc (by simp) _
          obtain ⟨r0, r1, r2, hbl⟩ := set3 hblk (.int .i64 0) (.string ⟨#[]⟩) (.int .i64 0) _ rfl
          refine bodyPost_ret (v := .tuple #[.agg #[.int .i64 0, .string ⟨#[]⟩, .int .i64 0], .bool false]) (by simp [results, Tryd.results18, go_sem, r0, r1, r2]) rfl ?_
          first | exact ⟨by rw [HE.out]; rfl, hbl _ _ (by omega) hb2⟩ | exact ⟨by rw [HE.out]; rfl, ((Below.refl _ _).alloc (Nat.le_refl _) _).alloc (by simp) _⟩
    · have HE : Hid (trmF cty s = (0, ⟨#[]⟩, 0, false)) := by show _ = _; unfold trmF; rw [if_neg h1, if_neg (fun h => h2 h.1)]
      have h2d : (cty != 2) = true := bne_iff_ne.2 h2
      go_enter Tryd.func18, Tryd.ntmps18
      go_wp2_with (go_at_call 44; refine (hI _).mono ?_; rintro e w2 ⟨rfl, rfl⟩)
      have hblk := new23b w (.cells #[.string nm, .int .i64 cty] 26) #[.int .i64 0, .string ⟨#[]⟩, .int .i64 0] 23
      have hb2 : Below w.heap.size w ((w.alloc (.cells #[.string nm, .int .i64 cty] 26)).alloc (.cells #[.int .i64 0, .string ⟨#[]⟩, .int .i64 0] 23)) := ((Below.refl _ _).alloc (Nat.le_refl _) _).alloc (by simp) _
      obtain ⟨r0, r1, r2, hbl⟩ := set3 hblk (.int .i64 0) (.string ⟨#[]⟩) (.int .i64 0) _ rfl
      refine bodyPost_ret (v := .tuple #[.agg #[.int .i64 0, .string ⟨#[]⟩, .int .i64 0], .bool false]) (by simp [results, Tryd.results18, go_sem, r0, r1, r2]) rfl ?_
      first | exact ⟨by rw [HE.out]; rfl, hbl _ _ (by omega) hb2⟩ | exact ⟨by rw [HE.out]; rfl, ((Below.refl _ _).alloc (Nat.le_refl _) _).alloc (by simp) _⟩

theorem bel3 (w : World) (o p q : Obj) : Below w.heap.size w (((w.alloc o).alloc p).alloc q) := (((Below.refl _ _).alloc (Nat.le_refl _) _).alloc (by simp) _).alloc (by simp; omega) _
theorem new33 {w w1 : World} {o : Obj} {C : Array Value} {x y z : Value} {U T : TypeId} (hb : Below (((w.alloc o).alloc (.cells C U)).alloc (.cells #[x, y, z] T)).heap.size (((w.alloc o).alloc (.cells C U)).alloc (.cells #[x, y, z] T)) w1) :
    w1.heap[w.heap.size + 1]? = some (.cells C U (0, 0)) ∧ w1.cell? ⟨w.heap.size + 1 + 1, 0, none⟩ = some x ∧ w1.cell? ⟨w.heap.size + 1 + 1, 1, none⟩ = some y ∧ w1.cell? ⟨w.heap.size + 1 + 1, 2, none⟩ = some z ∧ Below w.heap.size w w1 := by
  obtain ⟨h1, h2, h3, _⟩ := new3 hb
  rw [w_size1, w_size1] at h1 h2 h3
  refine ⟨?_, h1, h2, h3, (bel3 w _ _ _).trans (hb.mono (by simp; omega))⟩
  exact blk_below (blk_alloc (new23b w o C U) _) hb (by simp)

set_option maxRecDepth 100000 in
set_option maxHeartbeats 400000 in
theorem btrm_any (nm : ByteArray) (cty : Int) (s : ByteArray) (w : World) (hG : Glob w) (hs : s.size ≤ 1000000) :
    Calls Tryd.prog 17 #[.agg #[.string nm, .int .i64 cty], .string s] w fun e w' => e = .returned (trmV (trmF cty s)) ∧ Below w.heap.size w w' := by
  have hI := fun w => getint_any s w hs
  have hO := fun ty n (w1 : World) (h : Below w.heap.size w w1) => of_any ty s n w1 (hG.below h) hs
  have hO2 := fun ty n (w1 : World) (h : Below w.heap.size w w1) => of_any ty ⟨#[]⟩ n w1 (hG.below h) (by decide)
  clear hG
  by_cases h1 : cty = 1
  · subst h1
    have ho := hO 1 0
    clear hO hO2
    cases h3 : txtB s
    · have HE : Hid (trmF 1 s = (0, ⟨#[]⟩, 0, false)) := by show _ = _; unfold trmF; rw [h3]; rfl
      rw [show ofV 1 s 0 = .nilIface from by unfold ofV; rw [h3]; rfl] at ho
      clear h3
      go_enter Tryd.func17, Tryd.ntmps17
      go_wp2_with (first | (go_at_call 43; refine (hI _).mono ?_; rintro e w2 ⟨rfl, rfl⟩) | (go_at_call 40; refine (ho _ (bel3 _ _ _ _)).mono ?_; rintro e w1 ⟨rfl, hb1⟩; obtain ⟨hblk, z0, z1, z2, hb2⟩ := new33 hb1; obtain ⟨y0, y1, y2, u0, u1, u2⟩ := cells3 hblk))
      obtain ⟨r0, r1, r2, hbl⟩ := set3 hblk (.int .i64 0) (.string ⟨#[]⟩) (.int .i64 0) _ rfl
      refine bodyPost_ret (v := .tuple #[.agg #[.int .i64 0, .string ⟨#[]⟩, .int .i64 0], .bool false]) (by simp [results, Tryd.results17, go_sem, r0, r1, r2]) rfl ?_
      first | exact ⟨by rw [HE.out]; rfl, hbl _ _ (by omega) hb2⟩ | exact ⟨by rw [HE.out]; rfl, ((Below.refl _ _).alloc (Nat.le_refl _) _).alloc (by simp) _⟩
    · have HE : Hid (trmF 1 s = (1, s, 0, true)) := by show _ = _; unfold trmF; rw [h3]; rfl
      rw [show ofV 1 s 0 = .iface 62 (.string s) from by unfold ofV; rw [h3]; rfl] at ho
      clear h3
      go_enter Tryd.func17, Tryd.ntmps17
      go_wp2_with (first | (go_at_call 43; refine (hI _).mono ?_; rintro e w2 ⟨rfl, rfl⟩) | (go_at_call 40; refine (ho _ (bel3 _ _ _ _)).mono ?_; rintro e w1 ⟨rfl, hb1⟩; obtain ⟨hblk, z0, z1, z2, hb2⟩ := new33 hb1; obtain ⟨y0, y1, y2, u0, u1, u2⟩ := cells3 hblk))
      obtain ⟨r0, r1, r2, hbl⟩ := set3 hblk (.int .i64 1) (.string s) (.int .i64 0) _ rfl
      refine bodyPost_ret (v := .tuple #[.agg #[.int .i64 1, .string s, .int .i64 0], .bool true]) (by simp [results, Tryd.results17, go_sem, r0, r1, r2]) rfl ?_
      first | exact ⟨by rw [HE.out]; rfl, hbl _ _ (by omega) hb2⟩ | exact ⟨by rw [HE.out]; rfl, ((Below.refl _ _).alloc (Nat.le_refl _) _).alloc (by simp) _⟩
  · have h1d : (cty == 1) = false := beq_eq_false_iff_ne.2 h1
    clear hO
    by_cases h2 : cty = 2
    · subst h2
      cases hd : dec8 s with
      | none =>
        have HE : Hid (trmF 2 s = (0, ⟨#[]⟩, 0, false)) := by show _ = _; unfold trmF; rw [if_neg (by omega), hd, if_neg (by simp)]
        rw [hd] at hI
        simp only [Option.getD_none, Option.isSome_none] at hI
        clear hd hO2
        go_enter Tryd.func17, Tryd.ntmps17
        go_wp2_with (go_at_call 43; refine (hI _).mono ?_; rintro e w2 ⟨rfl, rfl⟩)
        have hblk := new23b w (.cells #[.string nm, .int .i64 2] 26) #[.int .i64 0, .string ⟨#[]⟩, .int .i64 0] 23
        have hb2 := hblk
        obtain ⟨r0, r1, r2, hbl⟩ := set3 hblk (.int .i64 0) (.string ⟨#[]⟩) (.int .i64 0) _ rfl
        refine bodyPost_ret (v := .tuple #[.agg #[.int .i64 0, .string ⟨#[]⟩, .int .i64 0], .bool false]) (by simp [results, Tryd.results17, go_sem, r0, r1, r2]) rfl ?_
        first | exact ⟨by rw [HE.out]; rfl, hbl _ _ (by omega) hb2⟩ | exact ⟨by rw [HE.out]; rfl, bel3 _ _ _ _⟩
      | some n =>
        rw [hd] at hI
        simp only [Option.getD_some, Option.isSome_some] at hI
        have ho := hO2 2 n
        clear hO2
        cases h3 : inB n
        · have HE : Hid (trmF 2 s = (0, ⟨#[]⟩, 0, false)) := by show _ = _; unfold trmF; rw [if_neg (by omega), hd, if_neg (by simp [h3])]
          rw [show ofV 2 ⟨#[]⟩ n = .nilIface from by unfold ofV; rw [h3]; rfl] at ho
          clear hd h3
          go_enter Tryd.func17, Tryd.ntmps17
          go_wp2_with (first | (go_at_call 43; refine (hI _).mono ?_; rintro e w2 ⟨rfl, rfl⟩) | (go_at_call 40; refine (ho _ (bel3 _ _ _ _)).mono ?_; rintro e w1 ⟨rfl, hb1⟩; obtain ⟨hblk, z0, z1, z2, hb2⟩ := new33 hb1; obtain ⟨y0, y1, y2, u0, u1, u2⟩ := cells3 hblk))
          obtain ⟨r0, r1, r2, hbl⟩ := set3 hblk (.int .i64 0) (.string ⟨#[]⟩) (.int .i64 0) _ rfl
          refine bodyPost_ret (v := .tuple #[.agg #[.int .i64 0, .string ⟨#[]⟩, .int .i64 0], .bool false]) (by simp [results, Tryd.results17, go_sem, r0, r1, r2]) rfl ?_
          first | exact ⟨by rw [HE.out]; rfl, hbl _ _ (by omega) hb2⟩ | exact ⟨by rw [HE.out]; rfl, ((Below.refl _ _).alloc (Nat.le_refl _) _).alloc (by simp) _⟩
        · have HE : Hid (trmF 2 s = (2, ⟨#[]⟩, n, true)) := by show _ = _; unfold trmF; rw [if_neg (by omega), hd, if_pos ⟨rfl, rfl, h3⟩]; rfl
          rw [show ofV 2 ⟨#[]⟩ n = .iface 64 (.int .i64 n) from by unfold ofV; rw [h3]; rfl] at ho
          clear hd h3
          go_enter Tryd.func17, Tryd.ntmps17
          go_wp2_with (first | (go_at_call 43; refine (hI _).mono ?_; rintro e w2 ⟨rfl, rfl⟩) | (go_at_call 40; refine (ho _ (bel3 _ _ _ _)).mono ?_; rintro e w1 ⟨rfl, hb1⟩; obtain ⟨hblk, z0, z1, z2, hb2⟩ := new33 hb1; obtain ⟨y0, y1, y2, u0, u1, u2⟩ := cells3 hblk))
          obtain ⟨r0, r1, r2, hbl⟩ := set3 hblk (.int .i64 2) (.string ⟨#[]⟩) (.int .i64 n) _ rfl
          refine bodyPost_ret (v := .tuple #[.agg #[.int .i64 2, .string ⟨#[]⟩, .int .i64 n], .bool true]) (by simp [results, Tryd.results17, go_sem, r0, r1, r2]) rfl ?_
          first | exact ⟨by rw [HE.out]; rfl, hbl _ _ (by omega) hb2⟩ | exact ⟨by rw [HE.out]; rfl, ((Below.refl _ _).alloc (Nat.le_refl _) _).alloc (by simp) _⟩
    · have HE : Hid (trmF cty s = (0, ⟨#[]⟩, 0, false)) := by show _ = _; unfold trmF; rw [if_neg h1, if_neg (fun h => h2 h.1)]
      have h2d : (cty == 2) = false := beq_eq_false_iff_ne.2 h2
      clear hO2
      go_enter Tryd.func17, Tryd.ntmps17
      go_wp2_with (go_at_call 43; refine (hI _).mono ?_; rintro e w2 ⟨rfl, rfl⟩)
      have hblk := new23b w (.cells #[.string nm, .int .i64 cty] 26) #[.int .i64 0, .string ⟨#[]⟩, .int .i64 0] 23
      have hb2 := hblk
      obtain ⟨r0, r1, r2, hbl⟩ := set3 hblk (.int .i64 0) (.string ⟨#[]⟩) (.int .i64 0) _ rfl
      refine bodyPost_ret (v := .tuple #[.agg #[.int .i64 0, .string ⟨#[]⟩, .int .i64 0], .bool false]) (by simp [results, Tryd.results17, go_sem, r0, r1, r2]) rfl ?_
      first | exact ⟨by rw [HE.out]; rfl, hbl _ _ (by omega) hb2⟩ | exact ⟨by rw [HE.out]; rfl, bel3 _ _ _ _⟩

end Go.Proofs.YtljoenpgokhekaaDoor
