/- Parts of the proof, joined: SamC. -/
import Derived.Test.YtfbgdjcnlnfoaaaGreatDoorB12b
import Derived.Test.YtfbgdjcnlnfoaaaGreatDoorB12c
import Derived.Test.YtfbgdjcnlnfoaaaGreatDoorB12d
import Derived.Test.YtfbgdjcnlnfoaaaGreatDoorB12e
import Derived.Test.YtfbgdjcnlnfoaaaGreatDoorB12f
import Derived.Test.YtfbgdjcnlnfoaaaGreatDoorB12g
import Derived.Test.YtfbgdjcnlnfoaaaGreatDoorB12h
namespace Go.Proofs.YtfbgdjcnlnfoaaaGreatDoor
open Go.RowKit
open Cle

theorem tl_ne {a b : ByteArray} (h : a ≠ b) : (a.toList == b.toList) = false := by rw [bytes_eq]; exact bEq_ne h
theorem tl_eq {a b : ByteArray} (h : a = b) : (a.toList == b.toList) = true := by rw [bytes_eq]; exact bEq_iff.2 h
theorem it_ne {a b : Int} (h : a ≠ b) : (a == b) = false := beq_eq_false_iff_ne.2 h
theorem it_eq {a b : Int} (h : a = b) : (a == b) = true := by rw [h]; simp
theorem same_of {w : World} {x y : Sx} {tc c s wv pv tc' c' s' wv' pv' : Value} {P : Prop} (hx : StIn w x tc c s wv) (hy : StIn w y tc' c' s' wv') (sx : SmX x) (sy : SmX y)
    (hp : ∀ w', Below w.heap.size w w' → Calls Tryz.prog 65 #[pv, pv', .func (.func 31) #[] #[]] w' fun e w'' => ∃ b : Bool, e = .returned (.bool b) ∧ (b = true ↔ P) ∧ Below w'.heap.size w' w'') :
    Calls Tryz.prog 31 #[.agg (stC x tc c s wv pv), .agg (stC y tc' c' s' wv' pv')] w fun e w' => ∃ b : Bool, e = .returned (.bool b) ∧ (b = true ↔ x = y ∧ P) ∧ Below w.heap.size w w' := by
  have no : ∀ {R : Ending → World → Prop}, (¬ (x = y ∧ P)) → (∀ (e : Ending) (w' : World), (e = .returned (.bool false) ∧ Below w.heap.size w w') → ∃ b : Bool, e = .returned (.bool b) ∧ (b = true ↔ x = y ∧ P) ∧ Below w.heap.size w w') := by
    rintro _ hn e w' ⟨rfl, hb⟩
    exact ⟨false, rfl, ⟨fun h => absurd h (by decide), fun h => absurd h hn⟩, hb⟩
  obtain ⟨htc, hc, hs, hw⟩ := hx
  obtain ⟨htc', hc', hs', hw'⟩ := hy
  have q11 : ∀ w', Below w.heap.size w w' → _ := fun w' hb => eqc_any (htc.below hb) (htc'.below hb) sx.1 sy.1
  have q12 : ∀ w', Below w.heap.size w w' → _ := fun w' hb => eqs_any (hc.below hb) (hc'.below hb) sx.2.1 sy.2.1
  have q13 : ∀ w', Below w.heap.size w w' → _ := fun w' hb => eqr_any (hs.below hb) (hs'.below hb) sx.2.2.1 sy.2.2.1
  have q14 : ∀ w', Below w.heap.size w w' → _ := fun w' hb => eqr_any (hw.below hb) (hw'.below hb) sx.2.2.2 sy.2.2.2
  obtain ⟨a0, k0, rfl, _⟩ := htc
  obtain ⟨b0, l0, rfl, _⟩ := htc'
  by_cases t0 : x.kind = y.kind
  case neg => exact (same_0 (it_ne t0)).mono fun e w' h => no (R := fun _ _ => True) (fun h => t0 (by rw [h.1])) e w' h
  by_cases t1 : x.name = y.name
  case neg => exact (same_1 (it_eq t0) (tl_ne t1)).mono fun e w' h => no (R := fun _ _ => True) (fun h => t1 (by rw [h.1])) e w' h
  by_cases t2 : x.of_ = y.of_
  case neg => exact (same_2 (it_eq t0) (tl_eq t1) (tl_ne t2)).mono fun e w' h => no (R := fun _ _ => True) (fun h => t2 (by rw [h.1])) e w' h
  by_cases t3 : x.on = y.on
  case neg => exact (same_3 (it_eq t0) (tl_eq t1) (tl_eq t2) (tl_ne t3)).mono fun e w' h => no (R := fun _ _ => True) (fun h => t3 (by rw [h.1])) e w' h
  by_cases t4 : x.stamp = y.stamp
  case neg => exact (same_4 (it_eq t0) (tl_eq t1) (tl_eq t2) (tl_eq t3) (it_ne t4)).mono fun e w' h => no (R := fun _ _ => True) (fun h => t4 (by rw [h.1])) e w' h
  by_cases t5 : x.ttl = y.ttl
  case neg => exact (same_5 (it_eq t0) (tl_eq t1) (tl_eq t2) (tl_eq t3) (it_eq t4) (it_ne t5)).mono fun e w' h => no (R := fun _ _ => True) (fun h => t5 (by rw [h.1])) e w' h
  by_cases t6 : x.limit = y.limit
  case neg => exact (same_6 (it_eq t0) (tl_eq t1) (tl_eq t2) (tl_eq t3) (it_eq t4) (it_eq t5) (it_ne t6)).mono fun e w' h => no (R := fun _ _ => True) (fun h => t6 (by rw [h.1])) e w' h
  by_cases t7 : x.tname = y.tname
  case neg => exact (same_7 (it_eq t0) (tl_eq t1) (tl_eq t2) (tl_eq t3) (it_eq t4) (it_eq t5) (it_eq t6) (tl_ne t7)).mono fun e w' h => no (R := fun _ _ => True) (fun h => t7 (by rw [h.1])) e w' h
  by_cases t8 : x.tid = y.tid
  case neg => exact (same_8 (it_eq t0) (tl_eq t1) (tl_eq t2) (tl_eq t3) (it_eq t4) (it_eq t5) (it_eq t6) (tl_eq t7) (it_ne t8)).mono fun e w' h => no (R := fun _ _ => True) (fun h => t8 (by rw [h.1])) e w' h
  by_cases t9 : x.part.name = y.part.name
  case neg => exact (same_9a (it_eq t0) (tl_eq t1) (tl_eq t2) (tl_eq t3) (it_eq t4) (it_eq t5) (it_eq t6) (tl_eq t7) (it_eq t8) (tl_ne t9)).mono fun e w' h => no (R := fun _ _ => True) (fun h => t9 (by rw [h.1])) e w' h
  by_cases t9b : x.part.ty = y.part.ty
  case neg => exact (same_9b (it_eq t0) (tl_eq t1) (tl_eq t2) (tl_eq t3) (it_eq t4) (it_eq t5) (it_eq t6) (tl_eq t7) (it_eq t8) (tl_eq t9) (it_ne t9b)).mono fun e w' h => no (R := fun _ _ => True) (fun h => t9b (by rw [h.1])) e w' h
  by_cases t10 : x.clus.name = y.clus.name
  case neg => exact (same_10a (it_eq t0) (tl_eq t1) (tl_eq t2) (tl_eq t3) (it_eq t4) (it_eq t5) (it_eq t6) (tl_eq t7) (it_eq t8) (tl_eq t9) (it_eq t9b) (tl_ne t10)).mono fun e w' h => no (R := fun _ _ => True) (fun h => t10 (by rw [h.1])) e w' h
  by_cases t10b : x.clus.ty = y.clus.ty
  case neg => exact (same_10b (it_eq t0) (tl_eq t1) (tl_eq t2) (tl_eq t3) (it_eq t4) (it_eq t5) (it_eq t6) (tl_eq t7) (it_eq t8) (tl_eq t9) (it_eq t9b) (tl_eq t10) (it_ne t10b)).mono fun e w' h => no (R := fun _ _ => True) (fun h => t10b (by rw [h.1])) e w' h
  -- what a contract says where the answer is known
  have fix : ∀ {F : FuncId} {args : Array Value} {Q : Prop} {v : Bool} {w' : World}, (Q ↔ v = true) → Calls Tryz.prog F args w' (fun e w'' => ∃ b : Bool, e = .returned (.bool b) ∧ (b = true ↔ Q) ∧ Below w'.heap.size w' w'') → Calls Tryz.prog F args w' (fun e w'' => e = .returned (.bool v) ∧ Below w'.heap.size w' w'') := by
    intro F args Q v w' hq hc
    refine hc.mono ?_
    rintro e w'' ⟨b, rfl, hb, hbl⟩
    have : b = v := by
      have h := hb.trans hq
      cases b with
      | false => cases v with
        | false => rfl
        | true => exact h.2 rfl
      | true => cases v with
        | false => exact (h.1 rfl).symm
        | true => rfl
    rw [this]
    exact ⟨rfl, hbl⟩
  have yes : ∀ {Q : Prop}, Q → (Q ↔ true = true) := fun h => ⟨fun _ => rfl, fun _ => h⟩
  have non : ∀ {Q : Prop}, ¬ Q → (Q ↔ false = true) := fun h => ⟨fun hq => absurd hq h, fun hf => absurd hf (by decide)⟩
  by_cases t11 : x.tcols = y.tcols
  case neg => exact (same_11 (it_eq t0) (tl_eq t1) (tl_eq t2) (tl_eq t3) (it_eq t4) (it_eq t5) (it_eq t6) (tl_eq t7) (it_eq t8) (tl_eq t9) (it_eq t9b) (tl_eq t10) (it_eq t10b) (fun w' hb => fix (non t11) (q11 w' hb))).mono fun e w' h => no (R := fun _ _ => True) (fun h => t11 (by rw [h.1])) e w' h
  by_cases t12 : x.cols = y.cols
  case neg => exact (same_12 (it_eq t0) (tl_eq t1) (tl_eq t2) (tl_eq t3) (it_eq t4) (it_eq t5) (it_eq t6) (tl_eq t7) (it_eq t8) (tl_eq t9) (it_eq t9b) (tl_eq t10) (it_eq t10b) (fun w' hb => fix (yes t11) (q11 w' hb)) (fun w' hb => fix (non t12) (q12 w' hb))).mono fun e w' h => no (R := fun _ _ => True) (fun h => t12 (by rw [h.1])) e w' h
  by_cases t13 : x.sets = y.sets
  case neg => exact (same_13 (it_eq t0) (tl_eq t1) (tl_eq t2) (tl_eq t3) (it_eq t4) (it_eq t5) (it_eq t6) (tl_eq t7) (it_eq t8) (tl_eq t9) (it_eq t9b) (tl_eq t10) (it_eq t10b) (fun w' hb => fix (yes t11) (q11 w' hb)) (fun w' hb => fix (yes t12) (q12 w' hb)) (fun w' hb => fix (non t13) (q13 w' hb))).mono fun e w' h => no (R := fun _ _ => True) (fun h => t13 (by rw [h.1])) e w' h
  by_cases t14 : x.wher = y.wher
  case neg => exact (same_14 (it_eq t0) (tl_eq t1) (tl_eq t2) (tl_eq t3) (it_eq t4) (it_eq t5) (it_eq t6) (tl_eq t7) (it_eq t8) (tl_eq t9) (it_eq t9b) (tl_eq t10) (it_eq t10b) (fun w' hb => fix (yes t11) (q11 w' hb)) (fun w' hb => fix (yes t12) (q12 w' hb)) (fun w' hb => fix (yes t13) (q13 w' hb)) (fun w' hb => fix (non t14) (q14 w' hb))).mono fun e w' h => no (R := fun _ _ => True) (fun h => t14 (by rw [h.1])) e w' h
  have hxy : x = y := by
    obtain ⟨x1, x2, x3, x4, x5, x6, ⟨x7, x7'⟩, ⟨x8, x8'⟩, x9, x10, x11, x12, x13, x14, x15⟩ := x
    obtain ⟨y1, y2, y3, y4, y5, y6, ⟨y7, y7'⟩, ⟨y8, y8'⟩, y9, y10, y11, y12, y13, y14, y15⟩ := y
    simp only at t0 t1 t2 t3 t4 t5 t6 t7 t8 t9 t9b t10 t10b t11 t12 t13 t14
    subst t0 t1 t2 t3 t4 t5 t6 t7 t8 t9 t9b t10 t10b t11 t12 t13 t14
    rfl
  by_cases t15 : P
  · refine (same_16 (it_eq t0) (tl_eq t1) (tl_eq t2) (tl_eq t3) (it_eq t4) (it_eq t5) (it_eq t6) (tl_eq t7) (it_eq t8) (tl_eq t9) (it_eq t9b) (tl_eq t10) (it_eq t10b) (fun w' hb => fix (yes t11) (q11 w' hb)) (fun w' hb => fix (yes t12) (q12 w' hb)) (fun w' hb => fix (yes t13) (q13 w' hb)) (fun w' hb => fix (yes t14) (q14 w' hb)) (fun w' hb => fix (yes t15) (hp w' hb))).mono ?_
    rintro e w' ⟨rfl, hb⟩
    exact ⟨true, rfl, ⟨fun _ => ⟨hxy, t15⟩, fun _ => rfl⟩, hb⟩
  · exact (same_15 (it_eq t0) (tl_eq t1) (tl_eq t2) (tl_eq t3) (it_eq t4) (it_eq t5) (it_eq t6) (tl_eq t7) (it_eq t8) (tl_eq t9) (it_eq t9b) (tl_eq t10) (it_eq t10b) (fun w' hb => fix (yes t11) (q11 w' hb)) (fun w' hb => fix (yes t12) (q12 w' hb)) (fun w' hb => fix (yes t13) (q13 w' hb)) (fun w' hb => fix (yes t14) (q14 w' hb)) (fun w' hb => fix (non t15) (hp w' hb))).mono fun e w' h => no (R := fun _ _ => True) (fun h => t15 h.2) e w' h
theorem same0_any {w : World} {p q : Pw} (hp : StIn w p.x p.tc p.c p.s p.wv) (hp0 : Rd w p.pv 0 []) (hq : StIn w q.x q.tc q.c q.s q.wv) (hq0 : Rd w q.pv 0 []) (sp : SmX p.x) (sq : SmX q.x) :
    Calls Tryz.prog 31 #[.agg p.arr, .agg q.arr] w fun e w' => ∃ b : Bool, e = .returned (.bool b) ∧ (b = true ↔ p.x = q.x) ∧ Below w.heap.size w w' := by
  have h := same_of (P := True) hp hq sp sq (pv := p.pv) (pv' := q.pv) (fun w' hb => by
    refine (eqf_any (L := []) (M := []) (hp0.below hb) (hq0.below hb) (by decide) (by decide) (fun _ h => absurd h (by simp)) (fun _ h => absurd h (by simp)) (fun _ h => absurd h (by simp))).mono ?_
    rintro e w'' ⟨b, rfl, hb, hbl⟩
    exact ⟨b, rfl, ⟨fun _ => trivial, fun _ => hb.2 rfl⟩, hbl⟩)
  refine h.mono ?_
  rintro e w' ⟨b, rfl, hb, hbl⟩
  exact ⟨b, rfl, ⟨fun h => (hb.1 h).1, fun h => hb.2 ⟨h, trivial⟩⟩, hbl⟩
theorem stsame_any {w : World} {p q : Pw} {L M : List Pw} (hp : WdS w p L) (hq : WdS w q M) (sp : SmS ⟨p.x, L.map Pw.x⟩) (sq : SmS ⟨q.x, M.map Pw.x⟩) :
    Calls Tryz.prog 31 #[.agg p.arr, .agg q.arr] w fun e w' => ∃ b : Bool, e = .returned (.bool b) ∧ (b = true ↔ (⟨p.x, L.map Pw.x⟩ : Stt) = ⟨q.x, M.map Pw.x⟩) ∧ Below w.heap.size w w' := by
  have hL : L.length ≤ 100000 := by have := sp.2.1; simpa using this
  have hM : M.length ≤ 100000 := by have := sq.2.1; simpa using this
  have h := same_of (P := L.map Pw.x = M.map Pw.x) hp.st hq.st sp.1 sq.1 (pv := p.pv) (pv' := q.pv) (fun w' hb =>
    eqf_any (hp.pv.below hb) (hq.pv.below hb) hL hM (fun r hr => (hp.each r hr).1.one (hp.each r hr).2.one) (fun r hr => (hq.each r hr).1.one (hq.each r hr).2.one) (fun r hr t ht w'' hb' =>
      have hbb := hb.trans (hb'.mono hb.size)
      same0_any ((hp.each r hr).1.below hbb) ((hp.each r hr).2.below hbb) ((hq.each t ht).1.below hbb) ((hq.each t ht).2.below hbb) (sp.2.2 r.x (List.mem_map.2 ⟨r, hr, rfl⟩)) (sq.2.2 t.x (List.mem_map.2 ⟨t, ht, rfl⟩))))
  refine h.mono ?_
  rintro e w' ⟨b, rfl, hb, hbl⟩
  refine ⟨b, rfl, hb.trans ⟨fun h => by rw [h.1, h.2], fun h => ?_⟩, hbl⟩
  injection h with h1 h2
  exact ⟨h1, h2⟩
end Go.Proofs.YtfbgdjcnlnfoaaaGreatDoor

