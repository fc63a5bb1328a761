/- Walks: the law LexBlanks. -/
import Derived.Test.YtfbgdjcnlnfoaaaDoorLawLexP
import Derived.Test.YtfbgdjcnlnfoaaaDoorPlainX
namespace Go.Proofs.YtfbgdjcnlnfoaaaDoor
open Go.RowKit
open Cle

theorem lexL_none (s : ByteArray) (h : (lexL s).2.2 = 0) : (lexL s).2.1 = 0 := by
  unfold lexL at *
  split
  · rfl
  · split <;> simp_all
theorem byteAt_done (s : ByteArray) (done : List Pt) (pos : Nat) (h : pts s = done ++ ptsAt s pos) (hp : pos < s.size) : byteAt s (pts s) done.length = pos := by
  unfold byteAt
  rw [h, List.getElem?_append_right (Nat.le_refl _), Nat.sub_self, ptsAt_step s pos hp]; rfl
theorem lexL_at (s : ByteArray) (l : List Tk) (hX : lexL s = (l, 0, 0)) (hne : l ≠ []) (hsz : s.size ≤ 1000) (k : Nat) : ∀ t, l[k]? = some t → t.at_ < (pts s).length := by
  intro t ht
  have hLx : lexF s (pts s) ((pts s).length + 1) 0 = .ok l := by
    unfold lexL at hX
    rw [if_neg (by omega)] at hX
    cases hq : lexF s (pts s) ((pts s).length + 1) 0 with
    | ok m => rw [hq] at hX; injection hX with h1 _; rw [h1]
    | error b => rw [hq] at hX; injection hX with h1 h2; exact absurd h1.symm hne
  obtain ⟨hlt, rfl⟩ := List.getElem?_eq_some_iff.1 ht
  exact (lexF_at s (pts s) _ 0 l hLx _ (List.getElem_mem hlt)).2
theorem one10 : (⟨#[10]⟩ : ByteArray).size = 1 := rfl
theorem bne_self_i (a : Int) : (a != a) = false := by simp

set_option maxRecDepth 100000 in
set_option maxHeartbeats 4000000 in
theorem lexBlanks_law (s : ByteArray) (which at0 : Int) (w : World) (hG : Glob w) (hw0 : -9223372036854775808 ≤ which) (hw1 : which ≤ 9223372036854775807) (ha0 : -9223372036854775808 ≤ at0) (ha1 : at0 ≤ 9223372036854775807) :
    Calls Tryd.prog 3 #[.string s, .int .i64 which, .int .i64 at0] w fun e w' => e = .returned (.bool true) ∧ St w w' := by
  have hS := St.refl hG
  have haw := fun w1 hS1 => awake13_any w1 hS1
  have hl := lexall_any s w hG
  have hz := lexL_none s
  have hll := lexL_len s
  obtain ⟨⟨l, a0, e0⟩, hX⟩ : ∃ x, lexL s = x := ⟨_, rfl⟩
  rw [hX] at hl hz hll
  replace hll : l.length ≤ s.size + 1 := hll
  clear hG
  by_cases he : e0 = 0
  case neg =>
    have q : (e0 != 0) = true := bne_iff_ne.2 he
    clear hX hz hw0 hw1 ha0 ha1
    go_enter Tryd.func3, Tryd.ntmps3
    go_wp2_with fail
    refine hl.mono ?_; rintro e w1 ⟨⟨v, rfl, hown⟩, hb⟩
    replace hS := hS.step hb
    clear hl hb
    go_wp2_with (go_at_call 5; refine (haw _ hS.2).mono ?_; rintro e w' ⟨rfl, hb⟩; replace hS := hS.trans hb; clear hb)
    go_ret
    exact ⟨rfl, hS⟩
  subst he
  have hz' : a0 = 0 := hz rfl
  subst hz'
  clear hz
  by_cases hsz : (400 : Int) < s.size
  case pos =>
    clear hX hw0 hw1 ha0 ha1
    go_enter Tryd.func3, Tryd.ntmps3
    go_wp2_with fail
    refine hl.mono ?_; rintro e w1 ⟨⟨v, rfl, hown⟩, hb⟩
    replace hS := hS.step hb
    clear hl hb
    go_wp2_with (go_at_call 5; refine (haw _ hS.2).mono ?_; rintro e w' ⟨rfl, hb⟩; replace hS := hS.trans hb; clear hb)
    go_ret
    exact ⟨rfl, hS⟩
  by_cases hne : l = []
  case pos =>
    subst hne
    clear hX hw0 hw1 ha0 ha1
    go_enter Tryd.func3, Tryd.ntmps3
    go_wp2_with fail
    refine hl.mono ?_; rintro e w1 ⟨⟨v, rfl, hown⟩, hb⟩
    replace hS := hS.step hb
    clear hl hb
    obtain ⟨a, cap, rfl, hr⟩ := row_read hown
    rw [show (([] : List Tk), 0, 0).1.length = 0 from rfl]
    clear hr hown
    go_wp2_with (go_at_call 5; refine (haw _ hS.2).mono ?_; rintro e w' ⟨rfl, hb⟩; replace hS := hS.trans hb; clear hb)
    go_ret
    exact ⟨rfl, hS⟩
  have hl0 : 0 < l.length := by cases l with | nil => exact absurd rfl hne | cons t l => simp
  have hl401 : l.length ≤ 401 := by omega
  have q0 : ((l.length : Int) == 0) = false := beq_eq_false_iff_ne.2 (by omega)
  have hp1 := fun w => place13_any which 4 w (by omega) (by omega) hw0 hw1
  have hp2 := fun w => place13_any at0 ((l.length : Int) + 1) w (by omega) (by omega) ha0 ha1
  obtain ⟨j, hj⟩ : ∃ j : Nat, which % 4 = j := ⟨(which % 4).toNat, by omega⟩
  have hj4 : j < 4 := by omega
  have hm0 := Int.emod_nonneg at0 (show (l.length : Int) + 1 ≠ 0 by omega)
  have hm1 := Int.emod_lt_of_pos at0 (show (0 : Int) < (l.length : Int) + 1 by omega)
  obtain ⟨k, hk⟩ : ∃ k : Nat, at0 % ((l.length : Int) + 1) = k := ⟨(at0 % ((l.length : Int) + 1)).toNat, by omega⟩
  rw [hk] at hm0 hm1
  rw [hj] at hp1
  rw [hk] at hp2
  have hkl : k ≤ l.length := by omega
  clear hj hk hm0 hm1 hw0 hw1 ha0 ha1
  have HB := Lib.hid (blanks_ok s l hX (by omega) hne k j hkl)
  have HF := Lib.hid (insB_facts j (decide (k = l.length)))
  have hix := index4 ⟨#[32]⟩ ⟨#[10, 9]⟩ ⟨#[32, 45, 45, 32, 105, 116, 39, 115, 32, 40, 10]⟩ ⟨#[13, 10, 32, 32]⟩ j (j : Int) rfl hj4
  rw [show pick4 ⟨#[32]⟩ ⟨#[10, 9]⟩ ⟨#[32, 45, 45, 32, 105, 116, 39, 115, 32, 40, 10]⟩ ⟨#[13, 10, 32, 32]⟩ j = blk4 j from rfl] at hix
  have HAt : Hid (∀ t, l[k]? = some t → t.at_ < (pts s).length) := by
    exact lexL_at s l hX hne (by omega) k
  clear hX
  obtain ⟨Q, hQ⟩ : ∃ Q, blk4 j = Q := ⟨_, rfl⟩
  have HQ : Hid (∀ b, insB j b = if b then ⟨#[10]⟩ ++ Q else Q) := by show ∀ b, _; intro b; unfold insB; rw [hQ]
  rw [hQ] at hix
  have hQs : Q.size ≤ 11 := by rw [← hQ]; exact (blk4_facts j).2.2.2.2.1
  clear hQ
  go_enter Tryd.func3, Tryd.ntmps3
  go_wp2_with fail
  refine hl.mono ?_; rintro e w1 ⟨⟨v, rfl, hown⟩, hb⟩
  replace hS := hS.step hb
  clear hl hb
  obtain ⟨a, cap, rfl, hr⟩ := row_read hown
  obtain ⟨g, rfl, _, hg, hc⟩ := hr (by show 0 < l.length; exact hl0)
  replace hc : ∀ j u, (flatT l)[j]? = some u → w1.cell? ⟨g, j, none⟩ = some u := hc
  have Rl := Lib.hid hc
  have Hg := Lib.hid hg
  clear hown hr hc hg
  rw [show (l, 0, 0).1.length = l.length from rfl]
  go_wp2_with fail
  refine (hp1 _).mono ?_; rintro e w2 ⟨rfl, rfl⟩
  go_wp2_with fail
  refine (hp2 _).mono ?_; rintro e w2 ⟨rfl, rfl⟩
  go_wp2_with fail
  go_loopw [12, 13, 14] (fun n c _ wr => ∃ (pos : Nat) (done : List Pt), wr.heap[w1.heap.size]? = some (.stringIter s pos) ∧ Below w1.heap.size w1 wr ∧ n = .int .i64 done.length ∧ c = .int .i64 s.size ∧ Hid (pts s = done ++ ptsAt s pos) ∧ done.length ≤ pos ∧ pos ≤ s.size ∧ Hid (∀ t, l[k]? = some t → done.length ≤ t.at_)) (fun _ _ _ wr => s.size - wr.iterPos w1.heap.size)
  case atStart => exact ⟨0, [], World.iter_heap w1 s 0, (Below.refl _ _).alloc (Nat.le_refl _) _, rfl, rfl, rfl, by simp, by omega, fun _ _ => Nat.zero_le _⟩
  case round =>
    obtain ⟨pos, done, hit, hbw, rfl, rfl, HS, hdp, hpos, HD⟩ := hrel
    have hpos0 := iterPos_of hit
    by_cases hp : pos < s.size
    · have hnx : ∀ ty, (Instr.next (.pointer (some ⟨w1.heap.size, 0, none⟩)) true ty).run Tryd.prog wr = _ := fun ty => Lib.run_next_any_at wr w1.heap.size s pos ty hit hp
      have hwd := width_pos s pos hp
      have hwl := width_le s pos hp
      have hit2 := Lib.iterAt_heap wr w1.heap.size s pos (pos + (Utf8.decode s pos).2) hit
      have hbw2 := Lib.below_iterAt hbw (k := w1.heap.size) (Nat.le_refl _) s (pos + (Utf8.decode s pos).2)
      obtain ⟨W1, hW1⟩ : ∃ W1, W1 = wr.iterAt w1.heap.size s (pos + (Utf8.decode s pos).2) := ⟨_, rfl⟩
      rw [← hW1] at hnx hit2 hbw2
      have hlt := blk_lt hit2
      clear hW1 hit hbw
      have HS2 : Hid (pts s = (done ++ [⟨(Utf8.decode s pos).1, pos, (Utf8.decode s pos).2⟩]) ++ ptsAt s (pos + (Utf8.decode s pos).2)) := by
        show _ = _; rw [HS.out, ptsAt_step s pos hp]; simp
      have HBy := Lib.hid (byteAt_done s done pos HS.out hp)
      have hln : (done ++ [(⟨(Utf8.decode s pos).1, pos, (Utf8.decode s pos).2⟩ : Pt)]).length = done.length + 1 := by simp
      clear HS
      by_cases hkk : k < l.length
      · have q1 : (k : Int) < (l.length : Int) := by omega
        have q2 : (0 : Int) ≤ (k : Int) := by omega
        have hat : l[k]? = some l[k] := List.getElem?_eq_getElem hkk
        have hDt := HD.out _ hat
        have c3 : W1.cell? ⟨g, k * 4 + 3, none⟩ = some (.int .i64 l[k].at_) := (hbw2.cell (p := ⟨g, k * 4 + 3, none⟩) Hg.out).trans (Rl.out _ _ (by rw [flatT_at l k 3 hkk (by omega)]; rfl))
        by_cases hbr : done.length = l[k].at_
        · have q3 : ((done.length : Int) == (l[k].at_ : Int)) = true := beq_iff_eq.2 (by omega)
          have HC : Hid (byteAt s (pts s) (cutAt s l k) = pos) := by
            show _ = _; unfold cutAt; rw [hat]; show byteAt s (pts s) l[k].at_ = pos; rw [← hbr]; exact HBy.out
          generalize l[k].at_ = tA at *
          replace hS := hS.step hbw2
          have HE : Hid (lexL ((s.extract 0 pos ++ (Q)) ++ s.extract pos s.size) = (l.take k ++ (l.drop k).map (Tk.on (Q).size), 0, 0)) := by
            have h := HB.out
            rw [HC.out, decide_eq_false (show ¬ k = l.length by omega), HQ.out] at h
            replace h := h
            exact Lib.hid ((congrArg lexL (show ((s.extract 0 pos ++ (Q)) ++ s.extract pos s.size) = (s.extract 0 pos ++ (Q)) ++ s.extract pos s.size from Eq.symm rfl)).trans h)
          have HP : 0 < (Q).size := by
            have h := HF.out.2.2.2.1
            rw [decide_eq_false (show ¬ k = l.length by omega), HQ.out] at h
            exact h
          have HBs : (Q).size ≤ 12 := by
            have h := HF.out.2.2.2.2.1
            rw [decide_eq_false (show ¬ k = l.length by omega), HQ.out] at h
            exact h
          have hcl := fun w1 hg => lexall_any ((s.extract 0 pos ++ (Q)) ++ s.extract pos s.size) w1 hg
          rw [HE.out] at hcl
          have HM1 : (l.take k ++ (l.drop k).map (Tk.on (Q).size)).length = l.length := by rw [List.length_append, List.length_map, ← List.length_append, List.take_append_drop]
          have HM2 : Hid (∀ i (h : i < l.length), i < k → (l.take k ++ (l.drop k).map (Tk.on (Q).size))[i]? = some l[i]) := by
            show ∀ i (h : i < l.length), _; intro i h hik
            rw [List.getElem?_append_left (by rw [List.length_take]; omega), List.getElem?_take_of_lt hik, List.getElem?_eq_getElem h]
          have HM3 : Hid (∀ i (h : i < l.length), k ≤ i → (l.take k ++ (l.drop k).map (Tk.on (Q).size))[i]? = some (Tk.on (Q).size l[i])) := by
            show ∀ i (h : i < l.length), _; intro i h hik
            rw [List.getElem?_append_right (by rw [List.length_take]; omega), List.length_take, Nat.min_eq_left hkl, List.getElem?_map, List.getElem?_drop, show k + (i - k) = i by omega, List.getElem?_eq_getElem h]; rfl
          generalize hBz : (Q).size = Bz at HE HP HBs HM1 HM2 HM3 hcl
          clear hBz
          generalize (l.take k ++ (l.drop k).map (Tk.on Bz)) = M at *
          clear HE HB HF HQ HC
          have hd0 : (pos : Int) ≤ (s.size : Int) := by omega
          have hd1 : (0 : Int) ≤ (pos : Int) := by omega
          have hd2 : ((pos : Nat) : Int).toNat = pos := by omega
          have hd3 : (pos : Nat) ≤ s.size := by omega
          have ha1 : ∀ w, (Op.stringOp .add (s.extract 0 pos) (Q)).run Tryd.prog w = .ok (.string (s.extract 0 pos ++ (Q))) w := fun w => run_string_add_sum w _ _ (by rw [ByteArray.size_extract]; omega)
          have ha2 : ∀ w, (Op.stringOp .add (s.extract 0 pos ++ (Q)) (s.extract pos s.size)).run Tryd.prog w = .ok (.string ((s.extract 0 pos ++ (Q)) ++ s.extract pos s.size)) w := fun w => run_string_add_sum w _ _ (by rw [ByteArray.size_append, ByteArray.size_extract, ByteArray.size_extract]; omega)
          have hT0 : St w W1 ∧ Below W1.heap.size W1 W1 := ⟨hS, Below.refl _ _⟩
          go_wp2_with fail
          go_region_held3 (fun w' => St w w' ∧ Below W1.heap.size W1 w') (first | exact ⟨hS.drew, (Below.refl _ _).drew⟩ | exact ⟨St.step (And.left (by assumption)) hb, Below.trans (And.right (by assumption)) (hb.mono (Below.size (And.right (by assumption))))⟩)
            ((go_at_call 4; refine (hcl _ (St.glob (And.left (by assumption)))).mono ?_; rintro e w3 ⟨⟨v, rfl, hown⟩, hb⟩; obtain ⟨am, cm, rfl, hr⟩ := row_read hown))
          have hT : St w w3 ∧ Below W1.heap.size W1 w3 := by assumption
          obtain ⟨gm, rfl, _, _, hc⟩ := hr (by show 0 < M.length; omega)
          replace hc : ∀ j u, (flatT M)[j]? = some u → w3.cell? ⟨gm, j, none⟩ = some u := hc
          have Rm := Lib.hid hc
          have Rl3 : Hid (∀ j u, (flatT l)[j]? = some u → w3.cell? ⟨g, j, none⟩ = some u) := by
            show ∀ j u, _ → _; intro j u hj
            exact (hT.2.cell (p := ⟨g, j, none⟩) (Nat.lt_of_lt_of_le Hg.out hbw2.size)).trans ((hbw2.cell (p := ⟨g, j, none⟩) Hg.out).trans (Rl.out j u hj))
          replace hS := hT.1
          clear hb hc hown hr hcl ha1 ha2
          go_wp2_with fail
          go_loopw [18] (fun i wr => ∃ p : Nat, i = .int .i64 p ∧ p ≤ l.length ∧ Hid (∀ q, wr.cell? q = w3.cell? q) ∧ St w wr) (fun i _ => l.length - (intOf i).toNat)
          case atStart => exact ⟨0, rfl, by omega, fun _ => rfl, hS⟩
          case round =>
            clear hS
            obtain ⟨p, rfl, hp, HW, hS⟩ := hrel
            by_cases hlt : p < l.length
            · have q5 : (p : Int) < (l.length : Int) := by omega
              have q6 : (0 : Int) ≤ (p : Int) := by omega
              have hMl : p < M.length := by omega
              have c0 : wr.cell? ⟨g, p * 4, none⟩ = some (.int .i64 l[p].kind) := (HW.out _).trans (Rl3.out _ _ (by have := flatT_at l p 0 hlt (by omega); rw [Nat.add_zero] at this; rw [this]; rfl))
              have c1 : wr.cell? ⟨g, p * 4 + 1, none⟩ = some (.string l[p].s) := (HW.out _).trans (Rl3.out _ _ (by rw [flatT_at l p 1 hlt (by omega)]; rfl))
              have c2 : wr.cell? ⟨g, p * 4 + 2, none⟩ = some (.int .i64 l[p].n) := (HW.out _).trans (Rl3.out _ _ (by rw [flatT_at l p 2 hlt (by omega)]; rfl))
              have c3 : wr.cell? ⟨g, p * 4 + 3, none⟩ = some (.int .i64 l[p].at_) := (HW.out _).trans (Rl3.out _ _ (by rw [flatT_at l p 3 hlt (by omega)]; rfl))
              have d0 : wr.cell? ⟨gm, p * 4, none⟩ = some (.int .i64 M[p].kind) := (HW.out _).trans (Rm.out _ _ (by have := flatT_at M p 0 hMl (by omega); rw [Nat.add_zero] at this; rw [this]; rfl))
              have d1 : wr.cell? ⟨gm, p * 4 + 1, none⟩ = some (.string M[p].s) := (HW.out _).trans (Rm.out _ _ (by rw [flatT_at M p 1 hMl (by omega)]; rfl))
              have d2 : wr.cell? ⟨gm, p * 4 + 2, none⟩ = some (.int .i64 M[p].n) := (HW.out _).trans (Rm.out _ _ (by rw [flatT_at M p 2 hMl (by omega)]; rfl))
              have d3 : wr.cell? ⟨gm, p * 4 + 3, none⟩ = some (.int .i64 M[p].at_) := (HW.out _).trans (Rm.out _ _ (by rw [flatT_at M p 3 hMl (by omega)]; rfl))
              by_cases hpk : p < k
              · have hm : M[p] = l[p] := by have := HM2.out p hlt hpk; rw [List.getElem?_eq_getElem hMl] at this; exact Option.some.inj this
                rw [hm] at d0 d1 d2 d3
                have q7 : ¬ ((k : Int) ≤ (p : Int)) := by omega
                clear hm
                generalize l[p] = t at *
                go_wp2_with fail
                go_quiet (fail)
                go_wp2_with fail
                go_roundw
                case rel => exact ⟨p + 1, by go_num, by omega, HW.out, hS.step (below_drewN (Below.refl _ _) _)⟩
                case measure => simp [intOf]; omega
              · have hm : M[p] = Tk.on Bz l[p] := by have := HM3.out p hlt (by omega); rw [List.getElem?_eq_getElem hMl] at this; exact Option.some.inj this
                rw [hm] at d0 d1 d2 d3
                replace d0 : wr.cell? ⟨gm, p * 4, none⟩ = some (.int .i64 l[p].kind) := d0
                replace d1 : wr.cell? ⟨gm, p * 4 + 1, none⟩ = some (.string l[p].s) := d1
                replace d2 : wr.cell? ⟨gm, p * 4 + 2, none⟩ = some (.int .i64 l[p].n) := d2
                replace d3 : wr.cell? ⟨gm, p * 4 + 3, none⟩ = some (.int .i64 ((l[p].at_ + Bz : Nat) : Int)) := d3
                have q7 : (k : Int) ≤ (p : Int) := by omega
                clear hm
                generalize l[p] = t at *
                have q8 : ((t.at_ : Int) != ((t.at_ + Bz : Nat) : Int)) = true := bne_iff_ne.2 (by omega)
                generalize ((t.at_ + Bz : Nat) : Int) = tb at *
                go_wp2_with fail
                go_quiet (fail)
                go_wp2_with fail
                go_roundw
                case rel => exact ⟨p + 1, by go_num, by omega, HW.out, hS.step (below_drewN (Below.refl _ _) _)⟩
                case measure => simp [intOf]; omega
            · go_wp2_with (go_at_call 5; refine (haw _ hS.2).mono ?_; rintro e w' ⟨rfl, hb⟩; replace hS := hS.trans hb; clear hb)
              go_ret
              exact ⟨rfl, hS⟩
        · have q3 : ((done.length : Int) == (l[k].at_ : Int)) = false := beq_eq_false_iff_ne.2 (by omega)
          have HD2 : Hid (∀ t, l[k]? = some t → done.length + 1 ≤ t.at_) := by
            show ∀ t, _ → _; intro t ht; rw [hat] at ht; cases ht; omega
          generalize l[k].at_ = tA at *
          clear hat
          go_wp2_with fail
          go_roundw
          case rel => exact ⟨_, _, hit2, hbw2, by rw [hln]; go_num, rfl, HS2.out, by rw [hln]; omega, hwl, by rw [hln]; exact HD2.out⟩
          case measure => rw [iterPos_of hit2, hpos0]; omega
      · have HD2 : Hid (∀ t, l[k]? = some t → done.length + 1 ≤ t.at_) := by
          show ∀ t, _ → _; intro t ht; rw [List.getElem?_eq_none (by omega)] at ht; cases ht
        have q1 : ¬ ((k : Int) < (l.length : Int)) := by omega
        go_wp2_with fail
        go_roundw
        case rel => exact ⟨_, _, hit2, hbw2, by rw [hln]; go_num, rfl, HS2.out, by rw [hln]; omega, hwl, by rw [hln]; exact HD2.out⟩
        case measure => rw [iterPos_of hit2, hpos0]; omega
    · have hnx : ∀ ty, (Instr.next (.pointer (some ⟨w1.heap.size, 0, none⟩)) true ty).run Tryd.prog wr = _ := fun ty => Lib.run_next_end_at wr w1.heap.size s pos ty hit hp
      have hpe : ptsAt s pos = [] := ptsAt_end s pos hp
      have hkk : k = l.length := by
        refine Decidable.byContradiction fun hc => ?_
        have hkl2 : k < l.length := by omega
        have hat : l[k]? = some l[k] := List.getElem?_eq_getElem hkl2
        have h1 := HD.out _ hat
        have h2 := HAt.out _ hat
        rw [HS.out, hpe, List.append_nil] at h2
        omega
      have HC : Hid (byteAt s (pts s) (cutAt s l k) = s.size) := by
        show byteAt s (pts s) (cutAt s l k) = s.size
        have h1 : cutAt s l k = (pts s).length := by unfold cutAt; rw [List.getElem?_eq_none (l := l) (i := k) (by omega)]
        rw [h1]; unfold byteAt; rw [List.getElem?_eq_none (Nat.le_refl _)]
      clear hpe HS HD
      replace hS := hS.step hbw
      have HE : Hid (lexL (s ++ (⟨#[10]⟩ ++ Q)) = (l.take k ++ (l.drop k).map (Tk.on (⟨#[10]⟩ ++ Q).size), 0, 0)) := by
        have h := HB.out
        rw [HC.out, decide_eq_true hkk, HQ.out] at h
        rw [if_pos rfl] at h
        exact Lib.hid ((congrArg lexL (show (s ++ (⟨#[10]⟩ ++ Q)) = (s.extract 0 s.size ++ (⟨#[10]⟩ ++ Q)) ++ s.extract s.size s.size from Eq.symm (by rw [ByteArray.extract_zero_size, show s.extract s.size s.size = ByteArray.empty from by simp]; simp))).trans h)
      have HP : 0 < (⟨#[10]⟩ ++ Q).size := by
        have h := HF.out.2.2.2.1
        rw [decide_eq_true hkk, HQ.out] at h
        exact h
      have HBs : (⟨#[10]⟩ ++ Q).size ≤ 12 := by
        have h := HF.out.2.2.2.2.1
        rw [decide_eq_true hkk, HQ.out] at h
        exact h
      have hcl := fun w1 hg => lexall_any (s ++ (⟨#[10]⟩ ++ Q)) w1 hg
      rw [HE.out] at hcl
      have HM1 : (l.take k ++ (l.drop k).map (Tk.on (⟨#[10]⟩ ++ Q).size)).length = l.length := by rw [List.length_append, List.length_map, ← List.length_append, List.take_append_drop]
      have HM2 : Hid (∀ i (h : i < l.length), i < k → (l.take k ++ (l.drop k).map (Tk.on (⟨#[10]⟩ ++ Q).size))[i]? = some l[i]) := by
        show ∀ i (h : i < l.length), _; intro i h hik
        rw [List.getElem?_append_left (by rw [List.length_take]; omega), List.getElem?_take_of_lt hik, List.getElem?_eq_getElem h]
      have HM3 : Hid (∀ i (h : i < l.length), k ≤ i → (l.take k ++ (l.drop k).map (Tk.on (⟨#[10]⟩ ++ Q).size))[i]? = some (Tk.on (⟨#[10]⟩ ++ Q).size l[i])) := by
        show ∀ i (h : i < l.length), _; intro i h hik
        rw [List.getElem?_append_right (by rw [List.length_take]; omega), List.length_take, Nat.min_eq_left hkl, List.getElem?_map, List.getElem?_drop, show k + (i - k) = i by omega, List.getElem?_eq_getElem h]; rfl
      generalize hBz : (⟨#[10]⟩ ++ Q).size = Bz at HE HP HBs HM1 HM2 HM3 hcl
      clear hBz
      generalize (l.take k ++ (l.drop k).map (Tk.on Bz)) = M at *
      clear HE HB HF HQ HC
      have hd0 : (s.size : Int) ≤ (s.size : Int) := by omega
      have hd1 : (0 : Int) ≤ (s.size : Int) := by omega
      have hd2 : ((s.size : Nat) : Int).toNat = s.size := by omega
      have hd3 : (s.size : Nat) ≤ s.size := by omega
      have ha1 : ∀ w, (Op.stringOp .add (s) (⟨#[10]⟩ ++ Q)).run Tryd.prog w = .ok (.string (s ++ (⟨#[10]⟩ ++ Q))) w := fun w => run_string_add_sum w _ _ (by rw [ByteArray.size_append, one10]; omega)
      have ha2 : ∀ w, (Op.stringOp .add (s ++ (⟨#[10]⟩ ++ Q)) (ByteArray.empty)).run Tryd.prog w = .ok (.string (s ++ (⟨#[10]⟩ ++ Q))) w := fun w => (run_string_add_sum w _ _ (by rw [ByteArray.size_append, ByteArray.size_append, one10, ByteArray.size_empty]; omega)).trans (by simp)
      have hT0 : St w wr ∧ Below wr.heap.size wr wr := ⟨hS, Below.refl _ _⟩
      go_wp2_with fail
      go_region_held3 (fun w' => St w w' ∧ Below wr.heap.size wr w') (first | exact ⟨hS.drew, (Below.refl _ _).drew⟩ | exact ⟨St.step (And.left (by assumption)) hb, Below.trans (And.right (by assumption)) (hb.mono (Below.size (And.right (by assumption))))⟩)
        ((go_at_call 4; refine (hcl _ (St.glob (And.left (by assumption)))).mono ?_; rintro e w3 ⟨⟨v, rfl, hown⟩, hb⟩; obtain ⟨am, cm, rfl, hr⟩ := row_read hown))
      have hT : St w w3 ∧ Below wr.heap.size wr w3 := by assumption
      obtain ⟨gm, rfl, _, _, hc⟩ := hr (by show 0 < M.length; omega)
      replace hc : ∀ j u, (flatT M)[j]? = some u → w3.cell? ⟨gm, j, none⟩ = some u := hc
      have Rm := Lib.hid hc
      have Rl3 : Hid (∀ j u, (flatT l)[j]? = some u → w3.cell? ⟨g, j, none⟩ = some u) := by
        show ∀ j u, _ → _; intro j u hj
        exact (hT.2.cell (p := ⟨g, j, none⟩) (Nat.lt_of_lt_of_le Hg.out hbw.size)).trans ((hbw.cell (p := ⟨g, j, none⟩) Hg.out).trans (Rl.out j u hj))
      replace hS := hT.1
      clear hb hc hown hr hcl ha1 ha2
      go_wp2_with fail
      go_loopw [18] (fun i wr => ∃ p : Nat, i = .int .i64 p ∧ p ≤ l.length ∧ Hid (∀ q, wr.cell? q = w3.cell? q) ∧ St w wr) (fun i _ => l.length - (intOf i).toNat)
      case atStart => exact ⟨0, rfl, by omega, fun _ => rfl, hS⟩
      case round =>
        clear hS
        obtain ⟨p, rfl, hp, HW, hS⟩ := hrel
        by_cases hlt : p < l.length
        · have q5 : (p : Int) < (l.length : Int) := by omega
          have q6 : (0 : Int) ≤ (p : Int) := by omega
          have hMl : p < M.length := by omega
          have c0 : wr.cell? ⟨g, p * 4, none⟩ = some (.int .i64 l[p].kind) := (HW.out _).trans (Rl3.out _ _ (by have := flatT_at l p 0 hlt (by omega); rw [Nat.add_zero] at this; rw [this]; rfl))
          have c1 : wr.cell? ⟨g, p * 4 + 1, none⟩ = some (.string l[p].s) := (HW.out _).trans (Rl3.out _ _ (by rw [flatT_at l p 1 hlt (by omega)]; rfl))
          have c2 : wr.cell? ⟨g, p * 4 + 2, none⟩ = some (.int .i64 l[p].n) := (HW.out _).trans (Rl3.out _ _ (by rw [flatT_at l p 2 hlt (by omega)]; rfl))
          have c3 : wr.cell? ⟨g, p * 4 + 3, none⟩ = some (.int .i64 l[p].at_) := (HW.out _).trans (Rl3.out _ _ (by rw [flatT_at l p 3 hlt (by omega)]; rfl))
          have d0 : wr.cell? ⟨gm, p * 4, none⟩ = some (.int .i64 M[p].kind) := (HW.out _).trans (Rm.out _ _ (by have := flatT_at M p 0 hMl (by omega); rw [Nat.add_zero] at this; rw [this]; rfl))
          have d1 : wr.cell? ⟨gm, p * 4 + 1, none⟩ = some (.string M[p].s) := (HW.out _).trans (Rm.out _ _ (by rw [flatT_at M p 1 hMl (by omega)]; rfl))
          have d2 : wr.cell? ⟨gm, p * 4 + 2, none⟩ = some (.int .i64 M[p].n) := (HW.out _).trans (Rm.out _ _ (by rw [flatT_at M p 2 hMl (by omega)]; rfl))
          have d3 : wr.cell? ⟨gm, p * 4 + 3, none⟩ = some (.int .i64 M[p].at_) := (HW.out _).trans (Rm.out _ _ (by rw [flatT_at M p 3 hMl (by omega)]; rfl))
          by_cases hpk : p < k
          · have hm : M[p] = l[p] := by have := HM2.out p hlt hpk; rw [List.getElem?_eq_getElem hMl] at this; exact Option.some.inj this
            rw [hm] at d0 d1 d2 d3
            have q7 : ¬ ((k : Int) ≤ (p : Int)) := by omega
            clear hm
            generalize l[p] = t at *
            go_wp2_with fail
            go_quiet (fail)
            go_wp2_with fail
            go_roundw
            case rel => exact ⟨p + 1, by go_num, by omega, HW.out, hS.step (below_drewN (Below.refl _ _) _)⟩
            case measure => simp [intOf]; omega
          · exact absurd hlt (by omega)
        · go_wp2_with (go_at_call 5; refine (haw _ hS.2).mono ?_; rintro e w' ⟨rfl, hb⟩; replace hS := hS.trans hb; clear hb)
          go_ret
          exact ⟨rfl, hS⟩

end Go.Proofs.YtfbgdjcnlnfoaaaDoor
