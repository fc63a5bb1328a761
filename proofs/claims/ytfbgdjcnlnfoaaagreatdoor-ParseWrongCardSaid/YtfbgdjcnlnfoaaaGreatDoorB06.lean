/- Parts of the proof, joined: PrsP PrsQ PrsR PrsT PlainQ PlainR PlainPB. -/
import Derived.Deep.MidRow
import Derived.Test.YtfbgdjcnlnfoaaaGreatDoorB01
import Derived.Test.YtfbgdjcnlnfoaaaGreatDoorB02
import Derived.Test.YtfbgdjcnlnfoaaaGreatDoorB03
import Derived.Test.YtfbgdjcnlnfoaaaGreatDoorB05
namespace Go.Proofs.YtfbgdjcnlnfoaaaGreatDoor
open Go.RowKit
open Cle

theorem build_p0 (w : World) : (Instr.build 124 #[]).run Tryz.prog w = .ok (.agg #[.int .i64 0, .string ⟨#[]⟩, .string ⟨#[]⟩, .string ⟨#[]⟩, .string ⟨#[]⟩, .int .i64 0, .string ⟨#[]⟩, .int .i64 0, .string ⟨#[]⟩, .int .i64 0, .slice none 0 0, .slice none 0 0, .slice none 0 0, .slice none 0 0, .int .i64 0, .int .i64 0, .int .i64 0, .slice none 0 0]) w := by kernel_rfl
theorem GaveSt.from {K : PK} {w0 w w' : World} {T : TypeId} {x : Sx} {σ σ' : Ps} {e : Ending} (hD : Did K w0 σ w) (h : GaveSt K w T x σ' e w') : GaveSt K w0 T x σ' e w' := by
  obtain ⟨tc, c, s, wv, he, hd, hr⟩ := h
  exact ⟨tc, c, s, wv, he, hD.trans hd, hr.mono hD.size⟩
theorem Gave_ex {K : PK} {w : World} {T : TypeId} {x : Sx} {σ : Ps} {e : Ending} {w' : World} (h : GaveSt K w T x σ e w') : ∃ v, e = .returned v ∧ GaveSt K w T x σ (.returned v) w' := by
  obtain ⟨tc, c, s, wv, rfl, hd, hr⟩ := h
  exact ⟨_, rfl, tc, c, s, wv, rfl, hd, hr⟩
theorem GaveBa_from {K : PK} {w0 w w' : World} {l : List Sx} {σ σ' : Ps} {e : Ending} (hD : Did K w0 σ w) (h : GaveNd K w (.batch l) σ' e w') : GaveNd K w0 (.batch l) σ' e w' := by
  obtain ⟨L, a, cap, hL, he, hd, hr, hp⟩ := h
  exact ⟨L, a, cap, hL, he, hD.trans hd, ownsRow_mono hr hD.size, fun p hp' => (hp p hp').mono hD.size⟩
theorem GaveBa_ex {K : PK} {w : World} {l : List Sx} {σ : Ps} {e : Ending} {w' : World} (h : GaveNd K w (.batch l) σ e w') : ∃ v, e = .returned v ∧ GaveNd K w (.batch l) σ (.returned v) w' := by
  obtain ⟨L, a, cap, hL, rfl, hd, hr, hp⟩ := h
  exact ⟨_, rfl, L, a, cap, hL, rfl, hd, hr, hp⟩
set_option maxRecDepth 100000 in
set_option maxHeartbeats 8000000 in
theorem statement_any {K : PK} : ∀ (n : Nat) {w : World} {σ : Ps}, PQ K w σ → K.X.T.length - σ.i < n →
    Calls Tryz.prog 37 #[.pointer (some ⟨K.b, 0, none⟩)] w (GaveNd K w (K.X.stF n σ).1 (K.X.stF n σ).2) := by
  intro n
  induction n with
  | zero => intro w σ _ hlt; exact absurd hlt (by omega)
  | succ n ih =>
  intro w σ h hlt
  have hle := h.le
  have hD0 := Did.refl h
  cases hs_insert : K.X.sees σ (⟨#[105, 110, 115, 101, 114, 116]⟩ : ByteArray) with
  | true =>
    have HE : Hid (K.X.stF (n + 1) σ = (.change (K.X.insert σ.step).1, (K.X.insert σ.step).2)) := by show _ = _; rw [Tx.stF]; simp only [hs_insert, if_true]
    clear ih
    go_enter Tryz.func37, Tryz.ntmps37
    have hm1 := may_any hD0.1 (⟨#[105, 110, 115, 101, 114, 116]⟩ : ByteArray)
    unfold Tx.may at hm1
    rw [hs_insert, if_pos rfl] at hm1
    go_wp2_with fail
    refine hm1.mono ?_; rintro e w1 ⟨rfl, hd1⟩
    have hD1 := hD0.trans hd1
    have hc := insert_any hD1.1
    go_wp2_with fail
    refine hc.mono ?_; intro e wz hz
    replace hz := GaveSt.from hD1 hz
    obtain ⟨v, rfl, hz⟩ := Gave_ex hz
    go_wp2_with fail
    go_ret
    rw [HE.out]
    exact hz
  | false =>
    cases hs_update : K.X.sees σ (⟨#[117, 112, 100, 97, 116, 101]⟩ : ByteArray) with
    | true =>
      have HE : Hid (K.X.stF (n + 1) σ = (.change (K.X.update σ.step).1, (K.X.update σ.step).2)) := by show _ = _; rw [Tx.stF]; simp only [hs_insert, hs_update, if_true, Bool.false_eq_true, if_false]
      clear ih
      go_enter Tryz.func37, Tryz.ntmps37
      have hm1 := may_any hD0.1 (⟨#[105, 110, 115, 101, 114, 116]⟩ : ByteArray)
      unfold Tx.may at hm1
      rw [hs_insert, if_neg (by decide)] at hm1
      go_wp2_with fail
      refine hm1.mono ?_; rintro e w1 ⟨rfl, hd1⟩
      have hD1 := hD0.trans hd1
      have hm2 := may_any hD1.1 (⟨#[117, 112, 100, 97, 116, 101]⟩ : ByteArray)
      unfold Tx.may at hm2
      rw [hs_update, if_pos rfl] at hm2
      go_wp2_with fail
      refine hm2.mono ?_; rintro e w2 ⟨rfl, hd2⟩
      have hD2 := hD1.trans hd2
      have hc := update_any hD2.1
      go_wp2_with fail
      refine hc.mono ?_; intro e wz hz
      replace hz := GaveSt.from hD2 hz
      obtain ⟨v, rfl, hz⟩ := Gave_ex hz
      go_wp2_with fail
      go_ret
      rw [HE.out]
      exact hz
    | false =>
      cases hs_delete : K.X.sees σ (⟨#[100, 101, 108, 101, 116, 101]⟩ : ByteArray) with
      | true =>
        have HE : Hid (K.X.stF (n + 1) σ = (.change (K.X.remove σ.step).1, (K.X.remove σ.step).2)) := by show _ = _; rw [Tx.stF]; simp only [hs_insert, hs_update, hs_delete, if_true, Bool.false_eq_true, if_false]
        clear ih
        go_enter Tryz.func37, Tryz.ntmps37
        have hm1 := may_any hD0.1 (⟨#[105, 110, 115, 101, 114, 116]⟩ : ByteArray)
        unfold Tx.may at hm1
        rw [hs_insert, if_neg (by decide)] at hm1
        go_wp2_with fail
        refine hm1.mono ?_; rintro e w1 ⟨rfl, hd1⟩
        have hD1 := hD0.trans hd1
        have hm2 := may_any hD1.1 (⟨#[117, 112, 100, 97, 116, 101]⟩ : ByteArray)
        unfold Tx.may at hm2
        rw [hs_update, if_neg (by decide)] at hm2
        go_wp2_with fail
        refine hm2.mono ?_; rintro e w2 ⟨rfl, hd2⟩
        have hD2 := hD1.trans hd2
        have hm3 := may_any hD2.1 (⟨#[100, 101, 108, 101, 116, 101]⟩ : ByteArray)
        unfold Tx.may at hm3
        rw [hs_delete, if_pos rfl] at hm3
        go_wp2_with fail
        refine hm3.mono ?_; rintro e w3 ⟨rfl, hd3⟩
        have hD3 := hD2.trans hd3
        have hc := remove_any hD3.1
        go_wp2_with fail
        refine hc.mono ?_; intro e wz hz
        replace hz := GaveSt.from hD3 hz
        obtain ⟨v, rfl, hz⟩ := Gave_ex hz
        go_wp2_with fail
        go_ret
        rw [HE.out]
        exact hz
      | false =>
        cases hs_select : K.X.sees σ (⟨#[115, 101, 108, 101, 99, 116]⟩ : ByteArray) with
        | true =>
          have HE : Hid (K.X.stF (n + 1) σ = (.plain (K.X.ask σ.step).1, (K.X.ask σ.step).2)) := by show _ = _; rw [Tx.stF]; simp only [hs_insert, hs_update, hs_delete, hs_select, if_true, Bool.false_eq_true, if_false]
          clear ih
          go_enter Tryz.func37, Tryz.ntmps37
          have hm1 := may_any hD0.1 (⟨#[105, 110, 115, 101, 114, 116]⟩ : ByteArray)
          unfold Tx.may at hm1
          rw [hs_insert, if_neg (by decide)] at hm1
          go_wp2_with fail
          refine hm1.mono ?_; rintro e w1 ⟨rfl, hd1⟩
          have hD1 := hD0.trans hd1
          have hm2 := may_any hD1.1 (⟨#[117, 112, 100, 97, 116, 101]⟩ : ByteArray)
          unfold Tx.may at hm2
          rw [hs_update, if_neg (by decide)] at hm2
          go_wp2_with fail
          refine hm2.mono ?_; rintro e w2 ⟨rfl, hd2⟩
          have hD2 := hD1.trans hd2
          have hm3 := may_any hD2.1 (⟨#[100, 101, 108, 101, 116, 101]⟩ : ByteArray)
          unfold Tx.may at hm3
          rw [hs_delete, if_neg (by decide)] at hm3
          go_wp2_with fail
          refine hm3.mono ?_; rintro e w3 ⟨rfl, hd3⟩
          have hD3 := hD2.trans hd3
          have hm4 := may_any hD3.1 (⟨#[115, 101, 108, 101, 99, 116]⟩ : ByteArray)
          unfold Tx.may at hm4
          rw [hs_select, if_pos rfl] at hm4
          go_wp2_with fail
          refine hm4.mono ?_; rintro e w4 ⟨rfl, hd4⟩
          have hD4 := hD3.trans hd4
          have hc := ask_any hD4.1
          go_wp2_with fail
          refine hc.mono ?_; intro e wz hz
          replace hz := GaveSt.from hD4 hz
          obtain ⟨v, rfl, hz⟩ := Gave_ex hz
          go_wp2_with fail
          go_ret
          rw [HE.out]
          exact hz
        | false =>
          cases hs_begin : K.X.sees σ (⟨#[98, 101, 103, 105, 110]⟩ : ByteArray) with
          | true =>
            have HE : Hid (K.X.stF (n + 1) σ = (.batch (K.X.many (K.X.stF n) σ.step).1, (K.X.many (K.X.stF n) σ.step).2)) := by show _ = _; rw [Tx.stF]; simp only [hs_insert, hs_update, hs_delete, hs_select, hs_begin, if_true, Bool.false_eq_true, if_false]
            have hbl := (sees_lt hs_begin).1
            have hln : K.X.T.length - σ.step.i < n := by show K.X.T.length - (σ.i + 1) < n; omega
            go_enter Tryz.func37, Tryz.ntmps37
            have hm1 := may_any hD0.1 (⟨#[105, 110, 115, 101, 114, 116]⟩ : ByteArray)
            unfold Tx.may at hm1
            rw [hs_insert, if_neg (by decide)] at hm1
            go_wp2_with fail
            refine hm1.mono ?_; rintro e w1 ⟨rfl, hd1⟩
            have hD1 := hD0.trans hd1
            have hm2 := may_any hD1.1 (⟨#[117, 112, 100, 97, 116, 101]⟩ : ByteArray)
            unfold Tx.may at hm2
            rw [hs_update, if_neg (by decide)] at hm2
            go_wp2_with fail
            refine hm2.mono ?_; rintro e w2 ⟨rfl, hd2⟩
            have hD2 := hD1.trans hd2
            have hm3 := may_any hD2.1 (⟨#[100, 101, 108, 101, 116, 101]⟩ : ByteArray)
            unfold Tx.may at hm3
            rw [hs_delete, if_neg (by decide)] at hm3
            go_wp2_with fail
            refine hm3.mono ?_; rintro e w3 ⟨rfl, hd3⟩
            have hD3 := hD2.trans hd3
            have hm4 := may_any hD3.1 (⟨#[115, 101, 108, 101, 99, 116]⟩ : ByteArray)
            unfold Tx.may at hm4
            rw [hs_select, if_neg (by decide)] at hm4
            go_wp2_with fail
            refine hm4.mono ?_; rintro e w4 ⟨rfl, hd4⟩
            have hD4 := hD3.trans hd4
            have hm5 := may_any hD4.1 (⟨#[98, 101, 103, 105, 110]⟩ : ByteArray)
            unfold Tx.may at hm5
            rw [hs_begin, if_pos rfl] at hm5
            go_wp2_with fail
            refine hm5.mono ?_; rintro e w5 ⟨rfl, hd5⟩
            have hD5 := hD4.trans hd5
            have hc := many_any (fun hw hl => ih hw hl) hD5.1 hln
            go_wp2_with fail
            refine hc.mono ?_; intro e wz hz
            replace hz := GaveBa_from hD5 hz
            obtain ⟨v, rfl, hz⟩ := GaveBa_ex hz
            go_wp2_with fail
            go_ret
            rw [HE.out]
            exact hz
          | false =>
            cases hs_drop : K.X.sees σ (⟨#[100, 114, 111, 112]⟩ : ByteArray) with
            | true =>
              obtain ⟨⟨x, σx⟩, hx⟩ : ∃ r, K.X.name σ.step = r := ⟨_, rfl⟩
              have HE : Hid (K.X.stF (n + 1) σ = (.plain { Sx.zero with kind := 4, name := x }, σx)) := by show _ = _; rw [Tx.stF]; simp only [hs_insert, hs_update, hs_delete, hs_select, hs_begin, hs_drop, if_true, Bool.false_eq_true, if_false, hx]
              clear ih
              go_enter Tryz.func37, Tryz.ntmps37
              have hm1 := may_any hD0.1 (⟨#[105, 110, 115, 101, 114, 116]⟩ : ByteArray)
              unfold Tx.may at hm1
              rw [hs_insert, if_neg (by decide)] at hm1
              go_wp2_with fail
              refine hm1.mono ?_; rintro e w1 ⟨rfl, hd1⟩
              have hD1 := hD0.trans hd1
              have hm2 := may_any hD1.1 (⟨#[117, 112, 100, 97, 116, 101]⟩ : ByteArray)
              unfold Tx.may at hm2
              rw [hs_update, if_neg (by decide)] at hm2
              go_wp2_with fail
              refine hm2.mono ?_; rintro e w2 ⟨rfl, hd2⟩
              have hD2 := hD1.trans hd2
              have hm3 := may_any hD2.1 (⟨#[100, 101, 108, 101, 116, 101]⟩ : ByteArray)
              unfold Tx.may at hm3
              rw [hs_delete, if_neg (by decide)] at hm3
              go_wp2_with fail
              refine hm3.mono ?_; rintro e w3 ⟨rfl, hd3⟩
              have hD3 := hD2.trans hd3
              have hm4 := may_any hD3.1 (⟨#[115, 101, 108, 101, 99, 116]⟩ : ByteArray)
              unfold Tx.may at hm4
              rw [hs_select, if_neg (by decide)] at hm4
              go_wp2_with fail
              refine hm4.mono ?_; rintro e w4 ⟨rfl, hd4⟩
              have hD4 := hD3.trans hd4
              have hm5 := may_any hD4.1 (⟨#[98, 101, 103, 105, 110]⟩ : ByteArray)
              unfold Tx.may at hm5
              rw [hs_begin, if_neg (by decide)] at hm5
              go_wp2_with fail
              refine hm5.mono ?_; rintro e w5 ⟨rfl, hd5⟩
              have hD5 := hD4.trans hd5
              have hm6 := may_any hD5.1 (⟨#[100, 114, 111, 112]⟩ : ByteArray)
              unfold Tx.may at hm6
              rw [hs_drop, if_pos rfl] at hm6
              go_wp2_with fail
              refine hm6.mono ?_; rintro e w6 ⟨rfl, hd6⟩
              have hD6 := hD5.trans hd6
              have hc := name_any hD6.1
              rw [hx] at hc
              go_wp2_with fail
              refine hc.mono ?_; rintro e wz ⟨rfl, hz⟩
              have hDz := hD6.trans hz
              have hB0 := build_kn 4 x
              have hBx := build_pl
              have hMx := mki_pl
              go_wp2_with fail
              go_ret
              rw [HE.out]
              exact ⟨vnil, vnil, vnil, vnil, rfl, hDz, rows_zero _ _ _ rfl rfl rfl rfl⟩
            | false =>
              cases hs_create : K.X.sees σ (⟨#[99, 114, 101, 97, 116, 101]⟩ : ByteArray) with
              | true =>
                cases hs_table : K.X.sees σ.step (⟨#[116, 97, 98, 108, 101]⟩ : ByteArray) with
                | true =>
                  have HE : Hid (K.X.stF (n + 1) σ = (.plain (K.X.table σ.step.step).1, (K.X.table σ.step.step).2)) := by show _ = _; rw [Tx.stF]; simp only [hs_insert, hs_update, hs_delete, hs_select, hs_begin, hs_drop, hs_create, hs_table, if_true, Bool.false_eq_true, if_false]
                  clear ih
                  go_enter Tryz.func37, Tryz.ntmps37
                  have hm1 := may_any hD0.1 (⟨#[105, 110, 115, 101, 114, 116]⟩ : ByteArray)
                  unfold Tx.may at hm1
                  rw [hs_insert, if_neg (by decide)] at hm1
                  go_wp2_with fail
                  refine hm1.mono ?_; rintro e w1 ⟨rfl, hd1⟩
                  have hD1 := hD0.trans hd1
                  have hm2 := may_any hD1.1 (⟨#[117, 112, 100, 97, 116, 101]⟩ : ByteArray)
                  unfold Tx.may at hm2
                  rw [hs_update, if_neg (by decide)] at hm2
                  go_wp2_with fail
                  refine hm2.mono ?_; rintro e w2 ⟨rfl, hd2⟩
                  have hD2 := hD1.trans hd2
                  have hm3 := may_any hD2.1 (⟨#[100, 101, 108, 101, 116, 101]⟩ : ByteArray)
                  unfold Tx.may at hm3
                  rw [hs_delete, if_neg (by decide)] at hm3
                  go_wp2_with fail
                  refine hm3.mono ?_; rintro e w3 ⟨rfl, hd3⟩
                  have hD3 := hD2.trans hd3
                  have hm4 := may_any hD3.1 (⟨#[115, 101, 108, 101, 99, 116]⟩ : ByteArray)
                  unfold Tx.may at hm4
                  rw [hs_select, if_neg (by decide)] at hm4
                  go_wp2_with fail
                  refine hm4.mono ?_; rintro e w4 ⟨rfl, hd4⟩
                  have hD4 := hD3.trans hd4
                  have hm5 := may_any hD4.1 (⟨#[98, 101, 103, 105, 110]⟩ : ByteArray)
                  unfold Tx.may at hm5
                  rw [hs_begin, if_neg (by decide)] at hm5
                  go_wp2_with fail
                  refine hm5.mono ?_; rintro e w5 ⟨rfl, hd5⟩
                  have hD5 := hD4.trans hd5
                  have hm6 := may_any hD5.1 (⟨#[100, 114, 111, 112]⟩ : ByteArray)
                  unfold Tx.may at hm6
                  rw [hs_drop, if_neg (by decide)] at hm6
                  go_wp2_with fail
                  refine hm6.mono ?_; rintro e w6 ⟨rfl, hd6⟩
                  have hD6 := hD5.trans hd6
                  have hm7 := may_any hD6.1 (⟨#[99, 114, 101, 97, 116, 101]⟩ : ByteArray)
                  unfold Tx.may at hm7
                  rw [hs_create, if_pos rfl] at hm7
                  go_wp2_with fail
                  refine hm7.mono ?_; rintro e w7 ⟨rfl, hd7⟩
                  have hD7 := hD6.trans hd7
                  have hm8 := may_any hD7.1 (⟨#[116, 97, 98, 108, 101]⟩ : ByteArray)
                  unfold Tx.may at hm8
                  rw [hs_table, if_pos rfl] at hm8
                  go_wp2_with fail
                  refine hm8.mono ?_; rintro e w8 ⟨rfl, hd8⟩
                  have hD8 := hD7.trans hd8
                  have hc := table_any hD8.1
                  go_wp2_with fail
                  refine hc.mono ?_; intro e wz hz
                  replace hz := GaveSt.from hD8 hz
                  obtain ⟨v, rfl, hz⟩ := Gave_ex hz
                  go_wp2_with fail
                  go_ret
                  rw [HE.out]
                  exact hz
                | false =>
                  cases hs_materialized : K.X.sees σ.step (⟨#[109, 97, 116, 101, 114, 105, 97, 108, 105, 122, 101, 100]⟩ : ByteArray) with
                  | true =>
                    have HE : Hid (K.X.stF (n + 1) σ = (.plain (K.X.view σ.step.step).1, (K.X.view σ.step.step).2)) := by show _ = _; rw [Tx.stF]; simp only [hs_insert, hs_update, hs_delete, hs_select, hs_begin, hs_drop, hs_create, hs_table, hs_materialized, if_true, Bool.false_eq_true, if_false]
                    clear ih
                    go_enter Tryz.func37, Tryz.ntmps37
                    have hm1 := may_any hD0.1 (⟨#[105, 110, 115, 101, 114, 116]⟩ : ByteArray)
                    unfold Tx.may at hm1
                    rw [hs_insert, if_neg (by decide)] at hm1
                    go_wp2_with fail
                    refine hm1.mono ?_; rintro e w1 ⟨rfl, hd1⟩
                    have hD1 := hD0.trans hd1
                    have hm2 := may_any hD1.1 (⟨#[117, 112, 100, 97, 116, 101]⟩ : ByteArray)
                    unfold Tx.may at hm2
                    rw [hs_update, if_neg (by decide)] at hm2
                    go_wp2_with fail
                    refine hm2.mono ?_; rintro e w2 ⟨rfl, hd2⟩
                    have hD2 := hD1.trans hd2
                    have hm3 := may_any hD2.1 (⟨#[100, 101, 108, 101, 116, 101]⟩ : ByteArray)
                    unfold Tx.may at hm3
                    rw [hs_delete, if_neg (by decide)] at hm3
                    go_wp2_with fail
                    refine hm3.mono ?_; rintro e w3 ⟨rfl, hd3⟩
                    have hD3 := hD2.trans hd3
                    have hm4 := may_any hD3.1 (⟨#[115, 101, 108, 101, 99, 116]⟩ : ByteArray)
                    unfold Tx.may at hm4
                    rw [hs_select, if_neg (by decide)] at hm4
                    go_wp2_with fail
                    refine hm4.mono ?_; rintro e w4 ⟨rfl, hd4⟩
                    have hD4 := hD3.trans hd4
                    have hm5 := may_any hD4.1 (⟨#[98, 101, 103, 105, 110]⟩ : ByteArray)
                    unfold Tx.may at hm5
                    rw [hs_begin, if_neg (by decide)] at hm5
                    go_wp2_with fail
                    refine hm5.mono ?_; rintro e w5 ⟨rfl, hd5⟩
                    have hD5 := hD4.trans hd5
                    have hm6 := may_any hD5.1 (⟨#[100, 114, 111, 112]⟩ : ByteArray)
                    unfold Tx.may at hm6
                    rw [hs_drop, if_neg (by decide)] at hm6
                    go_wp2_with fail
                    refine hm6.mono ?_; rintro e w6 ⟨rfl, hd6⟩
                    have hD6 := hD5.trans hd6
                    have hm7 := may_any hD6.1 (⟨#[99, 114, 101, 97, 116, 101]⟩ : ByteArray)
                    unfold Tx.may at hm7
                    rw [hs_create, if_pos rfl] at hm7
                    go_wp2_with fail
                    refine hm7.mono ?_; rintro e w7 ⟨rfl, hd7⟩
                    have hD7 := hD6.trans hd7
                    have hm8 := may_any hD7.1 (⟨#[116, 97, 98, 108, 101]⟩ : ByteArray)
                    unfold Tx.may at hm8
                    rw [hs_table, if_neg (by decide)] at hm8
                    go_wp2_with fail
                    refine hm8.mono ?_; rintro e w8 ⟨rfl, hd8⟩
                    have hD8 := hD7.trans hd8
                    have hm9 := may_any hD8.1 (⟨#[109, 97, 116, 101, 114, 105, 97, 108, 105, 122, 101, 100]⟩ : ByteArray)
                    unfold Tx.may at hm9
                    rw [hs_materialized, if_pos rfl] at hm9
                    go_wp2_with fail
                    refine hm9.mono ?_; rintro e w9 ⟨rfl, hd9⟩
                    have hD9 := hD8.trans hd9
                    have hc := view_any hD9.1
                    go_wp2_with fail
                    refine hc.mono ?_; intro e wz hz
                    replace hz := GaveSt.from hD9 hz
                    obtain ⟨v, rfl, hz⟩ := Gave_ex hz
                    go_wp2_with fail
                    go_ret
                    rw [HE.out]
                    exact hz
                  | false =>
                    have HE : Hid (K.X.stF (n + 1) σ = (.plain (K.X.index σ.step).1, (K.X.index σ.step).2)) := by show _ = _; rw [Tx.stF]; simp only [hs_insert, hs_update, hs_delete, hs_select, hs_begin, hs_drop, hs_create, hs_table, hs_materialized, if_true, Bool.false_eq_true, if_false]
                    clear ih
                    go_enter Tryz.func37, Tryz.ntmps37
                    have hm1 := may_any hD0.1 (⟨#[105, 110, 115, 101, 114, 116]⟩ : ByteArray)
                    unfold Tx.may at hm1
                    rw [hs_insert, if_neg (by decide)] at hm1
                    go_wp2_with fail
                    refine hm1.mono ?_; rintro e w1 ⟨rfl, hd1⟩
                    have hD1 := hD0.trans hd1
                    have hm2 := may_any hD1.1 (⟨#[117, 112, 100, 97, 116, 101]⟩ : ByteArray)
                    unfold Tx.may at hm2
                    rw [hs_update, if_neg (by decide)] at hm2
                    go_wp2_with fail
                    refine hm2.mono ?_; rintro e w2 ⟨rfl, hd2⟩
                    have hD2 := hD1.trans hd2
                    have hm3 := may_any hD2.1 (⟨#[100, 101, 108, 101, 116, 101]⟩ : ByteArray)
                    unfold Tx.may at hm3
                    rw [hs_delete, if_neg (by decide)] at hm3
                    go_wp2_with fail
                    refine hm3.mono ?_; rintro e w3 ⟨rfl, hd3⟩
                    have hD3 := hD2.trans hd3
                    have hm4 := may_any hD3.1 (⟨#[115, 101, 108, 101, 99, 116]⟩ : ByteArray)
                    unfold Tx.may at hm4
                    rw [hs_select, if_neg (by decide)] at hm4
                    go_wp2_with fail
                    refine hm4.mono ?_; rintro e w4 ⟨rfl, hd4⟩
                    have hD4 := hD3.trans hd4
                    have hm5 := may_any hD4.1 (⟨#[98, 101, 103, 105, 110]⟩ : ByteArray)
                    unfold Tx.may at hm5
                    rw [hs_begin, if_neg (by decide)] at hm5
                    go_wp2_with fail
                    refine hm5.mono ?_; rintro e w5 ⟨rfl, hd5⟩
                    have hD5 := hD4.trans hd5
                    have hm6 := may_any hD5.1 (⟨#[100, 114, 111, 112]⟩ : ByteArray)
                    unfold Tx.may at hm6
                    rw [hs_drop, if_neg (by decide)] at hm6
                    go_wp2_with fail
                    refine hm6.mono ?_; rintro e w6 ⟨rfl, hd6⟩
                    have hD6 := hD5.trans hd6
                    have hm7 := may_any hD6.1 (⟨#[99, 114, 101, 97, 116, 101]⟩ : ByteArray)
                    unfold Tx.may at hm7
                    rw [hs_create, if_pos rfl] at hm7
                    go_wp2_with fail
                    refine hm7.mono ?_; rintro e w7 ⟨rfl, hd7⟩
                    have hD7 := hD6.trans hd7
                    have hm8 := may_any hD7.1 (⟨#[116, 97, 98, 108, 101]⟩ : ByteArray)
                    unfold Tx.may at hm8
                    rw [hs_table, if_neg (by decide)] at hm8
                    go_wp2_with fail
                    refine hm8.mono ?_; rintro e w8 ⟨rfl, hd8⟩
                    have hD8 := hD7.trans hd8
                    have hm9 := may_any hD8.1 (⟨#[109, 97, 116, 101, 114, 105, 97, 108, 105, 122, 101, 100]⟩ : ByteArray)
                    unfold Tx.may at hm9
                    rw [hs_materialized, if_neg (by decide)] at hm9
                    go_wp2_with fail
                    refine hm9.mono ?_; rintro e w9 ⟨rfl, hd9⟩
                    have hD9 := hD8.trans hd9
                    have hc := index_any hD9.1
                    go_wp2_with fail
                    refine hc.mono ?_; intro e wz hz
                    replace hz := GaveSt.from hD9 hz
                    obtain ⟨v, rfl, hz⟩ := Gave_ex hz
                    go_wp2_with fail
                    go_ret
                    rw [HE.out]
                    exact hz
              | false =>
                have HE : Hid (K.X.stF (n + 1) σ = (.plain Sx.zero, K.X.fail σ)) := by show _ = _; rw [Tx.stF]; simp only [hs_insert, hs_update, hs_delete, hs_select, hs_begin, hs_drop, hs_create, Bool.false_eq_true, if_false]
                clear ih
                go_enter Tryz.func37, Tryz.ntmps37
                have hm1 := may_any hD0.1 (⟨#[105, 110, 115, 101, 114, 116]⟩ : ByteArray)
                unfold Tx.may at hm1
                rw [hs_insert, if_neg (by decide)] at hm1
                go_wp2_with fail
                refine hm1.mono ?_; rintro e w1 ⟨rfl, hd1⟩
                have hD1 := hD0.trans hd1
                have hm2 := may_any hD1.1 (⟨#[117, 112, 100, 97, 116, 101]⟩ : ByteArray)
                unfold Tx.may at hm2
                rw [hs_update, if_neg (by decide)] at hm2
                go_wp2_with fail
                refine hm2.mono ?_; rintro e w2 ⟨rfl, hd2⟩
                have hD2 := hD1.trans hd2
                have hm3 := may_any hD2.1 (⟨#[100, 101, 108, 101, 116, 101]⟩ : ByteArray)
                unfold Tx.may at hm3
                rw [hs_delete, if_neg (by decide)] at hm3
                go_wp2_with fail
                refine hm3.mono ?_; rintro e w3 ⟨rfl, hd3⟩
                have hD3 := hD2.trans hd3
                have hm4 := may_any hD3.1 (⟨#[115, 101, 108, 101, 99, 116]⟩ : ByteArray)
                unfold Tx.may at hm4
                rw [hs_select, if_neg (by decide)] at hm4
                go_wp2_with fail
                refine hm4.mono ?_; rintro e w4 ⟨rfl, hd4⟩
                have hD4 := hD3.trans hd4
                have hm5 := may_any hD4.1 (⟨#[98, 101, 103, 105, 110]⟩ : ByteArray)
                unfold Tx.may at hm5
                rw [hs_begin, if_neg (by decide)] at hm5
                go_wp2_with fail
                refine hm5.mono ?_; rintro e w5 ⟨rfl, hd5⟩
                have hD5 := hD4.trans hd5
                have hm6 := may_any hD5.1 (⟨#[100, 114, 111, 112]⟩ : ByteArray)
                unfold Tx.may at hm6
                rw [hs_drop, if_neg (by decide)] at hm6
                go_wp2_with fail
                refine hm6.mono ?_; rintro e w6 ⟨rfl, hd6⟩
                have hD6 := hD5.trans hd6
                have hm7 := may_any hD6.1 (⟨#[99, 114, 101, 97, 116, 101]⟩ : ByteArray)
                unfold Tx.may at hm7
                rw [hs_create, if_neg (by decide)] at hm7
                go_wp2_with fail
                refine hm7.mono ?_; rintro e w7 ⟨rfl, hd7⟩
                have hD7 := hD6.trans hd7
                have hat := here_any hD7.1
                go_wp2_with fail
                refine hat.mono ?_; rintro e wy ⟨rfl, my, rfl⟩
                have hDy := hD7.drewN my
                have hwr := wrong_any hDy.1 (K.X.here σ)
                go_wp2_with fail
                refine hwr.mono ?_; rintro e wz ⟨rfl, hz⟩
                have hDz := hDy.trans hz
                have hBx := build_p0
                have hMx := mki_pl
                go_wp2_with fail
                go_ret
                rw [HE.out]
                exact ⟨vnil, vnil, vnil, vnil, rfl, hDz, rows_zero _ _ _ rfl rfl rfl rfl⟩
end Go.Proofs.YtfbgdjcnlnfoaaaGreatDoor

namespace Go.Proofs.YtfbgdjcnlnfoaaaGreatDoor
open Go.RowKit
open Cle

theorem results_cell {P : Program} {fn : Func} {a : Tmp} {t : TypeId} (h : fn.results = #[.cell a t]) {tm : Array Value} {ad : Addr} {v : Value} {W : World} (ht : tm.getD a undef = .pointer (some ad)) (hl : (loadVar t ad).run P W = .ok v W) :
    (results fn tm).run P W = .ok v W := by
  unfold results
  rw [h]
  rw [Array.getD_eq_getD_getElem?] at ht
  simp [ht, asAddr, hl]
theorem lv18 {w : World} {b : Nat} {V : Array Value} {T : TypeId} (h : w.heap[b]? = some (.cells V T (0, 0))) (hV : V.size = 18) : (loadVar 31 ⟨b, 0, none⟩).run Tryz.prog w = .ok (.agg V) w := by
  have hc : w.rangeAt b 0 V.toList := fun j v hv => by
    rw [Nat.zero_add, blk_cell h]; simpa using hv
  obtain ⟨d, hu, hd⟩ := Tryz.undSt
  have := run_loadVar_mid w b 0 31 V.toList d hc hu hd (by rw [show V.toList.length = 18 by simpa using hV]; exact Tryz.sizeSt)
  simpa using this
theorem wpl_sto2 {ops : Array Oper} {rest : List Oper} {op : Oper} {a : Act} {w : World} {b : Nat} {Q : Exit → Act → World → Prop} {V : Array Value} (hgd : op.guard = none) (x y : Operand) (ho : op.op = .store 31 x y)
    (hb : b = w.heap.size) (hx : a.eval x = .pointer (some ⟨b, 0, none⟩)) (hy : a.eval y = .agg V) (hV : V.size = 18) (h1' : V.toList.all (·.oneCell') = true) (h : wpList Tryz.prog ops Q rest (a.put op.dst undef) (w.alloc (.cells V 31))) :
    wpList Tryz.prog ops Q (op :: rest) a (w.alloc (.cells #[.int .i64 0, .string ⟨#[]⟩, .string ⟨#[]⟩, .string ⟨#[]⟩, .string ⟨#[]⟩, .int .i64 0, .string ⟨#[]⟩, .int .i64 0, .string ⟨#[]⟩, .int .i64 0, .slice none 0 0, .slice none 0 0, .slice none 0 0, .slice none 0 0, .int .i64 0, .int .i64 0, .int .i64 0, .slice none 0 0] 31)) :=
  wpl_sto hgd x y ho (by rw [hx, hb]) hy hV h1' h
set_option maxRecDepth 100000 in
set_option maxHeartbeats 4000000 in
theorem stmt_pl {w : World} (x : Sx) (tc c s wv : Value) (hone : (stC x tc c s wv vnil).toList.all (·.oneCell') = true) :
    Calls Tryz.prog 224 #[.agg (stC x tc c s wv vnil)] w fun e w' => e = .returned (.agg (stC x tc c s wv vnil)) ∧ Below w.heap.size w w' := by
  have hsz := sz_alloc w (.cells (stC x tc c s wv vnil) 124)
  have hb1 : (w.alloc (.cells (stC x tc c s wv vnil) 124)).heap[w.heap.size]? = some (.cells (stC x tc c s wv vnil) 124 (0, 0)) := blk_new w _
  have hb2 : ((w.alloc (.cells (stC x tc c s wv vnil) 124)).alloc (.cells #[.int .i64 0, .string ⟨#[]⟩, .string ⟨#[]⟩, .string ⟨#[]⟩, .string ⟨#[]⟩, .int .i64 0, .string ⟨#[]⟩, .int .i64 0, .string ⟨#[]⟩, .int .i64 0, .slice none 0 0, .slice none 0 0, .slice none 0 0, .slice none 0 0, .int .i64 0, .int .i64 0, .int .i64 0, .slice none 0 0] 31)).heap[w.heap.size]? = some (.cells (stC x tc c s wv vnil) 124 (0, 0)) := blk_alloc hb1 _
  have hB : Below w.heap.size w ((w.alloc (.cells (stC x tc c s wv vnil) 124)).alloc (.cells (stC x tc c s wv vnil) 31)) := ((Below.refl _ w).alloc (Nat.le_refl _) _).alloc (by rw [hsz]; omega) _
  have hb3 : ((w.alloc (.cells (stC x tc c s wv vnil) 124)).alloc (.cells (stC x tc c s wv vnil) 31)).heap[w.heap.size + 1]? = some (.cells (stC x tc c s wv vnil) 31 (0, 0)) := by
    have := blk_new (w.alloc (.cells (stC x tc c s wv vnil) 124)) (.cells (stC x tc c s wv vnil) 31)
    rw [hsz] at this; exact this
  go_enter Tryz.func224, Tryz.ntmps224
  go_wp2_with (first | refine wpl_st rfl _ rfl rfl rfl hb2 ?_ | refine wpl_sto2 rfl _ _ rfl hsz.symm rfl rfl rfl hone ?_)
  refine bodyPost_ret (results_cell rfl rfl (lv18 hb3 rfl)) rfl ?_
  exact ⟨rfl, hB⟩
end Go.Proofs.YtfbgdjcnlnfoaaaGreatDoor

namespace Go.Proofs.YtfbgdjcnlnfoaaaGreatDoor
open Go.RowKit
open Cle

theorem setCells_blk {b : Nat} {T : TypeId} {fr : Nat × Nat} : ∀ (vs : List Value) (o : Nat) (w : World) (C : Array Value), w.heap[b]? = some (.cells C T fr) →
    ∃ C', (w.setCells b o vs).heap[b]? = some (.cells C' T fr) ∧ C'.size = C.size
  | [], _, w, C, h => ⟨C, h, rfl⟩
  | v :: vs, o, w, C, h => by
    obtain ⟨C', h1, h2⟩ := setCells_blk vs (o + 1) _ _ (blk_set h o v)
    exact ⟨C', h1, by rw [h2]; simp⟩
theorem setCells_rest {b : Nat} : ∀ (vs : List Value) (o : Nat) (w : World), (∀ k, k ≠ b → (w.setCells b o vs).heap[k]? = w.heap[k]?) ∧ (w.setCells b o vs).heap.size = w.heap.size ∧ ∀ B w0, Below B w0 w → B ≤ b → Below B w0 (w.setCells b o vs)
  | [], _, w => ⟨fun _ _ => rfl, rfl, fun _ _ h _ => h⟩
  | v :: vs, o, w => by
    obtain ⟨h1, h2, h3⟩ := setCells_rest (b := b) vs (o + 1) (w.setCell ⟨b, o, none⟩ v)
    refine ⟨fun k hk => (h1 k hk).trans (Below.heap_setCell _ _ _ _ hk), h2.trans (sz_set _ _ _), fun B w0 h hB => h3 B w0 (h.setCell hB v) hB⟩
structure Wrote (w : World) (b : Nat) (V : Array Value) (T : TypeId) (w' : World) : Prop where
  blk : w'.heap[b]? = some (.cells V T (0, 0))
  rest : ∀ k, k ≠ b → w'.heap[k]? = w.heap[k]?
  size : w'.heap.size = w.heap.size
  below : ∀ B w0, Below B w0 w → B ≤ b → Below B w0 w'
theorem store_whole {w : World} {b : Nat} {C V : Array Value} {T : TypeId} (h : w.heap[b]? = some (.cells C T (0, 0))) (hC : C.size = 18) (hV : V.size = 18) (h1 : V.toList.all (·.oneCell') = true) :
    ∃ w', (Instr.storeAt 31 (.pointer (some ⟨b, 0, none⟩)) (.agg V)).run Tryz.prog w = .ok () w' ∧ Wrote w b V T w' := by
  have ht : w.there b 0 V.size := by
    intro j hj
    refine ⟨?_, blk_frozen0 h _⟩
    rw [blk_cell h, Nat.zero_add, Array.getElem?_eq_getElem (by omega)]; rfl
  refine ⟨w.setCells b 0 V.toList, run_storeAt_mid w b 0 _ V ht (by rw [hV]; exact Tryz.sizeSt) (by rw [← Array.all_toList]; exact h1), ?_⟩
  obtain ⟨C', e1, e2⟩ := setCells_blk V.toList 0 w C h
  obtain ⟨r1, r2, r3⟩ := setCells_rest (b := b) V.toList 0 w
  have hs := World.rangeAt_setCells_same w b 0 V.toList (by simpa using ht)
  have : C' = V := by
    apply Array.ext_getElem?
    intro j
    by_cases hj : j < V.size
    · have := hs j V[j] (by simp [Array.getElem?_eq_getElem hj])
      rw [blk_cell e1, Nat.zero_add] at this
      rw [this, Array.getElem?_eq_getElem hj]
    · rw [Array.getElem?_eq_none (by omega), Array.getElem?_eq_none (by omega)]
  subst this
  exact ⟨e1, r1, r2, r3⟩
theorem wpl_whole {ops : Array Oper} {rest : List Oper} {op : Oper} {a : Act} {w : World} {Q : Exit → Act → World → Prop} {b : Nat} {C V : Array Value} {T : TypeId} (hgd : op.guard = none) (x y : Operand) (ho : op.op = .store 31 x y)
    (hx : a.eval x = .pointer (some ⟨b, 0, none⟩)) (hy : a.eval y = .agg V) (hw : w.heap[b]? = some (.cells C T (0, 0))) (hC : C.size = 18) (hV : V.size = 18) (h1 : V.toList.all (·.oneCell') = true)
    (h : ∀ w', Wrote w b V T w' → wpList Tryz.prog ops Q rest (a.put op.dst undef) w') : wpList Tryz.prog ops Q (op :: rest) a w := by
  obtain ⟨w', h2, h3⟩ := store_whole hw hC hV h1
  refine wpList_plain hgd fun K hK => ?_
  unfold Oper.wp execOp
  simp only [ho, hx, hy, Sem.run_bind, h2, Result.andThen_ok, Sem.run_pure]
  exact hK _ _ (h w' h3)
theorem StRows.one {w : World} {base : Nat} {x : Sx} {tc c s wv : Value} (h : StRows w base x tc c s wv) : (stC x tc c s wv vnil).toList.all (·.oneCell') = true := by
  obtain ⟨_, _, htc, _⟩ := row_read h.1
  obtain ⟨_, _, hc', _⟩ := row_read h.2.1
  obtain ⟨_, _, hs', _⟩ := row_read h.2.2.1
  obtain ⟨_, _, hw', _⟩ := row_read h.2.2.2
  rw [htc, hc', hs', hw']; rfl
set_option maxRecDepth 100000 in
set_option maxHeartbeats 4000000 in
theorem stmt_ch {w : World} (x : Sx) (tc c s wv : Value) (hone : (stC x tc c s wv vnil).toList.all (·.oneCell') = true) :
    Calls Tryz.prog 225 #[.agg (stC x tc c s wv vnil)] w fun e w' => e = .returned (.agg (stC x tc c s wv vnil)) ∧ Below w.heap.size w w' := by
  have hsz := sz_alloc w (.cells (stC x tc c s wv vnil) 156)
  have hb1 : (w.alloc (.cells (stC x tc c s wv vnil) 156)).heap[w.heap.size]? = some (.cells (stC x tc c s wv vnil) 156 (0, 0)) := blk_new w _
  have hb2 : ((w.alloc (.cells (stC x tc c s wv vnil) 156)).alloc (.cells #[.int .i64 0, .string ⟨#[]⟩, .string ⟨#[]⟩, .string ⟨#[]⟩, .string ⟨#[]⟩, .int .i64 0, .string ⟨#[]⟩, .int .i64 0, .string ⟨#[]⟩, .int .i64 0, .slice none 0 0, .slice none 0 0, .slice none 0 0, .slice none 0 0, .int .i64 0, .int .i64 0, .int .i64 0, .slice none 0 0] 31)).heap[w.heap.size]? = some (.cells (stC x tc c s wv vnil) 156 (0, 0)) := blk_alloc hb1 _
  have hB : Below w.heap.size w ((w.alloc (.cells (stC x tc c s wv vnil) 156)).alloc (.cells (stC x tc c s wv vnil) 31)) := ((Below.refl _ w).alloc (Nat.le_refl _) _).alloc (by rw [hsz]; omega) _
  have hb3 : ((w.alloc (.cells (stC x tc c s wv vnil) 156)).alloc (.cells (stC x tc c s wv vnil) 31)).heap[w.heap.size + 1]? = some (.cells (stC x tc c s wv vnil) 31 (0, 0)) := by
    have := blk_new (w.alloc (.cells (stC x tc c s wv vnil) 156)) (.cells (stC x tc c s wv vnil) 31)
    rw [hsz] at this; exact this
  go_enter Tryz.func225, Tryz.ntmps225
  go_wp2_with (first | refine wpl_st rfl _ rfl rfl rfl hb2 ?_ | refine wpl_sto2 rfl _ _ rfl hsz.symm rfl rfl rfl hone ?_)
  refine bodyPost_ret (results_cell rfl rfl (lv18 hb3 rfl)) rfl ?_
  exact ⟨rfl, hB⟩
theorem Tryz.eltQ : Elt Tryz.prog 29 31 (.agg #[.int .i64 0, .string ⟨#[]⟩, .string ⟨#[]⟩, .string ⟨#[]⟩, .string ⟨#[]⟩, .int .i64 0, .string ⟨#[]⟩, .int .i64 0, .string ⟨#[]⟩, .int .i64 0, .slice none 0 0, .slice none 0 0, .slice none 0 0, .slice none 0 0, .int .i64 0, .int .i64 0, .int .i64 0, .slice none 0 0]) 18 272 := elt_of Tryz.underlying29 (by kernel_rfl) rfl (by decide)
theorem ta_of (V : Array Value) (w : World) : (Instr.typeAssert (.iface 156 (.agg V)) 71 156 false).run Tryz.prog w = .ok (.agg V) w := by kernel_rfl
def flatP (L : List Pv) : List Value := L.flatMap fun p => p.arr.toList
end Go.Proofs.YtfbgdjcnlnfoaaaGreatDoor

namespace Go.Proofs.YtfbgdjcnlnfoaaaGreatDoor
open Go.RowKit
open Cle

theorem fld_ch (v0 v1 v2 v3 v4 v5 v6 v7 v8 v9 v10 v11 v12 v13 v14 v15 v16 v17 : Value) (w : World) : (Instr.field 156 (.agg #[v0, v1, v2, v3, v4, v5, v6, v7, v8, v9, v10, v11, v12, v13, v14, v15, v16, v17]) 0).run Tryz.prog w = .ok (.agg #[v0, v1, v2, v3, v4, v5, v6, v7, v8, v9, v10, v11, v12, v13, v14, v15, v16, v17]) w := by kernel_rfl
theorem row_below {w w' : World} {base : Nat} {e : TypeId} {size n : Nat} {u : Value} {xs : List Value} (h : w.ownsRow base e size u n xs) (hb : Below w.heap.size w w') : w'.ownsRow base e size u n xs := by
  obtain ⟨h1, h2⟩ := h
  refine ⟨h1, ?_⟩
  rcases h2 with h2 | ⟨g, cap, cur, a, b, c, d⟩
  · exact .inl h2
  · refine .inr ⟨g, cap, cur, a, b, ?_, d⟩
    rw [hb.block g (blk_lt c)]; exact c
theorem row_lo {w : World} {base bx : Nat} {e : TypeId} {size n : Nat} {u : Value} {xs : List Value} (h : w.ownsRow base e size u n xs) (hx : bx < base) (o : Nat) (v : Value) : (w.setCell ⟨bx, o, none⟩ v).ownsRow base e size u n xs := by
  obtain ⟨h1, h2⟩ := h
  refine ⟨h1, ?_⟩
  rcases h2 with h2 | ⟨g, cap, cur, a, b, c, d⟩
  · exact .inl h2
  · exact .inr ⟨g, cap, cur, a, b, blk_setOther c _ _ (by show g ≠ bx; omega), d⟩
theorem flatP_take {L : List Pv} {j : Nat} (h : j < L.length) : flatP (L.take (j + 1)) = flatP (L.take j) ++ (L[j]).arr.toList := by
  unfold flatP
  rw [List.take_succ_eq_append_getElem h, List.flatMap_append]; simp
theorem flatP_take' {L : List Pv} {j : Nat} {q : Pv} (h : L[j]? = some q) : flatP (L.take (j + 1)) = flatP (L.take j) ++ q.arr.toList := by
  obtain ⟨hj, rfl⟩ := List.getElem?_eq_some_iff.1 h
  exact flatP_take hj
theorem PvRows.one {w : World} {base : Nat} {L : List Pv} (h : PvRows w base L) {p : Pv} (hp : p ∈ L) : p.arr.toList.all (·.oneCell') = true := (h p hp).one
set_option maxRecDepth 100000 in
set_option maxHeartbeats 8000000 in
theorem stmt_ba {w : World} {base : Nat} {L : List Pv} {a : Option Addr} {cap : Nat} (hL : L.length ≤ 1000) (hr : w.ownsRow base 71 1 (.slice a L.length cap) L.length (L.map Pv.val)) (hp : PvRows w base L) :
    Calls Tryz.prog 226 #[.agg #[.slice a L.length cap]] w fun e w' => ∃ (a3 : Option Addr) (c3 : Nat), e = .returned (.agg (stC { Sx.zero with kind := 9 } vnil vnil vnil vnil (.slice a3 L.length c3))) ∧ Below w.heap.size w w' ∧ w'.ownsRow w.heap.size 31 18 (.slice a3 L.length c3) L.length (flatP L) := by
  have hs1 := sz_alloc w (.cells #[.slice a L.length cap] 161)
  have hs2 := sz_alloc (w.alloc (.cells #[.slice a L.length cap] 161)) (.cells #[.int .i64 0, .string ⟨#[]⟩, .string ⟨#[]⟩, .string ⟨#[]⟩, .string ⟨#[]⟩, .int .i64 0, .string ⟨#[]⟩, .int .i64 0, .string ⟨#[]⟩, .int .i64 0, .slice none 0 0, .slice none 0 0, .slice none 0 0, .slice none 0 0, .int .i64 0, .int .i64 0, .int .i64 0, .slice none 0 0] 31)
  rw [hs1] at hs2
  have hB := build_k 9
  have g0 : (w.alloc (.cells #[.slice a L.length cap] 161)).heap[w.heap.size]? = some (.cells #[.slice a L.length cap] 161 (0, 0)) := blk_new w _
  have g1 := blk_new (w.alloc (.cells #[.slice a L.length cap] 161)) (.cells #[.int .i64 0, .string ⟨#[]⟩, .string ⟨#[]⟩, .string ⟨#[]⟩, .string ⟨#[]⟩, .int .i64 0, .string ⟨#[]⟩, .int .i64 0, .string ⟨#[]⟩, .int .i64 0, .slice none 0 0, .slice none 0 0, .slice none 0 0, .slice none 0 0, .int .i64 0, .int .i64 0, .int .i64 0, .slice none 0 0] 31)
  rw [hs1] at g1
  have g2 := blk_new ((w.alloc (.cells #[.slice a L.length cap] 161)).alloc (.cells #[.int .i64 0, .string ⟨#[]⟩, .string ⟨#[]⟩, .string ⟨#[]⟩, .string ⟨#[]⟩, .int .i64 0, .string ⟨#[]⟩, .int .i64 0, .string ⟨#[]⟩, .int .i64 0, .slice none 0 0, .slice none 0 0, .slice none 0 0, .slice none 0 0, .int .i64 0, .int .i64 0, .int .i64 0, .slice none 0 0] 31)) (.cells (stC { Sx.zero with kind := 9 } vnil vnil vnil vnil vnil) 31)
  rw [hs2] at g2
  have g1' := blk_alloc g1 (.cells (stC { Sx.zero with kind := 9 } vnil vnil vnil vnil vnil) 31)
  have g0' := blk_alloc (blk_alloc g0 (.cells #[.int .i64 0, .string ⟨#[]⟩, .string ⟨#[]⟩, .string ⟨#[]⟩, .string ⟨#[]⟩, .int .i64 0, .string ⟨#[]⟩, .int .i64 0, .string ⟨#[]⟩, .int .i64 0, .slice none 0 0, .slice none 0 0, .slice none 0 0, .slice none 0 0, .int .i64 0, .int .i64 0, .int .i64 0, .slice none 0 0] 31)) (.cells (stC { Sx.zero with kind := 9 } vnil vnil vnil vnil vnil) 31)
  have c0 : (((w.alloc (.cells #[.slice a L.length cap] 161)).alloc (.cells #[.int .i64 0, .string ⟨#[]⟩, .string ⟨#[]⟩, .string ⟨#[]⟩, .string ⟨#[]⟩, .int .i64 0, .string ⟨#[]⟩, .int .i64 0, .string ⟨#[]⟩, .int .i64 0, .slice none 0 0, .slice none 0 0, .slice none 0 0, .slice none 0 0, .int .i64 0, .int .i64 0, .int .i64 0, .slice none 0 0] 31)).alloc (.cells (stC { Sx.zero with kind := 9 } vnil vnil vnil vnil vnil) 31)).cell? ⟨w.heap.size, 0, none⟩ = some (.slice a L.length cap) := by rw [blk_cell g0']; rfl
  have hBw : Below w.heap.size w (((w.alloc (.cells #[.slice a L.length cap] 161)).alloc (.cells #[.int .i64 0, .string ⟨#[]⟩, .string ⟨#[]⟩, .string ⟨#[]⟩, .string ⟨#[]⟩, .int .i64 0, .string ⟨#[]⟩, .int .i64 0, .string ⟨#[]⟩, .int .i64 0, .slice none 0 0, .slice none 0 0, .slice none 0 0, .slice none 0 0, .int .i64 0, .int .i64 0, .int .i64 0, .slice none 0 0] 31)).alloc (.cells (stC { Sx.zero with kind := 9 } vnil vnil vnil vnil vnil) 31)) := (((Below.refl _ w).alloc (Nat.le_refl _) _).alloc (by rw [hs1]; omega) _).alloc (by rw [hs2]; omega) _
  have hsz3 : w.heap.size + 3 ≤ (((w.alloc (.cells #[.slice a L.length cap] 161)).alloc (.cells #[.int .i64 0, .string ⟨#[]⟩, .string ⟨#[]⟩, .string ⟨#[]⟩, .string ⟨#[]⟩, .int .i64 0, .string ⟨#[]⟩, .int .i64 0, .string ⟨#[]⟩, .int .i64 0, .slice none 0 0, .slice none 0 0, .slice none 0 0, .slice none 0 0, .int .i64 0, .int .i64 0, .int .i64 0, .slice none 0 0] 31)).alloc (.cells (stC { Sx.zero with kind := 9 } vnil vnil vnil vnil vnil) 31)).heap.size := by rw [sz_alloc, hs2]; omega
  go_enter Tryz.func226, Tryz.ntmps226
  go_wp2_with (refine wpl_sto2 rfl _ _ rfl hs2.symm rfl rfl rfl rfl ?_)
  go_loopw [5, 10] (fun _ i wr => ∃ (j : Nat) (a3 : Option Addr) (c3 : Nat), i = .int .i64 j ∧ j ≤ L.length ∧ Below w.heap.size w wr ∧ w.heap.size + 3 ≤ wr.heap.size ∧ wr.heap[w.heap.size + 2]? = some (.cells (stC { Sx.zero with kind := 9 } vnil vnil vnil vnil (.slice a3 j c3)) 31 (0, 0)) ∧ wr.heap[w.heap.size + 1]? = some (.cells #[.int .i64 0, .string ⟨#[]⟩, .string ⟨#[]⟩, .string ⟨#[]⟩, .string ⟨#[]⟩, .int .i64 0, .string ⟨#[]⟩, .int .i64 0, .string ⟨#[]⟩, .int .i64 0, .slice none 0 0, .slice none 0 0, .slice none 0 0, .slice none 0 0, .int .i64 0, .int .i64 0, .int .i64 0, .slice none 0 0] 31 (0, 0)) ∧ wr.ownsRow (w.heap.size + 3) 31 18 (.slice a3 j c3) j (flatP (L.take j))) (fun _ i _ => L.length - (intOf i).toNat)
  case atStart => exact ⟨0, none, 0, rfl, Nat.zero_le _, hBw, hsz3, g2, g1', World.ownsRow_nil _ _ _ _⟩
  case round =>
    clear hs1 hs2 hB g0 g1 g2 g1' g0' c0 hBw hsz3
    obtain ⟨j, a3, c3, rfl, hj, hBr, hsz, hb2, hb1, hr3⟩ := hrel
    by_cases hjl : j < L.length
    · have p0 : (j : Int) < (L.length : Int) := by omega
      have p1 : (0 : Int) ≤ (j : Int) := by omega
      have HJ := Lib.hid (show j + 1 ≤ L.length from hjl)
      obtain ⟨_, _, hsl, hgx⟩ := row_read hr
      cases hsl
      obtain ⟨g, rfl, _, hgl, _⟩ := hgx (by omega)
      obtain ⟨q, hq⟩ : ∃ q, L[j]? = some q := ⟨_, List.getElem?_eq_getElem hjl⟩
      have k0 := ownsRow_cell (row_below hr hBr) j q.val (by rw [List.getElem?_map, hq]; rfl)
      have hone := hp.one (List.mem_of_getElem? hq)
      have HF := Lib.hid (flatP_take' hq)
      clear hq
      obtain ⟨x, tc, c, s, wv⟩ := q
      replace k0 : wr.cell? ⟨g, j, none⟩ = some (.iface 156 (.agg (stC x tc c s wv vnil))) := k0
      have hTA := ta_of
      have hFC := fld_ch
      have y17 := (st18 hb2).2.2.2.2.2.2.2.2.2.2.2.2.2.2.2.2.2
      have u17 := blk_frozen0 hb2 17
      have z2 := blk_lt hb2
      have zk := cell_lt k0
      have HO : Hid (∀ u ∈ ([.int .i64 x.kind, .string x.name, .string x.of_, .string x.on, .string x.tname, .int .i64 x.tid, .string x.part.name, .int .i64 x.part.ty, .string x.clus.name, .int .i64 x.clus.ty, tc, c, s, wv, .int .i64 x.stamp, .int .i64 x.ttl, .int .i64 x.limit, vnil] : List Value), u.oneCell' = true) := fun u hu => (List.all_eq_true.1 hone) u hu
      clear hone
      go_wp2_with fail
      go_region_law (first | (refine step_app Tryz.eltQ rfl _ _ rfl (w.heap.size + 3) _ _ _ rfl (hr3.alloc _) _ _ [.int .i64 x.kind, .string x.name, .string x.of_, .string x.on, .string x.tname, .int .i64 x.tid, .string x.part.name, .int .i64 x.part.ty, .string x.clus.name, .int .i64 x.clus.ty, tc, c, s, wv, .int .i64 x.stamp, .int .i64 x.ttl, .int .i64 x.limit, vnil] rfl rfl (fun j u hj => by rw [add_at, Nat.zero_add]; exact cells_last _ _ _ j u hj) HO.out (by have := HJ.out; omega) (by simp; omega) ?_; intro g3 cap3 w3 h3 hg3 hn3 hl3; have hb3 : w3.heap[w.heap.size + 2]? = some (.cells (stC { Sx.zero with kind := 9 } vnil vnil vnil vnil (.slice a3 j c3)) 31 (0, 0)) := (hg3.block _ (blk_lt (blk_alloc hb2 _)) (fun e => by have := (hr3.lt _ e.symm).1; omega)).trans (blk_alloc hb2 _); have y3 := (st18 hb3).2.2.2.2.2.2.2.2.2.2.2.2.2.2.2.2.2; have u3 := blk_frozen0 hb3 17))
      all_goals
        have hg4 : (wr.alloc (.cells #[.int .i64 x.kind, .string x.name, .string x.of_, .string x.on, .string x.tname, .int .i64 x.tid, .string x.part.name, .int .i64 x.part.ty, .string x.clus.name, .int .i64 x.clus.ty, tc, c, s, wv, .int .i64 x.stamp, .int .i64 x.ttl, .int .i64 x.limit, vnil] 31)).grownBy w3 (Value.slice a3 j c3).ownBlock := ⟨hg3.os, hg3.tape, hg3.output, hg3.size, hg3.block⟩
        have hbb : w3.heap[w.heap.size + 1]? = some (.cells #[.int .i64 0, .string ⟨#[]⟩, .string ⟨#[]⟩, .string ⟨#[]⟩, .string ⟨#[]⟩, .int .i64 0, .string ⟨#[]⟩, .int .i64 0, .string ⟨#[]⟩, .int .i64 0, .slice none 0 0, .slice none 0 0, .slice none 0 0, .slice none 0 0, .int .i64 0, .int .i64 0, .int .i64 0, .slice none 0 0] 31 (0, 0)) := (hg4.block _ (blk_lt (blk_alloc hb1 _)) (fun e => by have := (hr3.lt _ e.symm).1; omega)).trans (blk_alloc hb1 _)
        have hB3 : Below w.heap.size w w3 := below_app (hBr.alloc (Nat.le_trans (Nat.le_add_right _ _) hsz) _) (by rw [sz_alloc]; omega) hg4 (fun g2 hg2 => by have := (hr3.lt g2 hg2).1; omega)
        have hs3 : w.heap.size + 3 ≤ w3.heap.size := Nat.le_trans hsz (by have := hg4.size; rw [sz_alloc] at this; omega)
        have hb4 : (w3.setCell ⟨w.heap.size + 2, 17, none⟩ (.slice (some ⟨g3, 0, none⟩) (j + 1) cap3)).heap[w.heap.size + 2]? = some (.cells (stC { Sx.zero with kind := 9 } vnil vnil vnil vnil (.slice (some ⟨g3, 0, none⟩) (j + 1) cap3)) 31 (0, 0)) := by rw [blk_set hb3 17 _]; rfl
        have hb5 := blk_setOther hbb ⟨w.heap.size + 2, 17, none⟩ (.slice (some ⟨g3, 0, none⟩) (j + 1) cap3) (by show w.heap.size + 1 ≠ w.heap.size + 2; omega)
        have h4 := row_lo h3 (by omega : w.heap.size + 2 < w.heap.size + 3) 17 (.slice (some ⟨g3, 0, none⟩) (j + 1) cap3)
        have hB4 := hB3.setCell (p := ⟨w.heap.size + 2, 17, none⟩) (by show w.heap.size ≤ w.heap.size + 2; omega) (.slice (some ⟨g3, 0, none⟩) (j + 1) cap3)
        go_wp2_with fail
        go_roundw
        case rel => exact ⟨j + 1, some ⟨g3, 0, none⟩, cap3, by go_num, HJ.out, hB4, by rw [sz_set]; exact hs3, hb4, hb5, by rw [HF.out]; exact h4⟩
        case measure => have hjj := HJ.out; simp [intOf]; omega
    · have hje : j = L.length := by omega
      subst hje
      rw [List.take_length] at hr3
      have hs0 : (Value.slice a3 L.length c3).oneCell' = true := rfl
      go_wp2_with (first | refine wpl_st rfl _ rfl rfl rfl hb2 ?_ | (refine wpl_whole rfl _ _ rfl rfl rfl hb1 rfl rfl rfl ?_; intro w9 hw9))
      refine bodyPost_ret (results_cell rfl rfl (lv18 hw9.blk rfl)) rfl ?_
      refine ⟨a3, c3, rfl, hw9.below _ _ hBr (by omega), ?_⟩
      obtain ⟨q1, q2⟩ := ownsRow_mono hr3 (by omega : w.heap.size ≤ w.heap.size + 3)
      refine ⟨q1, ?_⟩
      have hlt := hr3.lt
      rcases q2 with q2 | ⟨g, cap', cur, e1, e2, e3, e4⟩
      · exact .inl q2
      · refine .inr ⟨g, cap', cur, e1, e2, ?_, e4⟩
        rw [hw9.rest g (by have := (hlt g (by rw [e1]; rfl)).1; omega)]; exact e3
end Go.Proofs.YtfbgdjcnlnfoaaaGreatDoor

namespace Go.Proofs.YtfbgdjcnlnfoaaaGreatDoor
namespace Cle

structure Cut (s t : ByteArray) (A : List Pt) (d : Nat) : Prop where
  bytes : s.data.toList.drop d = t.data.toList
  size : s.size = d + t.size
  pts : pts s = A ++ (pts t).map (Pt.shift d)

theorem runF_on (m : Nat) (f g : Nat → Bool) (hfg : ∀ j, f (m + j) = g j) : ∀ n k, runF f n (m + k) = m + runF g n k := by
  intro n
  induction n with
  | zero => intro k; rfl
  | succ n ih =>
    intro k
    rw [runF, runF, hfg k]
    split
    · exact ih (k + 1)
    · rfl

section
variable {s t : ByteArray} {A : List Pt} {d : Nat} (h : Cut s t A d)
include h
theorem Cut.len : (Cle.pts s).length = A.length + (Cle.pts t).length := by rw [h.pts]; simp
theorem Cut.get (k : Nat) : (Cle.pts s)[A.length + k]? = ((Cle.pts t)[k]?).map (Pt.shift d) := by
  rw [h.pts, List.getElem?_append_right (by omega), List.getElem?_map]
  rw [show A.length + k - A.length = k by omega]
theorem Cut.isB (k : Nat) (r : Int) : Cle.isB (Cle.pts s) (A.length + k) r = Cle.isB (Cle.pts t) k r := by
  unfold Cle.isB; rw [h.get k]; cases (Cle.pts t)[k]? <;> rfl
theorem Cut.letB (k : Nat) : Cle.letB (Cle.pts s) (A.length + k) = Cle.letB (Cle.pts t) k := by
  unfold Cle.letB; rw [h.get k]; cases (Cle.pts t)[k]? <;> rfl
theorem Cut.digB (k : Nat) : Cle.digB (Cle.pts s) (A.length + k) = Cle.digB (Cle.pts t) k := by
  unfold Cle.digB; rw [h.get k]; cases (Cle.pts t)[k]? <;> rfl
theorem Cut.rAt (k : Nat) : Cle.rAt (Cle.pts s) (A.length + k) = Cle.rAt (Cle.pts t) k := by
  unfold Cle.rAt; rw [h.get k]; cases (Cle.pts t)[k]? <;> rfl
theorem Cut.byteAt (k : Nat) : Cle.byteAt s (Cle.pts s) (A.length + k) = d + Cle.byteAt t (Cle.pts t) k := by
  unfold Cle.byteAt; rw [h.get k]
  cases (Cle.pts t)[k]? with
  | none => exact h.size
  | some p => exact Nat.add_comm _ _
theorem Cut.runTo (f g : Nat → Bool) (hfg : ∀ j, f (A.length + j) = g j) (k : Nat) : Cle.runTo f (Cle.pts s).length (A.length + k) = A.length + Cle.runTo g (Cle.pts t).length k := by
  unfold Cle.runTo
  rw [h.len, show A.length + (Cle.pts t).length - (A.length + k) = (Cle.pts t).length - k by omega]
  exact runF_on A.length f g hfg _ _
theorem Cut.lineEnd (k : Nat) : Cle.lineEnd (Cle.pts s) (A.length + k) = A.length + Cle.lineEnd (Cle.pts t) k :=
  h.runTo _ _ (fun j => by rw [h.isB]) k
theorem Cut.skipF : ∀ n k, Cle.skipF (Cle.pts s) n (A.length + k) = A.length + Cle.skipF (Cle.pts t) n k := by
  intro n
  induction n with
  | zero => intro k; rfl
  | succ n ih =>
    intro k
    rw [Cle.skipF, Cle.skipF, h.len]
    unfold blankB dashB
    rw [h.isB, h.isB, h.isB, h.isB, h.isB, Nat.add_assoc, h.isB, h.lineEnd]
    by_cases h1 : (Cle.pts t).length ≤ k
    · rw [if_pos (by omega), if_pos h1]
    · rw [if_neg (by omega), if_neg h1]
      split
      · exact ih (k + 1)
      · split
        · exact ih _
        · rfl
theorem Cut.skip (k : Nat) : Cle.skip (Cle.pts s) (A.length + k) = A.length + Cle.skip (Cle.pts t) k := by
  unfold Cle.skip
  rw [h.len, show A.length + (Cle.pts t).length - (A.length + k) = (Cle.pts t).length - k by omega]
  exact h.skipF _ _
theorem Cut.numF : ∀ n k v ok, Cle.numF (Cle.pts s) n (A.length + k) v ok = ((Cle.numF (Cle.pts t) n k v ok).1, (Cle.numF (Cle.pts t) n k v ok).2.1, A.length + (Cle.numF (Cle.pts t) n k v ok).2.2) := by
  intro n
  induction n with
  | zero => intro k v ok; rfl
  | succ n ih =>
    intro k v ok
    rw [Cle.numF, Cle.numF, h.digB, h.rAt]
    split
    · exact ih (k + 1) _ _
    · rfl
theorem Cut.num (k : Nat) (v : Int) (ok : Bool) : Cle.num (Cle.pts s) (A.length + k) v ok = ((Cle.num (Cle.pts t) k v ok).1, (Cle.num (Cle.pts t) k v ok).2.1, A.length + (Cle.num (Cle.pts t) k v ok).2.2) := by
  unfold Cle.num
  rw [h.len, show A.length + (Cle.pts t).length - (A.length + k) = (Cle.pts t).length - k by omega]
  exact h.numF _ _ _ _
theorem Cut.extract (a b : Nat) : s.extract (d + a) (d + b) = t.extract a b := by
  apply ByteArray.ext
  apply Array.ext'
  simp only [ByteArray.data_extract, Array.toList_extract, List.extract_eq_take_drop]
  rw [← List.drop_drop, h.bytes, show d + b - (d + a) = b - a by omega]
theorem Cut.wordEnd (k : Nat) : Cle.wordEnd (Cle.pts s) (A.length + k) = A.length + Cle.wordEnd (Cle.pts t) k :=
  h.runTo _ _ (fun j => by rw [h.letB, h.digB]) k
theorem Cut.wordT (k : Nat) : Cle.wordT s (Cle.pts s) (A.length + k) = Cle.wordT t (Cle.pts t) k := by
  unfold Cle.wordT
  rw [h.wordEnd, h.byteAt, h.byteAt, h.extract]
def Tk.on (m : Nat) (x : Tk) : Tk := ⟨x.kind, x.s, x.n, x.at_ + m⟩
theorem Cut.wordO (k : Nat) : Cle.wordO s (Cle.pts s) (A.length + k) = ((Cle.wordO t (Cle.pts t) k).1.on A.length, (Cle.wordO t (Cle.pts t) k).2.1, A.length + (Cle.wordO t (Cle.pts t) k).2.2) := by
  unfold Cle.wordO
  rw [h.wordT, h.wordEnd, Nat.add_comm A.length k]; rfl
theorem Cut.numStart (k : Nat) : Cle.numStart (Cle.pts s) (A.length + k) = A.length + Cle.numStart (Cle.pts t) k := by
  unfold Cle.numStart
  rw [h.isB]; split <;> omega
theorem Cut.numR (k : Nat) : Cle.numR (Cle.pts s) (A.length + k) = ((Cle.numR (Cle.pts t) k).1, (Cle.numR (Cle.pts t) k).2.1, A.length + (Cle.numR (Cle.pts t) k).2.2) := by
  unfold Cle.numR
  rw [h.numStart, h.num, h.digB]
theorem Cut.numberO (k : Nat) : Cle.numberO (Cle.pts s) (A.length + k) = ((Cle.numberO (Cle.pts t) k).1.on A.length, (Cle.numberO (Cle.pts t) k).2.1, A.length + (Cle.numberO (Cle.pts t) k).2.2) := by
  unfold Cle.numberO
  rw [h.numR, h.isB]
  simp only [h.letB, Tk.on]
  rw [Nat.add_comm k]
theorem Cut.unquote (a : Nat) : Cle.unquote s ((d + a : Nat) : Int) = (Cle.unquote t a).map fun x => (x.1, x.2 + (d : Int)) := by
  unfold Cle.unquote
  have hb : s.data.toList[d + a]? = t.data.toList[a]? := by rw [← h.bytes, List.getElem?_drop]
  have hs := h.size
  simp only [Int.toNat_natCast]
  rw [hb]
  by_cases hc : a < t.size ∧ t.data.toList[a]? = some 39
  · rw [if_pos ⟨by omega, by omega, hc.2⟩, if_pos ⟨by omega, by omega, hc.2⟩]
    rw [show s.data.toList.drop (d + a + 1) = t.data.toList.drop (a + 1) by rw [← h.bytes, List.drop_drop, Nat.add_assoc]]
    cases unq (t.data.toList.drop (a + 1)) with
    | none => rfl
    | some x => simp only [Option.map_some, Option.some.injEq, Prod.mk.injEq, true_and]; omega
  · rw [if_neg (fun h => hc ⟨by omega, h.2.2⟩), if_neg (fun h => hc ⟨by omega, h.2.2⟩)]; rfl
theorem Cut.textEnd (next : Int) (k : Nat) : Cle.textEnd (Cle.pts s) (next + d) (A.length + k) = A.length + Cle.textEnd (Cle.pts t) next k := by
  refine h.runTo _ _ (fun j => ?_) k
  rw [h.get j]
  cases (Cle.pts t)[j]? with
  | none => rfl
  | some p =>
    show decide (((p.at_ + d : Nat) : Int) < next + d) = decide ((p.at_ : Int) < next)
    rw [decide_eq_decide]; omega
theorem Cut.textO (k : Nat) : Cle.textO s (Cle.pts s) (A.length + k) = ((Cle.textO t (Cle.pts t) k).1.on A.length, (Cle.textO t (Cle.pts t) k).2.1, A.length + (Cle.textO t (Cle.pts t) k).2.2) := by
  unfold Cle.textO
  rw [h.byteAt, h.unquote]
  cases Cle.unquote t (Cle.byteAt t (Cle.pts t) k) with
  | none => simp only [Option.map_none, Tk.on]; rw [Nat.add_comm k]
  | some x => simp only [Option.map_some, Tk.on]; rw [h.textEnd, Nat.add_comm k]
theorem Cut.tokO (k : Nat) (hok : (Cle.tokO t (Cle.pts t) k).2.1 = true) : Cle.tokO s (Cle.pts s) (A.length + k) = ((Cle.tokO t (Cle.pts t) k).1.on A.length, true, A.length + (Cle.tokO t (Cle.pts t) k).2.2) := by
  rw [← hok]
  unfold Cle.tokO at hok ⊢
  rw [h.letB, h.digB, h.isB, h.isB, h.rAt]
  split
  · exact h.wordO k
  · rename_i h1
    rw [if_neg h1] at hok
    split
    · exact h.numberO k
    · rename_i h2
      rw [if_neg h2] at hok
      split
      · exact h.textO k
      · rename_i h3
        rw [if_neg h3] at hok
        split
        · simp only [Tk.on]; rw [Nat.add_comm k]; rfl
        · rename_i h4
          rw [if_neg h4] at hok; cases hok
theorem Cut.tokOk (k : Nat) : (Cle.tokO s (Cle.pts s) (A.length + k)).2.1 = (Cle.tokO t (Cle.pts t) k).2.1 := by
  unfold Cle.tokO
  rw [h.letB, h.digB, h.isB, h.isB, h.rAt]
  split
  · rw [h.wordO k]
  · split
    · rw [h.numberO k]
    · split
      · rw [h.textO k]
      · split <;> rfl
def lexOn (m : Nat) : Except Nat (List Tk) → Except Nat (List Tk)
  | .ok l => .ok (l.map (Tk.on m))
  | .error a => .error (m + a)
theorem Cut.lexF : ∀ n k, Cle.lexF s (Cle.pts s) n (A.length + k) = lexOn A.length (Cle.lexF t (Cle.pts t) n k) := by
  intro n
  induction n with
  | zero => intro k; rfl
  | succ n ih =>
    intro k
    rw [Cle.lexF, Cle.lexF, h.skip, h.len, h.tokOk]
    by_cases h1 : (Cle.pts t).length ≤ Cle.skip (Cle.pts t) k
    · rw [if_pos (by omega), if_pos h1]; rfl
    · rw [if_neg (by omega), if_neg h1]
      by_cases h2 : (Cle.tokO t (Cle.pts t) (Cle.skip (Cle.pts t) k)).2.1 = true
      · rw [if_pos h2, if_pos h2, h.tokO _ h2]
        simp only []
        rw [ih]
        cases Cle.lexF t (Cle.pts t) n (Cle.tokO t (Cle.pts t) (Cle.skip (Cle.pts t) k)).2.2 <;> rfl
      · rw [if_neg h2, if_neg h2]; rfl
end

theorem Cut.of_valid (s t : ByteArray) (hs : valid s = true) : Cut (s ++ t) t (Cle.pts s) s.size where
  bytes := by rw [ByteArray.data_append, Array.toList_append, List.drop_append_of_le_length (by show s.size ≤ s.data.toList.length; exact Nat.le_refl _), List.drop_eq_nil_of_le (by show s.data.toList.length ≤ s.size; exact Nat.le_refl _), List.nil_append]
  size := by rw [ByteArray.size_append]
  pts := pts_app s t hs

end Cle
end Go.Proofs.YtfbgdjcnlnfoaaaGreatDoor

namespace Go.Proofs.YtfbgdjcnlnfoaaaGreatDoor
namespace Cle

theorem lexF_fuel (s : ByteArray) (P : List Pt) : ∀ n m i, P.length < n + i → P.length < m + i → lexF s P n i = lexF s P m i := by
  intro n
  induction n with
  | zero =>
    intro m i h1 h2
    cases m with
    | zero => rfl
    | succ m => rw [lexF_end (by have := skip_le P i; omega)]; rfl
  | succ n ih =>
    intro m i h1 h2
    have hs := skip_le P i
    cases m with
    | zero => rw [lexF_end (by omega)]; rfl
    | succ m =>
      rw [lexF, lexF]
      by_cases h3 : P.length ≤ skip P i
      · rw [if_pos h3, if_pos h3]
      · rw [if_neg h3, if_neg h3]
        by_cases h4 : (tokO s P (skip P i)).2.1 = true
        · rw [if_pos h4, if_pos h4]
          have hg := tokO_gt (s := s) (P := P) (i := skip P i) (by omega) h4
          rw [ih m _ (by omega) (by omega)]
        · rw [if_neg h4, if_neg h4]

def Lx (t : ByteArray) (l : List Tk) : Prop := lexF t (pts t) ((pts t).length + 1) 0 = .ok l
theorem Lx.lexL {t : ByteArray} {l : List Tk} (h : Lx t l) (hs : t.size ≤ 1000) : lexL t = (l, 0, 0) := by
  unfold Lx at h
  unfold Cle.lexL
  rw [if_neg (by omega), h]
theorem Lx.nil : Lx ⟨#[]⟩ [] := rfl
theorem app_assoc (a b c : ByteArray) : (a ++ b) ++ c = a ++ (b ++ c) := by
  apply ByteArray.ext; simp
theorem app_nil (a : ByteArray) : a ++ (⟨#[]⟩ : ByteArray) = a := by
  apply ByteArray.ext; simp

theorem one_pts (c : UInt8) (hc : c.toNat < 128) : pts ⟨#[c]⟩ = [⟨c.toNat, 0, 1⟩] := by
  have h : (0 : Nat) < (⟨#[c]⟩ : ByteArray).size := Nat.zero_lt_one
  have hd := dec_ascii ⟨#[c]⟩ 0 h (by rw [← bY_eq ⟨#[c]⟩ 0 h]; exact hc)
  have e : bY ⟨#[c]⟩ 0 = c.toNat := by rw [← bY_eq ⟨#[c]⟩ 0 h]; rfl
  rw [pts_eq, ptsAt_step _ 0 h, hd, ptsAt_end _ _ (by show ¬ (0 + 1 < 1); omega), e]
theorem one_valid (c : UInt8) (hc : c.toNat < 128) : valid ⟨#[c]⟩ = true := by
  unfold valid
  rw [one_pts c hc]
  simp [Pt.ok]; omega
theorem one_cut (c : UInt8) (hc : c.toNat < 128) (r : ByteArray) : Cut (⟨#[c]⟩ ++ r) r [⟨c.toNat, 0, 1⟩] 1 := by
  have := Cut.of_valid ⟨#[c]⟩ r (one_valid c hc)
  rw [one_pts c hc] at this
  exact this
theorem one_get (c : UInt8) (hc : c.toNat < 128) (r : ByteArray) : (pts (⟨#[c]⟩ ++ r))[0]? = some ⟨c.toNat, 0, 1⟩ := by
  rw [(one_cut c hc r).pts]; rfl
theorem one_isB (c : UInt8) (hc : c.toNat < 128) (r : ByteArray) (x : Int) : isB (pts (⟨#[c]⟩ ++ r)) 0 x = ((c.toNat : Int) == x) := by
  unfold isB; rw [one_get c hc r]

theorem Lx.cons {s t : ByteArray} {A : List Pt} {d : Nat} (hc : Cut s t A d) {l : List Tk} (h : Lx t l) (n : Nat) (hn : (pts t).length < n) : lexF s (pts s) n A.length = .ok (l.map (Tk.on A.length)) := by
  have := hc.lexF n 0
  rw [Nat.add_zero] at this
  rw [this, lexF_fuel t (pts t) n ((pts t).length + 1) 0 (by omega) (by omega), h]
  rfl
theorem Lx.blank (c : UInt8) (hc : c = 32 ∨ c = 9 ∨ c = 10 ∨ c = 13) {t : ByteArray} {l : List Tk} (h : Lx t l) : Lx (⟨#[c]⟩ ++ t) (l.map (Tk.on 1)) := by
  have hlt : c.toNat < 128 := by rcases hc with rfl | rfl | rfl | rfl <;> decide
  have hcut := one_cut c hlt t
  have hlen := hcut.len
  have hb : blankB (pts (⟨#[c]⟩ ++ t)) 0 = true := by
    unfold blankB
    rw [one_isB c hlt, one_isB c hlt, one_isB c hlt, one_isB c hlt]
    rcases hc with rfl | rfl | rfl | rfl <;> rfl
  have hsk : skip (pts (⟨#[c]⟩ ++ t)) 0 = skip (pts (⟨#[c]⟩ ++ t)) 1 := skip_blank (by rw [hlen]; show 0 < 1 + _; omega) hb
  have hx := h.cons hcut ((pts (⟨#[c]⟩ ++ t)).length + 1) (by rw [hlen]; omega)
  refine Eq.trans ?_ hx
  show _ = lexF _ _ _ 1
  rw [lexF, lexF, hsk]
theorem Lx.tok {p t : ByteArray} {l : List Tk} {x : Tk} (hp : valid p = true) (hne : pts p ≠ []) (hsk : skip (pts (p ++ t)) 0 = 0) (htk : tokO (p ++ t) (pts (p ++ t)) 0 = (x, true, (pts p).length)) (h : Lx t l) :
    Lx (p ++ t) (x :: l.map (Tk.on (pts p).length)) := by
  have hcut := Cut.of_valid p t hp
  have hlen := hcut.len
  have hpl : 0 < (pts p).length := List.length_pos_iff.2 hne
  have hx := h.cons hcut (pts (p ++ t)).length (by rw [hlen]; omega)
  unfold Lx
  rw [lexF_go (by rw [hsk, hlen]; omega) (by rw [hsk, htk]), hsk, htk]
  simp only []
  rw [hx]; rfl

def Stop (t : ByteArray) : Prop := letB (pts t) 0 = false ∧ digB (pts t) 0 = false
theorem stop_nil : Stop ⟨#[]⟩ := ⟨rfl, rfl⟩
theorem stop_one (c : UInt8) (hc : c.toNat < 48 ∨ (58 ≤ c.toNat ∧ c.toNat < 65)) (t : ByteArray) : Stop (⟨#[c]⟩ ++ t) := by
  have hlt : c.toNat < 128 := by omega
  unfold Stop letB digB
  rw [one_get c hlt t]
  simp only [letterB, digitB]
  constructor
  · rw [Bool.and_eq_false_iff]; right
    simp only [Bool.or_eq_false_iff, Bool.and_eq_false_iff, beq_eq_false_iff_ne, decide_eq_false_iff_not]
    omega
  · simp only [Bool.and_eq_false_iff, decide_eq_false_iff_not]; omega

theorem runTo_all {f : Nat → Bool} {len m : Nat} (hm : m ≤ len) (hall : ∀ j, j < m → f j = true) (hst : f m = false) : runTo f len 0 = m := by
  have h : ∀ k, k ≤ m → runTo f len 0 = runTo f len k := by
    intro k
    induction k with
    | zero => intro _; rfl
    | succ k ih =>
      intro hk
      rw [ih (by omega), runTo_go (by omega) (hall k (by omega))]
  rw [h m (Nat.le_refl _)]
  exact runTo_stop hst
theorem byteAt_zero (s : ByteArray) : byteAt s (pts s) 0 = 0 := byteAt_head s 0 (Nat.zero_le _)

def wordy (w : ByteArray) : Bool := letB (pts w) 0 && ((List.range (pts w).length).all fun k => letB (pts w) k || digB (pts w) k) && valid w
theorem app_get (p t : ByteArray) (hp : valid p = true) (k : Nat) (hk : k < (pts p).length) : (pts (p ++ t))[k]? = (pts p)[k]? := by
  rw [pts_app p t hp, List.getElem?_append_left hk]
theorem extract_app (p t : ByteArray) : (p ++ t).extract 0 p.size = p := by
  apply ByteArray.ext
  apply Array.ext'
  simp only [ByteArray.data_extract, ByteArray.data_append, Array.toList_extract, Array.toList_append, List.extract_eq_take_drop, List.drop_zero, Nat.sub_zero]
  rw [List.take_append_of_le_length (by show p.size ≤ p.data.toList.length; exact Nat.le_refl _)]
  exact List.take_of_length_le (by show p.data.toList.length ≤ p.size; exact Nat.le_refl _)
theorem tok_word {w t : ByteArray} (hw : wordy w = true) (ht : Stop t) (hs : w.size ≤ 100) : tokO (w ++ t) (pts (w ++ t)) 0 = (⟨1, fold w, 0, 0⟩, true, (pts w).length) ∧ skip (pts (w ++ t)) 0 = 0 ∧ pts w ≠ [] ∧ valid w = true := by
  unfold wordy at hw
  simp only [Bool.and_eq_true] at hw
  obtain ⟨⟨h0, hall⟩, hv⟩ := hw
  have hlt := letB_lt h0
  have hne : pts w ≠ [] := by intro e; rw [e] at hlt; exact absurd hlt (by simp)
  have hcut := Cut.of_valid w t hv
  have hlen := hcut.len
  have hL : ∀ k, k < (pts w).length → letB (pts (w ++ t)) k = letB (pts w) k := fun k hk => by unfold letB; rw [app_get w t hv k hk]
  have hD : ∀ k, k < (pts w).length → digB (pts (w ++ t)) k = digB (pts w) k := fun k hk => by unfold digB; rw [app_get w t hv k hk]
  have hB : ∀ c, isB (pts (w ++ t)) 0 c = isB (pts w) 0 c := fun c => by unfold isB; rw [app_get w t hv 0 hlt]
  have hend : wordEnd (pts (w ++ t)) 0 = (pts w).length := by
    refine runTo_all (by rw [hlen]; omega) (fun j hj => ?_) ?_
    · rw [hL j hj, hD j hj]
      exact List.all_eq_true.1 hall j (List.mem_range.2 hj)
    · have h1 := hcut.letB 0
      have h2 := hcut.digB 0
      rw [Nat.add_zero] at h1 h2
      rw [h1, h2, ht.1, ht.2]; rfl
  have hbe : byteAt (w ++ t) (pts (w ++ t)) (pts w).length = w.size := by
    have := hcut.byteAt 0
    rw [Nat.add_zero, byteAt_zero t] at this
    exact this
  have hwt : wordT (w ++ t) (pts (w ++ t)) 0 = w := by
    unfold wordT
    rw [hend, byteAt_zero, hbe, extract_app]
  have hno : ∀ c : Int, (c = 32 ∨ c = 9 ∨ c = 10 ∨ c = 13 ∨ c = 45) → isB (pts w) 0 c = false := by
    intro c hc
    unfold letB at h0
    unfold isB
    rw [List.getElem?_eq_getElem hlt] at h0 ⊢
    simp only [letterB, Bool.and_eq_true, Bool.or_eq_true, beq_iff_eq, decide_eq_true_eq] at h0
    rw [beq_eq_false_iff_ne]
    omega
  refine ⟨?_, ?_, hne, hv⟩
  · unfold tokO
    rw [hL 0 hlt, if_pos h0]
    unfold wordO
    rw [hwt, hend, decide_eq_true hs]
  · refine skip_stop ?_ ?_
    · unfold blankB
      rw [hB, hB, hB, hB, hno 32 (by omega), hno 9 (by omega), hno 10 (by omega), hno 13 (by omega)]; rfl
    · unfold dashB
      rw [hB, hno 45 (by omega), Bool.false_and]
theorem Lx.word {w t : ByteArray} {l : List Tk} (hw : wordy w = true) (ht : Stop t) (hs : w.size ≤ 100) (h : Lx t l) : Lx (w ++ t) (⟨1, fold w, 0, 0⟩ :: l.map (Tk.on (pts w).length)) := by
  obtain ⟨h1, h2, h3, h4⟩ := tok_word hw ht hs
  exact Lx.tok h4 h3 h2 h1 h

theorem tok_sign (c : UInt8) (hc : c = 40 ∨ c = 41 ∨ c = 44 ∨ c = 59 ∨ c = 61 ∨ c = 42) (t : ByteArray) : tokO (⟨#[c]⟩ ++ t) (pts (⟨#[c]⟩ ++ t)) 0 = (⟨4, ⟨#[c]⟩, 0, 0⟩, true, 1) ∧ skip (pts (⟨#[c]⟩ ++ t)) 0 = 0 := by
  have hlt : c.toNat < 128 := by rcases hc with rfl | rfl | rfl | rfl | rfl | rfl <;> decide
  have hst : Stop (⟨#[c]⟩ ++ t) := stop_one c (by rcases hc with rfl | rfl | rfl | rfl | rfl | rfl <;> decide) t
  have hr : rAt (pts (⟨#[c]⟩ ++ t)) 0 = (c.toNat : Int) := by unfold rAt; rw [one_get c hlt]
  constructor
  · unfold tokO
    rw [hst.1, hst.2, one_isB c hlt, one_isB c hlt, hr]
    rcases hc with rfl | rfl | rfl | rfl | rfl | rfl <;> rfl
  · refine skip_stop ?_ ?_
    · unfold blankB
      rw [one_isB c hlt, one_isB c hlt, one_isB c hlt, one_isB c hlt]
      rcases hc with rfl | rfl | rfl | rfl | rfl | rfl <;> rfl
    · unfold dashB
      rw [one_isB c hlt]
      rcases hc with rfl | rfl | rfl | rfl | rfl | rfl <;> rfl
theorem Lx.sign (c : UInt8) (hc : c = 40 ∨ c = 41 ∨ c = 44 ∨ c = 59 ∨ c = 61 ∨ c = 42) {t : ByteArray} {l : List Tk} (h : Lx t l) : Lx (⟨#[c]⟩ ++ t) (⟨4, ⟨#[c]⟩, 0, 0⟩ :: l.map (Tk.on 1)) := by
  have hlt : c.toNat < 128 := by rcases hc with rfl | rfl | rfl | rfl | rfl | rfl <;> decide
  obtain ⟨h1, h2⟩ := tok_sign c hc t
  have e : (pts ⟨#[c]⟩).length = 1 := by rw [one_pts c hlt]; rfl
  have := Lx.tok (p := ⟨#[c]⟩) (one_valid c hlt) (by rw [one_pts c hlt]; simp) h2 (by rw [h1, e]) h
  rw [e] at this
  exact this

end Cle
end Go.Proofs.YtfbgdjcnlnfoaaaGreatDoor

namespace Go.Proofs.YtfbgdjcnlnfoaaaGreatDoor
namespace Cle

abbrev To := Int × ByteArray × Int
def Tk.fo (t : Tk) : To := (t.kind, t.s, t.n)
def Tx.F (X : Tx) : List To := X.T.map Tk.fo
def signL : List ByteArray := [(⟨#[40]⟩ : ByteArray), (⟨#[41]⟩ : ByteArray), (⟨#[44]⟩ : ByteArray), (⟨#[59]⟩ : ByteArray), (⟨#[61]⟩ : ByteArray), (⟨#[42]⟩ : ByteArray)]
def tokW (s : ByteArray) : To := (if inB s signL then 4 else 1, s, 0)
def tokN (s : ByteArray) : To := (1, s, 0)
def tokT (t : Tm) : To := if t.ty = 1 then (3, t.s, 0) else (2, ⟨#[]⟩, t.n)
def okTo (t : To) : Prop := (t.1 = 1 ∧ wordy t.2.1 = true ∧ fold t.2.1 = t.2.1 ∧ t.2.1.size ≤ 100 ∧ t.2.2 = 0) ∨ (t.1 = 2 ∧ t.2.1 = ⟨#[]⟩ ∧ -1099511627776 ≤ t.2.2 ∧ t.2.2 ≤ 1099511627776) ∨ (t.1 = 3 ∧ valid t.2.1 = true ∧ t.2.1.size ≤ 100 ∧ t.2.2 = 0) ∨ (t.1 = 4 ∧ inB t.2.1 signL = true ∧ t.2.2 = 0)
def Tx.Ok (X : Tx) : Prop := ∀ t ∈ X.F, okTo t
def nameOK (s : ByteArray) : Prop := wordy s = true ∧ fold s = s ∧ s.size ≤ 100 ∧ resB s = false
def termOK (t : Tm) : Prop := (t.ty = 1 ∧ valid t.s = true ∧ t.s.size ≤ 100 ∧ t.n = 0) ∨ (t.ty = 2 ∧ t.s = ⟨#[]⟩ ∧ -1099511627776 ≤ t.n ∧ t.n ≤ 1099511627776)
def countOK (n : Int) : Prop := 1 ≤ n ∧ n ≤ 1099511627776
def distF : List ByteArray → List ByteArray → Prop
  | _, [] => True
  | l, a :: r => inB a l = false ∧ distF (l ++ [a]) r

theorem bEq_iff {a b : ByteArray} : bEq a b = true ↔ a = b := by unfold bEq; exact decide_eq_true_iff
theorem inB_iff {x : ByteArray} {l : List ByteArray} : inB x l = true ↔ x ∈ l := by
  unfold inB
  rw [List.any_eq_true]
  constructor
  · rintro ⟨y, hy, h⟩; rw [bEq_iff.1 h]; exact hy
  · intro h; exact ⟨x, h, bEq_iff.2 rfl⟩
theorem wordy_sign {s : ByteArray} (h : wordy s = true) : inB s signL = false := by
  cases hs : inB s signL with
  | false => rfl
  | true =>
    exfalso
    have := inB_iff.1 hs
    unfold signL at this
    simp only [List.mem_cons, List.not_mem_nil, or_false] at this
    rcases this with rfl | rfl | rfl | rfl | rfl | rfl <;> exact absurd h (by decide +kernel)

section
variable {X : Tx}
theorem drop_some {i : Nat} {t : Tk} (h : X.T[i]? = some t) : X.F.drop i = t.fo :: X.F.drop (i + 1) := by
  obtain ⟨hi, rfl⟩ := List.getElem?_eq_some_iff.1 h
  unfold Tx.F
  rw [List.drop_eq_getElem_cons (by simpa using hi)]; simp
theorem drop_none {i : Nat} (h : X.T[i]? = none) : X.F.drop i = [] := by
  unfold Tx.F
  exact List.drop_eq_nil_of_le (by simpa using List.getElem?_eq_none_iff.1 h)
def seesF (L : List To) (s : ByteArray) : Bool := match L with | [] => false | t :: _ => (t.1 == 1 || t.1 == 4) && bEq t.2.1 s
theorem sees_F {σ : Ps} (h : σ.bad = none) (s : ByteArray) : X.sees σ s = seesF (X.F.drop σ.i) s := by
  unfold Tx.sees Tx.next
  rw [h]
  cases hx : X.T[σ.i]? with
  | none => rw [drop_none hx]; rfl
  | some t =>
    rw [drop_some hx]
    obtain ⟨k, x, n, a⟩ := t
    simp only [seesF, Tk.fo]
    by_cases h1 : k = 1
    · subst h1; simp
    · by_cases h4 : k = 4
      · subst h4; simp
      · simp [h1, h4]
theorem sees_bad {σ : Ps} {a : Nat} (h : σ.bad = some a) (s : ByteArray) : X.sees σ s = false := by unfold Tx.sees Tx.next; rw [h]; rfl
theorem sees_none {σ : Ps} {s : ByteArray} (h : X.sees σ s = true) : σ.bad = none := by
  cases hb : σ.bad with
  | none => rfl
  | some a => rw [sees_bad hb] at h; exact absurd h (by decide)
theorem mem_F {i : Nat} {t : To} {L : List To} (h : X.F.drop i = t :: L) : t ∈ X.F := List.mem_of_mem_drop (by rw [h]; exact List.mem_cons_self ..)
theorem drop_next {i : Nat} {t : To} {L : List To} (h : X.F.drop i = t :: L) : X.F.drop (i + 1) = L := by
  rw [← List.drop_drop, h]; rfl
theorem sees_tok (hX : X.Ok) {σ : Ps} {s : ByteArray} (h : X.sees σ s = true) : X.F.drop σ.i = tokW s :: X.F.drop (σ.i + 1) := by
  rw [sees_F (sees_none h)] at h
  cases hd : X.F.drop σ.i with
  | nil => rw [hd] at h; exact absurd h (by simp [seesF])
  | cons t L =>
    rw [hd] at h
    rw [drop_next hd]
    have ht := hX t (mem_F hd)
    obtain ⟨k, x, n⟩ := t
    simp only [seesF, Bool.and_eq_true, Bool.or_eq_true, beq_iff_eq] at h
    obtain ⟨hk, hs⟩ := h
    have hs := bEq_iff.1 hs
    subst hs
    unfold okTo at ht
    simp only at ht
    congr 1
    unfold tokW
    rcases ht with ⟨h1, h2, _, _, h5⟩ | ⟨h1, _⟩ | ⟨h1, _⟩ | ⟨h1, h2, h3⟩
    · rw [wordy_sign h2, h1, h5]; rfl
    · rcases hk with hk | hk <;> rw [h1] at hk <;> exact absurd hk (by decide)
    · rcases hk with hk | hk <;> rw [h1] at hk <;> exact absurd hk (by decide)
    · rw [h2, h1, h3]; rfl

def Con (X : Tx) (σ : Ps) (L : List To) (σ' : Ps) : Prop := σ.bad = none ∧ X.F.drop σ.i = L ++ X.F.drop σ'.i
theorem Con.trans {σ σ1 σ2 : Ps} {L M : List To} (h : Con X σ L σ1) (h' : Con X σ1 M σ2) : Con X σ (L ++ M) σ2 := ⟨h.1, by rw [h.2, h'.2, List.append_assoc]⟩
theorem Con.refl {σ : Ps} (h : σ.bad = none) : Con X σ [] σ := ⟨h, rfl⟩
theorem wrong_bad {σ : Ps} {a : Nat} : (σ.wrong a).bad ≠ none := by
  unfold Ps.wrong
  cases hb : σ.bad with
  | none => simp
  | some b => rw [hb]; simp
theorem if_wrong {c : Prop} [Decidable c] {σ : Ps} {a : Nat} (h : (if c then σ.wrong a else σ).bad = none) : ¬ c ∧ (if c then σ.wrong a else σ) = σ := by
  by_cases hc : c
  · rw [if_pos hc] at h; exact absurd h wrong_bad
  · exact ⟨hc, if_neg hc⟩
theorem may_con (hX : X.Ok) {σ : Ps} {s : ByteArray} (h : X.sees σ s = true) : Con X σ [tokW s] σ.step := ⟨sees_none h, sees_tok hX h⟩
theorem must1_con (hX : X.Ok) {σ : Ps} {s : ByteArray} (h : (X.must1 σ s).bad = none) : Con X σ [tokW s] (X.must1 σ s) := by
  unfold Tx.must1 at h ⊢
  split at h
  · rename_i hs; rw [if_pos hs]; exact may_con hX hs
  · exact absurd h wrong_bad
theorem must_con (hX : X.Ok) : ∀ (l : List ByteArray) {σ : Ps} (_ : (X.must σ l).bad = none), Con X σ (l.map tokW) (X.must σ l)
  | [], σ, h => Con.refl h
  | s :: l, σ, h => by
    have h2 := must_con hX l (σ := X.must1 σ s) h
    exact (must1_con hX h2.1).trans h2
theorem next_tok {σ : Ps} {k : Int} {t : Tk} (h : X.next σ k = some t) : σ.bad = none ∧ t.kind = k ∧ X.F.drop σ.i = t.fo :: X.F.drop (σ.i + 1) := by
  unfold Tx.next at h
  cases hb : σ.bad with
  | some a => rw [hb] at h; exact absurd h (by simp)
  | none =>
    rw [hb] at h
    cases hx : X.T[σ.i]? with
    | none => rw [hx] at h; exact absurd h (by simp)
    | some u =>
      rw [hx] at h
      simp only at h
      split at h
      · rename_i hk; cases h; exact ⟨rfl, hk, drop_some hx⟩
      · exact absurd h (by simp)
theorem name_con (hX : X.Ok) {σ : Ps} (h : (X.name σ).2.bad = none) : Con X σ [tokN (X.name σ).1] (X.name σ).2 ∧ nameOK (X.name σ).1 := by
  unfold Tx.name at h ⊢
  cases hx : X.next σ 1 with
  | none => rw [hx] at h; exact absurd h wrong_bad
  | some t =>
    rw [hx] at h
    simp only at h ⊢
    split at h
    · exact absurd h wrong_bad
    · rename_i hr
      rw [if_neg hr]
      obtain ⟨h1, h2, h3⟩ := next_tok hx
      have ho := hX _ (mem_F h3)
      have hr : resB t.s = false := by cases hb : resB t.s with | false => rfl | true => exact absurd hb hr
      unfold okTo Tk.fo at ho
      simp only [h2] at ho
      rcases ho with ⟨_, a, b, c, d⟩ | ⟨e, _⟩ | ⟨e, _⟩ | ⟨e, _⟩
      · refine ⟨⟨h1, ?_⟩, a, b, c, hr⟩
        show X.F.drop σ.i = tokN t.s :: X.F.drop (σ.i + 1)
        rw [h3]; unfold Tk.fo tokN; rw [h2, d]
      · exact absurd e (by decide)
      · exact absurd e (by decide)
      · exact absurd e (by decide)
theorem value_con (hX : X.Ok) {σ : Ps} (h : (X.value σ).2.bad = none) : Con X σ [tokT (X.value σ).1] (X.value σ).2 ∧ termOK (X.value σ).1 := by
  unfold Tx.value at h ⊢
  cases hx : X.next σ 3 with
  | some t =>
    simp only
    obtain ⟨h1, h2, h3⟩ := next_tok hx
    have ho := hX _ (mem_F h3)
    unfold okTo Tk.fo at ho
    simp only [h2] at ho
    rcases ho with ⟨e, _⟩ | ⟨e, _⟩ | ⟨_, a, b, c⟩ | ⟨e, _⟩
    · exact absurd e (by decide)
    · exact absurd e (by decide)
    · refine ⟨⟨h1, ?_⟩, .inl ⟨rfl, a, b, rfl⟩⟩
      show X.F.drop σ.i = tokT ⟨1, t.s, 0⟩ :: X.F.drop (σ.i + 1)
      rw [h3]; unfold Tk.fo tokT; rw [h2, c, if_pos rfl]
    · exact absurd e (by decide)
  | none =>
    rw [hx] at h
    simp only at h ⊢
    cases hy : X.next σ 2 with
    | none => rw [hy] at h; exact absurd h wrong_bad
    | some t =>
      simp only
      obtain ⟨h1, h2, h3⟩ := next_tok hy
      have ho := hX _ (mem_F h3)
      unfold okTo Tk.fo at ho
      simp only [h2] at ho
      rcases ho with ⟨e, _⟩ | ⟨_, a, b, c⟩ | ⟨e, _⟩ | ⟨e, _⟩
      · exact absurd e (by decide)
      · refine ⟨⟨h1, ?_⟩, .inr ⟨rfl, rfl, b, c⟩⟩
        show X.F.drop σ.i = tokT ⟨2, ⟨#[]⟩, t.n⟩ :: X.F.drop (σ.i + 1)
        rw [h3]; unfold Tk.fo tokT; rw [h2, a, if_neg (show ¬ ((2 : Int) = 1) by decide)]
      · exact absurd e (by decide)
      · exact absurd e (by decide)
def tokC (n : Int) : To := (2, ⟨#[]⟩, n)
theorem count_con (hX : X.Ok) {σ : Ps} (h : (X.count σ).2.bad = none) : Con X σ [tokC (X.count σ).1] (X.count σ).2 ∧ countOK (X.count σ).1 := by
  unfold Tx.count at h ⊢
  simp only at h ⊢
  obtain ⟨h1, h2⟩ := if_wrong h
  rw [h2] at h ⊢
  obtain ⟨h3, _⟩ := value_con hX h
  simp only [not_or, Decidable.not_not, Int.not_lt] at h1
  refine ⟨?_, h1.2.1, h1.2.2⟩
  unfold tokT at h3
  rw [if_neg (by rw [h1.1]; decide)] at h3
  exact h3
theorem column_con (hX : X.Ok) {σ : Ps} {l : List ByteArray} {most : Nat} (h : (X.column σ l most).2.bad = none) :
    ∃ s, (X.column σ l most).1 = l ++ [s] ∧ Con X σ [tokN s] (X.column σ l most).2 ∧ nameOK s ∧ inB s l = false ∧ l.length < most := by
  unfold Tx.column at h ⊢
  simp only at h ⊢
  obtain ⟨h1, h2⟩ := if_wrong h
  rw [h2] at h ⊢
  obtain ⟨h3, h4⟩ := name_con hX h
  obtain ⟨h5, h6⟩ := if_wrong h3.1
  rw [h6] at h3 h4 h1 ⊢
  exact ⟨_, rfl, h3, h4, by simpa using h1, by omega⟩
def commaT (l : List ByteArray) : List To := l.flatMap fun b => [tokW (⟨#[44]⟩ : ByteArray), tokN b]
def colsT : List ByteArray → List To
  | [] => []
  | a :: l => tokN a :: commaT l
theorem columnsF_con (hX : X.Ok) (most : Nat) : ∀ n σ l, l.length ≤ most → (X.columnsF most n σ l).2.bad = none →
    ∃ r, (X.columnsF most n σ l).1 = l ++ r ∧ Con X σ (commaT r) (X.columnsF most n σ l).2 ∧ (∀ s ∈ r, nameOK s) ∧ distF l r ∧ (l ++ r).length ≤ most
  | 0, σ, l, hl, h => ⟨[], by simp [Tx.columnsF], Con.refl h, by simp, trivial, by simpa using hl⟩
  | n + 1, σ, l, hl, h => by
    rw [Tx.columnsF] at h ⊢
    split at h
    · rename_i hs
      rw [if_pos hs]
      simp only at h ⊢
      obtain ⟨⟨l1, σ1⟩, hc⟩ : ∃ r, X.column σ.step l most = r := ⟨_, rfl⟩
      rw [hc] at h ⊢
      simp only at h ⊢
      by_cases hl1 : l1.length ≤ most
      · obtain ⟨r, h1, h2, h3, h4, h5⟩ := columnsF_con hX most n σ1 l1 hl1 h
        have hcb : (X.column σ.step l most).2.bad = none := by rw [hc]; exact h2.1
        obtain ⟨s, g1, g2, g3, g4, g5⟩ := column_con hX hcb
        rw [hc] at g1 g2
        simp only at g1 g2
        subst g1
        refine ⟨s :: r, by rw [h1]; simp, ?_, ?_, ⟨g4, h4⟩, by simpa using h5⟩
        · have := ((may_con hX hs).trans g2).trans h2
          exact this
        · intro x hx
          rcases List.mem_cons.1 hx with rfl | hx
          · exact g3
          · exact h3 x hx
      · exfalso
        have hcon : ∀ m σ' l', most < l'.length → (X.columnsF most m σ' l').2.bad = none → σ'.bad = none := by
          intro m
          induction m with
          | zero => intro σ' l' _ hh; exact hh
          | succ m ih =>
            intro σ' l' hl' hh
            rw [Tx.columnsF] at hh
            split at hh
            · rename_i hss; exact sees_none hss
            · exact hh
        have hb := hcon n σ1 l1 (by omega) h
        have hcb : (X.column σ.step l most).2.bad = none := by rw [hc]; exact hb
        obtain ⟨s, g1, _, _, _, g5⟩ := column_con hX hcb
        rw [hc] at g1
        simp only at g1
        subst g1
        simp at hl1
        omega
    · rename_i hs
      rw [if_neg hs]
      exact ⟨[], by simp, Con.refl h, by simp, trivial, by simpa using hl⟩
def colsOK (most : Nat) (l : List ByteArray) : Prop := (∀ s ∈ l, nameOK s) ∧ distF [] l ∧ l.length ≤ most
theorem columns_con (hX : X.Ok) {σ : Ps} {most : Nat} (h : (X.columns σ most).2.bad = none) :
    (X.columns σ most).1 ≠ [] ∧ Con X σ (colsT (X.columns σ most).1) (X.columns σ most).2 ∧ colsOK most (X.columns σ most).1 := by
  unfold Tx.columns at h ⊢
  simp only at h ⊢
  obtain ⟨⟨l1, σ1⟩, hc⟩ : ∃ r, X.column σ [] most = r := ⟨_, rfl⟩
  rw [hc] at h ⊢
  simp only at h ⊢
  have hcon : ∀ m σ' l', (X.columnsF most m σ' l').2.bad = none → σ'.bad = none := by
    intro m
    induction m with
    | zero => intro σ' l' hh; exact hh
    | succ m ih =>
      intro σ' l' hh
      rw [Tx.columnsF] at hh
      split at hh
      · rename_i hss; exact sees_none hss
      · exact hh
  have hcb : (X.column σ [] most).2.bad = none := by rw [hc]; exact hcon _ _ _ h
  obtain ⟨s, g1, g2, g3, g4, g5⟩ := column_con hX hcb
  rw [hc] at g1 g2
  simp only at g1 g2
  subst g1
  obtain ⟨r, h1, h2, h3, h4, h5⟩ := columnsF_con hX most _ σ1 _ (by simp at g5 ⊢; omega) h
  rw [h1]
  refine ⟨by simp, g2.trans h2, ?_, ⟨rfl, h4⟩, by simpa using h5⟩
  intro x hx
  simp only [List.nil_append, List.cons_append, List.mem_cons] at hx
  rcases hx with rfl | hx
  · exact g3
  · exact h3 x hx
def someT (l : List ByteArray) : List To := if l = [] then [tokW (⟨#[42]⟩ : ByteArray)] else colsT l
theorem some_con (hX : X.Ok) {σ : Ps} (h : (X.some_ σ).2.bad = none) : Con X σ (someT (X.some_ σ).1) (X.some_ σ).2 ∧ colsOK 8 (X.some_ σ).1 := by
  unfold Tx.some_ at h ⊢
  split at h
  · rename_i hs
    rw [if_pos hs]
    exact ⟨may_con hX hs, by simp, trivial, by simp⟩
  · rename_i hs
    rw [if_neg hs]
    obtain ⟨h1, h2, h3⟩ := columns_con hX h
    unfold someT
    rw [if_neg h1]
    exact ⟨h2, h3⟩
def pairT (p : Pr) : List To := [tokN p.name, tokW (⟨#[61]⟩ : ByteArray), tokT p.t]
def pairOK (p : Pr) : Prop := nameOK p.name ∧ termOK p.t
theorem equal_con (hX : X.Ok) {σ : Ps} (h : (X.equal σ).2.bad = none) : Con X σ (pairT (X.equal σ).1) (X.equal σ).2 ∧ pairOK (X.equal σ).1 := by
  unfold Tx.equal at h ⊢
  simp only at h ⊢
  obtain ⟨h1, h2⟩ := value_con hX h
  have h3 := must_con hX _ h1.1
  obtain ⟨h4, h5⟩ := name_con hX h3.1
  exact ⟨(h4.trans h3).trans h1, h5, h2⟩
def whereT (l : List Pr) : List To := tokW (⟨#[119, 104, 101, 114, 101]⟩ : ByteArray) :: match l with | [] => [] | p :: l => pairT p ++ l.flatMap fun q => tokW (⟨#[97, 110, 100]⟩ : ByteArray) :: pairT q
def whereOK (both : Bool) (l : List Pr) : Prop := (∀ p ∈ l, pairOK p) ∧ (l.length = 2 ∨ (both = false ∧ l.length = 1))
theorem where_con (hX : X.Ok) {σ : Ps} {both : Bool} (h : (X.wher σ both).2.bad = none) : Con X σ (whereT (X.wher σ both).1) (X.wher σ both).2 ∧ whereOK both (X.wher σ both).1 := by
  unfold Tx.wher at h ⊢
  simp only at h ⊢
  split at h
  · rename_i hb
    rw [if_pos hb]
    simp only at h ⊢
    obtain ⟨h1, h2⟩ := equal_con hX h
    have h3 := must_con hX _ h1.1
    obtain ⟨h4, h5⟩ := equal_con hX h3.1
    have h6 := must_con hX _ h4.1
    refine ⟨?_, ?_, .inl rfl⟩
    · have := ((h6.trans h4).trans h3).trans h1
      simpa [whereT] using this
    · intro p hp
      simp only [List.mem_cons, List.not_mem_nil, or_false] at hp
      rcases hp with rfl | rfl
      · exact h5
      · exact h2
  · rename_i hb
    rw [if_neg hb]
    have hb : both = false := by cases both with | false => rfl | true => exact absurd rfl hb
    split at h
    · rename_i hs
      rw [if_pos hs]
      simp only at h ⊢
      obtain ⟨h1, h2⟩ := equal_con hX h
      have h3 := may_con hX hs
      obtain ⟨h4, h5⟩ := equal_con hX h3.1
      have h6 := must_con hX _ h4.1
      refine ⟨?_, ?_, .inl rfl⟩
      · have := ((h6.trans h4).trans h3).trans h1
        simpa [whereT] using this
      · intro p hp
        simp only [List.mem_cons, List.not_mem_nil, or_false] at hp
        rcases hp with rfl | rfl
        · exact h5
        · exact h2
    · rename_i hs
      rw [if_neg hs]
      simp only at h ⊢
      obtain ⟨h4, h5⟩ := equal_con hX h
      have h6 := must_con hX _ h4.1
      refine ⟨?_, ?_, .inr ⟨hb, rfl⟩⟩
      · have := h6.trans h4
        simpa [whereT] using this
      · intro p hp
        simp only [List.mem_cons, List.not_mem_nil, or_false] at hp
        subst hp
        exact h5
def usingT (stamp ttl : Int) : List To :=
  if stamp = 0 then (if ttl = 0 then [] else [tokW (⟨#[117, 115, 105, 110, 103]⟩ : ByteArray), tokW (⟨#[116, 116, 108]⟩ : ByteArray), tokC ttl])
  else if ttl = 0 then [tokW (⟨#[117, 115, 105, 110, 103]⟩ : ByteArray), tokW (⟨#[116, 105, 109, 101, 115, 116, 97, 109, 112]⟩ : ByteArray), tokC stamp]
  else [tokW (⟨#[117, 115, 105, 110, 103]⟩ : ByteArray), tokW (⟨#[116, 105, 109, 101, 115, 116, 97, 109, 112]⟩ : ByteArray), tokC stamp, tokW (⟨#[97, 110, 100]⟩ : ByteArray), tokW (⟨#[116, 116, 108]⟩ : ByteArray), tokC ttl]
def usingOK (b : Bool) (stamp ttl : Int) : Prop := (stamp = 0 ∨ countOK stamp) ∧ (ttl = 0 ∨ (b = true ∧ countOK ttl))
theorem countOK_ne {n : Int} (h : countOK n) : n ≠ 0 := by have := h.1; omega
theorem using_con (hX : X.Ok) {σ : Ps} {b : Bool} {x : Sx} (hx : x.stamp = 0 ∧ x.ttl = 0) (h : (X.using_ σ b x).2.bad = none) :
    ∃ stamp ttl, (X.using_ σ b x).1 = { x with stamp := stamp, ttl := ttl } ∧ Con X σ (usingT stamp ttl) (X.using_ σ b x).2 ∧ usingOK b stamp ttl := by
  unfold Tx.using_ at h ⊢
  simp only at h ⊢
  split at h
  · rename_i hu
    rw [if_pos hu]
    split at h
    · rename_i ht
      rw [if_pos ht]
      simp only [Bool.and_eq_true] at ht
      simp only at h ⊢
      obtain ⟨h1, h2⟩ := count_con hX h
      refine ⟨0, _, by rw [← hx.1], ?_, .inl rfl, .inr ⟨ht.1, h2⟩⟩
      unfold usingT
      rw [if_pos rfl, if_neg (countOK_ne h2)]
      exact ((may_con hX hu).trans (may_con hX ht.2)).trans h1
    · rename_i ht
      rw [if_neg ht]
      split at h
      · rename_i ha
        rw [if_pos ha]
        simp only [Bool.and_eq_true] at ha
        simp only at h ⊢
        obtain ⟨h1, h2⟩ := count_con hX h
        have h3 := must_con hX _ h1.1
        have h4 := may_con hX ha.2
        obtain ⟨h5, h6⟩ := count_con hX h4.1
        have h7 := must_con hX _ h5.1
        refine ⟨_, _, rfl, ?_, .inr h6, .inr ⟨ha.1, h2⟩⟩
        unfold usingT
        rw [if_neg (countOK_ne h6), if_neg (countOK_ne h2)]
        exact (((((may_con hX hu).trans h7).trans h5).trans h4).trans h3).trans h1
      · rename_i ha
        rw [if_neg ha]
        simp only at h ⊢
        obtain ⟨h5, h6⟩ := count_con hX h
        have h7 := must_con hX _ h5.1
        refine ⟨_, 0, by rw [← hx.2], ?_, .inr h6, .inl rfl⟩
        unfold usingT
        rw [if_neg (countOK_ne h6), if_pos rfl]
        exact ((may_con hX hu).trans h7).trans h5
  · rename_i hu
    rw [if_neg hu]
    refine ⟨0, 0, ?_, Con.refl h, .inl rfl, .inl rfl⟩
    have h1 := hx.1
    have h2 := hx.2
    cases x
    simp only at h1 h2
    subst h1 h2
    rfl
theorem one_con (hX : X.Ok) {σ : Ps} {l : List ByteArray} {but : ByteArray} (h : (X.one σ l but).2.bad = none) :
    Con X σ [tokN (X.one σ l but).1] (X.one σ l but).2 ∧ nameOK (X.one σ l but).1 ∧ (X.one σ l but).1 ∈ l ∧ (X.one σ l but).1 ≠ but := by
  unfold Tx.one at h ⊢
  simp only at h ⊢
  obtain ⟨h1, h2⟩ := if_wrong h
  rw [h2] at h ⊢
  obtain ⟨h3, h4⟩ := name_con hX h
  simp only [Bool.or_eq_true, Bool.not_eq_true', not_or, Bool.not_eq_false] at h1
  exact ⟨h3, h4, inB_iff.1 h1.1, fun e => h1.2 (bEq_iff.2 e)⟩
def kindT (ty : Int) : To := if ty = 1 then tokW (⟨#[116, 101, 120, 116]⟩ : ByteArray) else tokW (⟨#[105, 110, 116]⟩ : ByteArray)
theorem kind_con (hX : X.Ok) {σ : Ps} (h : (X.kind σ).2.bad = none) : Con X σ [kindT (X.kind σ).1] (X.kind σ).2 ∧ ((X.kind σ).1 = 1 ∨ (X.kind σ).1 = 2) := by
  unfold Tx.kind at h ⊢
  split at h
  · rename_i hs; rw [if_pos hs]; exact ⟨may_con hX hs, .inl rfl⟩
  · rename_i hs
    rw [if_neg hs]
    exact ⟨must_con hX [(⟨#[105, 110, 116]⟩ : ByteArray)] h, .inr rfl⟩
end

end Cle
end Go.Proofs.YtfbgdjcnlnfoaaaGreatDoor

